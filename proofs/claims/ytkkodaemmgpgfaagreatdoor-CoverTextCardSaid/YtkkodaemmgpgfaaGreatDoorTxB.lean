/- Texts of cells, and what is read from a text: plain laws. -/
import Derived.Test.YtkkodaemmgpgfaaGreatDoorTxA
import Derived.Test.YtkkodaemmgpgfaaGreatDoorCdA
import Derived.Test.YtkkodaemmgpgfaaGreatDoorCtxB
import Derived.Test.YtkkodaemmgpgfaaGreatDoorInsA
import Derived.Test.YtkkodaemmgpgfaaGreatDoorCvA
import Derived.KernelRfl
section
namespace Eng
open Go
def wordsC (c : UInt8) : List UInt8 → List (List UInt8)
 | [] => [[]]
 | a :: s => if a = c then [] :: wordsC c s else match wordsC c s with
  | [] => [[a]]
  | w :: r => (a :: w) :: r
theorem wordsC_ne (c : UInt8) : ∀ s, wordsC c s ≠ []
 | [] => by simp [wordsC]
 | a :: s => by
  rw [wordsC]
  split
  ·simp
  ·split <;> simp
theorem wordsC_one {c : UInt8} : ∀ {s : List UInt8}, (∀ a ∈ s, a ≠ c) → wordsC c s = [s]
 | [], _ => rfl
 | a :: s, h => by
  rw [wordsC, if_neg (h a (by simp)), wordsC_one fun b hb => h b (by simp [hb])]
theorem wordsC_app {c : UInt8} {t : List UInt8} : ∀ {s : List UInt8}, (∀ a ∈ s, a ≠ c) → wordsC c (s ++ c :: t) = s :: wordsC c t
 | [], _ => by simp [wordsC]
 | a :: s, h => by
  rw [List.cons_append, wordsC, if_neg (h a (by simp)), wordsC_app fun b hb => h b (by simp [hb])]
def joinC (c : UInt8) : List (List UInt8) → List UInt8
 | [] => []
 | [w] => w
 | w :: v :: r => w ++ c :: joinC c (v :: r)
theorem joinC_words (c : UInt8) : ∀ s, joinC c (wordsC c s) = s
 | [] => rfl
 | a :: s => by
  have ih := joinC_words c s
  have hne := wordsC_ne c s
  rw [wordsC]
  by_cases h : a = c
  ·rw [if_pos h]
   subst h
   generalize wordsC a s = l at *
   match l, hne with
   | w :: r, _ => rw [joinC, ih]; rfl
  ·rw [if_neg h]
   generalize wordsC c s = l at *
   match l, hne with
   | [w], _ => rw [← ih]; rfl
   | w :: v :: r, _ => rw [← ih]; rfl
structure B4 where
 x0 : Rat
 y0 : Rat
 x1 : Rat
 y1 : Rat
structure Ce where
 b : B4
 k : Option V2
def farB3 : List UInt8 := [102, 97, 114]
def keepB4 : List UInt8 := [107, 101, 101, 112]
def cellW (c : Ce) : List (List UInt8) :=
 [ratX c.b.x0, ratX c.b.y0, ratX c.b.x1, ratX c.b.y1] ++ (match c.k with | none => [farB3] | some v => [keepB4, ratX v.x, ratX v.y])
def cellX (c : Ce) : List UInt8 := joinC 32 (cellW c)
def parC (w : List (List UInt8)) : Option Ce :=
 match w with
 | [a, b, c, d, e] => if e = farB3 then (match parQ a, parQ b, parQ c, parQ d with
  | some a, some b, some c, some d => some ⟨⟨a, b, c, d⟩, none⟩
  | _, _, _, _ => none) else none
 | [a, b, c, d, e, f, g] => if e = keepB4 then (match parQ a, parQ b, parQ c, parQ d, parQ f, parQ g with
  | some a, some b, some c, some d, some f, some g => some ⟨⟨a, b, c, d⟩, some ⟨f, g⟩⟩
  | _, _, _, _, _, _ => none) else none
 | _ => none
theorem parC_cell (c : Ce) : parC (cellW c) = some c := by
 obtain ⟨⟨a, b, c, d⟩, k⟩ := c
 cases k with
 | none => simp [cellW, parC, parQ_rat]
 | some v => obtain ⟨f, g⟩ := v; simp [cellW, parC, parQ_rat]
theorem parC_some {w : List (List UInt8)} {c : Ce} (h : parC w = some c) : w = cellW c := by
 unfold parC at h
 split at h
 ·split at h
  ·split at h
   ·rename_i h1 h2 h3 h4
    simp only [Option.some.injEq] at h
    subst h
    rw [parQ_iff] at h1 h2 h3 h4
    rename_i he _ _ _ _ _ _ _ _
    simp [cellW, h1, h2, h3, h4, he]
   ·simp at h
  ·simp at h
 ·split at h
  ·split at h
   ·rename_i h1 h2 h3 h4 h5 h6
    simp only [Option.some.injEq] at h
    subst h
    rw [parQ_iff] at h1 h2 h3 h4 h5 h6
    rename_i he _ _ _ _ _ _ _ _ _ _ _ _
    simp [cellW, h1, h2, h3, h4, h5, h6, he]
   ·simp at h
  ·simp at h
 ·simp at h
theorem cellW_no {c : Ce} {x : UInt8} (h1 : x ≠ 45) (h2 : isD x = false) (h3 : x ≠ 47) (h4 : x ∉ farB3) (h5 : x ∉ keepB4) : ∀ w ∈ cellW c, ∀ a ∈ w, a ≠ x := fun w hw a ha => by
 obtain ⟨⟨p, q, r, s⟩, k⟩ := c
 have hr : ∀ q : Rat, a ∈ ratX q → a ≠ x := fun q h => ratX_no h1 h2 h3 a h
 cases k with
 | none =>
  simp only [cellW, List.mem_append, List.mem_cons, List.not_mem_nil, or_false] at hw
  rcases hw with (rfl | rfl | rfl | rfl) | rfl
  ·exact hr _ ha
  ·exact hr _ ha
  ·exact hr _ ha
  ·exact hr _ ha
  ·exact fun e => h4 (e ▸ ha)
 | some v =>
  simp only [cellW, List.mem_append, List.mem_cons, List.not_mem_nil, or_false] at hw
  rcases hw with (rfl | rfl | rfl | rfl) | rfl | rfl | rfl
  ·exact hr _ ha
  ·exact hr _ ha
  ·exact hr _ ha
  ·exact hr _ ha
  ·exact fun e => h5 (e ▸ ha)
  ·exact hr _ ha
  ·exact hr _ ha
theorem wordsC_join {c : UInt8} : ∀ {l : List (List UInt8)}, l ≠ [] → (∀ w ∈ l, ∀ a ∈ w, a ≠ c) → wordsC c (joinC c l) = l
 | [w], _, h => wordsC_one (h w (by simp))
 | w :: v :: r, _, h => by
  rw [joinC, wordsC_app (h w (by simp)), wordsC_join (by simp) fun u hu => h u (by simp [hu])]
theorem mem_joinC {c a : UInt8} : ∀ {l : List (List UInt8)}, a ∈ joinC c l → a = c ∨ ∃ w ∈ l, a ∈ w
 | [], h => by simp [joinC] at h
 | [w], h => .inr ⟨w, by simp, h⟩
 | w :: v :: r, h => by
  rw [joinC, List.mem_append, List.mem_cons] at h
  rcases h with h | rfl | h
  ·exact .inr ⟨w, by simp, h⟩
  ·exact .inl rfl
  ·rcases mem_joinC h with h | ⟨u, hu, h⟩
   ·exact .inl h
   ·exact .inr ⟨u, by simp [hu], h⟩
def parN (s : List UInt8) : Option Ce := parC (wordsC 32 s)
theorem cellX_words (c : Ce) : wordsC 32 (cellX c) = cellW c := by
 refine wordsC_join (by unfold cellW; split <;> simp) (cellW_no (by decide) (by decide) (by decide) (by decide) (by decide))
theorem parN_cell (c : Ce) : parN (cellX c) = some c := by
 unfold parN; rw [cellX_words, parC_cell]
theorem parN_some {s : List UInt8} {c : Ce} (h : parN s = some c) : s = cellX c := by
 have := parC_some h
 unfold cellX
 rw [← this, joinC_words]
theorem cellX_no (c : Ce) : ∀ a ∈ cellX c, a ≠ 10 := fun a ha => by
 rcases mem_joinC ha with rfl | ⟨w, hw, h⟩
 ·decide
 ·exact cellW_no (by decide) (by decide) (by decide) (by decide) (by decide) w hw a h
def textX (l : List Ce) : List UInt8 := l.flatMap fun c => cellX c ++ [10]
theorem cutAt_len {c : UInt8} : ∀ {s t : List UInt8}, (cutAt c s).2 = some t → t.length < s.length
 | [], t, h => by simp [cutAt] at h
 | a :: s, t, h => by
  rw [cutAt] at h
  by_cases ha : a = c
  ·rw [if_pos ha] at h
   obtain rfl := Option.some.inj h
   simp
  ·rw [if_neg ha] at h
   have := cutAt_len (s := s) h
   simp only [List.length_cons]; omega
def parT (n : Nat) (s : List UInt8) : Except Nat (List Ce) :=
 match s with
 | [] => .ok []
 | a :: s => match _h : (cutAt 10 (a :: s)).2 with
  | none => .error n
  | some r => match parN (cutAt 10 (a :: s)).1 with
   | none => .error n
   | some c => match parT (n + 1) r with
    | .ok l => .ok (c :: l)
    | .error k => .error k
 termination_by s.length
 decreasing_by exact cutAt_len (by assumption)
theorem parT_nil (n : Nat) : parT n [] = .ok [] := by rw [parT]
theorem parT_eq {n : Nat} {s : List UInt8} (hs : s ≠ []) : parT n s = match (cutAt 10 s).2 with
 | none => .error n
 | some r => match parN (cutAt 10 s).1 with
  | none => .error n
  | some c => match parT (n + 1) r with
   | .ok l => .ok (c :: l)
   | .error k => .error k := by
 match s, hs with
 | a :: s, _ =>
  rw [parT]
  split
  ·rename_i h; rw [h]
  ·rename_i r h; rw [h]
theorem parT_some : ∀ {l : List Ce} {n : Nat} {s : List UInt8}, parT n s = .ok l → s = textX l
 | l, n, s, h => by
  by_cases hs : s = []
  ·subst hs
   rw [parT_nil] at h
   simp only [Except.ok.injEq] at h
   subst h; rfl
  ·rw [parT_eq hs] at h
   have he := cutAt_eq (c := 10) s
   have hl : ∀ t, (cutAt 10 s).2 = some t → t.length < s.length := fun t => cutAt_len
   generalize (cutAt 10 s).1 = a at *
   generalize (cutAt 10 s).2 = b at *
   cases b with
   | none => simp at h
   | some r =>
    simp only at h
    cases hc : parN a with
    | none => rw [hc] at h; simp at h
    | some c =>
     rw [hc] at h
     simp only at h
     cases ht : parT (n + 1) r with
     | error k => rw [ht] at h; simp at h
     | ok l' =>
      rw [ht] at h
      simp only [Except.ok.injEq] at h
      subst h
      have := hl r rfl
      have ih := parT_some ht
      have hx := parN_some hc
      rw [he, ih, hx]
      show cellX c ++ 10 :: textX l' = (cellX c ++ [10]) ++ textX l'
      simp
 termination_by _ _ s => s.length
theorem parT_text : ∀ (l : List Ce) (n : Nat), parT n (textX l) = .ok l
 | [], n => parT_nil n
 | c :: l, n => by
  have e : textX (c :: l) = cellX c ++ 10 :: textX l := by
   show (cellX c ++ [10]) ++ textX l = _
   simp
  rw [e, parT_eq (by simp), cutAt_app (cellX_no c)]
  simp only [parN_cell, parT_text l (n + 1)]
end Eng
end

section
open Go Go.Proofs Eng
set_option maxRecDepth 1000000
namespace Eng
theorem vc_tIdx (Gv : Nat → List A → List A → Prop) (s : List UInt8) (c : UInt8) (Q : List A → Prop) :
 wpF CC Gv (fun _ => ⟨[], [], fun _ _ => True, fun _ => 0⟩) Tryz.f283 [.c (.str s), .c (.str [c])] Q = (
 ∃ n, Gv 208 [A.c (D.str s), A.c (D.str [c])] [A.c (D.int .i64 n)] ∧ Q [A.c (D.int .i64 n)]) := by kernel_rfl
theorem vc_tCnt (Gv : Nat → List A → List A → Prop) (I0 : List D → List D → Prop) (M0 : List D → Nat) (s : List UInt8) (c : UInt8) (Q : List A → Prop) :
 wpF CC Gv (fun _ => ⟨[.slot 0 (.string ⟨#[]⟩), .slot 5 (.int .i64 0)], [], I0, M0⟩) Tryz.f282 [.c (.str s), .c (.str [c])] Q = (
 ((0 : Int) ≤ (0 : Int) ∧ (0 : Int) < (1 : Int)) ∧
 Q [A.c (D.int .i64 (Int.ofNat (Lib.countByte s (Nat.toUInt8 (Int.toNat (Int.ofNat (UInt8.toNat (nth (0 : UInt8) [c] (Int.toNat (0 : Int))))))))))]) := by kernel_rfl
theorem vc_tGen (Gv : Nat → List A → List A → Prop) (I0 : List D → List D → Prop) (M0 : List D → Nat) (s : List UInt8) (c : UInt8) (Q : List A → Prop) :
 wpF CC Gv (fun _ => ⟨[.own 9 66 1, .slot 10 (.int .i64 0), .slot 0 (.string ⟨#[]⟩)], [], I0, M0⟩) Tryz.f209 [.c (.str s), .c (.str [c]), .c (.int .i64 0), .c (.int .i64 (-1))] Q = (
 ∃ n,
 Gv 282 [A.c (D.str s), A.c (D.str [c])] [A.c (D.int .i64 n)] ∧
 (((0 : Int) ≤
 mnZ (IntKind.wrap .i64 ((Int.ofNat (List.length s)) + (1 : Int))) (IntKind.wrap .i64 (n + (1 : Int)))) ∧
 ((mnZ (IntKind.wrap .i64 ((Int.ofNat (List.length s)) + (1 : Int))) (IntKind.wrap .i64 (n + (1 : Int)))) ≤
 mnZ (IntKind.wrap .i64 ((Int.ofNat (List.length s)) + (1 : Int))) (IntKind.wrap .i64 (n + (1 : Int)))) ∧
 room
 (Int.toNat
 (mnZ (IntKind.wrap .i64 ((Int.ofNat (List.length s)) + (1 : Int))) (IntKind.wrap .i64 (n + (1 : Int)))))) ∧
 I0 []
 [D.sl
 (List.replicate
 (Int.toNat
 (mnZ (IntKind.wrap .i64 ((Int.ofNat (List.length s)) + (1 : Int))) (IntKind.wrap .i64 (n + (1 : Int)))))
 [D.str []]),
 D.int .i64 (0 : Int), D.str s] ∧
 ∀ (es : List (List D)) (n_1 : Int) (s_1 : List UInt8),
 I0 [] [D.sl es, D.int .i64 n_1, D.str s_1] →
 br
 (toB
 (D.bool
 (decide
 (n_1 <
 IntKind.wrap .i64
 ((mnZ (IntKind.wrap .i64 ((Int.ofNat (List.length s)) + (1 : Int))) (IntKind.wrap .i64 (n + (1 : Int)))) -
 (1 : Int))))))
 (∃ n,
 Gv 283 [A.c (D.str s_1), A.c (D.str [c])] [A.c (D.int .i64 n)] ∧
 br (toB (D.bool (decide (n < (0 : Int)))))
 (((0 : Int) ≤ n_1 ∧ n_1 < (Int.ofNat (List.length es))) ∧
 0 < 1 ∧
 ((0 : Int) ≤ (0 : Int) ∧
 (0 : Int) ≤ IntKind.wrap .i64 (n_1 + (1 : Int)) ∧
 IntKind.wrap .i64 (n_1 + (1 : Int)) ≤
 (Int.ofNat (List.length (upd es (Int.toNat n_1) (upd (nth [] es (Int.toNat n_1)) 0 (D.str s_1))))) ∧
 lens 1 (upd es (Int.toNat n_1) (upd (nth [] es (Int.toNat n_1)) 0 (D.str s_1)))) ∧
 Q
 [A.c
 (D.sl
 (List.drop 0
 (List.take (Int.toNat (IntKind.wrap .i64 (n_1 + (1 : Int))))
 (upd es (Int.toNat n_1) (upd (nth [] es (Int.toNat n_1)) 0 (D.str s_1))))))])
 (((0 : Int) ≤ (0 : Int) ∧
 (0 : Int) ≤ IntKind.wrap .i64 (n + (0 : Int)) ∧ IntKind.wrap .i64 (n + (0 : Int)) ≤ (Int.ofNat (List.length s_1))) ∧
 ((0 : Int) ≤ n_1 ∧ n_1 < (Int.ofNat (List.length es))) ∧
 0 < 1 ∧
 ((0 : Int) ≤ IntKind.wrap .i64 (n + (1 : Int)) ∧
 IntKind.wrap .i64 (n + (1 : Int)) ≤ (Int.ofNat (List.length s_1)) ∧ (Int.ofNat (List.length s_1)) ≤ (Int.ofNat (List.length s_1))) ∧
 I0 []
 [D.sl
 (upd es (Int.toNat n_1)
 (upd (nth [] es (Int.toNat n_1)) 0
 (D.str (List.drop 0 (List.take (Int.toNat (IntKind.wrap .i64 (n + (0 : Int)))) s_1))))),
 D.int .i64 (IntKind.wrap .i64 (n_1 + (1 : Int))),
 D.str (List.drop (Int.toNat (IntKind.wrap .i64 (n + (1 : Int)))) (List.take (Int.toNat (Int.ofNat (List.length s_1))) s_1))] ∧
 M0
 [D.sl
 (upd es (Int.toNat n_1)
 (upd (nth [] es (Int.toNat n_1)) 0
 (D.str (List.drop 0 (List.take (Int.toNat (IntKind.wrap .i64 (n + (0 : Int)))) s_1))))),
 D.int .i64 (IntKind.wrap .i64 (n_1 + (1 : Int))),
 D.str (List.drop (Int.toNat (IntKind.wrap .i64 (n + (1 : Int)))) (List.take (Int.toNat (Int.ofNat (List.length s_1))) s_1))] <
 M0 [D.sl es, D.int .i64 n_1, D.str s_1]))
 (((0 : Int) ≤ n_1 ∧ n_1 < (Int.ofNat (List.length es))) ∧
 0 < 1 ∧
 ((0 : Int) ≤ (0 : Int) ∧
 (0 : Int) ≤ IntKind.wrap .i64 (n_1 + (1 : Int)) ∧
 IntKind.wrap .i64 (n_1 + (1 : Int)) ≤
 (Int.ofNat (List.length (upd es (Int.toNat n_1) (upd (nth [] es (Int.toNat n_1)) 0 (D.str s_1))))) ∧
 lens 1 (upd es (Int.toNat n_1) (upd (nth [] es (Int.toNat n_1)) 0 (D.str s_1)))) ∧
 Q
 [A.c
 (D.sl
 (List.drop 0
 (List.take (Int.toNat (IntKind.wrap .i64 (n_1 + (1 : Int))))
 (upd es (Int.toNat n_1) (upd (nth [] es (Int.toNat n_1)) 0 (D.str s_1))))))])) := by kernel_rfl
theorem vc_tSplit (Gv : Nat → List A → List A → Prop) (s : List UInt8) (c : UInt8) (Q : List A → Prop) :
 wpF CC Gv (fun _ => ⟨[], [], fun _ _ => True, fun _ => 0⟩) Tryz.f147 [.c (.str s), .c (.str [c])] Q = (
 ∃ es, Gv 209 [A.c (D.str s), A.c (D.str [c]), A.c (D.int .i64 (0 : Int)), A.c (D.int .i64 (-1 : Int))] [A.c (D.sl es)] ∧ Q [A.c (D.sl es)]) := by kernel_rfl
theorem vc_cLine (Gv : Nat → List A → List A → Prop) (I0 : List D → List D → Prop) (M0 : List D → Nat) (J3 : List D → List D → Prop) (J5 : List D → List D → Prop) (s : List UInt8) (Q : List A → Prop) :
 wpF CC Gv (annJ (annJ (fun _ => ⟨[.slot 39 (.int .i64 0), .own 6 85 4], [], I0, M0⟩) 3 ⟨[.slot 5 (.bool false)], [], J3, fun _ => 0⟩) 5 ⟨[], [.slot 5 (.bool false)], J5, fun _ => 0⟩) Tryz.f93 [.c (.str s)] Q = (
 ∃ es,
 Gv 147 [A.c (D.str s), A.c (D.str [(32 : UInt8)])] [A.c (D.sl es)] ∧
 br (toB (D.bool ((Int.ofNat (List.length es)) == (5 : Int))))
 (((0 : Int) ≤ (4 : Int) ∧ (4 : Int) < (Int.ofNat (List.length es)) ∧ List.length (nth [] es 4) = 1) ∧
 ∃ s, cut (nth [] es 4) 0 1 [D.str s] ∧ J3 [] [D.bool (s == [(102 : UInt8), (97 : UInt8), (114 : UInt8)])])
 (J3 [] [D.bool false]) ∧
 ∀ (b : Bool),
 J3 [] [D.bool b] →
 br (toB (D.bool !b))
 (br (toB (D.bool ((Int.ofNat (List.length es)) != (7 : Int))))
 (Q
 [A.ag
 [D.bool false, D.sl [], D.bool false, D.sl [], D.bool false, D.sl [], D.bool false, D.sl [], D.bool false, D.sl [], D.bool false, D.sl [],
 D.bool false, D.sl [], D.bool false, D.sl [], D.bool false, D.bool false, D.sl [], D.bool false, D.sl [], D.bool false, D.sl [],
 D.bool false, D.sl []],
 A.c (D.bool false)])
 (((0 : Int) ≤ (4 : Int) ∧ (4 : Int) < (Int.ofNat (List.length es)) ∧ List.length (nth [] es 4) = 1) ∧
 ∃ s,
 cut (nth [] es 4) 0 1 [D.str s] ∧
 br (toB (D.bool !s == [(107 : UInt8), (101 : UInt8), (101 : UInt8), (112 : UInt8)]))
 (Q
 [A.ag
 [D.bool false, D.sl [], D.bool false, D.sl [], D.bool false, D.sl [], D.bool false, D.sl [], D.bool false, D.sl [], D.bool false,
 D.sl [], D.bool false, D.sl [], D.bool false, D.sl [], D.bool false, D.bool false, D.sl [], D.bool false, D.sl [], D.bool false,
 D.sl [], D.bool false, D.sl []],
 A.c (D.bool false)])
 (J5 [D.bool b] [])))
 (J5 [D.bool b] []) ∧
 (J5 [D.bool b] [] →
 I0 [] [D.int .i64 (0 : Int), D.sl []] ∧
 ∀ (n : Int) (es_1 : List (List D)),
 I0 [] [D.int .i64 n, D.sl es_1] →
 br (toB (D.bool (decide (n < (Int.ofNat (List.length es))))))
 (((0 : Int) ≤ n ∧ n < (Int.ofNat (List.length es)) ∧ List.length (nth [] es (Int.toNat n)) = 1) ∧
 ∃ s,
 cut (nth [] es (Int.toNat n)) 0 1 [D.str s] ∧
 br (toB (D.bool (n == (4 : Int))))
 (I0 [] [D.int .i64 (IntKind.wrap .i64 (n + (1 : Int))), D.sl es_1] ∧
 M0 [D.int .i64 (IntKind.wrap .i64 (n + (1 : Int))), D.sl es_1] < M0 [D.int .i64 n, D.sl es_1])
 (∃ b es b_1 es_2 n_1,
 Gv 148 [A.c (D.str s)] [A.ag [D.bool b, D.sl es, D.bool b_1, D.sl es_2], A.c (D.int .i64 n_1)] ∧
 br (toB (D.bool (n_1 != (0 : Int))))
 (Q
 [A.ag
 [D.bool false, D.sl [], D.bool false, D.sl [], D.bool false, D.sl [], D.bool false, D.sl [], D.bool false, D.sl [],
 D.bool false, D.sl [], D.bool false, D.sl [], D.bool false, D.sl [], D.bool false, D.bool false, D.sl [],
 D.bool false, D.sl [], D.bool false, D.sl [], D.bool false, D.sl []],
 A.c (D.bool false)])
 ((room (List.length es_1 + 1) ∧ lens 4 [[D.bool b, D.sl es, D.bool b_1, D.sl es_2]]) ∧
 I0 []
 [D.int .i64 (IntKind.wrap .i64 (n + (1 : Int))),
 D.sl (es_1 ++ [[D.bool b, D.sl es, D.bool b_1, D.sl es_2]])] ∧
 M0
 [D.int .i64 (IntKind.wrap .i64 (n + (1 : Int))),
 D.sl (es_1 ++ [[D.bool b, D.sl es, D.bool b_1, D.sl es_2]])] <
 M0 [D.int .i64 n, D.sl es_1])))
 (((0 : Int) ≤ (0 : Int) ∧ (0 : Int) < (Int.ofNat (List.length es_1))) ∧
 ∃ b_1 es b_2 es_2,
 cut (nth [] es_1 0) 0 4 [D.bool b_1, D.sl es, D.bool b_2, D.sl es_2] ∧
 ((0 : Int) ≤ (1 : Int) ∧ (1 : Int) < (Int.ofNat (List.length es_1))) ∧
 ∃ b_3 es_3 b_4 es_4,
 cut (nth [] es_1 1) 0 4 [D.bool b_3, D.sl es_3, D.bool b_4, D.sl es_4] ∧
 ((0 : Int) ≤ (2 : Int) ∧ (2 : Int) < (Int.ofNat (List.length es_1))) ∧
 ∃ b_5 es_5 b_6 es_6,
 cut (nth [] es_1 2) 0 4 [D.bool b_5, D.sl es_5, D.bool b_6, D.sl es_6] ∧
 ((0 : Int) ≤ (3 : Int) ∧ (3 : Int) < (Int.ofNat (List.length es_1))) ∧
 ∃ b_7 es_7 b_8 es_8,
 cut (nth [] es_1 3) 0 4 [D.bool b_7, D.sl es_7, D.bool b_8, D.sl es_8] ∧
 br (toB (D.bool !b))
 (((0 : Int) ≤ (4 : Int) ∧ (4 : Int) < (Int.ofNat (List.length es_1))) ∧
 ∃ b_9 es_9 b_10 es_10,
 cut (nth [] es_1 4) 0 4 [D.bool b_9, D.sl es_9, D.bool b_10, D.sl es_10] ∧
 ((0 : Int) ≤ (5 : Int) ∧ (5 : Int) < (Int.ofNat (List.length es_1))) ∧
 ∃ b_11 es_11 b_12 es_12,
 cut (nth [] es_1 5) 0 4 [D.bool b_11, D.sl es_11, D.bool b_12, D.sl es_12] ∧
 Q
 [A.ag
 [D.bool b_1, D.sl es, D.bool b_2, D.sl es_2, D.bool b_3, D.sl es_3, D.bool b_4, D.sl es_4,
 D.bool b_5, D.sl es_5, D.bool b_6, D.sl es_6, D.bool b_7, D.sl es_7, D.bool b_8, D.sl es_8,
 D.bool b, D.bool b_9, D.sl es_9, D.bool b_10, D.sl es_10, D.bool b_11, D.sl es_11,
 D.bool b_12, D.sl es_12],
 A.c (D.bool true)])
 (Q
 [A.ag
 [D.bool b_1, D.sl es, D.bool b_2, D.sl es_2, D.bool b_3, D.sl es_3, D.bool b_4, D.sl es_4, D.bool b_5,
 D.sl es_5, D.bool b_6, D.sl es_6, D.bool b_7, D.sl es_7, D.bool b_8, D.sl es_8, D.bool b, D.bool false,
 D.sl [], D.bool false, D.sl [], D.bool false, D.sl [], D.bool false, D.sl []],
 A.c (D.bool true)])))) := by kernel_rfl
theorem vc_cParse (Gv : Nat → List A → List A → Prop) (I0 : List D → List D → Prop) (M0 : List D → Nat) (s : List UInt8) (Q : List A → Prop) :
 wpF CC Gv (fun _ => ⟨[.slot 0 (.string ⟨#[]⟩), .slot 6 (.int .i64 0), .own 5 40 25], [], I0, M0⟩) Tryz.f37 [.c (.str s)] Q = (
 I0 [] [D.str s, D.int .i64 (1 : Int), D.sl []] ∧
 ∀ (s : List UInt8) (n : Int) (es : List (List D)),
 I0 [] [D.str s, D.int .i64 n, D.sl es] →
 br (toB (D.bool !s == []))
 (∃ s_1 s_2 b,
 Gv 92 [A.c (D.str s), A.c (D.str [(10 : UInt8)])] [A.c (D.str s_1), A.c (D.str s_2), A.c (D.bool b)] ∧
 ∃ b_1 es_1 b_2 es_2 b_3 es_3 b_4 es_4 b_5 es_5 b_6 es_6 b_7 es_7 b_8 es_8 b_9 b_10 es_9 b_11 es_10 b_12 es_11 b_13 es_12 b_14,
 Gv 93 [A.c (D.str s_1)]
 [A.ag
 [D.bool b_1, D.sl es_1, D.bool b_2, D.sl es_2, D.bool b_3, D.sl es_3, D.bool b_4, D.sl es_4, D.bool b_5, D.sl es_5, D.bool b_6, D.sl es_6,
 D.bool b_7, D.sl es_7, D.bool b_8, D.sl es_8, D.bool b_9, D.bool b_10, D.sl es_9, D.bool b_11, D.sl es_10, D.bool b_12, D.sl es_11,
 D.bool b_13, D.sl es_12],
 A.c (D.bool b_14)] ∧
 br (toB (D.bool !b_14)) (Q [A.c (D.sl []), A.c (D.int .i64 n), A.c (D.int .i64 (2 : Int))])
 (br (toB (D.bool !b)) (Q [A.c (D.sl []), A.c (D.int .i64 n), A.c (D.int .i64 (2 : Int))])
 ((room (List.length es + 1) ∧
 lens 25
 [[D.bool b_1, D.sl es_1, D.bool b_2, D.sl es_2, D.bool b_3, D.sl es_3, D.bool b_4, D.sl es_4, D.bool b_5, D.sl es_5, D.bool b_6,
 D.sl es_6, D.bool b_7, D.sl es_7, D.bool b_8, D.sl es_8, D.bool b_9, D.bool b_10, D.sl es_9, D.bool b_11, D.sl es_10, D.bool b_12,
 D.sl es_11, D.bool b_13, D.sl es_12]]) ∧
 I0 []
 [D.str s_2, D.int .i64 (IntKind.wrap .i64 (n + (1 : Int))),
 D.sl
 (es ++
 [[D.bool b_1, D.sl es_1, D.bool b_2, D.sl es_2, D.bool b_3, D.sl es_3, D.bool b_4, D.sl es_4, D.bool b_5, D.sl es_5, D.bool b_6,
 D.sl es_6, D.bool b_7, D.sl es_7, D.bool b_8, D.sl es_8, D.bool b_9, D.bool b_10, D.sl es_9, D.bool b_11, D.sl es_10,
 D.bool b_12, D.sl es_11, D.bool b_13, D.sl es_12]])] ∧
 M0
 [D.str s_2, D.int .i64 (IntKind.wrap .i64 (n + (1 : Int))),
 D.sl
 (es ++
 [[D.bool b_1, D.sl es_1, D.bool b_2, D.sl es_2, D.bool b_3, D.sl es_3, D.bool b_4, D.sl es_4, D.bool b_5, D.sl es_5,
 D.bool b_6, D.sl es_6, D.bool b_7, D.sl es_7, D.bool b_8, D.sl es_8, D.bool b_9, D.bool b_10, D.sl es_9, D.bool b_11,
 D.sl es_10, D.bool b_12, D.sl es_11, D.bool b_13, D.sl es_12]])] <
 M0 [D.str s, D.int .i64 n, D.sl es])))
 (Q [A.c (D.sl es), A.c (D.int .i64 (0 : Int)), A.c (D.int .i64 (0 : Int))])) := by kernel_rfl
theorem vc_ewords (Gv : Nat → List A → List A → Prop) (I0 : List D → List D → Prop) (M0 : List D → Nat) (s : List UInt8) (Q : List A → Prop) :
 wpF CC Gv (fun _ => ⟨[.slot 4 (.int .i64 0), .own 3 39 1], [], I0, M0⟩) Tryz.f149 [.c (.str s)] Q = (
 I0 [] [D.int .i64 (0 : Int), D.sl [[D.str []]]] ∧
 ∀ (n : Int) (es : List (List D)),
 I0 [] [D.int .i64 n, D.sl es] →
 br (toB (D.bool (decide (n < (Int.ofNat (List.length s))))))
 (((0 : Int) ≤ n ∧ n ≤ IntKind.wrap .i64 (n + (1 : Int)) ∧ IntKind.wrap .i64 (n + (1 : Int)) ≤ (Int.ofNat (List.length s))) ∧
 br (toB (D.bool (List.drop (Int.toNat n) (List.take (Int.toNat (IntKind.wrap .i64 (n + (1 : Int)))) s) == [(32 : UInt8)])))
 ((room (List.length es + 1) ∧ lens 1 [[D.str []]]) ∧
 I0 [] [D.int .i64 (IntKind.wrap .i64 (n + (1 : Int))), D.sl (es ++ [[D.str []]])] ∧
 M0 [D.int .i64 (IntKind.wrap .i64 (n + (1 : Int))), D.sl (es ++ [[D.str []]])] < M0 [D.int .i64 n, D.sl es])
 (((0 : Int) ≤ IntKind.wrap .i64 ((Int.ofNat (List.length es)) - (1 : Int)) ∧
 IntKind.wrap .i64 ((Int.ofNat (List.length es)) - (1 : Int)) < (Int.ofNat (List.length es))) ∧
 ∃ s_1,
 cut (nth [] es (Int.toNat (IntKind.wrap .i64 ((Int.ofNat (List.length es)) - (1 : Int))))) 0 1 [D.str s_1] ∧
 ((0 : Int) ≤ n ∧ n ≤ IntKind.wrap .i64 (n + (1 : Int)) ∧ IntKind.wrap .i64 (n + (1 : Int)) ≤ (Int.ofNat (List.length s))) ∧
 room (List.length s_1 + List.length (List.drop (Int.toNat n) (List.take (Int.toNat (IntKind.wrap .i64 (n + (1 : Int)))) s))) ∧
 ((0 : Int) ≤ IntKind.wrap .i64 ((Int.ofNat (List.length es)) - (1 : Int)) ∧
 IntKind.wrap .i64 ((Int.ofNat (List.length es)) - (1 : Int)) < (Int.ofNat (List.length es))) ∧
 0 < 1 ∧
 I0 []
 [D.int .i64 (IntKind.wrap .i64 (n + (1 : Int))),
 D.sl
 (upd es (Int.toNat (IntKind.wrap .i64 ((Int.ofNat (List.length es)) - (1 : Int))))
 (upd (nth [] es (Int.toNat (IntKind.wrap .i64 ((Int.ofNat (List.length es)) - (1 : Int))))) 0
 (D.str (s_1 ++ List.drop (Int.toNat n) (List.take (Int.toNat (IntKind.wrap .i64 (n + (1 : Int)))) s)))))] ∧
 M0
 [D.int .i64 (IntKind.wrap .i64 (n + (1 : Int))),
 D.sl
 (upd es (Int.toNat (IntKind.wrap .i64 ((Int.ofNat (List.length es)) - (1 : Int))))
 (upd (nth [] es (Int.toNat (IntKind.wrap .i64 ((Int.ofNat (List.length es)) - (1 : Int))))) 0
 (D.str (s_1 ++ List.drop (Int.toNat n) (List.take (Int.toNat (IntKind.wrap .i64 (n + (1 : Int)))) s)))))] <
 M0 [D.int .i64 n, D.sl es]))
 (Q [A.c (D.sl es)])) := by kernel_rfl
theorem vc_eparse (Gv : Nat → List A → List A → Prop) (I0 : List D → List D → Prop) (M0 : List D → Nat) (J4 : List D → List D → Prop) (s : List UInt8) (Q : List A → Prop) :
 wpF CC Gv (annJ (fun _ => ⟨[.slot 6 (.int .i64 0), .own 5 80 4], [], I0, M0⟩) 4 ⟨[], [], J4, fun _ => 0⟩) Tryz.f95 [.c (.str s)] Q = (
 ∃ es,
 Gv 149 [A.c (D.str s)] [A.c (D.sl es)] ∧
 br (toB (D.bool ((Int.ofNat (List.length es)) != (5 : Int))))
 (br (toB (D.bool ((Int.ofNat (List.length es)) != (7 : Int))))
 (Q
 [A.ag
 [D.bool false, D.sl [], D.bool false, D.sl [], D.bool false, D.sl [], D.bool false, D.sl [], D.bool false, D.sl [], D.bool false, D.sl [],
 D.bool false, D.sl [], D.bool false, D.sl [], D.bool false, D.bool false, D.sl [], D.bool false, D.sl [], D.bool false, D.sl [], D.bool false,
 D.sl []],
 A.c (D.bool false)])
 (J4 [] []))
 (J4 [] []) ∧
 (J4 [] [] →
 I0 [] [D.int .i64 (0 : Int), D.sl []] ∧
 ∀ (n : Int) (es_1 : List (List D)),
 I0 [] [D.int .i64 n, D.sl es_1] →
 br (toB (D.bool (decide (n < (Int.ofNat (List.length es))))))
 (br (toB (D.bool (n == (4 : Int))))
 (I0 [] [D.int .i64 (IntKind.wrap .i64 (n + (1 : Int))), D.sl es_1] ∧
 M0 [D.int .i64 (IntKind.wrap .i64 (n + (1 : Int))), D.sl es_1] < M0 [D.int .i64 n, D.sl es_1])
 (((0 : Int) ≤ n ∧ n < (Int.ofNat (List.length es)) ∧ List.length (nth [] es (Int.toNat n)) = 1) ∧
 ∃ s,
 cut (nth [] es (Int.toNat n)) 0 1 [D.str s] ∧
 ∃ b es b_1 es_2 n_1,
 Gv 150 [A.c (D.str s)] [A.ag [D.bool b, D.sl es, D.bool b_1, D.sl es_2], A.c (D.int .i64 n_1)] ∧
 br (toB (D.bool (n_1 != (0 : Int))))
 (Q
 [A.ag
 [D.bool false, D.sl [], D.bool false, D.sl [], D.bool false, D.sl [], D.bool false, D.sl [], D.bool false, D.sl [],
 D.bool false, D.sl [], D.bool false, D.sl [], D.bool false, D.sl [], D.bool false, D.bool false, D.sl [], D.bool false,
 D.sl [], D.bool false, D.sl [], D.bool false, D.sl []],
 A.c (D.bool false)])
 ((room (List.length es_1 + 1) ∧ lens 4 [[D.bool b, D.sl es, D.bool b_1, D.sl es_2]]) ∧
 I0 []
 [D.int .i64 (IntKind.wrap .i64 (n + (1 : Int))),
 D.sl (es_1 ++ [[D.bool b, D.sl es, D.bool b_1, D.sl es_2]])] ∧
 M0
 [D.int .i64 (IntKind.wrap .i64 (n + (1 : Int))),
 D.sl (es_1 ++ [[D.bool b, D.sl es, D.bool b_1, D.sl es_2]])] <
 M0 [D.int .i64 n, D.sl es_1])))
 (((0 : Int) ≤ (0 : Int) ∧ (0 : Int) < (Int.ofNat (List.length es_1))) ∧
 ∃ b es_2 b_1 es_3,
 cut (nth [] es_1 0) 0 4 [D.bool b, D.sl es_2, D.bool b_1, D.sl es_3] ∧
 ((0 : Int) ≤ (1 : Int) ∧ (1 : Int) < (Int.ofNat (List.length es_1))) ∧
 ∃ b_2 es_4 b_3 es_5,
 cut (nth [] es_1 1) 0 4 [D.bool b_2, D.sl es_4, D.bool b_3, D.sl es_5] ∧
 ((0 : Int) ≤ (2 : Int) ∧ (2 : Int) < (Int.ofNat (List.length es_1))) ∧
 ∃ b_4 es_6 b_5 es_7,
 cut (nth [] es_1 2) 0 4 [D.bool b_4, D.sl es_6, D.bool b_5, D.sl es_7] ∧
 ((0 : Int) ≤ (3 : Int) ∧ (3 : Int) < (Int.ofNat (List.length es_1))) ∧
 ∃ b_6 es_8 b_7 es_9,
 cut (nth [] es_1 3) 0 4 [D.bool b_6, D.sl es_8, D.bool b_7, D.sl es_9] ∧
 br (toB (D.bool ((Int.ofNat (List.length es)) == (5 : Int))))
 (((0 : Int) ≤ (4 : Int) ∧ (4 : Int) < (Int.ofNat (List.length es)) ∧ List.length (nth [] es 4) = 1) ∧
 ∃ s,
 cut (nth [] es 4) 0 1 [D.str s] ∧
 Q
 [A.ag
 [D.bool b, D.sl es_2, D.bool b_1, D.sl es_3, D.bool b_2, D.sl es_4, D.bool b_3, D.sl es_5, D.bool b_4,
 D.sl es_6, D.bool b_5, D.sl es_7, D.bool b_6, D.sl es_8, D.bool b_7, D.sl es_9, D.bool true,
 D.bool false, D.sl [], D.bool false, D.sl [], D.bool false, D.sl [], D.bool false, D.sl []],
 A.c (D.bool (s == [(102 : UInt8), (97 : UInt8), (114 : UInt8)]))])
 (((0 : Int) ≤ (4 : Int) ∧ (4 : Int) < (Int.ofNat (List.length es_1))) ∧
 ∃ b_8 es_10 b_9 es_11,
 cut (nth [] es_1 4) 0 4 [D.bool b_8, D.sl es_10, D.bool b_9, D.sl es_11] ∧
 ((0 : Int) ≤ (5 : Int) ∧ (5 : Int) < (Int.ofNat (List.length es_1))) ∧
 ∃ b_10 es_12 b_11 es_13,
 cut (nth [] es_1 5) 0 4 [D.bool b_10, D.sl es_12, D.bool b_11, D.sl es_13] ∧
 ((0 : Int) ≤ (4 : Int) ∧ (4 : Int) < (Int.ofNat (List.length es)) ∧ List.length (nth [] es 4) = 1) ∧
 ∃ s,
 cut (nth [] es 4) 0 1 [D.str s] ∧
 Q
 [A.ag
 [D.bool b, D.sl es_2, D.bool b_1, D.sl es_3, D.bool b_2, D.sl es_4, D.bool b_3, D.sl es_5,
 D.bool b_4, D.sl es_6, D.bool b_5, D.sl es_7, D.bool b_6, D.sl es_8, D.bool b_7, D.sl es_9,
 D.bool false, D.bool b_8, D.sl es_10, D.bool b_9, D.sl es_11, D.bool b_10, D.sl es_12,
 D.bool b_11, D.sl es_13],
 A.c (D.bool (s == [(107 : UInt8), (101 : UInt8), (101 : UInt8), (112 : UInt8)]))])))) := by kernel_rfl
theorem vc_eParse (Gv : Nat → List A → List A → Prop) (I0 : List D → List D → Prop) (M0 : List D → Nat) (s : List UInt8) (Q : List A → Prop) :
 wpF CC Gv (fun _ => ⟨[.slot 8 (.int .i64 0), .slot 6 (.string ⟨#[]⟩), .slot 7 (.int .i64 0), .own 5 46 25], [], I0, M0⟩) Tryz.f39 [.c (.str s)] Q = (
 I0 [] [D.int .i64 (0 : Int), D.str [], D.int .i64 (1 : Int), D.sl []] ∧
 ∀ (n : Int) (s_1 : List UInt8) (n_1 : Int) (es : List (List D)),
 I0 [] [D.int .i64 n, D.str s_1, D.int .i64 n_1, D.sl es] →
 br (toB (D.bool (decide (n < (Int.ofNat (List.length s))))))
 (((0 : Int) ≤ n ∧ n < (Int.ofNat (List.length s))) ∧
 br (toB (D.bool ((Int.ofNat (UInt8.toNat (nth (0 : UInt8) s (Int.toNat n)))) != (10 : Int))))
 (((0 : Int) ≤ n ∧ n ≤ IntKind.wrap .i64 (n + (1 : Int)) ∧ IntKind.wrap .i64 (n + (1 : Int)) ≤ (Int.ofNat (List.length s))) ∧
 room (List.length s_1 + List.length (List.drop (Int.toNat n) (List.take (Int.toNat (IntKind.wrap .i64 (n + (1 : Int)))) s))) ∧
 I0 []
 [D.int .i64 (IntKind.wrap .i64 (n + (1 : Int))),
 D.str (s_1 ++ List.drop (Int.toNat n) (List.take (Int.toNat (IntKind.wrap .i64 (n + (1 : Int)))) s)), D.int .i64 n_1,
 D.sl es] ∧
 M0
 [D.int .i64 (IntKind.wrap .i64 (n + (1 : Int))),
 D.str (s_1 ++ List.drop (Int.toNat n) (List.take (Int.toNat (IntKind.wrap .i64 (n + (1 : Int)))) s)), D.int .i64 n_1,
 D.sl es] <
 M0 [D.int .i64 n, D.str s_1, D.int .i64 n_1, D.sl es])
 (∃ b es_1 b_1 es_2 b_2 es_3 b_3 es_4 b_4 es_5 b_5 es_6 b_6 es_7 b_7 es_8 b_8 b_9 es_9 b_10 es_10 b_11 es_11 b_12 es_12 b_13,
 Gv 95 [A.c (D.str s_1)]
 [A.ag
 [D.bool b, D.sl es_1, D.bool b_1, D.sl es_2, D.bool b_2, D.sl es_3, D.bool b_3, D.sl es_4, D.bool b_4, D.sl es_5, D.bool b_5, D.sl es_6,
 D.bool b_6, D.sl es_7, D.bool b_7, D.sl es_8, D.bool b_8, D.bool b_9, D.sl es_9, D.bool b_10, D.sl es_10, D.bool b_11, D.sl es_11,
 D.bool b_12, D.sl es_12],
 A.c (D.bool b_13)] ∧
 br (toB (D.bool !b_13)) (Q [A.c (D.sl []), A.c (D.int .i64 n_1), A.c (D.int .i64 (2 : Int))])
 ((room (List.length es + 1) ∧
 lens 25
 [[D.bool b, D.sl es_1, D.bool b_1, D.sl es_2, D.bool b_2, D.sl es_3, D.bool b_3, D.sl es_4, D.bool b_4, D.sl es_5, D.bool b_5,
 D.sl es_6, D.bool b_6, D.sl es_7, D.bool b_7, D.sl es_8, D.bool b_8, D.bool b_9, D.sl es_9, D.bool b_10, D.sl es_10, D.bool b_11,
 D.sl es_11, D.bool b_12, D.sl es_12]]) ∧
 I0 []
 [D.int .i64 (IntKind.wrap .i64 (n + (1 : Int))), D.str [], D.int .i64 (IntKind.wrap .i64 (n_1 + (1 : Int))),
 D.sl
 (es ++
 [[D.bool b, D.sl es_1, D.bool b_1, D.sl es_2, D.bool b_2, D.sl es_3, D.bool b_3, D.sl es_4, D.bool b_4, D.sl es_5, D.bool b_5,
 D.sl es_6, D.bool b_6, D.sl es_7, D.bool b_7, D.sl es_8, D.bool b_8, D.bool b_9, D.sl es_9, D.bool b_10, D.sl es_10,
 D.bool b_11, D.sl es_11, D.bool b_12, D.sl es_12]])] ∧
 M0
 [D.int .i64 (IntKind.wrap .i64 (n + (1 : Int))), D.str [],
 D.int .i64 (IntKind.wrap .i64 (n_1 + (1 : Int))),
 D.sl
 (es ++
 [[D.bool b, D.sl es_1, D.bool b_1, D.sl es_2, D.bool b_2, D.sl es_3, D.bool b_3, D.sl es_4, D.bool b_4, D.sl es_5, D.bool b_5,
 D.sl es_6, D.bool b_6, D.sl es_7, D.bool b_7, D.sl es_8, D.bool b_8, D.bool b_9, D.sl es_9, D.bool b_10, D.sl es_10,
 D.bool b_11, D.sl es_11, D.bool b_12, D.sl es_12]])] <
 M0 [D.int .i64 n, D.str s_1, D.int .i64 n_1, D.sl es])))
 (br (toB (D.bool !s_1 == [])) (Q [A.c (D.sl []), A.c (D.int .i64 n_1), A.c (D.int .i64 (2 : Int))])
 (Q [A.c (D.sl es), A.c (D.int .i64 (0 : Int)), A.c (D.int .i64 (0 : Int))]))) := by kernel_rfl
theorem vc_eFmt (Gv : Nat → List A → List A → Prop) (I0 : List D → List D → Prop) (M0 : List D → Nat) (J8 : List D → List D → Prop) (es : List (List D)) (Q : List A → Prop) :
 wpF CC Gv (annJ (fun _ => ⟨[.slot 4 (.int .i64 0), .slot 3 (.string ⟨#[]⟩)], [], I0, M0⟩) 8 ⟨[], [.slot 4 (.int .i64 0)], J8, fun _ => 0⟩) Tryz.f36 [.c (.sl es)] Q = (
 I0 [] [D.int .i64 (0 : Int), D.str []] ∧
 ∀ (n : Int) (s : List UInt8),
 I0 [] [D.int .i64 n, D.str s] →
 br (toB (D.bool (decide (n < (Int.ofNat (List.length es))))))
 (((0 : Int) ≤ n ∧ n < (Int.ofNat (List.length es)) ∧ List.length (nth [] es (Int.toNat n)) = 25) ∧
 ∃ b es_1 b_1 es_2 b_2 es_3 b_3 es_4 b_4 es_5 b_5 es_6 b_6 es_7 b_7 es_8,
 cut (nth [] es (Int.toNat n)) 0 16
 [D.bool b, D.sl es_1, D.bool b_1, D.sl es_2, D.bool b_2, D.sl es_3, D.bool b_3, D.sl es_4, D.bool b_4, D.sl es_5, D.bool b_5, D.sl es_6,
 D.bool b_6, D.sl es_7, D.bool b_7, D.sl es_8] ∧
 ((0 : Int) ≤ n ∧ n < (Int.ofNat (List.length es)) ∧ List.length (nth [] es (Int.toNat n)) = 25) ∧
 ∃ b_8 es_9 b_9 es_10 b_10 es_11 b_11 es_12,
 cut (nth [] es (Int.toNat n)) 17 8
 [D.bool b_8, D.sl es_9, D.bool b_9, D.sl es_10, D.bool b_10, D.sl es_11, D.bool b_11, D.sl es_12] ∧
 (∃ b_12,
 Gv 84
 [A.ag
 [D.bool b, D.sl es_1, D.bool b_1, D.sl es_2, D.bool b_2, D.sl es_3, D.bool b_3, D.sl es_4, D.bool b_4, D.sl es_5, D.bool b_5,
 D.sl es_6, D.bool b_6, D.sl es_7, D.bool b_7, D.sl es_8]]
 [A.c (D.bool b_12)] ∧
 br (toB (D.bool !b_12)) (Q [A.c (D.str [])])
 (((0 : Int) ≤ n ∧ n < (Int.ofNat (List.length es)) ∧ List.length (nth [] es (Int.toNat n)) = 25) ∧
 ∃ b,
 cut (nth [] es (Int.toNat n)) 16 1 [D.bool b] ∧
 br (toB (D.bool !b))
 (∃ b,
 Gv 45 [A.ag [D.bool b_8, D.sl es_9, D.bool b_9, D.sl es_10]] [A.c (D.bool b)] ∧
 br (toB (D.bool !b)) (Q [A.c (D.str [])])
 (∃ b,
 Gv 45 [A.ag [D.bool b_10, D.sl es_11, D.bool b_11, D.sl es_12]] [A.c (D.bool b)] ∧
 br (toB (D.bool !b)) (Q [A.c (D.str [])]) (J8 [D.int .i64 n] [])))
 (J8 [D.int .i64 n] []))) ∧
 (J8 [D.int .i64 n] [] →
 ∃ s_1,
 Gv 91 [A.ag [D.bool b, D.sl es_1, D.bool b_1, D.sl es_2]] [A.c (D.str s_1)] ∧
 room (List.length s + List.length s_1) ∧
 room (List.length (s ++ s_1) + 1) ∧
 ∃ s_2,
 Gv 91 [A.ag [D.bool b_2, D.sl es_3, D.bool b_3, D.sl es_4]] [A.c (D.str s_2)] ∧
 room (List.length (s ++ s_1 ++ [(32 : UInt8)]) + List.length s_2) ∧
 room (List.length (s ++ s_1 ++ [(32 : UInt8)] ++ s_2) + 1) ∧
 ∃ s_3,
 Gv 91 [A.ag [D.bool b_4, D.sl es_5, D.bool b_5, D.sl es_6]] [A.c (D.str s_3)] ∧
 room (List.length (s ++ s_1 ++ [(32 : UInt8)] ++ s_2 ++ [(32 : UInt8)]) + List.length s_3) ∧
 room (List.length (s ++ s_1 ++ [(32 : UInt8)] ++ s_2 ++ [(32 : UInt8)] ++ s_3) + 1) ∧
 ∃ s_4,
 Gv 91 [A.ag [D.bool b_6, D.sl es_7, D.bool b_7, D.sl es_8]] [A.c (D.str s_4)] ∧
 room
 (List.length (s ++ s_1 ++ [(32 : UInt8)] ++ s_2 ++ [(32 : UInt8)] ++ s_3 ++ [(32 : UInt8)]) +
 List.length s_4) ∧
 ((0 : Int) ≤ n ∧ n < (Int.ofNat (List.length es)) ∧ List.length (nth [] es (Int.toNat n)) = 25) ∧
 ∃ b,
 cut (nth [] es (Int.toNat n)) 16 1 [D.bool b] ∧
 br b
 (room
 (List.length
 (s ++ s_1 ++ [(32 : UInt8)] ++ s_2 ++ [(32 : UInt8)] ++ s_3 ++ [(32 : UInt8)] ++ s_4) +
 5) ∧
 I0 []
 [D.int .i64 (IntKind.wrap .i64 (n + (1 : Int))),
 D.str
 (s ++ s_1 ++ [(32 : UInt8)] ++ s_2 ++ [(32 : UInt8)] ++ s_3 ++ [(32 : UInt8)] ++ s_4 ++
 [(32 : UInt8), (102 : UInt8), (97 : UInt8), (114 : UInt8), (10 : UInt8)])] ∧
 M0
 [D.int .i64 (IntKind.wrap .i64 (n + (1 : Int))),
 D.str
 (s ++ s_1 ++ [(32 : UInt8)] ++ s_2 ++ [(32 : UInt8)] ++ s_3 ++ [(32 : UInt8)] ++
 s_4 ++
 [(32 : UInt8), (102 : UInt8), (97 : UInt8), (114 : UInt8), (10 : UInt8)])] <
 M0 [D.int .i64 n, D.str s])
 (room
 (List.length
 (s ++ s_1 ++ [(32 : UInt8)] ++ s_2 ++ [(32 : UInt8)] ++ s_3 ++ [(32 : UInt8)] ++ s_4) +
 6) ∧
 ∃ s_5,
 Gv 91 [A.ag [D.bool b_8, D.sl es_9, D.bool b_9, D.sl es_10]] [A.c (D.str s_5)] ∧
 room
 (List.length
 (s ++ s_1 ++ [(32 : UInt8)] ++ s_2 ++ [(32 : UInt8)] ++ s_3 ++ [(32 : UInt8)] ++
 s_4 ++
 [(32 : UInt8), (107 : UInt8), (101 : UInt8), (101 : UInt8), (112 : UInt8),
 (32 : UInt8)]) +
 List.length s_5) ∧
 room
 (List.length
 (s ++ s_1 ++ [(32 : UInt8)] ++ s_2 ++ [(32 : UInt8)] ++ s_3 ++ [(32 : UInt8)] ++
 s_4 ++
 [(32 : UInt8), (107 : UInt8), (101 : UInt8), (101 : UInt8), (112 : UInt8),
 (32 : UInt8)] ++
 s_5) +
 1) ∧
 ∃ s_6,
 Gv 91 [A.ag [D.bool b_10, D.sl es_11, D.bool b_11, D.sl es_12]]
 [A.c (D.str s_6)] ∧
 room
 (List.length
 (s ++ s_1 ++ [(32 : UInt8)] ++ s_2 ++ [(32 : UInt8)] ++ s_3 ++
 [(32 : UInt8)] ++
 s_4 ++
 [(32 : UInt8), (107 : UInt8), (101 : UInt8), (101 : UInt8),
 (112 : UInt8), (32 : UInt8)] ++
 s_5 ++
 [(32 : UInt8)]) +
 List.length s_6) ∧
 room
 (List.length
 (s ++ s_1 ++ [(32 : UInt8)] ++ s_2 ++ [(32 : UInt8)] ++ s_3 ++
 [(32 : UInt8)] ++
 s_4 ++
 [(32 : UInt8), (107 : UInt8), (101 : UInt8), (101 : UInt8),
 (112 : UInt8), (32 : UInt8)] ++
 s_5 ++
 [(32 : UInt8)] ++
 s_6) +
 1) ∧
 I0 []
 [D.int .i64 (IntKind.wrap .i64 (n + (1 : Int))),
 D.str
 (s ++ s_1 ++ [(32 : UInt8)] ++ s_2 ++ [(32 : UInt8)] ++ s_3 ++
 [(32 : UInt8)] ++
 s_4 ++
 [(32 : UInt8), (107 : UInt8), (101 : UInt8), (101 : UInt8),
 (112 : UInt8), (32 : UInt8)] ++
 s_5 ++
 [(32 : UInt8)] ++
 s_6 ++
 [(10 : UInt8)])] ∧
 M0
 [D.int .i64 (IntKind.wrap .i64 (n + (1 : Int))),
 D.str
 (s ++ s_1 ++ [(32 : UInt8)] ++ s_2 ++ [(32 : UInt8)] ++ s_3 ++
 [(32 : UInt8)] ++
 s_4 ++
 [(32 : UInt8), (107 : UInt8), (101 : UInt8), (101 : UInt8),
 (112 : UInt8), (32 : UInt8)] ++
 s_5 ++
 [(32 : UInt8)] ++
 s_6 ++
 [(10 : UInt8)])] <
 M0 [D.int .i64 n, D.str s])))
 (Q [A.c (D.str s)])) := by kernel_rfl
theorem vc_eSame (Gv : Nat → List A → List A → Prop) (I0 : List D → List D → Prop) (M0 : List D → Nat) (es fs : List (List D)) (Q : List A → Prop) :
 wpF CC Gv (fun _ => ⟨[.slot 5 (.int .i64 0)], [], I0, M0⟩) Tryz.f38 [.c (.sl es), .c (.sl fs)] Q = (
 br (toB (D.bool ((Int.ofNat (List.length es)) != (Int.ofNat (List.length fs))))) (Q [A.c (D.bool false)])
 (I0 [] [D.int .i64 (0 : Int)] ∧
 ∀ (n : Int),
 I0 [] [D.int .i64 n] →
 br (toB (D.bool (decide (n < (Int.ofNat (List.length es))))))
 (((0 : Int) ≤ n ∧ n < (Int.ofNat (List.length es)) ∧ List.length (nth [] es (Int.toNat n)) = 25) ∧
 ∃ b es_1 b_1 es_2 b_2 es_3 b_3 es_4 b_4 es_5 b_5 es_6 b_6 es_7 b_7 es_8 b_8 b_9 es_9 b_10 es_10 b_11 es_11 b_12 es_12,
 cut (nth [] es (Int.toNat n)) 0 25
 [D.bool b, D.sl es_1, D.bool b_1, D.sl es_2, D.bool b_2, D.sl es_3, D.bool b_3, D.sl es_4, D.bool b_4, D.sl es_5, D.bool b_5, D.sl es_6,
 D.bool b_6, D.sl es_7, D.bool b_7, D.sl es_8, D.bool b_8, D.bool b_9, D.sl es_9, D.bool b_10, D.sl es_10, D.bool b_11, D.sl es_11,
 D.bool b_12, D.sl es_12] ∧
 ((0 : Int) ≤ n ∧ n < (Int.ofNat (List.length fs)) ∧ List.length (nth [] fs (Int.toNat n)) = 25) ∧
 ∃ b_13 es b_14 es_13 b_15 es_14 b_16 es_15 b_17 es_16 b_18 es_17 b_19 es_18 b_20 es_19 b_21 b_22 es_20 b_23 es_21 b_24 es_22 b_25 es_23,
 cut (nth [] fs (Int.toNat n)) 0 25
 [D.bool b_13, D.sl es, D.bool b_14, D.sl es_13, D.bool b_15, D.sl es_14, D.bool b_16, D.sl es_15, D.bool b_17, D.sl es_16, D.bool b_18,
 D.sl es_17, D.bool b_19, D.sl es_18, D.bool b_20, D.sl es_19, D.bool b_21, D.bool b_22, D.sl es_20, D.bool b_23, D.sl es_21,
 D.bool b_24, D.sl es_22, D.bool b_25, D.sl es_23] ∧
 br (toB (D.bool !b_8 == b_21)) (Q [A.c (D.bool false)])
 (∃ b_26,
 Gv 31
 [A.ag
 [D.bool b, D.sl es_1, D.bool b_1, D.sl es_2, D.bool b_2, D.sl es_3, D.bool b_3, D.sl es_4, D.bool b_4, D.sl es_5, D.bool b_5,
 D.sl es_6, D.bool b_6, D.sl es_7, D.bool b_7, D.sl es_8],
 A.ag
 [D.bool b_13, D.sl es, D.bool b_14, D.sl es_13, D.bool b_15, D.sl es_14, D.bool b_16, D.sl es_15, D.bool b_17, D.sl es_16,
 D.bool b_18, D.sl es_17, D.bool b_19, D.sl es_18, D.bool b_20, D.sl es_19]]
 [A.c (D.bool b_26)] ∧
 br (toB (D.bool !b_26)) (Q [A.c (D.bool false)])
 (br (toB (D.bool !b_8))
 (∃ b,
 Gv 94
 [A.ag [D.bool b_9, D.sl es_9, D.bool b_10, D.sl es_10, D.bool b_11, D.sl es_11, D.bool b_12, D.sl es_12],
 A.ag [D.bool b_22, D.sl es_20, D.bool b_23, D.sl es_21, D.bool b_24, D.sl es_22, D.bool b_25, D.sl es_23]]
 [A.c (D.bool b)] ∧
 br (toB (D.bool !b)) (Q [A.c (D.bool false)])
 (I0 [] [D.int .i64 (IntKind.wrap .i64 (n + (1 : Int)))] ∧
 M0 [D.int .i64 (IntKind.wrap .i64 (n + (1 : Int)))] < M0 [D.int .i64 n]))
 (I0 [] [D.int .i64 (IntKind.wrap .i64 (n + (1 : Int)))] ∧
 M0 [D.int .i64 (IntKind.wrap .i64 (n + (1 : Int)))] < M0 [D.int .i64 n]))))
 (Q [A.c (D.bool true)]))) := by kernel_rfl
theorem vc_eSmallC (Gv : Nat → List A → List A → Prop) (I0 : List D → List D → Prop) (M0 : List D → Nat) (es : List (List D)) (n : Int) (Q : List A → Prop) :
 wpF CC Gv (fun _ => ⟨[.slot 5 (.int .i64 0)], [], I0, M0⟩) Tryz.f34 [.c (.sl es), .c (.int .i64 n)] Q = (
 br (toB (D.bool (decide ((Int.ofNat (List.length es)) > n)))) (Q [A.c (D.bool false)])
 (I0 [] [D.int .i64 (0 : Int)] ∧
 ∀ (n : Int),
 I0 [] [D.int .i64 n] →
 br (toB (D.bool (decide (n < (Int.ofNat (List.length es))))))
 (((0 : Int) ≤ n ∧ n < (Int.ofNat (List.length es)) ∧ List.length (nth [] es (Int.toNat n)) = 25) ∧
 ∃ b es_1 b_1 es_2 b_2 es_3 b_3 es_4 b_4 es_5 b_5 es_6 b_6 es_7 b_7 es_8,
 cut (nth [] es (Int.toNat n)) 0 16
 [D.bool b, D.sl es_1, D.bool b_1, D.sl es_2, D.bool b_2, D.sl es_3, D.bool b_3, D.sl es_4, D.bool b_4, D.sl es_5, D.bool b_5, D.sl es_6,
 D.bool b_6, D.sl es_7, D.bool b_7, D.sl es_8] ∧
 ∃ b_8,
 Gv 10
 [A.ag
 [D.bool b, D.sl es_1, D.bool b_1, D.sl es_2, D.bool b_2, D.sl es_3, D.bool b_3, D.sl es_4, D.bool b_4, D.sl es_5, D.bool b_5,
 D.sl es_6, D.bool b_6, D.sl es_7, D.bool b_7, D.sl es_8],
 A.c (D.int .i64 (2 : Int))]
 [A.c (D.bool b_8)] ∧
 br (toB (D.bool !b_8)) (Q [A.c (D.bool false)])
 (((0 : Int) ≤ n ∧ n < (Int.ofNat (List.length es)) ∧ List.length (nth [] es (Int.toNat n)) = 25) ∧
 ∃ b es_9 b_9 es_10,
 cut (nth [] es (Int.toNat n)) 17 4 [D.bool b, D.sl es_9, D.bool b_9, D.sl es_10] ∧
 ∃ b_10,
 Gv 44 [A.ag [D.bool b, D.sl es_9, D.bool b_9, D.sl es_10], A.c (D.int .i64 (2 : Int))] [A.c (D.bool b_10)] ∧
 br (toB (D.bool !b_10)) (Q [A.c (D.bool false)])
 (((0 : Int) ≤ n ∧ n < (Int.ofNat (List.length es)) ∧ List.length (nth [] es (Int.toNat n)) = 25) ∧
 ∃ b es_11 b_11 es_12,
 cut (nth [] es (Int.toNat n)) 21 4 [D.bool b, D.sl es_11, D.bool b_11, D.sl es_12] ∧
 ∃ b_12,
 Gv 44 [A.ag [D.bool b, D.sl es_11, D.bool b_11, D.sl es_12], A.c (D.int .i64 (2 : Int))]
 [A.c (D.bool b_12)] ∧
 br (toB (D.bool !b_12)) (Q [A.c (D.bool false)])
 (I0 [] [D.int .i64 (IntKind.wrap .i64 (n + (1 : Int)))] ∧
 M0 [D.int .i64 (IntKind.wrap .i64 (n + (1 : Int)))] < M0 [D.int .i64 n]))))
 (Q [A.c (D.bool true)]))) := by kernel_rfl
theorem vc_sameVec (Gv : Nat → List A → List A → Prop) (p1 q1 p2 q2 p3 q3 p4 q4 : Bool) (l1 m1 l2 m2 l3 m3 l4 m4 : List (List D)) (Q : List A → Prop) :
 wpF CC Gv (fun _ => ⟨[], [], fun _ _ => True, fun _ => 0⟩) Tryz.f94 [.ag [.bool p1, .sl l1, .bool q1, .sl m1, .bool p2, .sl l2, .bool q2, .sl m2], .ag [.bool p3, .sl l3, .bool q3, .sl m3, .bool p4, .sl l4, .bool q4, .sl m4]] Q = (
 ∃ b,
 Gv 83 [A.ag [D.bool p1, D.sl l1, D.bool q1, D.sl m1], A.ag [D.bool p3, D.sl l3, D.bool q3, D.sl m3]] [A.c (D.bool b)] ∧
 br b
 (∃ b, Gv 83 [A.ag [D.bool p2, D.sl l2, D.bool q2, D.sl m2], A.ag [D.bool p4, D.sl l4, D.bool q4, D.sl m4]] [A.c (D.bool b)] ∧ Q [A.c (D.bool b)])
 (Q [A.c (D.bool false)])) := by kernel_rfl
theorem vc_lText0 (Gv : Nat → List A → List A → Prop)  (Q : List A → Prop) :
 wpF CC Gv (fun _ => ⟨[], [], fun _ _ => True, fun _ => 0⟩) Tryz.f7 [.c (.sl [])] Q = (
 ∃ b,
 Gv 9 [] [A.c (D.bool b)] ∧
 br (toB (D.bool !b)) (∃ b, Gv 9 [] [A.c (D.bool b)] ∧ Q [A.c (D.bool b)])
 (∃ b,
 Gv 34 [A.c (D.sl []), A.c (D.int .i64 (20 : Int))] [A.c (D.bool b)] ∧
 br (toB (D.bool !b)) (∃ b, Gv 9 [] [A.c (D.bool b)] ∧ Q [A.c (D.bool b)])
 (∃ es,
 Gv 26 [A.c (D.sl [])] [A.c (D.sl es)] ∧
 ∃ s,
 Gv 35 [A.c (D.sl es)] [A.c (D.str s)] ∧
 ∃ s_1,
 Gv 36 [A.c (D.sl [])] [A.c (D.str s_1)] ∧
 br (toB (D.bool !s == s_1)) (Q [A.c (D.bool false)])
 (br (toB (D.bool (s == []))) (Q [A.c (D.bool true)])
 (∃ es n n_1,
 Gv 37 [A.c (D.str s)] [A.c (D.sl es), A.c (D.int .i64 n), A.c (D.int .i64 n_1)] ∧
 br (toB (D.bool (n_1 == (0 : Int))))
 (br (toB (D.bool (n == (0 : Int)))) (∃ b, Gv 38 [A.c (D.sl es), A.c (D.sl [])] [A.c (D.bool b)] ∧ Q [A.c (D.bool b)])
 (Q [A.c (D.bool false)]))
 (Q [A.c (D.bool false)])))))) := by kernel_rfl
theorem vc_lParse (Gv : Nat → List A → List A → Prop) (s : List UInt8) (Q : List A → Prop) :
 wpF CC Gv (fun _ => ⟨[], [], fun _ _ => True, fun _ => 0⟩) Tryz.f8 [.c (.str s)] Q = (
 ∃ b,
 Gv 9 [] [A.c (D.bool b)] ∧
 br (toB (D.bool !b)) (∃ b, Gv 9 [] [A.c (D.bool b)] ∧ Q [A.c (D.bool b)])
 (br (toB (D.bool (decide ((Int.ofNat (List.length s)) > (1000 : Int))))) (∃ b, Gv 9 [] [A.c (D.bool b)] ∧ Q [A.c (D.bool b)])
 (∃ es n n_1,
 Gv 37 [A.c (D.str s)] [A.c (D.sl es), A.c (D.int .i64 n), A.c (D.int .i64 n_1)] ∧
 ∃ es_1 n_2 n_3,
 Gv 39 [A.c (D.str s)] [A.c (D.sl es_1), A.c (D.int .i64 n_2), A.c (D.int .i64 n_3)] ∧
 br (toB (D.bool (n_1 == n_3)))
 (br (toB (D.bool (n == n_2)))
 (∃ b,
 Gv 38 [A.c (D.sl es), A.c (D.sl es_1)] [A.c (D.bool b)] ∧
 br b
 (br (toB (D.bool (n_1 != (0 : Int)))) (Q [A.c (D.bool true)])
 (∃ s_1, Gv 35 [A.c (D.sl es)] [A.c (D.str s_1)] ∧ Q [A.c (D.bool (s_1 == s))]))
 (Q [A.c (D.bool false)]))
 (Q [A.c (D.bool false)]))
 (Q [A.c (D.bool false)])))) := by kernel_rfl
end Eng
end

section
namespace Eng
open Go Go.Proofs
set_option maxRecDepth 100000
theorem rowS_length (l : List (List UInt8)) : (rowS l).length = l.length := by simp [rowS]
theorem rowS_append (a b : List (List UInt8)) : rowS (a ++ b) = rowS a ++ rowS b := by simp [rowS]
theorem nth_rowS {l : List (List UInt8)} {i : Nat} (h : i < l.length) : nth [] (rowS l) i = [.str l[i]] := by
 rw [nth_eq]; simp [rowS, h]
theorem cut_rowS {l : List (List UInt8)} {i : Nat} (h : i < l.length) : cut (nth [] (rowS l) i) 0 1 [.str l[i]] := by
 rw [nth_rowS h]; exact ⟨rfl, by simp⟩
theorem lens_rowS (l : List (List UInt8)) : lens 1 (rowS l) := fun e he => by
 simp only [rowS, List.mem_map] at he
 obtain ⟨x, _, rfl⟩ := he
 rfl
theorem upd_rowS {l : List (List UInt8)} {i : Nat} (x : List UInt8) (h : i < l.length) : upd (rowS l) i (upd (nth [] (rowS l) i) 0 (.str x)) = rowS (l.set i x) := by
 rw [nth_rowS h]
 have e : upd [D.str l[i]] 0 (D.str x) = [D.str x] := rfl
 rw [e, upd_eq, rowS, rowS, List.map_set]
theorem wordsC_count (c : UInt8) : ∀ s, (wordsC c s).length = s.count c + 1
 | [] => rfl
 | a :: s => by
  have ih := wordsC_count c s
  rw [wordsC]
  by_cases h : a = c
  ·rw [if_pos h, List.length_cons, ih, h]; simp
  ·rw [if_neg h, List.count_cons_of_ne h]
   match hw : wordsC c s, wordsC_ne c s with
   | w :: r, _ => rw [hw] at ih; exact ih
theorem wordsC_single {c : UInt8} {s : List UInt8} (h : (wordsC c s).length = 1) : wordsC c s = [s] := by
 have := joinC_words c s
 match hw : wordsC c s, h with
 | [w], _ =>
  rw [hw] at this
  rw [← this]; rfl
theorem wordsC_cut {c : UInt8} {s t : List UInt8} (h : (cutAt c s).2 = some t) : wordsC c s = (cutAt c s).1 :: wordsC c t := by
 have h1 := cutAt_eq (c := c) s
 rw [h] at h1
 conv => lhs; rw [h1]
 exact wordsC_app (cutAt_fst s)
theorem wordsC_cut_none {c : UInt8} {s : List UInt8} (h : (cutAt c s).2 = none) : wordsC c s = [s] := by
 have h2 := cutAt_fst (c := c) s
 rw [cutAt_fst_none h] at h2
 exact wordsC_one h2
theorem tIdx_ok (s : List UInt8) (c : UInt8) : Gives CC 283 [.c (.str s), .c (.str [c])] [.c (.int .i64 (Lib.indexByte s c))] := by
 refine wpF_ok (anns := fun _ => ⟨[], [], fun _ _ => True, fun _ => 0⟩) mixedT Tryz.func283 ?_
 rw [vc_tIdx]
 exact ⟨_, sIdx_ok s c, rfl⟩
theorem tCnt_ok (s : List UInt8) (c : UInt8) : Gives CC 282 [.c (.str s), .c (.str [c])] [.c (.int .i64 ((s.count c : Nat) : Int))] := by
 refine wpF_ok (anns := fun _ => ⟨[.slot 0 (.string ⟨#[]⟩), .slot 5 (.int .i64 0)], [], fun _ _ => True, fun _ => 0⟩) mixedT Tryz.func282 ?_
 rw [vc_tCnt]
 refine ⟨⟨by omega, by omega⟩, ?_⟩
 have e : nth (0 : UInt8) [c] (Int.toNat 0) = c := rfl
 rw [e]
 simp only [Int.ofNat_eq_natCast, u8_back]
 rfl
theorem tGen_ok {s : List UInt8} (c : UInt8) (hs : s.length ≤ 1000000000) : Gives CC 209 [.c (.str s), .c (.str [c]), .c (.int .i64 0), .c (.int .i64 (-1))] [.c (.sl (rowS (wordsC c s)))] := by
 have hc : s.count c ≤ s.length := List.count_le_length
 have hwl := wordsC_count c s
 refine wpF_ok (C := CC) (anns := fun _ => ⟨[.own 9 66 1, .slot 10 (.int .i64 0), .slot 0 (.string ⟨#[]⟩)], [], fun _ ds => ∃ (d r : List (List UInt8)) (t : List UInt8), ds = [.sl (rowS (d ++ r)), .int .i64 (d.length : Int), .str t] ∧ wordsC c s = d ++ wordsC c t ∧ d.length + r.length = s.count c + 1 ∧ t.length ≤ s.length,
  fun ds => (s.count c - toI (nth .undef ds 1)).toNat⟩) mixedT Tryz.func209 ?_
 rw [vc_tGen]
 have w1 : IntKind.wrap .i64 (((s.count c : Nat) : Int) + 1) = ((s.count c + 1 : Nat) : Int) := by rw [i64w (by omega) (by omega)]; omega
 have w2 : IntKind.wrap .i64 ((s.length : Int) + 1) = ((s.length + 1 : Nat) : Int) := by rw [i64w (by omega) (by omega)]; omega
 have w3 : mnZ ((s.length + 1 : Nat) : Int) ((s.count c + 1 : Nat) : Int) = ((s.count c + 1 : Nat) : Int) := by rw [mnZ_eq]; omega
 have w4 : IntKind.wrap .i64 (((s.count c + 1 : Nat) : Int) - 1) = ((s.count c : Nat) : Int) := by rw [i64w (by omega) (by omega)]; omega
 refine ⟨_, tCnt_ok s c, ?_⟩
 simp only [Int.ofNat_eq_natCast, w1, w2, w3, w4, Int.toNat_natCast]
 refine ⟨⟨by omega, by omega, by unfold room; omega⟩, ⟨[], List.replicate (s.count c + 1) [], s, ?_, rfl, by simp, by omega⟩, ?_⟩
 ·rw [List.nil_append, rowS, List.map_replicate]; rfl
 rintro es n1 t ⟨d, r, t', he, hw, hl, htl⟩
 simp only [List.cons.injEq, D.int.injEq, D.sl.injEq, D.str.injEq, true_and, and_true] at he
 obtain ⟨rfl, rfl, rfl⟩ := he
 have hwt := wordsC_count c t
 have hlen := congrArg List.length hw
 rw [List.length_append, hwl] at hlen
 obtain ⟨r0, r, rfl⟩ : ∃ r0 r', r = r0 :: r' := by
  match r, hl with
  | [], hl => simp only [List.length_nil] at hl; omega
  | r0 :: r', _ => exact ⟨r0, r', rfl⟩
 simp only [List.length_cons] at hl
 have hset : ∀ x, (d ++ r0 :: r).set d.length x = (d ++ [x]) ++ r := fun x => by simp
 have hdl : d.length < (d ++ r0 :: r).length := by simp
 have hupd : ∀ x, upd (rowS (d ++ r0 :: r)) d.length (upd (nth [] (rowS (d ++ r0 :: r)) d.length) 0 (.str x)) = rowS ((d ++ [x]) ++ r) := fun x => by rw [upd_rowS x hdl, hset]
 have hrl : (rowS (d ++ r0 :: r)).length = s.count c + 1 := by rw [rowS_length, List.length_append, List.length_cons]; omega
 have hrl2 : ∀ x, (rowS ((d ++ [x]) ++ r)).length = s.count c + 1 := fun x => by rw [rowS_length]; simp only [List.length_append, List.length_cons, List.length_nil]; omega
 have wd : IntKind.wrap .i64 ((d.length : Int) + 1) = ((d.length + 1 : Nat) : Int) := by rw [i64w (by omega) (by omega)]; omega
 -- the end
 have fin : wordsC c t = [t] → ((0 : Int) ≤ (d.length : Int) ∧ (d.length : Int) < ((rowS (d ++ r0 :: r)).length : Int)) ∧ 0 < 1 ∧
  ((0 : Int) ≤ 0 ∧ (0 : Int) ≤ ((d.length + 1 : Nat) : Int) ∧ ((d.length + 1 : Nat) : Int) ≤ ((rowS ((d ++ [t]) ++ r)).length : Int) ∧ lens 1 (rowS ((d ++ [t]) ++ r))) ∧
  [A.c (.sl (List.drop 0 (List.take (d.length + 1) (rowS ((d ++ [t]) ++ r)))))] = [A.c (.sl (rowS (wordsC c s)))] := fun h => by
  refine ⟨⟨by omega, by rw [hrl]; omega⟩, by omega, ⟨by omega, by omega, by rw [hrl2]; omega, lens_rowS _⟩, ?_⟩
  rw [hw, h, List.drop_zero, rowS_append (d ++ [t]) r, List.take_append_of_le_length (by rw [rowS_length]; simp), List.take_of_length_le (by rw [rowS_length]; simp)]
 simp only [wd, Int.toNat_natCast, hupd]
 refine brd (fun h => ⟨_, tIdx_ok t c, ?_⟩) (fun h => fin (wordsC_single (by omega)))
 rw [idx_cut]
 cases hct : (cutAt c t).2 with
 | none => exact brd (fun _ => fin (wordsC_cut_none hct)) (fun h => absurd (by simp) h)
 | some u =>
  obtain ⟨e1, e2, e3⟩ := cutAt_take t hct
  have hwc := wordsC_cut hct
  simp only
  have wa : IntKind.wrap .i64 (((cutAt c t).1.length : Int) + 0) = (((cutAt c t).1.length : Nat) : Int) := by rw [i64w (by omega) (by omega)]; omega
  have wb : IntKind.wrap .i64 (((cutAt c t).1.length : Int) + 1) = (((cutAt c t).1.length + 1 : Nat) : Int) := by rw [i64w (by omega) (by omega)]; omega
  rw [wa, wb, Int.toNat_natCast, Int.toNat_natCast, List.take_length, List.drop_zero, ← e1, ← e2]
  refine brd (fun h2 => absurd h2 (by omega)) (fun _ => ⟨⟨by omega, by omega, by omega⟩, ⟨by omega, by rw [hrl]; omega⟩, by omega, ⟨by omega, by omega, by omega⟩, ?_, ?_⟩)
  ·refine ⟨d ++ [(cutAt c t).1], r, u, ?_, ?_, ?_, ?_⟩
   ·simp
   ·rw [hw, hwc]; simp
   ·simp only [List.length_append, List.length_cons, List.length_nil]; omega
   ·rw [e2, List.length_drop]; omega
  ·simp only [nth, toI]; omega
theorem tSplit_ok {s : List UInt8} (c : UInt8) (hs : s.length ≤ 1000000000) : Gives CC 147 [.c (.str s), .c (.str [c])] [.c (.sl (rowS (wordsC c s)))] := by
 refine wpF_ok (anns := fun _ => ⟨[], [], fun _ _ => True, fun _ => 0⟩) mixedT Tryz.func147 ?_
 rw [vc_tSplit]
 exact ⟨_, tGen_ok c hs, rfl⟩
theorem wordsC_snoc {c : UInt8} (a : UInt8) : ∀ {s : List UInt8} {l : List (List UInt8)} {w : List UInt8}, wordsC c s = l ++ [w] → wordsC c (s ++ [a]) = if a = c then (l ++ [w]) ++ [[]] else l ++ [w ++ [a]]
 | [], l, w, h => by
  have h : [[]] = l ++ [w] := h
  match l, h with
  | [], h =>
   simp only [List.nil_append, List.cons.injEq, and_true] at h
   subst h
   by_cases ha : a = c
   ·simp [wordsC, ha]
   ·simp [wordsC, ha]
  | x :: l, h => simp at h
 | b :: s, l, w, h => by
  rw [wordsC] at h
  rw [List.cons_append, wordsC]
  by_cases hb : b = c
  ·rw [if_pos hb] at h ⊢
   match l, h with
   | [], h =>
    simp only [List.nil_append, List.cons.injEq] at h
    exact absurd h.2 (wordsC_ne c s)
   | x :: l, h =>
    simp only [List.cons_append, List.cons.injEq] at h
    rw [wordsC_snoc a h.2, ← h.1]
    by_cases ha : a = c
    ·simp [ha]
    ·simp [ha]
  ·rw [if_neg hb] at h ⊢
   match hw : wordsC c s, wordsC_ne c s with
   | w0 :: r0, _ =>
    rw [hw] at h
    simp only at h
    match l, h with
    | [], h =>
     simp only [List.nil_append, List.cons.injEq] at h
     rw [h.2] at hw
     rw [wordsC_snoc a (l := []) hw, ← h.1]
     by_cases ha : a = c
     ·simp [ha]
     ·simp [ha]
    | x :: l, h =>
     simp only [List.cons_append, List.cons.injEq] at h
     rw [h.2] at hw
     rw [wordsC_snoc a (l := w0 :: l) hw, ← h.1]
     by_cases ha : a = c
     ·simp [ha]
     ·simp [ha]
theorem ewords_ok {s : List UInt8} (hs : s.length ≤ 1000000000) : Gives CC 149 [.c (.str s)] [.c (.sl (rowS (wordsC 32 s)))] := by
 refine wpF_ok (C := CC) (anns := fun _ => ⟨[.slot 4 (.int .i64 0), .own 3 39 1], [], fun _ ds => ∃ (i : Nat) (l : List (List UInt8)) (w : List UInt8), i ≤ s.length ∧ wordsC 32 (s.take i) = l ++ [w] ∧ ds = [.int .i64 (i : Int), .sl (rowS (l ++ [w]))] ∧ l.length ≤ i ∧ w.length ≤ i, fun ds => (s.length - toI (nth .undef ds 0)).toNat⟩) mixedT Tryz.func149 ?_
 rw [vc_ewords]
 simp only [Int.ofNat_eq_natCast]
 refine ⟨⟨0, [], [], by omega, rfl, rfl, by simp, by simp⟩, ?_⟩
 rintro n es ⟨i, l, w, hi, hw, he, hll, hwl⟩
 simp only [List.cons.injEq, D.int.injEq, D.sl.injEq, true_and, and_true] at he
 obtain ⟨rfl, rfl⟩ := he
 refine brd (fun h => ?_) (fun h => ?_)
 ·have hil : i < s.length := by omega
  have w1 : IntKind.wrap .i64 ((i : Int) + 1) = ((i + 1 : Nat) : Int) := by rw [i64w (by omega) (by omega)]; omega
  have hone : List.drop i (List.take (i + 1) s) = [s[i]] := by
   rw [List.take_succ_eq_append_getElem hil, List.drop_append_of_le_length (by rw [List.length_take]; omega), List.drop_eq_nil_of_le (by rw [List.length_take]; omega)]; rfl
  have hsn := wordsC_snoc s[i] hw
  rw [← List.take_succ_eq_append_getElem hil] at hsn
  rw [w1, Int.toNat_natCast, Int.toNat_natCast, hone]
  refine ⟨⟨by omega, by omega, by omega⟩, brb (fun h2 => ?_) (fun h2 => ?_)⟩
  ·have h2 : s[i] = 32 := by simpa using h2
   rw [if_pos h2] at hsn
   have hr : rowS (l ++ [w]) ++ [[D.str []]] = rowS ((l ++ [w]) ++ [[]]) := by rw [rowS_append (l ++ [w])]; rfl
   refine ⟨⟨?_, lens_rowS [[]]⟩, ⟨i + 1, l ++ [w], [], by omega, hsn, by rw [hr], ?_, by simp⟩, by simp only [nth, toI]; omega⟩
   ·unfold room; rw [rowS_length]; simp only [List.length_append, List.length_cons, List.length_nil]; omega
   ·simp only [List.length_append, List.length_cons, List.length_nil]; omega
  ·have h2 : s[i] ≠ 32 := by simpa using h2
   rw [if_neg h2] at hsn
   have hrl : (rowS (l ++ [w])).length = l.length + 1 := by rw [rowS_length]; simp
   have w2 : IntKind.wrap .i64 (((rowS (l ++ [w])).length : Int) - 1) = ((l.length : Nat) : Int) := by rw [hrl, i64w (by omega) (by omega)]; omega
   have hlt : l.length < (l ++ [w]).length := by simp
   have hget : (l ++ [w])[l.length] = w := by simp
   have hcut := cut_rowS hlt
   rw [hget] at hcut
   have hset : (l ++ [w]).set l.length (w ++ [s[i]]) = l ++ [w ++ [s[i]]] := by simp
   simp only [w2, Int.toNat_natCast]
   refine ⟨⟨by omega, by rw [hrl]; omega⟩, _, hcut, ⟨by omega, by omega, by omega⟩, ?_, ⟨by omega, by rw [hrl]; omega⟩, by omega, ⟨i + 1, l, w ++ [s[i]], by omega, hsn, by rw [upd_rowS _ hlt, hset], by omega, ?_⟩, by simp only [nth, toI]; omega⟩
   ·unfold room; simp only [List.length_cons, List.length_nil]; omega
   ·simp only [List.length_append, List.length_cons, List.length_nil]; omega
 ·have : i = s.length := by omega
  subst this
  rw [List.take_length] at hw
  rw [hw]
end Eng
end

section
namespace Eng
open Go Go.Proofs
set_option maxRecDepth 100000
structure Rc where
 b : Rb
 far : Bool
 u : Rw
 v : Rw
def Rc.cs (x : Rc) : List D := x.b.cs ++ ([.bool x.far] ++ (x.u.cs ++ x.v.cs))
def zw : Rw := ⟨false, [], false, []⟩
def zc : Rc := ⟨⟨zw, zw, zw, zw⟩, false, zw, zw⟩
def Ce.rc (c : Ce) : Rc := ⟨⟨ofR c.b.x0, ofR c.b.y0, ofR c.b.x1, ofR c.b.y1⟩, c.k.isNone, match c.k with | none => zw | some v => ofR v.x, match c.k with | none => zw | some v => ofR v.y⟩
def good (W : List (List UInt8)) : Prop := (W.length = 5 ∧ nth [] W 4 = farB3) ∨ (W.length = 7 ∧ nth [] W 4 = keepB4)
theorem cellW_good (c : Ce) : good (cellW c) := by
 obtain ⟨b, k⟩ := c
 cases k with
 | none => exact .inl ⟨rfl, rfl⟩
 | some v => exact .inr ⟨rfl, rfl⟩
theorem parC_bad {W : List (List UInt8)} (h : ¬ good W) : parC W = none := by
 cases hc : parC W with
 | none => rfl
 | some c => exact absurd (parC_some hc ▸ cellW_good c) h
theorem parC_words {W : List (List UInt8)} {c : Ce} (h : parC W = some c) : ∀ w ∈ W.eraseIdx 4, parQ w ≠ none := by
 rw [parC_some h]
 obtain ⟨b, k⟩ := c
 cases k with
 | none =>
  have e : (cellW ⟨b, none⟩).eraseIdx 4 = [ratX b.x0, ratX b.y0, ratX b.x1, ratX b.y1] := rfl
  rw [e]
  intro w hw
  simp only [List.mem_cons, List.not_mem_nil, or_false] at hw
  rcases hw with rfl | rfl | rfl | rfl <;> simp [parQ_rat]
 | some v =>
  have e : (cellW ⟨b, some v⟩).eraseIdx 4 = [ratX b.x0, ratX b.y0, ratX b.x1, ratX b.y1, ratX v.x, ratX v.y] := rfl
  rw [e]
  intro w hw
  simp only [List.mem_cons, List.not_mem_nil, or_false] at hw
  rcases hw with rfl | rfl | rfl | rfl | rfl | rfl <;> simp [parQ_rat]
def mk4 (k : Nat) : Nat := if 4 < k then k - 1 else k
theorem erase_get {α : Type} {W : List α} {k : Nat} (hk : k < W.length) (h4 : k ≠ 4) : (W.eraseIdx 4)[mk4 k]? = some W[k] := by
 rw [List.getElem?_eraseIdx]
 unfold mk4
 by_cases h : 4 < k
 ·rw [if_pos h, if_neg (by omega), show k - 1 + 1 = k by omega, List.getElem?_eq_getElem hk]
 ·rw [if_neg h, if_pos (by omega), List.getElem?_eq_getElem hk]
theorem parC_word {W : List (List UInt8)} {k : Nat} (hk : k < W.length) (h4 : k ≠ 4) (h : parQ W[k] = none) : parC W = none := by
 cases hc : parC W with
 | none => rfl
 | some c => exact absurd h (parC_words hc _ (List.mem_of_getElem? (erase_get hk h4)))
theorem map_step {W : List (List UInt8)} {k : Nat} {qs : List Rat} {q : Rat} (hk : k < W.length) (h4 : k ≠ 4) (hm : ((W.eraseIdx 4).take (mk4 k)).map parQ = qs.map some) (hq : parQ W[k] = some q) :
 ((W.eraseIdx 4).take (mk4 (k + 1))).map parQ = (qs ++ [q]).map some := by
 have e1 : mk4 (k + 1) = mk4 k + 1 := by
  unfold mk4
  by_cases h : 4 < k
  ·rw [if_pos h, if_pos (by omega)]; omega
  ·rw [if_neg h, if_neg (by omega)]
 have e2 := erase_get hk h4
 obtain ⟨h5, h6⟩ := List.getElem?_eq_some_iff.1 e2
 rw [e1, List.take_succ_eq_append_getElem h5, List.map_append, hm, h6, List.map_append]
 simp [hq]
theorem map_len {W : List (List UInt8)} {m : Nat} {qs : List Rat} (hm : ((W.eraseIdx 4).take m).map parQ = qs.map some) : qs.length ≤ W.length := by
 have h1 := congrArg List.length hm
 rw [List.length_map, List.length_map, List.length_take] at h1
 have h2 : (W.eraseIdx 4).length ≤ W.length := List.length_eraseIdx_le ..
 omega
theorem map_all {W : List (List UInt8)} {qs : List Rat} (hl : 4 < W.length) (hm : ((W.eraseIdx 4).take (mk4 W.length)).map parQ = qs.map some) : (W.eraseIdx 4).map parQ = qs.map some := by
 have : (W.eraseIdx 4).length = W.length - 1 := List.length_eraseIdx_of_lt hl
 rw [List.take_of_length_le (by unfold mk4; rw [if_pos hl]; omega)] at hm
 exact hm
theorem len_four {α : Type} {l : List α} (h : l.length = 4) : ∃ a b c d, l = [a, b, c, d] := by
 match l, h with
 | [a, b, c, d], _ => exact ⟨a, b, c, d, rfl⟩
theorem len_six {α : Type} {l : List α} (h : l.length = 6) : ∃ a b c d e f, l = [a, b, c, d, e, f] := by
 match l, h with
 | [a, b, c, d, e, f], _ => exact ⟨a, b, c, d, e, f, rfl⟩
theorem map_four {a b c d : List UInt8} {qs : List Rat} (h : [a, b, c, d].map parQ = qs.map some) : ∃ p q r s, qs = [p, q, r, s] ∧ parQ a = some p ∧ parQ b = some q ∧ parQ c = some r ∧ parQ d = some s := by
 obtain ⟨p, q, r, s, rfl⟩ := len_four (l := qs) (by have := congrArg List.length h; simpa using this.symm)
 simp only [List.map_cons, List.map_nil, List.cons.injEq, and_true] at h
 exact ⟨p, q, r, s, rfl, h⟩
theorem map_six {a b c d e f : List UInt8} {qs : List Rat} (h : [a, b, c, d, e, f].map parQ = qs.map some) : ∃ p q r s t u, qs = [p, q, r, s, t, u] ∧ parQ a = some p ∧ parQ b = some q ∧ parQ c = some r ∧ parQ d = some s ∧ parQ e = some t ∧ parQ f = some u := by
 obtain ⟨p, q, r, s, t, u, rfl⟩ := len_six (l := qs) (by have := congrArg List.length h; simpa using this.symm)
 simp only [List.map_cons, List.map_nil, List.cons.injEq, and_true] at h
 exact ⟨p, q, r, s, t, u, rfl, h⟩
theorem five_of {W : List (List UInt8)} {qs : List Rat} (h5 : W.length = 5) (h : (W.eraseIdx 4).map parQ = qs.map some) :
 ∃ p q r s, qs = [p, q, r, s] ∧ parC W = if nth [] W 4 = farB3 then some ⟨⟨p, q, r, s⟩, none⟩ else none := by
 match W, h5 with
 | [a, b, c, d, e], _ =>
  obtain ⟨p, q, r, s, rfl, h1, h2, h3, h4⟩ := map_four (a := a) (b := b) (c := c) (d := d) h
  refine ⟨p, q, r, s, rfl, ?_⟩
  have e4 : nth [] [a, b, c, d, e] 4 = e := rfl
  rw [e4]
  unfold parC
  by_cases he : e = farB3
  ·simp [he, h1, h2, h3, h4]
  ·simp [he]
theorem seven_of {W : List (List UInt8)} {qs : List Rat} (h7 : W.length = 7) (h : (W.eraseIdx 4).map parQ = qs.map some) :
 ∃ p q r s t u, qs = [p, q, r, s, t, u] ∧ parC W = if nth [] W 4 = keepB4 then some ⟨⟨p, q, r, s⟩, some ⟨t, u⟩⟩ else none := by
 match W, h7 with
 | [a, b, c, d, e, f, g], _ =>
  obtain ⟨p, q, r, s, t, u, rfl, h1, h2, h3, h4, h5, h6⟩ := map_six (a := a) (b := b) (c := c) (d := d) (e := f) (f := g) h
  refine ⟨p, q, r, s, t, u, rfl, ?_⟩
  have e4 : nth [] [a, b, c, d, e, f, g] 4 = e := rfl
  rw [e4]
  unfold parC
  by_cases he : e = keepB4
  ·simp [he, h1, h2, h3, h4, h5, h6]
  ·simp [he]
theorem wordsC_len {c : UInt8} : ∀ {s : List UInt8}, ∀ w ∈ wordsC c s, w.length ≤ s.length
 | [], w, h => by
  simp only [wordsC, List.mem_cons, List.not_mem_nil, or_false] at h
  subst h; simp
 | a :: s, w, h => by
  have ih := @wordsC_len c s
  rw [wordsC] at h
  by_cases ha : a = c
  ·rw [if_pos ha] at h
   simp only [List.mem_cons] at h
   rcases h with rfl | h
   ·simp
   ·have := ih w h; simp only [List.length_cons]; omega
  ·rw [if_neg ha] at h
   match hw : wordsC c s, wordsC_ne c s with
   | w0 :: r, _ =>
    rw [hw] at h ih
    simp only [List.mem_cons] at h
    rcases h with rfl | h
    ·have := ih w0 (by simp); simp only [List.length_cons]; omega
    ·have := ih w (by simp [h]); simp only [List.length_cons]; omega
theorem rats_snoc (qs : List Rat) (q : Rat) : rats qs ++ [cR q] = rats (qs ++ [q]) := by simp [rats]
theorem lens_cR (q : Rat) : lens 4 [cR q] := fun e he => by
 simp only [List.mem_cons, List.not_mem_nil, or_false] at he
 rw [he]; rfl
def outL : Option Ce → List A
 | none => [.ag zc.cs, .c (.bool false)]
 | some c => [.ag c.rc.cs, .c (.bool true)]
theorem cLine_ok {s : List UInt8} (hs : s.length ≤ 8000) : Gives CC 93 [.c (.str s)] (outL (parN s)) := by
 have hsp := tSplit_ok (s := s) 32 (by omega)
 have hwl := @wordsC_len 32 s
 have hp : parN s = parC (wordsC 32 s) := rfl
 generalize wordsC 32 s = W at *
 rw [hp]
 have hno : parC W = none → [A.ag zc.cs, A.c (D.bool false)] = outL (parC W) := fun h => by rw [h]; rfl
 refine wpF_ok (C := CC) (anns := annJ (annJ (fun _ => ⟨[.slot 39 (.int .i64 0), .own 6 85 4], [], fun _ ds => ∃ (k : Nat) (qs : List Rat), k ≤ W.length ∧ ds = [.int .i64 (k : Int), .sl (rats qs)] ∧ ((W.eraseIdx 4).take (mk4 k)).map parQ = qs.map some, fun ds => (W.length - toI (nth .undef ds 0)).toNat⟩)
  3 ⟨[.slot 5 (.bool false)], [], fun _ ds => ds = [.bool (decide (W.length = 5 ∧ nth [] W 4 = farB3))], fun _ => 0⟩) 5 ⟨[], [.slot 5 (.bool false)], fun _ _ => good W, fun _ => 0⟩) mixedT Tryz.func93 ?_
 rw [vc_cLine]
 simp only [Int.ofNat_eq_natCast]
 refine ⟨_, hsp, ?_⟩
 simp only [rowS_length]
 refine ⟨brb (fun h => ?_) (fun h => ?_), ?_⟩
 ·have h5 : W.length = 5 := by have := eq_of_beq h; omega
  have h4 : 4 < W.length := by omega
  refine ⟨⟨by omega, by omega, by rw [nth_rowS h4]; rfl⟩, _, cut_rowS h4, ?_⟩
  congr 2
  rw [nth_of_lt [] h4, Bool.eq_iff_iff]
  simp [h5, farB3]
 ·have h5 : W.length ≠ 5 := fun e => by rw [e] at h; simp at h
  congr 2
  symm
  exact decide_eq_false fun e => h5 e.1
 intro b hb
 simp only [List.cons.injEq, D.bool.injEq, and_true] at hb
 refine ⟨brb (fun h => ?_) (fun h => ?_), ?_⟩
 ·have h : b = false := by simpa using h
  have hf : ¬ (W.length = 5 ∧ nth [] W 4 = farB3) := by rw [h] at hb; exact of_decide_eq_false hb.symm
  refine brb (fun h7 => ?_) (fun h7 => ?_)
  ·have h7 : W.length ≠ 7 := fun e => by rw [e] at h7; simp at h7
   exact hno (parC_bad fun h => by
    rcases h with h | h
    ·exact hf h
    ·exact h7 h.1)
  ·have h7 : W.length = 7 := by
    have : ((W.length : Int) == 7) = true := by simpa using h7
    have := eq_of_beq this
    omega
   have h4 : 4 < W.length := by omega
   refine ⟨⟨by omega, by omega, by rw [nth_rowS h4]; rfl⟩, _, cut_rowS h4, brb (fun hk => ?_) (fun hk => ?_)⟩
   ·have hk : W[4] ≠ keepB4 := by simpa [keepB4] using hk
    refine hno (parC_bad fun h => ?_)
    rcases h with h | h
    ·exact hf h
    ·rw [nth_of_lt [] h4] at h
     exact hk h.2
   ·have hk : W[4] = keepB4 := by simpa [keepB4] using hk
    exact .inr ⟨h7, by rw [nth_of_lt [] h4]; exact hk⟩
 ·have h : b = true := by simpa using h
  rw [h] at hb
  exact .inl (of_decide_eq_true hb.symm)
 intro hg
 have h4 : 4 < W.length := by rcases hg with h | h <;> omega
 have h7 : W.length ≤ 7 := by rcases hg with h | h <;> omega
 refine ⟨⟨0, [], by omega, rfl, rfl⟩, ?_⟩
 rintro n es ⟨k, qs, hk, he, hm⟩
 simp only [List.cons.injEq, D.int.injEq, D.sl.injEq, true_and, and_true] at he
 obtain ⟨rfl, rfl⟩ := he
 refine brd (fun h => ?_) (fun h => ?_)
 ·have hkl : k < W.length := by omega
  have w1 : IntKind.wrap .i64 ((k : Int) + 1) = ((k + 1 : Nat) : Int) := by rw [i64w (by omega) (by omega)]; omega
  rw [Int.toNat_natCast, w1]
  refine ⟨⟨by omega, by omega, by rw [nth_rowS hkl]; rfl⟩, _, cut_rowS hkl, brb (fun h2 => ?_) (fun h2 => ?_)⟩
  ·have h2 : k = 4 := by have := eq_of_beq h2; omega
   subst h2
   refine ⟨⟨5, qs, by omega, rfl, ?_⟩, by simp only [nth, toI]; omega⟩
   exact hm
  ·have h2 : k ≠ 4 := fun e => by rw [e] at h2; simp at h2
   have hwk := hwl _ (List.getElem_mem hkl)
   have hq := rParse_ok (s := W[k]) (by omega)
   cases hq2 : parQ W[k] with
   | none =>
    rw [hq2] at hq
    exact ⟨_, _, _, _, _, hq, brb (fun _ => hno (parC_word hkl h2 hq2)) (fun h => by simp at h)⟩
   | some q =>
    rw [hq2] at hq
    have hl := map_len hm
    refine ⟨_, _, _, _, _, hq, brb (fun h => by simp at h) (fun _ => ⟨⟨?_, lens_cR q⟩, ⟨k + 1, qs ++ [q], by omega, ?_, map_step hkl h2 hm hq2⟩, by simp only [nth, toI]; omega⟩)⟩
    ·unfold room; rw [rats_length]; omega
    ·rw [← rats_snoc]; rfl
 ·have hkl : k = W.length := by omega
  subst hkl
  have hall := map_all h4 hm
  rcases hg with ⟨h5, hf⟩ | ⟨h7, hf⟩
  ·obtain ⟨p, q, r, t, rfl, hc⟩ := five_of h5 hall
   rw [if_pos hf] at hc
   have hbt : b = true := by rw [hb]; exact decide_eq_true ⟨h5, hf⟩
   subst hbt
   have hlen : (rats [p, q, r, t]).length = 4 := rfl
   rw [hlen]
   refine ⟨⟨by omega, by omega⟩, _, _, _, _, cut_all (l := cR p) rfl, ⟨by omega, by omega⟩, _, _, _, _, cut_all (l := cR q) rfl, ⟨by omega, by omega⟩, _, _, _, _, cut_all (l := cR r) rfl, ⟨by omega, by omega⟩, _, _, _, _, cut_all (l := cR t) rfl, brb (fun h => by simp at h) (fun _ => ?_)⟩
   rw [hc]; rfl
  ·obtain ⟨p, q, r, t, u, v, rfl, hc⟩ := seven_of h7 hall
   rw [if_pos hf] at hc
   have hbt : b = false := by rw [hb]; exact decide_eq_false fun h => by omega
   subst hbt
   have hlen : (rats [p, q, r, t, u, v]).length = 6 := rfl
   rw [hlen]
   refine ⟨⟨by omega, by omega⟩, _, _, _, _, cut_all (l := cR p) rfl, ⟨by omega, by omega⟩, _, _, _, _, cut_all (l := cR q) rfl, ⟨by omega, by omega⟩, _, _, _, _, cut_all (l := cR r) rfl, ⟨by omega, by omega⟩, _, _, _, _, cut_all (l := cR t) rfl,
    brb (fun _ => ⟨⟨by omega, by omega⟩, _, _, _, _, cut_all (l := cR u) rfl, ⟨by omega, by omega⟩, _, _, _, _, cut_all (l := cR v) rfl, ?_⟩) (fun h => by simp at h)⟩
   rw [hc]; rfl
def parV : List (List UInt8) → Option (List Rat)
 | [] => some []
 | w :: r => match parQ w with
  | none => none
  | some q => match parV r with
   | none => none
   | some l => some (q :: l)
theorem parV_some : ∀ {V : List (List UInt8)} {qs : List Rat}, V.map parQ = qs.map some → parV V = some qs
 | [], [], _ => rfl
 | w :: V, q :: qs, h => by
  simp only [List.map_cons, List.cons.injEq] at h
  rw [parV, h.1]
  simp only
  rw [parV_some h.2]
theorem parV_none : ∀ {V : List (List UInt8)} {w : List UInt8}, w ∈ V → parQ w = none → parV V = none
 | v :: V, w, hw, h => by
  rw [parV]
  simp only [List.mem_cons] at hw
  cases hv : parQ v with
  | none => rfl
  | some q =>
   simp only
   rcases hw with rfl | hw
   ·rw [h] at hv; simp at hv
   ·rw [parV_none hw h]
def resE (W : List (List UInt8)) : Rc :=
 if W.length = 5 ∨ W.length = 7 then (match parV (W.eraseIdx 4) with
  | some [p, q, r, s] => Ce.rc ⟨⟨p, q, r, s⟩, none⟩
  | some [p, q, r, s, t, u] => Ce.rc ⟨⟨p, q, r, s⟩, some ⟨t, u⟩⟩
  | _ => zc) else zc
theorem resE_none {W : List (List UInt8)} {k : Nat} (hk : k < W.length) (h4 : k ≠ 4) (h : parQ W[k] = none) : resE W = zc := by
 unfold resE
 rw [parV_none (List.mem_of_getElem? (erase_get hk h4)) h]
 split <;> rfl
theorem resE_some {W : List (List UInt8)} {c : Ce} (h : parC W = some c) : resE W = c.rc := by
 have hw := parC_some h
 obtain ⟨⟨p, q, r, s⟩, k⟩ := c
 cases k with
 | none =>
  have e : (cellW ⟨⟨p, q, r, s⟩, none⟩).eraseIdx 4 = [ratX p, ratX q, ratX r, ratX s] := rfl
  have e2 : parV ((cellW ⟨⟨p, q, r, s⟩, none⟩).eraseIdx 4) = some [p, q, r, s] := parV_some (by rw [e]; simp [parQ_rat])
  rw [hw]
  unfold resE
  rw [if_pos (.inl rfl), e2]
 | some v =>
  obtain ⟨t, u⟩ := v
  have e : (cellW ⟨⟨p, q, r, s⟩, some ⟨t, u⟩⟩).eraseIdx 4 = [ratX p, ratX q, ratX r, ratX s, ratX t, ratX u] := rfl
  have e2 : parV ((cellW ⟨⟨p, q, r, s⟩, some ⟨t, u⟩⟩).eraseIdx 4) = some [p, q, r, s, t, u] := parV_some (by rw [e]; simp [parQ_rat])
  rw [hw]
  unfold resE
  rw [if_pos (.inr rfl), e2]
theorem eparse_ok {s : List UInt8} (hs : s.length ≤ 8000) : Gives CC 95 [.c (.str s)] [.ag (resE (wordsC 32 s)).cs, .c (.bool (parN s).isSome)] := by
 have hsp := ewords_ok (s := s) (by omega)
 have hwl := @wordsC_len 32 s
 have hp : parN s = parC (wordsC 32 s) := rfl
 generalize wordsC 32 s = W at *
 rw [hp]
 refine wpF_ok (C := CC) (anns := annJ (fun _ => ⟨[.slot 6 (.int .i64 0), .own 5 80 4], [], fun _ ds => ∃ (k : Nat) (qs : List Rat), k ≤ W.length ∧ ds = [.int .i64 (k : Int), .sl (rats qs)] ∧ ((W.eraseIdx 4).take (mk4 k)).map parQ = qs.map some, fun ds => (W.length - toI (nth .undef ds 0)).toNat⟩)
  4 ⟨[], [], fun _ _ => W.length = 5 ∨ W.length = 7, fun _ => 0⟩) mixedT Tryz.func95 ?_
 rw [vc_eparse]
 simp only [Int.ofNat_eq_natCast]
 refine ⟨_, hsp, ?_⟩
 simp only [rowS_length]
 refine ⟨brb (fun h => ?_) (fun h => ?_), ?_⟩
 ·have h5 : W.length ≠ 5 := fun e => by rw [e] at h; simp at h
  refine brb (fun h7 => ?_) (fun h7 => ?_)
  ·have h7 : W.length ≠ 7 := fun e => by rw [e] at h7; simp at h7
   have hr : resE W = zc := by unfold resE; rw [if_neg (by omega)]
   rw [hr, parC_bad fun h => by rcases h with h | h <;> omega]
   rfl
  ·have : ((W.length : Int) == 7) = true := by simpa using h7
   have := eq_of_beq this
   exact .inr (by omega)
 ·have : ((W.length : Int) == 5) = true := by simpa using h
  have := eq_of_beq this
  exact .inl (by omega)
 intro hg
 have h4 : 4 < W.length := by omega
 have h7 : W.length ≤ 7 := by omega
 refine ⟨⟨0, [], by omega, rfl, rfl⟩, ?_⟩
 rintro n es ⟨k, qs, hk, he, hm⟩
 simp only [List.cons.injEq, D.int.injEq, D.sl.injEq, true_and, and_true] at he
 obtain ⟨rfl, rfl⟩ := he
 refine brd (fun h => ?_) (fun h => ?_)
 ·have hkl : k < W.length := by omega
  have w1 : IntKind.wrap .i64 ((k : Int) + 1) = ((k + 1 : Nat) : Int) := by rw [i64w (by omega) (by omega)]; omega
  rw [Int.toNat_natCast, w1]
  refine brb (fun h2 => ?_) (fun h2 => ?_)
  ·have h2 : k = 4 := by have := eq_of_beq h2; omega
   subst h2
   exact ⟨⟨5, qs, by omega, rfl, hm⟩, by simp only [nth, toI]; omega⟩
  ·have h2 : k ≠ 4 := fun e => by rw [e] at h2; simp at h2
   have hwk := hwl _ (List.getElem_mem hkl)
   have hq := uParse_ok (s := W[k]) (by omega)
   refine ⟨⟨by omega, by omega, by rw [nth_rowS hkl]; rfl⟩, _, cut_rowS hkl, ?_⟩
   cases hq2 : parQ W[k] with
   | none =>
    rw [hq2] at hq
    refine ⟨_, _, _, _, _, hq, brb (fun _ => ?_) (fun h => by simp at h)⟩
    rw [parC_word hkl h2 hq2, resE_none hkl h2 hq2]
    rfl
   | some q =>
    rw [hq2] at hq
    have hl := map_len hm
    refine ⟨_, _, _, _, _, hq, brb (fun h => by simp at h) (fun _ => ⟨⟨?_, lens_cR q⟩, ⟨k + 1, qs ++ [q], by omega, ?_, map_step hkl h2 hm hq2⟩, by simp only [nth, toI]; omega⟩)⟩
    ·unfold room; rw [rats_length]; omega
    ·rw [← rats_snoc]; rfl
 ·have hkl : k = W.length := by omega
  subst hkl
  have hall := map_all h4 hm
  have hpv := parV_some hall
  rcases hg with h5 | h7
  ·obtain ⟨p, q, r, t, rfl, hc⟩ := five_of h5 hall
   have hr : resE W = Ce.rc ⟨⟨p, q, r, t⟩, none⟩ := by unfold resE; rw [if_pos (.inl h5), hpv]
   have hlen : (rats [p, q, r, t]).length = 4 := rfl
   rw [hlen, hr, h5]
   refine ⟨⟨by omega, by omega⟩, _, _, _, _, cut_all (l := cR p) rfl, ⟨by omega, by omega⟩, _, _, _, _, cut_all (l := cR q) rfl, ⟨by omega, by omega⟩, _, _, _, _, cut_all (l := cR r) rfl, ⟨by omega, by omega⟩, _, _, _, _, cut_all (l := cR t) rfl,
    brb (fun _ => ⟨⟨by omega, by omega, by rw [nth_rowS h4]; rfl⟩, _, cut_rowS h4, ?_⟩) (fun h => by simp at h)⟩
   rw [hc, nth_of_lt [] h4]
   by_cases hf : W[4] = farB3
   ·rw [if_pos hf, hf]; rfl
   ·rw [if_neg hf]
    have : (W[4] == [102, 97, 114]) = false := by simpa [farB3] using hf
    rw [this]; rfl
  ·obtain ⟨p, q, r, t, u, v, rfl, hc⟩ := seven_of h7 hall
   have hr : resE W = Ce.rc ⟨⟨p, q, r, t⟩, some ⟨u, v⟩⟩ := by unfold resE; rw [if_pos (.inr h7), hpv]
   have hlen : (rats [p, q, r, t, u, v]).length = 6 := rfl
   rw [hlen, hr, h7]
   refine ⟨⟨by omega, by omega⟩, _, _, _, _, cut_all (l := cR p) rfl, ⟨by omega, by omega⟩, _, _, _, _, cut_all (l := cR q) rfl, ⟨by omega, by omega⟩, _, _, _, _, cut_all (l := cR r) rfl, ⟨by omega, by omega⟩, _, _, _, _, cut_all (l := cR t) rfl,
    brb (fun h => by simp at h) (fun _ => ⟨⟨by omega, by omega⟩, _, _, _, _, cut_all (l := cR u) rfl, ⟨by omega, by omega⟩, _, _, _, _, cut_all (l := cR v) rfl, ⟨by omega, by omega, by rw [nth_rowS h4]; rfl⟩, _, cut_rowS h4, ?_⟩)⟩
   rw [hc, nth_of_lt [] h4]
   by_cases hf : W[4] = keepB4
   ·rw [if_pos hf, hf]; rfl
   ·rw [if_neg hf]
    have : (W[4] == [107, 101, 101, 112]) = false := by simpa [keepB4] using hf
    rw [this]; rfl
def cellRows (l : List Ce) : List (List D) := l.map fun c => c.rc.cs
def outP : Except Nat (List Ce) → List A
 | .ok l => [.c (.sl (cellRows l)), .c (.int .i64 0), .c (.int .i64 0)]
 | .error k => [.c (.sl []), .c (.int .i64 (k : Int)), .c (.int .i64 2)]
def appT (l : List Ce) : Except Nat (List Ce) → Except Nat (List Ce)
 | .ok r => .ok (l ++ r)
 | .error k => .error k
theorem cellRows_snoc (l : List Ce) (c : Ce) : cellRows l ++ [c.rc.cs] = cellRows (l ++ [c]) := by simp [cellRows]
theorem lens_cell (c : Rc) : lens 25 [c.cs] := fun e he => by
 simp only [List.mem_cons, List.not_mem_nil, or_false] at he
 rw [he]; rfl
theorem cellRows_length (l : List Ce) : (cellRows l).length = l.length := by simp [cellRows]
theorem cParse_ok {s : List UInt8} (hs : s.length ≤ 8000) : Gives CC 37 [.c (.str s)] (outP (parT 1 s)) := by
 refine wpF_ok (C := CC) (anns := fun _ => ⟨[.slot 0 (.string ⟨#[]⟩), .slot 6 (.int .i64 0), .own 5 40 25], [], fun _ ds => ∃ (t : List UInt8) (n : Nat) (l : List Ce), ds = [.str t, .int .i64 (n : Int), .sl (cellRows l)] ∧ parT 1 s = appT l (parT n t) ∧ n + t.length ≤ s.length + 1 ∧ l.length < n, fun ds => (toS (nth .undef ds 0)).length⟩) mixedT Tryz.func37 ?_
 rw [vc_cParse]
 refine ⟨⟨s, 1, [], rfl, by cases parT 1 s <;> rfl, by omega, by simp⟩, ?_⟩
 rintro t n es ⟨t', n', l, he, hp, hn, hl⟩
 simp only [List.cons.injEq, D.int.injEq, D.sl.injEq, D.str.injEq, true_and, and_true] at he
 obtain ⟨rfl, rfl, rfl⟩ := he
 refine brb (fun h => ?_) (fun h => ?_)
 ·have hne : t ≠ [] := by simpa using h
  have hcut := tCut_ok (s := t) 10 (by omega)
  have hlens := cutAt_lens 10 t
  rw [parT_eq hne] at hp
  have hlt := fun r => @cutAt_len 10 t r
  generalize cutAt 10 t = P at *
  obtain ⟨a, b⟩ := P
  simp only at hp hlens hlt
  have hline := cLine_ok (s := a) (by omega)
  refine ⟨_, _, _, hcut, ?_⟩
  cases hc : parN a with
  | none =>
   have hr : parT 1 s = .error n' := by
    rw [hp, hc]
    cases b <;> rfl
   rw [hc] at hline
   refine ⟨_, _, _, _, _, _, _, _, _, _, _, _, _, _, _, _, _, _, _, _, _, _, _, _, _, _, hline, brb (fun _ => ?_) (fun h => by simp at h)⟩
   rw [hr]; rfl
  | some c =>
   rw [hc] at hline hp
   refine ⟨_, _, _, _, _, _, _, _, _, _, _, _, _, _, _, _, _, _, _, _, _, _, _, _, _, _, hline, brb (fun h => by simp at h) (fun _ => ?_)⟩
   cases b with
   | none =>
    refine brb (fun _ => ?_) (fun h => by simp at h)
    rw [hp]; rfl
   | some r =>
    simp only at hp
    have hrl : r.length < t.length := hlt r rfl
    refine brb (fun h => by simp at h) (fun _ => ⟨⟨?_, lens_cell c.rc⟩, ⟨r, n' + 1, l ++ [c], ?_, ?_, by omega, by simp; omega⟩, ?_⟩)
    ·unfold room; rw [cellRows_length]; omega
    ·rw [← cellRows_snoc, i64w (by omega) (by omega)]
     rfl
    ·rw [hp]
     cases parT (n' + 1) r with
     | ok m => simp [appT]
     | error k => rfl
    ·simp only [nth, toS, Option.getD_some]; omega
 ·have : t = [] := by simpa using h
  subst this
  rw [hp, parT_nil]
  simp only [appT, List.append_nil]
  rfl
theorem eParse_ok {s : List UInt8} (hs : s.length ≤ 8000) : Gives CC 39 [.c (.str s)] (outP (parT 1 s)) := by
 refine wpF_ok (C := CC) (anns := fun _ => ⟨[.slot 8 (.int .i64 0), .slot 6 (.string ⟨#[]⟩), .slot 7 (.int .i64 0), .own 5 46 25], [], fun _ ds => ∃ (i : Nat) (a : List UInt8) (n : Nat) (l : List Ce), i ≤ s.length ∧ ds = [.int .i64 (i : Int), .str a, .int .i64 (n : Int), .sl (cellRows l)] ∧ parT 1 s = appT l (parT n (a ++ s.drop i)) ∧ (∀ x ∈ a, x ≠ 10) ∧ n ≤ i + 1 ∧ l.length ≤ i ∧ a.length ≤ i, fun ds => (s.length - toI (nth .undef ds 0)).toNat⟩) mixedT Tryz.func39 ?_
 rw [vc_eParse]
 simp only [Int.ofNat_eq_natCast]
 refine ⟨⟨0, [], 1, [], by omega, rfl, by rw [List.nil_append, List.drop_zero]; cases parT 1 s <;> rfl, by simp, by omega, by simp, by simp⟩, ?_⟩
 rintro i' a n' es ⟨i, a0, n, l, hi, he, hp, ha, hn, hl, hal⟩
 simp only [List.cons.injEq, D.int.injEq, D.sl.injEq, D.str.injEq, true_and, and_true] at he
 obtain ⟨rfl, rfl, rfl, rfl⟩ := he
 refine brd (fun h => ?_) (fun h => ?_)
 ·have hil : i < s.length := by omega
  have w1 : IntKind.wrap .i64 ((i : Int) + 1) = ((i + 1 : Nat) : Int) := by rw [i64w (by omega) (by omega)]; omega
  have w2 : IntKind.wrap .i64 ((n : Int) + 1) = ((n + 1 : Nat) : Int) := by rw [i64w (by omega) (by omega)]; omega
  have hone : List.drop i (List.take (i + 1) s) = [s[i]] := by
   rw [List.take_succ_eq_append_getElem hil, List.drop_append_of_le_length (by rw [List.length_take]; omega), List.drop_eq_nil_of_le (by rw [List.length_take]; omega)]; rfl
  rw [w1, w2, Int.toNat_natCast, Int.toNat_natCast, hone, nth_of_lt 0 hil]
  have e10 : ((s[i].toNat : Int) != 10) = !decide (s[i] = 10) := by
   rw [Bool.eq_iff_iff]
   simp only [bne_iff_ne, ne_eq, Bool.not_eq_true', decide_eq_false_iff_not]
   refine not_congr ⟨fun h => ?_, fun h => by rw [h]; rfl⟩
   apply UInt8.toNat_inj.1
   have : (10 : UInt8).toNat = 10 := rfl
   omega
  rw [e10]
  have hdr : s.drop i = s[i] :: s.drop (i + 1) := List.drop_eq_getElem_cons hil
  refine ⟨⟨by omega, by omega⟩, brb (fun h2 => ?_) (fun h2 => ?_)⟩
  ·have h2 : s[i] ≠ 10 := by simpa using h2
   refine ⟨⟨by omega, by omega, by omega⟩, by unfold room; simp only [List.length_cons, List.length_nil]; omega, ⟨i + 1, a ++ [s[i]], n, l, by omega, rfl, ?_, ?_, by omega, by omega, ?_⟩, by simp only [nth, toI]; omega⟩
   ·rw [hp, hdr]; simp
   ·intro x hx
    simp only [List.mem_append, List.mem_cons, List.not_mem_nil, or_false] at hx
    rcases hx with hx | rfl
    ·exact ha x hx
    ·exact h2
   ·simp only [List.length_append, List.length_cons, List.length_nil]; omega
  ·have h2 : s[i] = 10 := by simpa using h2
   have hc := cutAt_app (t := s.drop (i + 1)) ha
   rw [hdr, h2, parT_eq (s := a ++ 10 :: s.drop (i + 1)) (by simp), hc] at hp
   simp only at hp
   have hline := eparse_ok (s := a) (by omega)
   cases hpa : parN a with
   | none =>
    rw [hpa] at hline hp
    refine ⟨_, _, _, _, _, _, _, _, _, _, _, _, _, _, _, _, _, _, _, _, _, _, _, _, _, _, hline, brb (fun _ => ?_) (fun h => by simp at h)⟩
    rw [hp]; rfl
   | some c =>
    rw [hpa] at hline hp
    rw [resE_some (W := wordsC 32 a) hpa] at hline
    refine ⟨_, _, _, _, _, _, _, _, _, _, _, _, _, _, _, _, _, _, _, _, _, _, _, _, _, _, hline, brb (fun h => by simp at h) (fun _ => ⟨⟨?_, lens_cell c.rc⟩, ⟨i + 1, [], n + 1, l ++ [c], by omega, ?_, ?_, by simp, by omega, by simp; omega, by simp⟩, by simp only [nth, toI]; omega⟩)⟩
    ·unfold room; rw [cellRows_length]; omega
    ·rw [← cellRows_snoc]; rfl
    ·rw [hp, List.nil_append]
     cases parT (n + 1) (s.drop (i + 1)) with
     | ok m => simp [appT]
     | error k => rfl
 ·have hil : i = s.length := by omega
  subst hil
  rw [List.drop_length, List.append_nil] at hp
  refine brb (fun h2 => ?_) (fun h2 => ?_)
  ·have hne : a ≠ [] := by simpa using h2
   rw [parT_eq hne, cutAt_none ha] at hp
   rw [hp]; rfl
  ·have : a = [] := by simpa using h2
   subst this
   rw [hp, parT_nil]
   simp only [appT, List.append_nil]
   rfl
end Eng
end
