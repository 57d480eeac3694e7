/- The verification conditions of functions, printed by a program (vcgen.py) and checked by the kernel. -/
import Derived.Test.YtkkodaemmgpgfaaGreatDoorCvX
import Derived.Test.YtkkodaemmgpgfaaGreatDoorTxC
import Derived.KernelRfl
section
open Go Go.Proofs Eng
set_option maxRecDepth 1000000
namespace Eng
theorem vc_tClone (Gv : Nat → List A → List A → Prop) (es : List (List D)) (Q : Nat → List (List D) → Prop) :
 wpFc CC Gv (fun _ => ⟨[], [], fun _ _ => True, fun _ => 0⟩) Tryz.f26 [.c (.sl es)] none [] Q = (
 0 < List.length es ∧ (room (0 + List.length es) ∧ lens 25 es) ∧ es ≠ [] ∧ Q 25 es) := by kernel_rfl
end Eng
end

section
namespace Eng
open Go Go.Proofs Go.RowKit Go.Lib Go.Shelf
set_option maxRecDepth 1000000
def cellZ : List Value := [.bool false, .slice none 0 0, .bool false, .slice none 0 0, .bool false, .slice none 0 0, .bool false, .slice none 0 0, .bool false, .slice none 0 0, .bool false, .slice none 0 0, .bool false, .slice none 0 0, .bool false, .slice none 0 0,
 .bool false, .bool false, .slice none 0 0, .bool false, .slice none 0 0, .bool false, .slice none 0 0, .bool false, .slice none 0 0]
theorem zeros55 : zeros Tryz.prog 55 = some cellZ := by kernel_rfl
theorem und51 : Tryz.prog.underlying 51 = some (.slice 55) := by kernel_rfl
set_option maxHeartbeats 4000000 in
theorem cloneC_nil (c : Nat) (w : World) : Calls Tryz.prog 26 #[.slice none 0 c] w fun e w' => e = .returned (.slice none 0 0) ∧ w' = w := by
 have mixed : Tryz.prog.follows .mixedOrders = true := by kernel_rfl
 have t36 := und51
 have he : ∀ w, (binOp .eql 51 (.slice none 0 c) (.slice none 0 0)).run Tryz.prog w = .ok (.bool true) w := fun w => by have := run_eql_slice_nil (P := Tryz.prog) w 51 55 none 0 c 0 0 und51; simpa using this
 go_enter Tryz.func26, Tryz.ntmps26
 go_wp2
 all_goals (go_ret; exact ⟨rfl, rfl⟩)
set_option maxHeartbeats 4000000 in
theorem cloneC_emp (a : Addr) (c : Nat) (w : World) : Calls Tryz.prog 26 #[.slice (some a) 0 c] w fun e w' => ∃ b, e = .returned (.slice (some b) 0 0) ∧ w' = w.alloc (.cells #[] 55) := by
 have mixed : Tryz.prog.follows .mixedOrders = true := by kernel_rfl
 have t36 := und51
 have he : ∀ w, (binOp .eql 51 (.slice (some a) 0 c) (.slice none 0 0)).run Tryz.prog w = .ok (.bool false) w := fun w => by have := run_eql_slice_nil (P := Tryz.prog) w 51 55 (some a) 0 c 0 0 und51; simpa using this
 have z28 : ∀ w, (Go.sizeOf 55).run Tryz.prog w = .ok 25 w := fun w => run_sizeOf' zeros55 w
 go_enter Tryz.func26, Tryz.ntmps26
 go_wp2
 go_ret
 exact ⟨_, rfl, rfl⟩
theorem cloneC0_ok : Gives CC 26 [.c (.sl [])] [.c (.sl [])] := by
 intro w F vs _ _ ha
 match vs, ha with
 | [v], ⟨h, _⟩ =>
  obtain ⟨ad, c, rfl, _⟩ := CD.slice_inv (show CD w F (.sl []) v from h)
  have hP : CC.P = Tryz.prog := rfl
  rw [hP]
  cases ad with
  | none =>
   refine (cloneC_nil c w).mono ?_
   rintro e w' ⟨rfl, rfl⟩
   exact ⟨Below.refl _ _, _, rfl, CD.nil _ _⟩
  | some a =>
   refine (cloneC_emp a c w).mono ?_
   rintro e w' ⟨b, rfl, rfl⟩
   exact ⟨(Below.refl _ _).alloc (Nat.le_refl _) _, _, rfl, CD.nil _ _⟩
theorem lens_rcs (l : List Rc) : lens 25 (rcs l) := fun e he => by
 simp only [rcs, List.mem_map] at he
 obtain ⟨x, _, rfl⟩ := he
 rfl
theorem cloneC_ok {l : List Rc} (hne : l ≠ []) (hl : l.length ≤ 1073741824) : GivesC CC 26 [.c (.sl (rcs l))] none [] 25 (rcs l) := by
 refine wpFc_ok (C := CC) (anns := fun _ => ⟨[], [], fun _ _ => True, fun _ => 0⟩) mixedT Tryz.func26 ?_
 rw [vc_tClone]
 refine ⟨?_, ⟨?_, lens_rcs l⟩, fun e => hne (by simpa [rcs] using e), rfl, rfl⟩
 ·rw [rcs_length]; exact List.length_pos_iff.2 hne
 ·unfold room; rw [rcs_length]; omega
def fewC (x : Rc) : Bool := (fewN x.b.a 2 && (fewN x.b.b 2 && (fewN x.b.c 2 && fewN x.b.d 2))) && (fewN x.u 2 && fewN x.v 2)
def Rc.few (x : Rc) : Prop := (x.b.a.few ∧ x.b.b.few ∧ x.b.c.few ∧ x.b.d.few) ∧ x.u.few ∧ x.v.few
theorem fewC_iff {x : Rc} : fewC x = true ↔ x.few := by
 unfold fewC Rc.few
 simp only [Bool.and_eq_true]
 rw [Eng.few_iff, Eng.few_iff, Eng.few_iff, Eng.few_iff, Eng.few_iff, Eng.few_iff]
theorem Rc.few.mid {x : Rc} (h : x.few) : x.mid := ⟨⟨h.1.1.mid, h.1.2.1.mid, h.1.2.2.1.mid, h.1.2.2.2.mid⟩, h.2.1.mid, h.2.2.mid⟩
def smallC (l : List Rc) : Bool := decide ((l.length : Int) ≤ 20) && l.all fewC
theorem fewC_snoc {l : List Rc} {k : Nat} (h : k < l.length) (ha : (l.take k).all fewC = true) (ho : fewC l[k] = true) : (l.take (k + 1)).all fewC = true := by
 rw [List.take_succ_eq_append_getElem h, List.all_append, ha]; simp [ho]
theorem cut_b (x : Rc) : cut x.cs 0 16 x.b.cs := ⟨rfl, by show 0 + 16 ≤ 25; omega⟩
theorem cut_u (x : Rc) : cut x.cs 17 4 x.u.cs := ⟨rfl, by show 17 + 4 ≤ 25; omega⟩
theorem cut_v (x : Rc) : cut x.cs 21 4 x.v.cs := ⟨rfl, by show 21 + 4 ≤ 25; omega⟩
theorem cut_uv (x : Rc) : cut x.cs 17 8 (x.u.cs ++ x.v.cs) := ⟨rfl, by show 17 + 8 ≤ 25; omega⟩
theorem cut_far (x : Rc) : cut x.cs 16 1 [.bool x.far] := ⟨rfl, by show 16 + 1 ≤ 25; omega⟩
theorem eSmallC_ok {l : List Rc} : Gives CC 34 [.c (.sl (rcs l)), .c (.int .i64 20)] [.c (.bool (smallC l))] := by
 refine wpF_ok (C := CC) (anns := fun _ => ⟨[.slot 5 (.int .i64 0)], [], fun _ ds => ∃ k : Nat, k ≤ l.length ∧ ds = [.int .i64 (k : Int)] ∧ (l.take k).all fewC = true ∧ l.length ≤ 20, fun ds => (l.length - toI (nth .undef ds 0)).toNat⟩) mixedT Tryz.func34 ?_
 rw [vc_eSmallC]
 simp only [Int.ofNat_eq_natCast, rcs_length]
 refine brd (fun h => ?_) (fun h => ⟨⟨0, by omega, rfl, rfl, by omega⟩, ?_⟩)
 ·unfold smallC; rw [decide_eq_false (by omega)]; rfl
 rintro n ⟨k, hk, he, hall, hl⟩
 simp only [List.cons.injEq, D.int.injEq, true_and, and_true] at he
 subst he
 refine brd (fun h2 => ?_) (fun h2 => ?_)
 ·have hkl : k < l.length := by omega
  have hsn := fewC_snoc hkl hall
  have hno : fewC l[k] = false → [A.c (D.bool false)] = [A.c (D.bool (smallC l))] := fun hb => by
   have : l.all fewC = false := by
    rw [Bool.eq_false_iff]
    intro h3
    have := List.all_eq_true.1 h3 l[k] (List.getElem_mem hkl)
    rw [hb] at this; simp at this
   unfold smallC; rw [this, Bool.and_false]
  have w1 : IntKind.wrap .i64 ((k : Int) + 1) = ((k + 1 : Nat) : Int) := by rw [i64w (by omega) (by omega)]; omega
  rw [Int.toNat_natCast, nth_rcs hkl, w1]
  generalize l[k] = x at *
  have hB := cSmall_ok x.b.a x.b.b x.b.c x.b.d 2
  have eB : boxA x.b.a x.b.b x.b.c x.b.d = .ag x.b.cs := rfl
  rw [eB, Rb.cs_eq] at hB
  have hcb := cut_b x
  rw [Rb.cs_eq] at hcb
  refine ⟨⟨by omega, by omega, rfl⟩, _, _, _, _, _, _, _, _, _, _, _, _, _, _, _, _, hcb, _, hB, brb (fun h3 => hno ?_) (fun h3 => ⟨⟨by omega, by omega, rfl⟩, _, _, _, _, cut_u x, _, eshort_ok x.u 2, brb (fun h4 => hno ?_) (fun h4 => ⟨⟨by omega, by omega, rfl⟩, _, _, _, _, cut_v x, _, eshort_ok x.v 2, brb (fun h5 => hno ?_) (fun h5 => ⟨⟨k + 1, by omega, rfl, hsn ?_, hl⟩, by simp only [nth, toI]; omega⟩)⟩)⟩)⟩
  ·have h3 := Bool.not_eq_true' _ ▸ h3
   unfold fewC; rw [h3, Bool.false_and]
  ·have h4 := Bool.not_eq_true' _ ▸ h4
   unfold fewC; rw [h4, Bool.false_and, Bool.and_false]
  ·have h5 := Bool.not_eq_true' _ ▸ h5
   unfold fewC; rw [h5, Bool.and_false, Bool.and_false]
  ·have h3 : (fewN x.b.a 2 && (fewN x.b.b 2 && (fewN x.b.c 2 && fewN x.b.d 2))) = true := by simpa using h3
   have h4 : fewN x.u 2 = true := by simpa using h4
   have h5 : fewN x.v 2 = true := by simpa using h5
   unfold fewC; rw [h3, h4, h5]; rfl
 ·have hkl : k = l.length := by omega
  subst hkl
  rw [List.take_length] at hall
  unfold smallC
  rw [hall, decide_eq_true (by omega)]; rfl
theorem few_txt {x : Rw} (h : x.ok = true) (hf : x.few) : Gives CC 91 [.ag x.cs] [.c (.str (ratX x.val))] := by
 obtain ⟨e, hs⟩ := x.val_mid h hf.mid
 have := uFmt_ok hs.sm.1 hs.sm.2
 rw [e]
 exact this
theorem eFmt_ok {l : List Rc} (hl : l.length ≤ 8000) (hf : ∀ x ∈ l, x.few) : Gives CC 36 [.c (.sl (rcs l))] [.c (.str (fmtT l))] := by
 refine wpF_ok (C := CC) (anns := annJ (fun _ => ⟨[.slot 4 (.int .i64 0), .slot 3 (.string ⟨#[]⟩)], [], fun _ ds => ∃ k : Nat, k ≤ l.length ∧ ds = [.int .i64 (k : Int), .str (textX ((l.take k).map Rc.ce))] ∧ (l.take k).all Rc.ok = true, fun ds => (l.length - toI (nth .undef ds 0)).toNat⟩)
  8 ⟨[], [.slot 4 (.int .i64 0)], fun gs _ => (numsAt l (toI (nth .undef gs 0))).all Rw.ok = true, fun _ => 0⟩) mixedT Tryz.func36 ?_
 rw [vc_eFmt]
 simp only [Int.ofNat_eq_natCast, rcs_length]
 refine ⟨⟨0, by omega, rfl, rfl⟩, ?_⟩
 rintro n s ⟨k, hk, he, hall⟩
 simp only [List.cons.injEq, D.int.injEq, D.str.injEq, true_and, and_true] at he
 obtain ⟨rfl, rfl⟩ := he
 refine brd (fun h => ?_) (fun h => ?_)
 ·have hkl : k < l.length := by omega
  have hmem : l[k] ∈ l := List.getElem_mem hkl
  have hkf := hf _ hmem
  have hbad := fun w hw hb => fmt_bad (w := w) hmem hw hb
  have hasn := allc_snoc hkl hall
  have htx : textX ((l.take k).map Rc.ce) ++ (cellX l[k].ce ++ [10]) = textX ((l.take (k + 1)).map Rc.ce) := by
   rw [List.take_succ_eq_append_getElem hkl, List.map_append, textX_append, List.map_cons, List.map_nil, textX_one]
  have htl : (textX ((l.take k).map Rc.ce)).length ≤ 1008288000 := by
   have h1 := textX_len hall fun x hx => (hf x (List.mem_of_mem_take hx)).mid
   rw [List.length_take] at h1
   have := Nat.mul_le_mul_right 126036 (show min k l.length ≤ 8000 by omega)
   omega
  have wk : IntKind.wrap .i64 ((k : Int) + 1) = ((k + 1 : Nat) : Int) := by rw [i64w (by omega) (by omega)]; omega
  have hnk : numsAt l (k : Int) = l[k].nums := by unfold numsAt; rw [Int.toNat_natCast, List.getElem?_eq_getElem hkl]
  rw [Int.toNat_natCast, nth_rcs hkl, wk]
  generalize l[k] = x at *
  generalize textX ((l.take k).map Rc.ce) = T at *
  obtain ⟨⟨f1, f2, f3, f4⟩, f5, f6⟩ := hkf
  have hB := enumbers_ok f1 f2 f3 f4
  have eB : boxA x.b.a x.b.b x.b.c x.b.d = .ag x.b.cs := rfl
  rw [eB, Rb.cs_eq] at hB
  have hcb := cut_b x
  rw [Rb.cs_eq] at hcb
  have hJ : ∀ {P : Prop}, (x.nums.all Rw.ok = true → P) → ((numsAt l (toI (nth .undef [D.int .i64 (k : Int)] 0))).all Rw.ok = true → P) := fun h h2 => h (by
   have e : numsAt l (toI (nth .undef [D.int .i64 (k : Int)] 0)) = x.nums := hnk
   rw [e] at h2; exact h2)
  have hJ2 : x.nums.all Rw.ok = true → (numsAt l (toI (nth .undef [D.int .i64 (k : Int)] 0))).all Rw.ok = true := fun h => by
   have e : numsAt l (toI (nth .undef [D.int .i64 (k : Int)] 0)) = x.nums := hnk
   rw [e]; exact h
  have hq : ∀ w ∈ x.nums, w.ok = false → [A.c (D.str [])] = [A.c (D.str (fmtT l))] := fun w hw hb => by rw [hbad w hw hb]
  have ten : ∀ w ∈ x.nums, w.ok = true → w.few → (ratX w.val).length ≤ 18004 := fun w _ ho hw => (mid_txt ho hw.mid).2
  refine ⟨⟨by omega, by omega, rfl⟩, _, _, _, _, _, _, _, _, _, _, _, _, _, _, _, _, hcb, ⟨by omega, by omega, rfl⟩, _, _, _, _, _, _, _, _, cut_uv x, ⟨_, hB, brb (fun h2 => ?_) (fun h2 => ⟨⟨by omega, by omega, rfl⟩, _, cut_far x, ?_⟩)⟩, hJ fun hok => ?_⟩
  ·-- a box that is not valid
   have h2 : (x.b.a.ok && (x.b.b.ok && (x.b.c.ok && x.b.d.ok))) = false := by rw [Bool.not_eq_true'] at h2; exact h2
   obtain ⟨⟨a, b, c, d⟩, far, u, v⟩ := x
   have : ∃ w ∈ (Rc.mk ⟨a, b, c, d⟩ far u v).nums, w.ok = false := by
    have m : ∀ w ∈ [a, b, c, d], w ∈ (Rc.mk ⟨a, b, c, d⟩ far u v).nums := fun w hw => by
     cases far
     ·show w ∈ [a, b, c, d, u, v]
      simp only [List.mem_cons, List.not_mem_nil, or_false] at hw ⊢
      rcases hw with h | h | h | h <;> simp [h]
     ·exact hw
    simp only [Bool.and_eq_false_iff] at h2
    rcases h2 with h | h | h | h
    ·exact ⟨a, m a (by simp), h⟩
    ·exact ⟨b, m b (by simp), h⟩
    ·exact ⟨c, m c (by simp), h⟩
    ·exact ⟨d, m d (by simp), h⟩
   obtain ⟨w, hw, hb⟩ := this
   exact hq w hw hb
  ·have h2 : (x.b.a.ok && (x.b.b.ok && (x.b.c.ok && x.b.d.ok))) = true := by simpa using h2
   simp only [Bool.and_eq_true] at h2
   obtain ⟨o1, o2, o3, o4⟩ := h2
   have v1 := uValid_ok (p := x.u.p) (q := x.u.q) f5.1 f5.2
   have v2 := uValid_ok (p := x.v.p) (q := x.v.q) f6.1 f6.2
   obtain ⟨⟨a, b, c, d⟩, far, u, v⟩ := x
   cases far
   ·refine brb (fun _ => ⟨_, v1, brb (fun h3 => hq u (by simp [Rc.nums]) (by simpa [Rw.ok] using h3)) (fun h3 => ⟨_, v2, brb (fun h4 => hq v (by simp [Rc.nums]) (by simpa [Rw.ok] using h4)) (fun h4 => hJ2 ?_)⟩)⟩) (fun h => by simp at h)
    have h3 : u.ok = true := by simpa [Rw.ok] using h3
    have h4 : v.ok = true := by simpa [Rw.ok] using h4
    show [a, b, c, d, u, v].all Rw.ok = true
    simp [o1, o2, o3, o4, h3, h4]
   ·refine brb (fun h => by simp at h) (fun _ => hJ2 ?_)
    show [a, b, c, d].all Rw.ok = true
    simp [o1, o2, o3, o4]
  ·have hxo : x.ok = true := hok
   have hns := fun w hw => List.all_eq_true.1 hok w hw
   obtain ⟨⟨a, b, c, d⟩, far, u, v⟩ := x
   have m : ∀ w ∈ [a, b, c, d], w ∈ (Rc.mk ⟨a, b, c, d⟩ far u v).nums := fun w hw => by
    cases far
    ·show w ∈ [a, b, c, d, u, v]
     simp only [List.mem_cons, List.not_mem_nil, or_false] at hw ⊢
     rcases hw with h | h | h | h <;> simp [h]
    ·exact hw
   have oa := hns a (m a (by simp))
   have ob := hns b (m b (by simp))
   have oc := hns c (m c (by simp))
   have od := hns d (m d (by simp))
   have la := ten a (m a (by simp)) oa f1
   have lb := ten b (m b (by simp)) ob f2
   have lc := ten c (m c (by simp)) oc f3
   have ld := ten d (m d (by simp)) od f4
   refine ⟨_, few_txt oa f1, ?_, ?_, _, few_txt ob f2, ?_, ?_, _, few_txt oc f3, ?_, ?_, _, few_txt od f4, ?_, ⟨by omega, by omega, rfl⟩, _, cut_far _, ?_⟩
   iterate 7 (unfold room; simp only [List.length_append, List.length_cons, List.length_nil]; omega)
   cases far
   ·have ou := hns u (by simp [Rc.nums])
    have ov := hns v (by simp [Rc.nums])
    have lu := ten u (by simp [Rc.nums]) ou f5
    have lv := ten v (by simp [Rc.nums]) ov f6
    refine brb' (fun h => by simp at h) (fun _ => ⟨?_, _, few_txt ou f5, ?_, ?_, _, few_txt ov f6, ?_, ?_, ⟨k + 1, by omega, ?_, hasn hxo⟩, ?_⟩)
    iterate 5 (unfold room; simp only [List.length_append, List.length_cons, List.length_nil]; omega)
    ·rw [← htx]
     simp [Rc.ce, cellX, cellW, joinC, keepB4]
    ·simp only [nth, toI]; omega
   ·refine brb' (fun _ => ⟨?_, ⟨k + 1, by omega, ?_, hasn hxo⟩, ?_⟩) (fun h => by simp at h)
    ·unfold room; simp only [List.length_append, List.length_cons, List.length_nil]; omega
    ·rw [← htx]
     simp [Rc.ce, cellX, cellW, joinC, farB3]
    ·simp only [nth, toI]; omega
 ·have hkl : k = l.length := by omega
  subst hkl
  rw [List.take_length] at hall ⊢
  unfold fmtT
  rw [hall]
end Eng
end

section
namespace Eng
open Go Go.Proofs
set_option maxRecDepth 100000
noncomputable def yesT (p : Prop) : Bool := @decide p (Classical.propDecidable p)
theorem yesT_iff {p : Prop} : yesT p = true ↔ p := by unfold yesT; exact @decide_eq_true_iff p (Classical.propDecidable p)
noncomputable def ckT (l : List Rc) : Ck1 := fun al => yesT (al = [.c (.sl (rcs l))] ∧ l.length ≤ 1073741824)
noncomputable def mkT (l : List Rc) : Mk1 := fun _ => rcs l
noncomputable def CTx (l : List Rc) : Cx := CX [(87, effI), (26, effCl (ckT l) 25 (mkT l))]
theorem effTx_ok {l : List Rc} (hne : l ≠ []) : EffOk (CTx l) :=
 effOk_all (effX_ok ⟨effAt_I rfl rfl Tryz.func87 (by simp [Tryz.f87]) (by decide),
  effAt_cl Tryz.func26 (by simp [Tryz.f26]) (by decide) fun al h => by
   obtain ⟨h, hl⟩ : al = [.c (.sl (rcs l))] ∧ l.length ≤ 1073741824 := yesT_iff.1 h
   subst h
   exact ⟨fun e => hne (by simpa [mkT, rcs] using e), givesC_cx (C := CC) rfl rfl (cloneC_ok hne hl)⟩, trivial⟩)
theorem dec18 {u : Nat} (h : u ≤ 10 ^ 18) : (Lib.decDigits u).length ≤ 19 := dec_len_le (n := 18) (by omega)
theorem ratX18 {q : Rat} (h : Sz 18 q) : (ratX q).length ≤ 40 := by
 have h1 := dec18 h.1
 have h2 := dec18 h.2
 have h3 := sgT_len q.num
 unfold ratX decZt
 split
 ·rw [List.length_append]; omega
 ·rw [List.length_append, List.length_append, List.length_cons]; omega
theorem cellX_few {x : Rc} (h : x.ok = true) (hf : x.few) : (cellX x.ce).length ≤ 287 := by
 obtain ⟨⟨a, b, c, d⟩, far, u, v⟩ := x
 obtain ⟨⟨f1, f2, f3, f4⟩, f5, f6⟩ := hf
 have one : ∀ {w : Rw}, w.ok = true → w.few → (ratX w.val).length ≤ 40 := fun ho hw => ratX18 (Rw.val_ok ho hw).2
 have h2 : (∀ w ∈ cellW (Rc.mk ⟨a, b, c, d⟩ far u v).ce, w.length ≤ 40) ∧ (cellW (Rc.mk ⟨a, b, c, d⟩ far u v).ce).length ≤ 7 := by
  cases far
  ·have h : [a, b, c, d, u, v].all Rw.ok = true := h
   simp only [List.all_cons, List.all_nil, Bool.and_true, Bool.and_eq_true] at h
   obtain ⟨o1, o2, o3, o4, o5, o6⟩ := h
   exact cellW_len (by omega) ⟨one o1 f1, one o2 f2, one o3 f3, one o4 f4⟩ (fun w hw => by
    obtain rfl := Option.some.inj hw
    exact ⟨one o5 f5, one o6 f6⟩)
  ·have h : [a, b, c, d].all Rw.ok = true := h
   simp only [List.all_cons, List.all_nil, Bool.and_true, Bool.and_eq_true] at h
   obtain ⟨o1, o2, o3, o4⟩ := h
   exact cellW_len (by omega) ⟨one o1 f1, one o2 f2, one o3 f3, one o4 f4⟩ (fun w hw => by simp [Rc.ce] at hw)
 have h3 := joinC_len 32 h2.1
 have h4 := Nat.mul_le_mul_right (40 + 1) h2.2
 unfold cellX
 omega
theorem textX_few : ∀ {l : List Rc}, l.all Rc.ok = true → (∀ x ∈ l, x.few) → (textX (l.map Rc.ce)).length ≤ l.length * 288
 | [], _, _ => by simp [textX]
 | x :: l, h, hf => by
  simp only [List.all_cons, Bool.and_eq_true] at h
  have h1 := cellX_few h.1 (hf x (by simp))
  have h2 := textX_few h.2 fun y hy => hf y (by simp [hy])
  have e : textX ((x :: l).map Rc.ce) = (cellX x.ce ++ [10]) ++ textX (l.map Rc.ce) := rfl
  rw [e, List.length_append, List.length_append, List.length_cons, List.length_cons, List.length_nil, Nat.add_mul]
  omega
theorem sameW_val {w : Rw} (h : w.ok = true) (hf : w.few) : sameW (ofR w.val) w := by
 obtain ⟨e, hs⟩ := w.val_mid h hf.mid
 exact ⟨fine_ofR hs, by rw [ofR_cs, e]⟩
theorem sameC_ce {x : Rc} (h : x.ok = true) (hf : x.few) : sameC x.ce.rc x := by
 obtain ⟨⟨a, b, c, d⟩, far, u, v⟩ := x
 obtain ⟨⟨f1, f2, f3, f4⟩, f5, f6⟩ := hf
 cases far
 ·have h : [a, b, c, d, u, v].all Rw.ok = true := h
  simp only [List.all_cons, List.all_nil, Bool.and_true, Bool.and_eq_true] at h
  obtain ⟨o1, o2, o3, o4, o5, o6⟩ := h
  exact ⟨rfl, sameW_val o1 f1, sameW_val o2 f2, sameW_val o3 f3, sameW_val o4 f4, fun _ => ⟨sameW_val o5 f5, sameW_val o6 f6⟩⟩
 ·have h : [a, b, c, d].all Rw.ok = true := h
  simp only [List.all_cons, List.all_nil, Bool.and_true, Bool.and_eq_true] at h
  obtain ⟨o1, o2, o3, o4⟩ := h
  exact ⟨rfl, sameW_val o1 f1, sameW_val o2 f2, sameW_val o3 f3, sameW_val o4 f4, fun h => by simp [Rc.ce, Ce.rc] at h⟩
theorem lText_ne (haw : Gives CC 9 [] [.c (.bool true)]) {l : List Rc} (hne : l ≠ []) : Gives CC 7 [.c (.sl (rcs l))] [.c (.bool true)] := by
 haveI := effTx_ok hne
 have up : ∀ {f : Nat} {al rs : List A}, Gives CC f al rs → Gives (CTx l) f al rs := fun h => gives_cx (C := CC) rfl rfl h
 refine gives_cx (C := CTx l) rfl rfl
  (wpF_ok (C := CTx l) (anns := fun _ => ⟨[], [], fun _ _ => True, fun _ => 0⟩) mixedT Tryz.func7 ?_)
 rw [CTx, vc_lText]
 refine ⟨_, up haw, brb (fun h => by simp at h) (fun _ => ⟨_, up eSmallC_ok, brb (fun _ => ⟨_, up haw, rfl⟩) (fun h => ?_)⟩)⟩
 have hs : smallC l = true := by simpa using h
 unfold smallC at hs
 simp only [Bool.and_eq_true, decide_eq_true_eq] at hs
 obtain ⟨h20, hall⟩ := hs
 have hf : ∀ x ∈ l, x.few := fun x hx => fewC_iff.1 (List.all_eq_true.1 hall x hx)
 have hm : ∀ x ∈ l, x.mid := fun x hx => (hf x hx).mid
 refine ⟨yesT_iff.2 ⟨rfl, by omega⟩, _, up (cFmt_ne hne (by omega) hm), _, up (eFmt_ok (by omega) hf), brb (fun h => by simp at h) (fun _ => brb (fun _ => rfl) (fun h => ?_))⟩
 have hok : l.all Rc.ok = true := by
  cases ho : l.all Rc.ok with
  | true => rfl
  | false =>
   unfold fmtT at h
   rw [ho] at h
   simp at h
 have ht : fmtT l = textX (l.map Rc.ce) := by unfold fmtT; rw [hok]
 have hlen := textX_few hok hf
 have hp := cParse_ok (s := textX (l.map Rc.ce)) (by
  have := Nat.mul_le_mul_right 288 (show l.length ≤ 20 by omega)
  omega)
 rw [parT_text] at hp
 have hS := eSame_ok (X := (l.map Rc.ce).map Ce.rc) (Y := l) (by simp) (by simp; omega) (fun k h1 h2 => by
  rw [List.getElem_map, List.getElem_map]
  exact sameC_ce (List.all_eq_true.1 hok _ (List.getElem_mem h2)) (hf _ (List.getElem_mem h2)))
 rw [← rows_rc] at hS
 rw [ht]
 exact ⟨_, _, _, up hp, brb (fun _ => brb (fun _ => ⟨_, up hS, rfl⟩) (fun h => by simp at h)) (fun h => by simp at h)⟩
theorem lText_nil (haw : Gives CC 9 [] [.c (.bool true)]) : Gives CC 7 [.c (.sl [])] [.c (.bool true)] := by
 refine wpF_ok (C := CC) (anns := fun _ => ⟨[], [], fun _ _ => True, fun _ => 0⟩) mixedT Tryz.func7 ?_
 rw [vc_lText0]
 have e := eFmt_ok (l := []) (by simp) (by simp)
 have e2 : fmtT [] = [] := rfl
 rw [e2] at e
 exact ⟨_, haw, brb (fun h => by simp at h) (fun _ => ⟨_, eSmallC_ok (l := []), brb (fun _ => ⟨_, haw, rfl⟩) (fun _ => ⟨_, cloneC0_ok, _, cFmt0_ok, _, e, brb (fun h => by simp at h) (fun _ => brb (fun _ => rfl) (fun h => by simp at h))⟩)⟩)⟩
theorem lText_ok (haw : Gives CC 9 [] [.c (.bool true)]) (l : List Rc) : Gives CC 7 [.c (.sl (rcs l))] [.c (.bool true)] := by
 by_cases h : l = []
 ·subst h; exact lText_nil haw
 ·exact lText_ne haw h
end Eng
end
