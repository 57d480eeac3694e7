/- The law CoverQuarter. -/
import Derived.Test.YtkkodaemmgpgfaaGreatDoorCqA
section
namespace Eng
open Go Go.Proofs
set_option maxRecDepth 100000
def ofB (c : Bx) : Rb := ⟨ofR c.x0, ofR c.y0, ofR c.x1, ofR c.y1⟩
theorem ofB_bx (c : Bx) : (ofB c).bx = c := by
 unfold Rb.bx ofB
 simp only [(ofR_ok _).2]
theorem ofB_ok {c : Bx} (h : c.x0 < c.x1 ∧ c.y0 < c.y1) : (ofB c).ok = true := by
 simp only [Rb.ok, ofB, okB, (ofR_ok _).1, (ofR_ok _).2, Bool.true_and, Bool.and_eq_true, decide_eq_true_eq]
 exact h
theorem ofB_mid {c : Bx} (h : c.sr) : (ofB c).mid := ⟨ofR_mid h.1, ofR_mid h.2.1, ofR_mid h.2.2.1, ofR_mid h.2.2.2⟩
theorem cover_bx {b : Rb} (hb : b.mid) (ho : b.ok = true) {l : List Bx} (hl : ∀ c ∈ l, c.sr ∧ (c.x0 < c.x1 ∧ c.y0 < c.y1)) (hn : l.length ≤ 1000) (hne : l ≠ []) :
 Gives CC 17 [.ag b.cs, .c (.sl (bxs l))] [.c (.bool (coverP b.bx l))] := by
 have h := cover_ok (b := b) (l := l.map ofB) hb (fun x hx => by
  obtain ⟨c, hc, rfl⟩ := List.mem_map.1 hx
  exact ofB_mid (hl c hc).1) (by simpa using hn) (fun e => hne (by simpa using e))
 have e1 : rbs (l.map ofB) = bxs l := by simp only [rbs, bxs, List.map_map]; rfl
 have e2 : (l.map ofB).map Rb.bx = l := by
  rw [List.map_map]
  have : Rb.bx ∘ ofB = id := funext ofB_bx
  rw [this, List.map_id]
 have e3 : (l.map ofB).all Rb.ok = true := by
  rw [List.all_eq_true]
  intro x hx
  obtain ⟨c, hc, rfl⟩ := List.mem_map.1 hx
  exact ofB_ok (hl c hc).2
 rw [e1, e2, e3, ho, Bool.true_and, Bool.true_and] at h
 exact h
theorem cover_bad {b : Rb} (hb : b.mid) (ho : b.ok = false) (l : List Rb) : Gives CC 17 [.ag b.cs, .c (.sl (rbs l))] [.c (.bool false)] := by
 have g46 : Gives CVS 46 [.ag b.cs] [.c (.bool b.ok)] := gives_cx (C := CC) rfl rfl (cvalidBox_mid hb.1 hb.2.1 hb.2.2.1 hb.2.2.2)
 refine gives_cx (C := CVS) rfl rfl (wpF_ok (C := CVS) (anns := ann4
  ⟨[.slot 42 (.int .i64 0), .cel 5 125 4, .cel 6 126 4], [], fun _ _ => False, fun _ => 0⟩
  ⟨[.slot 71 (.int .i64 0), .own 11 127 4], [], fun _ _ => False, fun _ => 0⟩
  ⟨[.slot 14 (.int .i64 0)], [], fun _ _ => False, fun _ => 0⟩
  ⟨[.slot 15 (.int .i64 0), .slot 96 (.int .i64 0)], [.slot 14 (.int .i64 0)], fun _ _ => False, fun _ => 0⟩) mixedT Tryz.func17 ?_)
 rw [Rb.cs_eq] at g46
 rw [Rb.cs_eq, vc_cover]
 refine ⟨_, g46, brb (fun _ => rfl) (fun h => ?_)⟩
 rw [ho] at h; simp at h
theorem eff_cq {ck : Ck1} {mk : Mk1} {cd : Ck2} {md : Mk2} (h1 : ∀ al, ck al = true → mk al ≠ [] ∧ GivesC CC 18 al none [] 16 (mk al))
 (h3 : ∀ es al, cd es al = true → es ≠ [] ∧ md es al ≠ [] ∧ GivesC CC 33 [] (some (16, es)) al 16 (md es al)) : EffOk (CQx ck mk cd md) :=
 effOk_all (effX_ok ⟨
  effAt_cl Tryz.func18 (by simp [Tryz.f18]) (by decide) fun al h => ⟨(h1 al h).1, givesC_cx (C := CC) rfl rfl (h1 al h).2⟩,
  effAt_co Tryz.func33 (by simp [Tryz.f33]) (by decide) fun es al h => ⟨(h3 es al h).1, (h3 es al h).2.1, givesC_cx (C := CC) rfl rfl (h3 es al h).2.2⟩, trivial⟩)
noncomputable def yesB (p : Prop) : Bool := @decide p (Classical.propDecidable p)
theorem yesB_iff {p : Prop} : yesB p = true ↔ p := by unfold yesB; exact @decide_eq_true_iff p (Classical.propDecidable p)
noncomputable def ckQ (l : List Bx) : Ck1 := fun al => yesB (al = [.c (.sl (bxs l))])
noncomputable def mkQ (l : List Bx) : Mk1 := fun _ => bxs l
noncomputable def cdQ (l : List Bx) (i : Nat) : Ck2 := fun es al => yesB (es = bxs l ∧ al = [.c (.int .i64 i), .c (.int .i64 ((i + 1 : Nat) : Int))])
noncomputable def mdQ (l : List Bx) (i : Nat) : Mk2 := fun _ _ => bxs (l.take i ++ l.drop (i + 1))
theorem qs_len (B : Bx) : (qs B).length = 4 := rfl
theorem qs_ne (B : Bx) : qs B ≠ [] := fun e => by have := qs_len B; rw [e] at this; simp at this
theorem bxs_del (l : List Bx) (i : Nat) : bxs (l.take i ++ l.drop (i + 1)) = (bxs l).take i ++ (bxs l).drop (i + 1) := by
 simp [bxs, List.map_take, List.map_drop]
theorem eff_q {l : List Bx} {i : Nat} (hi : i < l.length) (h2 : 2 ≤ l.length) (hl : l.length ≤ 1073741824) : EffOk (CQx (ckQ l) (mkQ l) (cdQ l i) (mdQ l i)) := by
 have hne : l ≠ [] := fun e => by rw [e] at h2; simp at h2
 refine eff_cq (fun al h => ?_) (fun es al h => ?_)
 ·have h : al = [.c (.sl (bxs l))] := yesB_iff.1 h
  subst h
  exact ⟨bxs_ne hne, cloneB_ok hne hl⟩
 ·obtain ⟨rfl, rfl⟩ : es = bxs l ∧ al = [.c (.int .i64 i), .c (.int .i64 ((i + 1 : Nat) : Int))] := yesB_iff.1 h
  refine ⟨bxs_ne hne, bxs_ne fun e => ?_, ?_⟩
  ·have := congrArg List.length e
   simp only [List.length_append, List.length_take, List.length_drop, List.length_nil] at this
   omega
  ·have := delete_ok (C := CC) rfl (es := bxs l) (i := i) (j := i + 1) (by omega) (by rw [bxs_length]; omega) (lens_bxs l)
   rw [← bxs_del] at this
   exact this
theorem lQuarter_ok (haw : Gives CC 9 [] [.c (.bool true)]) (b : Rb) {n : Int} (h0 : 0 ≤ n) (hn : n < 256) : Gives CC 6 [.ag b.cs, .c (.int .u8 n)] [.c (.bool true)] := by
 have hS := cSmall_ok b.a b.b b.c b.d 2
 obtain ⟨k, rfl⟩ := Int.eq_ofNat_of_zero_le h0
 have hi : k % 4 < 4 := Nat.mod_lt _ (by omega)
 have hm : IntKind.wrap .i64 (k : Int) = (k : Int) := i64w (by omega) (by omega)
 have key : ∀ (hf : (fewN b.a 2 && (fewN b.b 2 && (fewN b.c 2 && fewN b.d 2))) = true), b.a.few ∧ b.b.few ∧ b.c.few ∧ b.d.few := fun hf => by
  simp only [Bool.and_eq_true] at hf
  rw [few_iff, few_iff, few_iff, few_iff] at hf
  exact hf
 haveI : EffOk (CQx (ckQ (qs b.bx)) (mkQ (qs b.bx)) (cdQ (qs b.bx) (k % 4)) (mdQ (qs b.bx) (k % 4))) := eff_q hi (by rw [qs_len]; omega) (by rw [qs_len]; omega)
 have up : ∀ {f : Nat} {al rs : List A}, Gives CC f al rs → Gives (CQx (ckQ (qs b.bx)) (mkQ (qs b.bx)) (cdQ (qs b.bx) (k % 4)) (mdQ (qs b.bx) (k % 4))) f al rs := fun h => gives_cx (C := CC) rfl rfl h
 refine gives_cx (C := CQx (ckQ (qs b.bx)) (mkQ (qs b.bx)) (cdQ (qs b.bx) (k % 4)) (mdQ (qs b.bx) (k % 4))) rfl rfl
  (wpF_ok (C := CQx (ckQ (qs b.bx)) (mkQ (qs b.bx)) (cdQ (qs b.bx) (k % 4)) (mdQ (qs b.bx) (k % 4))) (anns := fun _ => ⟨[], [], fun _ _ => True, fun _ => 0⟩) mixedT Tryz.func6 ?_)
 rw [Rb.cs_eq, vc_lQuarter, ← Rb.cs_eq]
 simp only [Int.ofNat_eq_natCast]
 refine ⟨_, up haw, brb (fun h => by simp at h) (fun _ => ⟨_, up hS, brb (fun _ => ⟨_, up haw, rfl⟩) (fun hf => ?_)⟩)⟩
 have hf : (fewN b.a 2 && (fewN b.b 2 && (fewN b.c 2 && fewN b.d 2))) = true := by simpa using hf
 obtain ⟨fa, fb, fc, fd⟩ := key hf
 have hmid : b.mid := ⟨fa.mid, fb.mid, fc.mid, fd.mid⟩
 have g1 : Gives CC 46 [.ag b.cs] [.c (.bool b.ok)] := cvalidBox_mid hmid.1 hmid.2.1 hmid.2.2.1 hmid.2.2.2
 have g2 : Gives CC 32 [.ag b.cs] [.c (.bool b.ok)] := eValid_ok fa fb fc fd
 cases ho : b.ok with
 | false =>
  rw [ho] at g1 g2
  have e0 := equalF_self (l := []) (by decide) (fun _ h => by simp at h)
  exact ⟨_, up (cQuarter_no g1), _, up (eQuarter_no g2), _, up e0, brb (fun h => by simp at h) (fun _ => ⟨_, up g2, brb (fun _ => brb (fun _ => ⟨_, up (cover_bad hmid ho []), rfl⟩) (fun h => by simp at h)) (fun h => by simp at h)⟩)⟩
 | true =>
  rw [ho] at g1 g2
  obtain ⟨ecs, _⟩ := bx_cs ho hmid
  have ho2 := ho
  simp only [Rb.ok, okB, Bool.and_eq_true, decide_eq_true_eq] at ho2
  obtain ⟨oa, ob, oc, od, hlt⟩ := ho2
  have hz : b.bx.sz 18 := ⟨(Rw.val_ok oa fa).2, (Rw.val_ok ob fb).2, (Rw.val_ok oc fc).2, (Rw.val_ok od fd).2⟩
  have hlt : b.bx.x0 < b.bx.x1 ∧ b.bx.y0 < b.bx.y1 := hlt
  have qz := qs_sz hz
  have qo := qs_ok hlt
  have q1 : Gives CC 28 [.ag b.cs] [.c (.sl (bxs (qs b.bx)))] := by rw [ecs] at g1 ⊢; exact cQuarter_ok hz g1
  have q2 : Gives CC 30 [.ag b.cs] [.c (.sl (bxs (qs b.bx)))] := by rw [ecs] at g2 ⊢; exact eQuarter_ok hz g2
  have hsr : ∀ c ∈ qs b.bx, c.sr := fun c hc => by
   obtain ⟨z1, z2, z3, z4⟩ := qz c hc
   exact ⟨z1.sr (by omega), z2.sr (by omega), z3.sr (by omega), z4.sr (by omega)⟩
  have e0 := equalF_self (l := qs b.bx) (by rw [qs_len]; omega) hsr
  have c1 := cover_bx hmid ho (l := qs b.bx) (fun c hc => ⟨hsr c hc, qo c hc⟩) (by rw [qs_len]; omega) (qs_ne _)
  have hsub : ∀ c ∈ (qs b.bx).take (k % 4) ++ (qs b.bx).drop (k % 4 + 1), c ∈ qs b.bx := fun c hc => by
   rcases List.mem_append.1 hc with hc | hc
   ·exact List.mem_of_mem_take hc
   ·exact List.mem_of_mem_drop hc
  have hlen : ((qs b.bx).take (k % 4) ++ (qs b.bx).drop (k % 4 + 1)).length = 3 := by
   have : (qs b.bx).length = 4 := rfl
   simp only [List.length_append, List.length_take, List.length_drop, this]; omega
  have c2 := cover_bx hmid ho (l := (qs b.bx).take (k % 4) ++ (qs b.bx).drop (k % 4 + 1)) (fun c hc => ⟨hsr c (hsub c hc), qo c (hsub c hc)⟩) (by omega) (fun e => by rw [e] at hlen; simp at hlen)
  have r1 : coverP b.bx (qs b.bx) = true := (coverP_iff hlt (by rw [qs_len]; omega)).2 (qs_cov b.bx)
  have r2 : coverP b.bx ((qs b.bx).take (k % 4) ++ (qs b.bx).drop (k % 4 + 1)) = false := by
   cases h : coverP b.bx ((qs b.bx).take (k % 4) ++ (qs b.bx).drop (k % 4 + 1)) with
   | false => rfl
   | true => exact absurd ((coverP_iff hlt (by omega)).1 h) (qs_less hlt hi)
  rw [r1] at c1
  rw [r2] at c2
  have hl4 : (bxs (qs b.bx)).length = 4 := rfl
  have ht : Int.tmod (k : Int) 4 = ((k % 4 : Nat) : Int) := by rw [Int.tmod_eq_emod_of_nonneg (by omega)]; omega
  have hw : IntKind.wrap .i64 (((k % 4 : Nat) : Int) + 1) = ((k % 4 + 1 : Nat) : Int) := by rw [i64w (by omega) (by omega)]; omega
  refine ⟨_, up q1, _, up q2, _, up e0, brb (fun h => by simp at h) (fun _ => ⟨_, up g2, brb (fun h => by simp at h) (fun _ => ?_)⟩)⟩
  rw [hl4, hm]
  simp only [Int.cast_ofNat_Int]
  rw [ht, hw]
  refine ⟨by decide, yesB_iff.2 rfl, _, up c1, brb' (fun _ => ⟨yesB_iff.2 rfl, yesB_iff.2 ⟨rfl, rfl⟩, _, up c2, rfl⟩) (fun h => by simp at h)⟩
end Eng
end
