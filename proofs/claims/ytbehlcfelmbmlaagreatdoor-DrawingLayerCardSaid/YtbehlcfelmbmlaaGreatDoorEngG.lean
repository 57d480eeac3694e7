/- The engine, part 38: calls that turn a local struct of two arrays, by a pointer to it. -/
import Derived.Test.YtbehlcfelmbmlaaGreatDoorEngF
section
namespace Eng
open Go Go.RowKit
def LentV (P : Program) (w : World) (F : Nat → Prop) (s : Nat) (es : List (List D)) (v : Value) : Option Nat → Prop
 | none => es = [] ∧ v = .slice none 0 0
 | some b => es ≠ [] ∧ ∃ c cs t, v = .slice (some ⟨b, 0, none⟩) es.length c ∧ LentOk P w F b c cs t s es
structure BoxIn (P : Program) (w : World) (F : Nat → Prop) (g s : Nat) (xs ys : List (List D)) (b1 b2 : Option Nat) (v1 v2 : Value) (t : TypeId) : Prop where
 nF : ¬ F g
 lt : g < w.heap.size
 blk : w.heap[g]? = some (.cells #[v1, v2] t (0, 0))
 r1 : LentV P w F s xs v1 b1
 r2 : LentV P w F s ys v2 b2
 n1 : b1 ≠ some g
 n2 : b2 ≠ some g
 n12 : ∀ x, b1 = some x → b2 ≠ some x
def boxX (g : Nat) (b1 b2 : Option Nat) (x : Nat) : Prop := x = g ∨ b1 = some x ∨ b2 = some x
def OutB (P : Program) (w : World) (F : Nat → Prop) (g s : Nat) (b1 b2 : Option Nat) (xs' ys' : List (List D)) (v : Value) (w' : World) : Prop :=
 BelowX ⟨w.heap.size, boxX g b1 b2⟩ w w' ∧
  ∃ (F' : Nat → Prop) (u1 c1 : Nat) (cs1 : Array Value) (t1 : TypeId) (u2 c2 : Nat) (cs2 : Array Value) (t2 : TypeId) (t' : TypeId), (∀ x, F x → F' x) ∧ (∀ x, F' x → x < w'.heap.size ∧ (F x ∨ Own ⟨w.heap.size, boxX g b1 b2⟩ x)) ∧ CRes w' F' [] v ∧
   ¬ F' g ∧ w'.heap[g]? = some (.cells #[.slice (some ⟨u1, 0, none⟩) xs'.length c1, .slice (some ⟨u2, 0, none⟩) ys'.length c2] t' (0, 0)) ∧
   LentOk P w' F' u1 c1 cs1 t1 s xs' ∧ LentOk P w' F' u2 c2 cs2 t2 s ys' ∧ u1 ≠ u2 ∧ u1 ≠ g ∧ u2 ≠ g ∧ Own ⟨w.heap.size, boxX g b1 b2⟩ u1 ∧ Own ⟨w.heap.size, boxX g b1 b2⟩ u2
def GivesB (C : Cx) (f s : Nat) (xs ys : List (List D)) (post : List A) (xs' ys' : List (List D)) : Prop :=
 ∀ (w : World) (F : Nat → Prop) (vs2 : List Value) (g : Nat) (b1 b2 : Option Nat) (v1 v2 : Value) (t : TypeId), (∀ b, F b → b < w.heap.size) → Inv C F w → All2 (CA w F) post vs2 → BoxIn C.P w F g s xs ys b1 b2 v1 v2 t →
  Calls C.P f (.pointer (some ⟨g, 0, none⟩) :: vs2).toArray w fun e w' => ∃ v, e = .returned v ∧ OutB C.P w F g s b1 b2 xs' ys' v w'
theorem givesB_cx {C C' : Cx} (hP : C'.P = C.P) (hG : C'.G = C.G) {f s : Nat} {xs ys xs' ys' : List (List D)} {post : List A} (h : GivesB C f s xs ys post xs' ys') : GivesB C' f s xs ys post xs' ys' := by
 intro w F vs2 g b1 b2 v1 v2 t hb hi h2 hl
 rw [hP] at hl ⊢
 exact h w F vs2 g b1 b2 v1 v2 t hb (inv_cx hG.symm hi) h2 hl
def keyB (n : Nat) : Nat := n
def vOfB (k : Nat) (es : List (List D)) : V := match es with
 | [] => .nilS
 | _ :: _ => .arr k
def oOfB (s : Nat) (es : List (List D)) : Obj := match es with
 | [] => .none
 | _ :: _ => .arr s es false
def objsB (n s : Nat) (xs ys : List (List D)) : List Obj := upd (upd (upd (List.replicate (n + 8) .none) (keyB n) (.box [vOfB (keyB n + 1) xs, vOfB (keyB n + 2) ys])) (keyB n + 1) (oOfB s xs)) (keyB n + 2) (oOfB s ys)
def initB (n s : Nat) (xs ys : List (List D)) (post : List A) (g : Nat) : St :=
 ⟨.boxAt (keyB n) g :: (post.map argV ++ List.replicate (n - (1 + post.length)) .any), objsB n s xs ys, []⟩
def notE2 : List (List D) → Bool
 | [] => false
 | _ :: _ => true
def endX (C : Cx) (fn : Func) (st : St) : Option (List (List D) × List (List D) × Nat × Nat × Nat) :=
 match resD C st fn.results.toList with
 | some [] => match nth .any st.tmps 0 with
  | .boxAt k g => match Nat.beq k (keyB fn.ntmps), nth .none st.objs (keyB fn.ntmps) with
   | true, .box [.arr k1, .arr k2] => match nth .none st.objs k1, nth .none st.objs k2 with
    | .arr s1 xs false, .arr s2 ys false => match !Nat.beq k1 k2 && (notE2 xs && notE2 ys) with
     | true => some (xs, ys, s1, s2, g)
     | false => none
    | _, _ => none
   | _, _ => none
  | _ => none
 | _ => none
def runFb (tab : Nat → List A → Option (List A)) (C : Cx) (lim n f s : Nat) (xs ys : List (List D)) (post : List A) (g : Nat) : Option (List (List D) × List (List D) × Nat × Nat × Nat) :=
 match C.P.funcs[f]? with
 | none => none
 | some fn => match fn.body with
  | none => none
  | some b => match runC (runF tab C lim n) C lim b (initB fn.ntmps s xs ys post g) with
   | some (.normal, st) => endX C fn st
   | some (.ret, st) => endX C fn st
   | _ => none
section
variable {C : Cx}
theorem nth_objsB {n s : Nat} {xs ys : List (List D)} (k : Nat) : nth .none (objsB n s xs ys) k = if k = n then .box [vOfB (n + 1) xs, vOfB (n + 2) ys] else if k = n + 1 then oOfB s xs else if k = n + 2 then oOfB s ys else .none := by
 unfold objsB keyB
 by_cases h2 : n + 2 = k
 ·subst h2
  rw [nth_upd_same _ _ _ (by simp only [length_upd, List.length_replicate]; omega), if_neg (by omega), if_neg (by omega), if_pos rfl]
 rw [nth_upd_ne _ _ _ h2]
 by_cases h1 : n + 1 = k
 ·subst h1
  rw [nth_upd_same _ _ _ (by simp only [length_upd, List.length_replicate]; omega), if_neg (by omega), if_pos rfl]
 rw [nth_upd_ne _ _ _ h1]
 by_cases h0 : n = k
 ·subst h0
  rw [nth_upd_same _ _ _ (by simp only [List.length_replicate]; omega), if_pos rfl]
 rw [nth_upd_ne _ _ _ h0, nth_rep, if_neg (Ne.symm h0), if_neg (Ne.symm h1), if_neg (Ne.symm h2)]
theorem lentV_at {P : Program} {w : World} {F : Nat → Prop} {s : Nat} {es : List (List D)} {v : Value} {b : Option Nat} (h : LentV P w F s es v b) :
 ∃ (l : Option (Nat × Nat)) (t : TypeId), l.map (·.1) = b ∧ ((es = [] ∧ l = none ∧ v = .slice none 0 0) ∨ ∃ u c cs, es ≠ [] ∧ l = some (u, c) ∧ b = some u ∧ v = .slice (some ⟨u, 0, none⟩) es.length c ∧ LentOk P w F u c cs t s es) := by
 cases b with
 | none => exact ⟨none, 0, rfl, .inl ⟨h.1, rfl, h.2⟩⟩
 | some u =>
  obtain ⟨hne, c, cs, t, h1, h2⟩ := h
  exact ⟨some (u, c), t, rfl, .inr ⟨u, c, cs, hne, rfl, rfl, h1, h2⟩⟩
theorem init_hasB {n s g : Nat} {xs ys : List (List D)} {post : List A} {vs2 : List Value} {w : World} {F : Nat → Prop} {b1 b2 : Option Nat} {v1 v2 : Value} {t : TypeId} (hb : ∀ b, F b → b < w.heap.size) (hinv : Inv C F w) (h2 : All2 (CA w F) post vs2) (hL : BoxIn C.P w F g s xs ys b1 b2 v1 v2 t) :
 St.has C ⟨w.heap.size, boxX g b1 b2⟩ F w (initB n s xs ys post g) { tmps := (Value.pointer (some ⟨g, 0, none⟩) :: vs2).toArray ++ Array.replicate (n - (Value.pointer (some ⟨g, 0, none⟩) :: vs2).toArray.size) undef, defers := [] } w := by
 have hl2 := h2.length
 obtain ⟨l1, t1, e1, q1⟩ := lentV_at hL.r1
 obtain ⟨l2, t2, e2, q2⟩ := lentV_at hL.r2
 have hn := fun k => nth_objsB (n := n) (s := s) (xs := xs) (ys := ys) k
 let loc : Where := ⟨C.P, fun k => if k = n then some (g, 0) else if k = n + 1 then l1 else if k = n + 2 then l2 else none, fun k => if k = n + 1 then t1 else t2⟩
 have hl : ∀ k x y, loc k = some (x, y) → (k = n ∧ x = g) ∨ (k = n + 1 ∧ b1 = some x) ∨ (k = n + 2 ∧ b2 = some x) := fun k x y h => by
  simp only [loc] at h
  split at h
  ·simp only [Option.some.injEq, Prod.mk.injEq] at h; exact .inl ⟨‹_›, h.1.symm⟩
  ·split at h
   ·exact .inr (.inl ⟨‹_›, by rw [← e1, h]; rfl⟩)
   ·split at h
    ·exact .inr (.inr ⟨‹_›, by rw [← e2, h]; rfl⟩)
    ·simp at h
 have hrow : ∀ (k : Nat) (es : List (List D)) (v : Value) (l : Option (Nat × Nat)) (b : Option Nat) (tt : TypeId), nth .none (objsB n s xs ys) k = oOfB s es → loc k = l → loc.ty k = tt →
  ((es = [] ∧ l = none ∧ v = .slice none 0 0) ∨ ∃ u c cs, es ≠ [] ∧ l = some (u, c) ∧ b = some u ∧ v = .slice (some ⟨u, 0, none⟩) es.length c ∧ LentOk C.P w F u c cs tt s es) →
  CV loc (objsB n s xs ys) w F (vOfB k es) v ∧ v.oneCell' = true ∧ Ref (objsB n s xs ys) (vOfB k es) ∧ CO loc (objsB n s xs ys) w F k (oOfB s es) := by
  intro k es v l b tt ho hlk hty h
  rcases h with ⟨rfl, rfl, rfl⟩ | ⟨u, c, cs, hne, rfl, _, rfl, hL⟩
  ·exact ⟨rfl, rfl, trivial, hlk⟩
  ·cases es with
   | nil => exact absurd rfl hne
   | cons e r =>
    refine ⟨fun s' es' fz' hc => ?_, rfl, fun hc => ?_, ⟨hL.room, hL.s0, hL.lens, .inr ⟨u, c, cs, tt, hlk, by simpa using hL.nF, hL.blk, hL.sz, hL.lc, hL.cd, hL.ct, hty⟩⟩⟩
    ·rw [ho] at hc
     simp only [oOfB, Obj.arr.injEq] at hc
     obtain ⟨rfl, rfl, rfl⟩ := hc
     exact .inl ⟨u, c, hlk, rfl⟩
    ·rw [ho] at hc; simp [oOfB] at hc
 have r1 := hrow (n + 1) xs v1 l1 b1 t1 (by rw [hn, if_neg (by omega), if_pos rfl]) (by simp [loc]) (by simp [loc]) q1
 have r2 := hrow (n + 2) ys v2 l2 b2 t2 (by rw [hn, if_neg (by omega), if_neg (by omega), if_pos rfl]) (by simp [loc]) (by simp [loc]) q2
 refine ⟨F, loc, ⟨rfl, BelowX.refl _ _, Nat.le_refl _, rfl, ?_, fun v hv => ?_, fun k => ?_, ?_, ?_, hb, fun b h => .inl h, fun _ h => h, hinv⟩⟩
 ·simp only [initB, Array.toList_append, Array.toList_replicate, List.size_toArray, List.cons_append]
  refine ⟨fun o _ _ => ⟨⟨0, by simp [loc, keyB]⟩, rfl⟩, all2_app (argV_ok h2) ?_⟩
  have e : (Value.pointer (some ⟨g, 0, none⟩) :: vs2).length = 1 + post.length := by simp only [List.length_cons]; omega
  rw [e]
  exact all2_rep trivial _
 ·simp only [initB, List.mem_append, List.mem_cons, List.mem_map, List.mem_replicate] at hv
  rcases hv with rfl | ⟨x, _, rfl⟩ | ⟨_, rfl⟩
  ·show nth .none (objsB n s xs ys) n ≠ .none
   rw [hn, if_pos rfl]; simp
  ·exact argV_ref x
  ·trivial
 ·simp only [initB]
  rw [hn]
  split
  ·rename_i e
   refine ⟨g, 0, #[v1, v2], t, by simp [loc, e], hL.nF, hL.blk, ⟨⟨r1.1, r1.2.1⟩, ⟨r2.1, r2.2.1⟩, trivial⟩, fun v hv => ?_⟩
   simp only [List.mem_cons, List.not_mem_nil, or_false] at hv
   rcases hv with rfl | rfl
   ·exact r1.2.2.1
   ·exact r2.2.2.1
  ·rename_i e0
   split
   ·rename_i e; subst e; exact r1.2.2.2
   ·rename_i e1
    split
    ·rename_i e; subst e; exact r2.2.2.2
    ·rename_i e2
     show loc k = none
     simp only [loc]
     rw [if_neg e0, if_neg e1, if_neg e2]
 ·intro k k' b c c' p1 p2
  rcases hl _ _ _ p1 with ⟨a1, a2⟩ | ⟨a1, a2⟩ | ⟨a1, a2⟩ <;> rcases hl _ _ _ p2 with ⟨a3, a4⟩ | ⟨a3, a4⟩ | ⟨a3, a4⟩
  ·omega
  ·exact absurd (a2 ▸ a4) hL.n1
  ·exact absurd (a2 ▸ a4) hL.n2
  ·exact absurd (a4 ▸ a2) hL.n1
  ·omega
  ·exact absurd a4 (hL.n12 _ a2)
  ·exact absurd (a4 ▸ a2) hL.n2
  ·exact absurd a2 (hL.n12 _ a4)
  ·omega
 ·intro k b c p1
  rcases hl _ _ _ p1 with ⟨a1, a2⟩ | ⟨a1, a2⟩ | ⟨a1, a2⟩
  ·exact ⟨.inr (.inl a2), a2 ▸ hL.lt⟩
  ·refine ⟨.inr (.inr (.inl a2)), ?_⟩
   rcases q1 with ⟨_, z1, _⟩ | ⟨u, c', cs, _, _, z1, _, hx⟩
   ·rw [z1] at e1; rw [← e1] at a2; simp at a2
   ·rw [a2] at z1; simp only [Option.some.injEq] at z1; rw [z1]; exact hx.lt
  ·refine ⟨.inr (.inr (.inr a2)), ?_⟩
   rcases q2 with ⟨_, z1, _⟩ | ⟨u, c', cs, _, _, z1, _, hx⟩
   ·rw [z1] at e2; rw [← e2] at a2; simp at a2
   ·rw [a2] at z1; simp only [Option.some.injEq] at z1; rw [z1]; exact hx.lt
theorem runFb_ok [EffOk C] {tab : Nat → List A → Option (List A)} {lim : Nat} (hm : C.P.follows .mixedOrders = true) (htab : ∀ f as rs, tab f as = some rs → Gives C f as rs) {n f s : Nat} {xs ys xs' ys' : List (List D)} {post : List A}
 (h : ∀ g, runFb tab C lim n f s xs ys post g = some (xs', ys', s, s, g)) : GivesB C f s xs ys post xs' ys' := by
 intro w F vs2 g b1 b2 v1 v2 t hb hinv h2 hL
 have h := h g
 unfold runFb at h
 split at h
 ·simp at h
 rename_i fn hf
 split at h
 ·simp at h
 rename_i b hbd
 have key : ∀ (x : X) (s' : St), (x = .normal ∨ x = .ret) → runC (runF tab C lim n) C lim b (initB fn.ntmps s xs ys post g) = some (x, s') → endX C fn s' = some (xs', ys', s, s, g) → Calls C.P f (.pointer (some ⟨g, 0, none⟩) :: vs2).toArray w fun e w' => ∃ v, e = .returned v ∧ OutB C.P w F g s b1 b2 xs' ys' v w' := by
  intro x s' hx hr hend
  refine calls_of_wp hf hbd (Code.wp_mono (fun e a' w' hp => ?_) (runC_ok hm (fun f as rs h => runF_ok hm htab n f as rs h) lim b _ s' x _ w hr (init_hasB hb hinv h2 hL)))
  obtain ⟨he, hh⟩ := hp
  have fin : a'.defers = [] ∧ ∃ v, (results fn a'.tmps).run C.P w' = .ok v w' ∧ ∃ v', Ending.returned v = .returned v' ∧ OutB C.P w F g s b1 b2 xs' ys' v' w' := by
   obtain ⟨F', loc', hcc⟩ := hh
   unfold endX at hend
   split at hend
   ·rename_i has
    split at hend
    ·rename_i k g1 h0
     split at hend
     ·rename_i k1 k2 hkb hob
      split at hend
      ·rename_i s1 xs1 s2 ys1 ho1 ho2
       split at hend
       ·rename_i hck
        simp only [Option.some.injEq, Prod.mk.injEq] at hend
        obtain ⟨rfl, rfl, e3, e4, rfl⟩ := hend
        rw [e3] at ho1
        rw [e4] at ho2
        simp only [Bool.and_eq_true, Bool.not_eq_true'] at hck
        obtain ⟨hk12, hx1, hy1⟩ := hck
        have hk12 : k1 ≠ k2 := fun e => by subst e; simp at hk12
        obtain ⟨hd, v, hv1, hv2⟩ := resD_okF hcc has (fun r hr => by simp at hr)
        have hk := Nat.eq_of_beq_eq_true hkb
        subst hk
        have hc0 := (slot_ok hcc 0).1
        rw [h0] at hc0
        obtain ⟨⟨cg, q1⟩, q2⟩ := hc0 _ hob rfl
        have hco := hcc.objs (keyB fn.ntmps)
        rw [hob] at hco
        obtain ⟨gb, cb, cs, t', p1, p2, p3, p4, p5⟩ := hco
        rw [p1] at q1
        simp only [Option.some.injEq, Prod.mk.injEq] at q1
        obtain ⟨rfl, rfl⟩ := q1
        have arr : ∀ (kk : Nat) (es : List (List D)) (x : Value), nth .none s'.objs kk = .arr s es false → notE2 es = true → CV loc' s'.objs w' F' (.arr kk) x → ∃ u c cs t, loc' kk = some (u, c) ∧ x = .slice (some ⟨u, 0, none⟩) es.length c ∧ LentOk C.P w' F' u c cs t s es := by
         intro kk es x ho hne hv
         have hco := hcc.objs kk
         rw [ho] at hco
         obtain ⟨a1, a2, a3, a4⟩ := hco
         rcases a4 with ⟨_, a5⟩ | ⟨u, c, cs, t, a5, a6, a7, a8, a9, a10, a11, a12⟩
         ·rw [a5] at hne; simp [notE2] at hne
         ·rcases hv _ _ _ ho with ⟨b', c', r1, r2⟩ | ⟨r1, _⟩
          ·rw [a5] at r1
           simp only [Option.some.injEq, Prod.mk.injEq] at r1
           obtain ⟨rfl, rfl⟩ := r1
           exact ⟨u, c, cs, t, a5, r2, ⟨by simpa using a6, (hcc.fresh _ _ _ a5).2, a7, a8, a9, a1, a2, a3, by rw [← hcc.prog]; exact a11, a10⟩⟩
          ·rw [a5] at r1; simp at r1
        match hcs : cs.toList, p4 with
        | [x1, x2], p4 =>
         obtain ⟨⟨z1, _⟩, ⟨z2, _⟩, _⟩ := p4
         obtain ⟨u1, c1, cs1, t1, m1, m2, m3⟩ := arr _ _ _ ho1 hx1 z1
         obtain ⟨u2, c2, cs2, t2, m4, m5, m6⟩ := arr _ _ _ ho2 hy1 z2
         have hcs' : cs = #[x1, x2] := by apply Array.ext'; exact hcs
         have hbx : isBox (nth .none s'.objs (keyB fn.ntmps)) = true := by rw [hob]; rfl
         have hne1 : k1 ≠ keyB fn.ntmps := fun e => by rw [e, hob] at ho1; simp at ho1
         have hne2 : k2 ≠ keyB fn.ntmps := fun e => by rw [e, hob] at ho2; simp at ho2
         refine ⟨hd, v, hv1, v, rfl, hcc.below, F', u1, c1, cs1, t1, u2, c2, cs2, t2, t', hcc.fsup, fun x hx => ⟨hcc.bound x hx, hcc.fsub x hx⟩, hv2 F', p2, by rw [p3, hcs', m2, m5], m3, m6, fun e => ?_, fun e => ?_, fun e => ?_, (hcc.fresh _ _ _ m1).1, (hcc.fresh _ _ _ m4).1⟩
         ·subst e; exact hk12 (hcc.inj _ _ _ _ _ m1 m4)
         ·subst e; exact hne1 (hcc.inj _ _ _ _ _ m1 p1)
         ·subst e; exact hne2 (hcc.inj _ _ _ _ _ m4 p1)
       ·simp at hend
      ·simp at hend
     ·simp at hend
    ·simp at hend
   ·simp at hend
  rcases hx with rfl | rfl
  ·have he : e = .normal := he; subst he; exact fin
  ·have he : e = .ret := he; subst he; exact fin
 split at h
 ·rename_i s' hr; exact key _ _ (.inl rfl) hr h
 ·rename_i s' hr; exact key _ _ (.inr rfl) hr h
 ·simp at h
end
end Eng
end

section
namespace Eng
open Go Go.RowKit
def rowB (s : Nat) (ob : List Obj) : V → Option (List Nat × List (List D))
 | .nilS => some ([], [])
 | .arr k => match nth .none ob k with
  | .arr s0 es false => match Nat.beq s0 s && notE2 es with
   | true => some ([k], es)
   | false => none
  | _ => none
 | _ => none
def deads : List Nat → List (Nat × Obj)
 | [] => []
 | k :: r => (k, .dead) :: deads r
def effBx (s : Nat) (chk : List (List D) → List (List D) → List A → Bool) (mk : List (List D) → List (List D) → List A → List (List D) × List (List D)) (dst : Option Nat) (vs : List V) (ob : List Obj) : R :=
 match dst, vs with
 | some d, .box k 0 :: r => match nth .none ob k with
  | .box [v1, v2] => match rowB s ob v1, rowB s ob v2, toAs ob r with
   | some (k1, xs), some (k2, ys), some (al, []) => match freeKey ob d && freeKey ob (d + 1) && disj k1 k2 with
    | true => .cond (chk xs ys al = true) (resV []) (deads (k1 ++ k2) ++ [(d, .arr s (mk xs ys al).1 false), (d + 1, .arr s (mk xs ys al).2 false), (k, .box [.arr d, .arr (d + 1)])])
    | false => .fail
   | _, _, _ => .fail
  | _ => .fail
 | _, _ => .fail
theorem mem_deads {p : Nat × Obj} : ∀ {l : List Nat}, p ∈ deads l ↔ p.1 ∈ l ∧ p.2 = .dead
 | [] => by simp [deads]
 | k :: r => by
  simp only [deads, List.mem_cons]
  rw [mem_deads]
  constructor
  ·rintro (rfl | h)
   ·exact ⟨.inl rfl, rfl⟩
   ·exact ⟨.inr h.1, h.2⟩
  ·rintro ⟨h1 | h1, h2⟩
   ·exact .inl (Prod.ext h1 h2)
   ·exact .inr ⟨h1, h2⟩
theorem rowB_ok {s : Nat} {ob : List Obj} {v : V} {ks : List Nat} {es : List (List D)} (h : rowB s ob v = some (ks, es)) : (v = .nilS ∧ ks = [] ∧ es = []) ∨ ∃ k, v = .arr k ∧ ks = [k] ∧ es ≠ [] ∧ nth .none ob k = .arr s es false := by
 unfold rowB at h
 split at h
 ·simp only [Option.some.injEq, Prod.mk.injEq] at h
  exact .inl ⟨rfl, h.1.symm, h.2.symm⟩
 ·rename_i k
  split at h
  ·rename_i s0 es0 hk
   split at h
   ·rename_i hb
    simp only [Option.some.injEq, Prod.mk.injEq] at h
    obtain ⟨rfl, rfl⟩ := h
    simp only [Bool.and_eq_true] at hb
    obtain rfl := Nat.eq_of_beq_eq_true hb.1
    exact .inr ⟨k, rfl, rfl, fun e => by rw [e] at hb; simp [notE2] at hb, hk⟩
   ·simp at h
  ·simp at h
 ·simp at h
section
variable {C : Cx} {B : Bd} {F0 : Nat → Prop} {w0 : World} {F : Nat → Prop} {loc : Where} {st : St} {a : Act} {w : World}
theorem Conc.adoptB {dst : Option Nat} {d k s g cg : Nat} {v1 v2 : V} {xs ys : List (List D)} {dead : List Nat} {w' : World} {F' : Nat → Prop} {b1 b2 : Option Nat} {u1 c1 u2 c2 : Nat} {cs1 cs2 : Array Value} {t1 t2 t' : TypeId} {rv : V} {rx : Value} (h : Conc C B F0 w0 F loc st a w)
 (hd : freeKey st.objs d = true) (hd1 : freeKey st.objs (d + 1) = true) (hk : nth .none st.objs k = .box [v1, v2]) (hl : loc k = some (g, cg)) (hgF : ¬ F g)
 (hdead : ∀ j ∈ dead, ∃ s es, nth .none st.objs j = .arr s es false) (hX : ∀ x, boxX g b1 b2 x → ¬ F x ∧ (x = g ∨ ∃ j ∈ dead, ∃ c, loc j = some (x, c)))
 (hbel : BelowX ⟨w.heap.size, boxX g b1 b2⟩ w w') (hF1 : ∀ x, F x → F' x) (hF2 : ∀ x, F' x → x < w'.heap.size ∧ (F x ∨ Own ⟨w.heap.size, boxX g b1 b2⟩ x)) (hgF' : ¬ F' g)
 (hg : w'.heap[g]? = some (.cells #[.slice (some ⟨u1, 0, none⟩) xs.length c1, .slice (some ⟨u2, 0, none⟩) ys.length c2] t' (0, 0)))
 (hL1 : LentOk C.P w' F' u1 c1 cs1 t1 s xs) (hL2 : LentOk C.P w' F' u2 c2 cs2 t2 s ys) (h12 : u1 ≠ u2) (h1g : u1 ≠ g) (h2g : u2 ≠ g) (ho1 : Own ⟨w.heap.size, boxX g b1 b2⟩ u1) (ho2 : Own ⟨w.heap.size, boxX g b1 b2⟩ u2)
 (hv : ∀ (loc : Where) (objs : List Obj), CV loc objs w' F' rv rx ∧ Ref objs rv) :
 St.has C B F0 w0 (st.put dst rv (deads dead ++ [(d, .arr s xs false), (d + 1, .arr s ys false), (k, .box [.arr d, .arr (d + 1)])])) (a.put dst rx) w' := by
 obtain ⟨hnone, hlt⟩ := freeKey_ok hd
 obtain ⟨hnone1, hlt1⟩ := freeKey_ok hd1
 have hkl : k < st.objs.length := lt_of_nth (by rw [hk]; simp)
 have hkd : k ≠ d := fun e => by subst e; rw [hk] at hnone; simp at hnone
 have hkd1 : k ≠ d + 1 := fun e => by subst e; rw [hk] at hnone1; simp at hnone1
 have hkdead : k ∉ dead := fun e => by obtain ⟨s', es', h1⟩ := hdead k e; rw [hk] at h1; simp at h1
 have hdd : d ∉ dead := fun e => by obtain ⟨s', es', h1⟩ := hdead d e; rw [hnone] at h1; simp at h1
 have hdd1 : d + 1 ∉ dead := fun e => by obtain ⟨s', es', h1⟩ := hdead _ e; rw [hnone1] at h1; simp at h1
 have hsize := hbel.size
 have hnd := fun j => nth_upds_dead (deads dead) st.objs j fun p hp => ⟨(mem_deads.1 hp).2, by
  obtain ⟨s', es', h1⟩ := hdead _ (mem_deads.1 hp).1
  exact lt_of_nth (by rw [h1]; simp)⟩
 have hnd' : ∀ j, (∃ p ∈ deads dead, p.1 = j) ↔ j ∈ dead := fun j => ⟨fun ⟨p, hp, e⟩ => e ▸ (mem_deads.1 hp).1, fun hj => ⟨(j, .dead), mem_deads.2 ⟨hj, rfl⟩, rfl⟩⟩
 let us : List (Nat × Obj) := deads dead ++ [(d, .arr s xs false), (d + 1, .arr s ys false), (k, .box [.arr d, .arr (d + 1)])]
 have hn : ∀ j, nth .none (upds st.objs us) j = if j = k then .box [.arr d, .arr (d + 1)] else if j = d + 1 then .arr s ys false else if j = d then .arr s xs false else if j ∈ dead then .dead else nth .none st.objs j := fun j => by
  show nth .none (upds st.objs (deads dead ++ _)) j = _
  rw [upds_append]
  show nth .none (upd (upd (upd (upds st.objs (deads dead)) d (.arr s xs false)) (d + 1) (.arr s ys false)) k (.box [.arr d, .arr (d + 1)])) j = _
  have hlen := length_upds (deads dead) st.objs
  by_cases e0 : k = j
  ·subst e0; rw [nth_upd_same _ _ _ (by simp only [length_upd]; omega), if_pos rfl]
  rw [nth_upd_ne _ _ _ e0, if_neg (Ne.symm e0)]
  by_cases e1 : d + 1 = j
  ·subst e1; rw [nth_upd_same _ _ _ (by simp only [length_upd]; omega), if_pos rfl]
  rw [nth_upd_ne _ _ _ e1, if_neg (Ne.symm e1)]
  by_cases e2 : d = j
  ·subst e2; rw [nth_upd_same _ _ _ (by omega), if_pos rfl]
  rw [nth_upd_ne _ _ _ e2, if_neg (Ne.symm e2), hnd]
  simp only [hnd']
 have hown : ∀ x, Own ⟨w.heap.size, boxX g b1 b2⟩ x → Own B x := fun x hx => by
  rcases hx with hx | hx
  ·exact .inl (Nat.le_trans h.hB hx)
  ·rcases (hX x hx).2 with rfl | ⟨j, _, c, hl2⟩
   ·exact (h.fresh _ _ _ hl).1
   ·exact (h.fresh _ _ _ hl2).1
 have hwF : ∀ x, F x → w'.heap[x]? = w.heap[x]? := fun x hx => hbel.block x (h.bound x hx) fun hX' => (hX x hX').1 hx
 open Classical in
 let loc' : Where := ⟨loc.P, fun j => if j = d then some (u1, c1) else if j = d + 1 then some (u2, c2) else if j ∈ dead then none else loc j, fun j => if j = d then t1 else if j = d + 1 then t2 else loc.ty j⟩
 have hl' : ∀ j x y, loc' j = some (x, y) → (j = d ∧ x = u1 ∧ y = c1) ∨ (j = d + 1 ∧ x = u2 ∧ y = c2) ∨ (j ≠ d ∧ j ≠ d + 1 ∧ j ∉ dead ∧ loc j = some (x, y)) := fun j x y hl => by
  simp only [loc'] at hl
  split at hl
  ·simp only [Option.some.injEq, Prod.mk.injEq] at hl
   exact .inl ⟨‹_›, hl.1.symm, hl.2.symm⟩
  ·split at hl
   ·simp only [Option.some.injEq, Prod.mk.injEq] at hl
    exact .inr (.inl ⟨‹_›, hl.1.symm, hl.2.symm⟩)
   ·split at hl
    ·simp at hl
    ·exact .inr (.inr ⟨‹_›, ‹_›, ‹_›, hl⟩)
 have hnotX : ∀ j x y, j ∉ dead → j ≠ k → loc j = some (x, y) → ¬ boxX g b1 b2 x := fun j x y hj hjk hl2 hx => by
  rcases (hX x hx).2 with rfl | ⟨i, hi, c', hl3⟩
  ·exact hjk (h.inj _ _ _ _ _ hl2 hl)
  ·exact hj (h.inj _ _ _ _ _ hl3 hl2 ▸ hi)
 have hold : ∀ j, nth .none st.objs j ≠ .none → j ≠ d ∧ j ≠ d + 1 := fun j hj => ⟨fun e => by subst e; exact hj hnone, fun e => by subst e; exact hj hnone1⟩
 have hle : Le st.objs (upds st.objs us) loc loc' := by
  refine ⟨rfl, fun j hj => ?_, fun j hj => ?_, fun j o' hj hc hbx => ?_, fun j s' es' fz' hj hc => ?_⟩
  ·obtain ⟨e1, e2⟩ := hold j hj
   simp [loc', e1, e2]
  ·obtain ⟨e1, e2⟩ := hold j hj
   rw [hn]
   by_cases e0 : j = k
   ·rw [if_pos e0]; simp
   ·rw [if_neg e0, if_neg e2, if_neg e1]; split
    ·simp
    ·exact hj
  ·obtain ⟨e1, e2⟩ := hold j hj
   rw [hn] at hc
   by_cases e0 : j = k
   ·subst e0
    exact ⟨by rw [hk]; rfl, by simp only [loc']; rw [if_neg e1, if_neg e2, if_neg hkdead]⟩
   ·rw [if_neg e0, if_neg e2, if_neg e1] at hc
    split at hc
    ·rw [← hc] at hbx; simp [isBox] at hbx
    ·rename_i e; exact ⟨by rw [hc]; exact hbx, by simp only [loc']; rw [if_neg e1, if_neg e2, if_neg e]⟩
  ·obtain ⟨e1, e2⟩ := hold j hj
   rw [hn] at hc
   by_cases e0 : j = k
   ·rw [if_pos e0] at hc; simp at hc
   ·rw [if_neg e0, if_neg e2, if_neg e1] at hc
    split at hc
    ·simp at hc
    ·rename_i e; exact ⟨⟨_, _, hc, rfl⟩, by simp only [loc']; rw [if_neg e1, if_neg e2, if_neg e]⟩
 have hbw : BelowX B w w' := ⟨hbel.os, hbel.tape, hbel.output, hbel.size, fun j hj hjX => hbel.block j (Nat.lt_of_lt_of_le hj h.hB) fun hx => by
  rcases hown j (.inr hx) with h1 | h1
  ·omega
  ·exact hjX h1⟩
 have hfd : ∀ u, Own ⟨w.heap.size, boxX g b1 b2⟩ u → ∀ j x y, j ∉ dead → j ≠ k → loc j = some (x, y) → x ≠ u := fun u hu j x y hj hjk hl2 e => by
  subst e
  rcases hu with hu | hu
  ·have hu : w.heap.size ≤ x := hu
   have := (h.fresh _ _ _ hl2).2; omega
  ·exact hnotX _ _ _ hj hjk hl2 hu
 refine ⟨F', loc', h.step hF1 hwF hle (h.below.trans hbw) (by have := h.hB; omega) (fun j => ?_) ?_ ?_ (fun x hx => (hF2 x hx).1) (fun x hx => ?_) (hv _ _).1 (hv loc' _).2⟩
 ·rw [hn]
  split
  ·rename_i e
   subst e
   refine ⟨g, cg, _, t', by simp only [loc']; rw [if_neg hkd, if_neg hkd1, if_neg hkdead]; exact hl, hgF', hg, ⟨⟨fun s' es' fz' hc => ?_, rfl⟩, ⟨fun s' es' fz' hc => ?_, rfl⟩, trivial⟩, fun v hv => ?_⟩
   ·rw [hn, if_neg (Ne.symm hkd), if_neg (by omega), if_pos rfl] at hc
    simp only [Obj.arr.injEq] at hc
    obtain ⟨rfl, rfl, rfl⟩ := hc
    exact .inl ⟨u1, c1, by simp [loc'], rfl⟩
   ·rw [hn, if_neg (Ne.symm hkd1), if_pos rfl] at hc
    simp only [Obj.arr.injEq] at hc
    obtain ⟨rfl, rfl, rfl⟩ := hc
    exact .inl ⟨u2, c2, by simp [loc'], rfl⟩
   ·simp only [List.mem_cons, List.not_mem_nil, or_false] at hv
    rcases hv with rfl | rfl
    ·show nth .none (upds st.objs us) d ≠ .none
     rw [hn, if_neg (Ne.symm hkd), if_neg (by omega), if_pos rfl]; simp
    ·show nth .none (upds st.objs us) (d + 1) ≠ .none
     rw [hn, if_neg (Ne.symm hkd1), if_pos rfl]; simp
  ·rename_i e0
   split
   ·rename_i e
    subst e
    exact ⟨hL2.room, hL2.s0, hL2.lens, .inr ⟨u2, c2, cs2, t2, by simp [loc'], by simpa using hL2.nF, hL2.blk, hL2.sz, hL2.lc, hL2.cd, by show loc.P.cellsOf t2 = s; rw [h.prog]; exact hL2.ct, by simp [loc']⟩⟩
   ·rename_i e1
    split
    ·rename_i e
     subst e
     exact ⟨hL1.room, hL1.s0, hL1.lens, .inr ⟨u1, c1, cs1, t1, by simp [loc'], by simpa using hL1.nF, hL1.blk, hL1.sz, hL1.lc, hL1.cd, by show loc.P.cellsOf t1 = s; rw [h.prog]; exact hL1.ct, by simp [loc']⟩⟩
    ·rename_i e2
     split
     ·rename_i e3
      show loc' j = none
      simp only [loc']; rw [if_neg e2, if_neg e1, if_pos e3]
     ·rename_i e3
      refine CO.le hF1 hwF hle (by simp only [loc']; rw [if_neg e2, if_neg e1, if_neg e3]) (by simp only [loc']; rw [if_neg e2, if_neg e1]) (fun x y hl2 => ?_) (h.objs j)
      have hf := (h.fresh _ _ _ hl2).2
      have hx := hnotX _ _ _ e3 e0 hl2
      refine ⟨hbel.block x hf hx, fun hnF hF' => ?_⟩
      rcases (hF2 x hF').2 with h1 | h1 | h1
      ·exact hnF h1
      ·have h1 : w.heap.size ≤ x := h1
       omega
      ·exact hx h1
 ·intro i j x y y' q1 q2
  have old : ∀ i x y, i ∉ dead → loc i = some (x, y) → x ≠ u1 ∧ x ≠ u2 := fun i x y hi hl2 => by
   by_cases hik : i = k
   ·subst hik
    rw [hl] at hl2
    simp only [Option.some.injEq, Prod.mk.injEq] at hl2
    obtain ⟨rfl, rfl⟩ := hl2
    exact ⟨Ne.symm h1g, Ne.symm h2g⟩
   ·exact ⟨hfd u1 ho1 i x y hi hik hl2, hfd u2 ho2 i x y hi hik hl2⟩
  rcases hl' _ _ _ q1 with ⟨r1, r2, r3⟩ | ⟨r1, r2, r3⟩ | ⟨r1, r2, r3, r4⟩ <;> rcases hl' _ _ _ q2 with ⟨z1, z2, z3⟩ | ⟨z1, z2, z3⟩ | ⟨z1, z2, z3, z4⟩
  ·rw [r1, z1]
  ·exact absurd (r2 ▸ z2) h12
  ·exact absurd r2 (old _ _ _ z3 z4).1
  ·exact absurd (z2 ▸ r2) h12
  ·rw [r1, z1]
  ·exact absurd r2 (old _ _ _ z3 z4).2
  ·exact absurd z2 (old _ _ _ r3 r4).1
  ·exact absurd z2 (old _ _ _ r3 r4).2
  ·exact h.inj _ _ _ _ _ r4 z4
 ·intro j x y q1
  rcases hl' _ _ _ q1 with ⟨r1, r2, r3⟩ | ⟨r1, r2, r3⟩ | ⟨r1, r2, r3, r4⟩
  ·rw [r2]; exact ⟨hown _ ho1, hL1.lt⟩
  ·rw [r2]; exact ⟨hown _ ho2, hL2.lt⟩
  ·exact ⟨(h.fresh _ _ _ r4).1, Nat.lt_of_lt_of_le (h.fresh _ _ _ r4).2 hsize⟩
 ·rcases (hF2 x hx).2 with h1 | h1
  ·exact h.fsub x h1
  ·exact .inr (hown x h1)
theorem rowB_lent (hc : Conc C B F0 w0 F loc st a w) {s : Nat} {v : V} {x : Value} {ks : List Nat} {es : List (List D)} (hr : rowB s st.objs v = some (ks, es)) (hv : CV loc st.objs w F v x) :
 ∃ b : Option Nat, LentV C.P w F s es x b ∧ (∀ y, b = some y → ∃ k c, ks = [k] ∧ loc k = some (y, c)) ∧ ∀ j ∈ ks, ∃ s es, nth .none st.objs j = .arr s es false := by
 rcases rowB_ok hr with ⟨rfl, rfl, rfl⟩ | ⟨k, rfl, rfl, hne, hk⟩
 ·exact ⟨none, ⟨rfl, hv⟩, fun y h => by simp at h, fun j hj => by simp at hj⟩
 ·have hco := hc.objs k
  rw [hk] at hco
  obtain ⟨q1, q2, q3, q4⟩ := hco
  rcases q4 with ⟨_, q5⟩ | ⟨gb, c0, cs0, t0, q5, q6, q7, q8, q9, q10, q11, q12⟩
  ·exact absurd q5 hne
  ·rcases hv _ _ _ hk with ⟨b1, c1, r1, r2⟩ | ⟨r1, _⟩
   ·rw [q5] at r1
    simp only [Option.some.injEq, Prod.mk.injEq] at r1
    obtain ⟨rfl, rfl⟩ := r1
    exact ⟨some gb, ⟨hne, c0, cs0, t0, r2, ⟨by simpa using q6, (hc.fresh _ _ _ q5).2, q7, q8, q9, q1, q2, q3, by rw [← hc.prog]; exact q11, q10⟩⟩, fun y h => ⟨k, c0, rfl, by simp only [Option.some.injEq] at h; rw [← h]; exact q5⟩, fun j hj => by simp only [List.mem_singleton] at hj; subst hj; exact ⟨_, _, hk⟩⟩
   ·rw [q5] at r1; simp at r1
end
section
variable {C : Cx}
theorem effAt_bx {f s : Nat} {fn : Func} {chk : List (List D) → List (List D) → List A → Bool} {mk : List (List D) → List (List D) → List A → List (List D) × List (List D)} (hf : C.P.funcs[f]? = some fn) (hb : fn.body ≠ none) (hn : fn.name ≠ "runtime.NumGoroutine") (hw : C.wd f = true)
 (hmk : ∀ xs ys al, chk xs ys al = true → GivesB C f s xs ys al (mk xs ys al).1 (mk xs ys al).2) : EffAt C f (effBx s chk mk) := by
 refine ⟨fun {B F0 w0 F loc st a w dst args ts ty pos after g} hc => ?_, fun dst vs ob ob' hh hd => ?_, fun dst vs ob hv _ => ?_⟩
 ·unfold effBx
  split
  ·rename_i d k r hvs
   split
   ·rename_i v1 v2 hk
    split
    ·rename_i k1 xs k2 ys al h1 h2 hto
     split
     ·rename_i hck0
      simp only [Bool.and_eq_true] at hck0
      obtain ⟨⟨hd, hd1⟩, hdj⟩ := hck0
      intro hck next Q hnx
      have hG := hmk xs ys al hck
      obtain ⟨x0, xr, hxs⟩ : ∃ x0 xr, args.toList = x0 :: xr := by
       cases h : args.toList with
       | nil => rw [h] at hvs; simp at hvs
       | cons x0 xr => exact ⟨x0, xr, rfl⟩
      rw [hxs] at hvs
      simp only [List.map_cons, List.cons.injEq] at hvs
      obtain ⟨hx0, rfl⟩ := hvs
      obtain ⟨hfz, hall⟩ := toAs_ok hc hto (all2_ev hc xr)
      have hargs := hall F (fun _ h => h) (fun p hp => by simp at hp)
      have hv0 := (ev_ok hc x0).1
      rw [hx0] at hv0
      obtain ⟨gb, cb, p1, p2⟩ := hv0 _ hk rfl
      have hco := hc.objs k
      rw [hk] at hco
      obtain ⟨gb', cb', cs, t, q1, q2, q3, q4, q5⟩ := hco
      rw [p1] at q1
      simp only [Option.some.injEq, Prod.mk.injEq] at q1
      obtain ⟨rfl, rfl⟩ := q1
      match hcs : cs.toList, q4 with
      | [y1, y2], q4 =>
       obtain ⟨⟨z1, _⟩, ⟨z2, _⟩, _⟩ := q4
       have hcs' : cs = #[y1, y2] := by apply Array.ext'; exact hcs
       obtain ⟨b1, l1, l2, l3⟩ := rowB_lent hc h1 z1
       obtain ⟨b2, m1, m2, m3⟩ := rowB_lent hc h2 z2
       have hkey : ∀ j c, loc j = some (gb, c) → j = k := fun j c hj => hc.inj _ _ _ _ _ hj p1
       have hdead : ∀ j ∈ k1 ++ k2, ∃ s es, nth .none st.objs j = .arr s es false := fun j hj => by
        rcases List.mem_append.1 hj with hj | hj
        ·exact l3 j hj
        ·exact m3 j hj
       have nog : ∀ j ∈ k1 ++ k2, ∀ c, loc j ≠ some (gb, c) := fun j hj c e => by
        have := hkey j c e
        subst this
        obtain ⟨s', es', h3⟩ := hdead _ hj
        rw [hk] at h3; simp at h3
       have hcall := hG w F (xr.map a.eval) gb b1 b2 y1 y2 t hc.bound hc.inv hargs ⟨q2, (hc.fresh _ _ _ p1).2, by rw [q3, hcs'], l1, m1, fun e => by
        obtain ⟨j, c, e1, e2⟩ := l2 _ e
        exact nog j (by rw [e1]; simp) c e2, fun e => by
        obtain ⟨j, c, e1, e2⟩ := m2 _ e
        exact nog j (by rw [e1]; simp) c e2, fun x e e' => by
        obtain ⟨j, c, e1, e2⟩ := l2 _ e
        obtain ⟨j', c', e3, e4⟩ := m2 _ e'
        have := hc.inj _ _ _ _ _ e2 e4
        exact disj_iff hdj j (by rw [e1]; simp) (by rw [e3, this]; simp)⟩
       have hargs' : (Value.pointer (some ⟨gb, 0, none⟩) :: xr.map a.eval).toArray = args.map a.eval := by
        apply Array.ext'
        rw [Array.toList_map, hxs]
        simp [p2]
       rw [hargs'] at hcall
       refine wp_entered hf hb hn hcall fun e w' he => ?_
       obtain ⟨v, rfl, hbel, F', u1, c1, cs1, t1, u2, c2, cs2, t2, t', o1, o2, o3, o4, o5, o6, o7, o8, o9, o10, o11, o12⟩ := he
       refine ⟨_, rfl, hnx _ _ ?_⟩
       exact hc.adoptB (dead := k1 ++ k2) (rv := resV []) hd hd1 hk p1 q2 hdead (fun x hx => by
        rcases hx with rfl | hx | hx
        ·exact ⟨q2, .inl rfl⟩
        ·obtain ⟨j, c, e1, e2⟩ := l2 _ hx
         subst hx
         obtain ⟨_, c', cs', t', _, hL⟩ := l1
         exact ⟨hL.nF, .inr ⟨j, by rw [e1]; simp, c, e2⟩⟩
        ·obtain ⟨j, c, e1, e2⟩ := m2 _ hx
         subst hx
         obtain ⟨_, c', cs', t', _, hL⟩ := m1
         exact ⟨hL.nF, .inr ⟨j, by rw [e1]; simp, c, e2⟩⟩) hbel o1 o2 o4 o5 o6 o7 o8 o9 o10 o11 o12 (fun loc objs => res_CV o3)
     ·trivial
    ·trivial
   ·trivial
  ·trivial
 ·unfold effBx
  split
  ·rename_i d k r
   have hk0 : nth .none ob k = nth .none ob' k := hh k (by
    rw [mem_deepB]
    exact ⟨k, List.mem_flatMap.2 ⟨.box k 0, by simp, by simp [keysV]⟩, .inl rfl⟩)
   have h1 : toAs ob r = toAs ob' r := toAs_ag (c := 2) fun v hv k hk => .inl (hh k (by
    rw [mem_deepB]
    exact ⟨k, List.mem_flatMap.2 ⟨v, by simp [hv], hk⟩, .inl rfl⟩))
   have hf0 := hd d (.inl rfl)
   have hf1 := hd (d + 1) (.inr ⟨hw, d, rfl, rfl⟩)
   rw [← hk0]
   split
   ·rename_i v1 v2 hk
    have hr : ∀ v ∈ [v1, v2], rowB s ob v = rowB s ob' v := fun v hv => by
     unfold rowB
     split
     ·rfl
     ·rename_i j
      have : nth .none ob j = nth .none ob' j := hh j (by
       rw [mem_deepB]
       exact ⟨k, List.mem_flatMap.2 ⟨.box k 0, by simp, by simp [keysV]⟩, .inr ⟨.arr j, by rw [hk]; exact hv, by simp [keysV]⟩⟩)
      rw [this]
     ·rfl
    rw [hr v1 (by simp), hr v2 (by simp), h1, hf0, hf1]
   ·rfl
  ·rfl
 ·unfold effBx
  split
  ·rename_i d k r
   split
   ·rename_i v1 v2 hk
    split
    ·rename_i k1 xs k2 ys al h1 h2 hto
     split
     ·rename_i hck0
      simp only [Bool.and_eq_true] at hck0
      obtain ⟨⟨hd, hd1⟩, hdj⟩ := hck0
      have hkin : k ∈ deepB ob ((V.box k 0 :: r).flatMap keysV) := by
       rw [mem_deepB]
       exact ⟨k, List.mem_flatMap.2 ⟨.box k 0, by simp, by simp [keysV]⟩, .inl rfl⟩
      refine ⟨fun p hp => ?_, fun j hj => by rw [keys_resV] at hj; simp at hj⟩
      rcases List.mem_append.1 hp with hp | hp
      ·obtain ⟨hp1, hp2⟩ := mem_deads.1 hp
       have hin : ∃ v ∈ [v1, v2], v = .arr p.1 ∧ nth .none ob p.1 ≠ .none := by
        rcases List.mem_append.1 hp1 with hj | hj
        ·rcases rowB_ok h1 with ⟨_, rfl, _⟩ | ⟨j, rfl, rfl, _, hj2⟩
         ·simp at hj
         ·simp only [List.mem_singleton] at hj
          exact ⟨.arr j, by simp, by rw [hj], by rw [hj, hj2]; simp⟩
        ·rcases rowB_ok h2 with ⟨_, rfl, _⟩ | ⟨j, rfl, rfl, _, hj2⟩
         ·simp at hj
         ·simp only [List.mem_singleton] at hj
          exact ⟨.arr j, by simp, by rw [hj], by rw [hj, hj2]; simp⟩
       obtain ⟨v, hv1, hv2, hv3⟩ := hin
       refine ⟨.inr ⟨?_, hv3⟩, by rw [hp2]; simp, fun u hu => by rw [hp2] at hu; simp [objVs] at hu⟩
       rw [mem_deepB]
       exact ⟨k, List.mem_flatMap.2 ⟨.box k 0, by simp, by simp [keysV]⟩, .inr ⟨v, by rw [hk]; exact hv1, by rw [hv2]; simp [keysV]⟩⟩
      ·simp only [List.mem_cons, List.not_mem_nil, or_false] at hp
       rcases hp with rfl | rfl | rfl
       ·exact ⟨.inl ⟨.inl rfl, hd⟩, by simp, fun u hu => by simp [objVs] at hu⟩
       ·exact ⟨.inl ⟨.inr ⟨hw, d, rfl, rfl⟩, hd1⟩, by simp, fun u hu => by simp [objVs] at hu⟩
       ·refine ⟨.inr ⟨hkin, by rw [hk]; simp⟩, by simp, fun u hu j hj => ?_⟩
        simp only [objVs, List.mem_cons, List.not_mem_nil, or_false] at hu
        rcases hu with rfl | rfl
        ·simp only [keysV, List.mem_singleton] at hj
         subst hj
         exact .inr ⟨hd, .arr s (mk xs ys al).1 false, by simp⟩
        ·simp only [keysV, List.mem_singleton] at hj
         subst hj
         exact .inr ⟨hd1, .arr s (mk xs ys al).2 false, by simp⟩
     ·trivial
    ·trivial
   ·trivial
  ·trivial
end
end Eng
end

section
namespace Eng
open Go Go.RowKit
section
variable {C : Cx} {B : Bd} {F0 : Nat → Prop} {w0 : World} {F : Nat → Prop} {loc : Where} {st : St} {a : Act} {w : World}
theorem Conc.adoptG {dst : Option Nat} {d s b c : Nat} {es : List (List D)} {cs : Array Value} {t : TypeId} {w' : World} {F' X : Nat → Prop} {dead : List (Nat × Obj)} {rv : V} {rx : Value} (h : Conc C B F0 w0 F loc st a w) (hd : freeKey st.objs d = true)
 (hdead : ∀ p ∈ dead, p.2 = .dead ∧ p.1 < st.objs.length ∧ nth .none st.objs p.1 ≠ .none) (hX : ∀ x, X x → ¬ F x ∧ ∃ p ∈ dead, ∃ c, loc p.1 = some (x, c))
 (hbel : BelowX ⟨w.heap.size, X⟩ w w') (hF1 : ∀ x, F x → F' x) (hF2 : ∀ x, F' x → x < w'.heap.size ∧ (F x ∨ Own ⟨w.heap.size, X⟩ x)) (hb1 : Own ⟨w.heap.size, X⟩ b) (hL : LentOk C.P w' F' b c cs t s es) (hv : ∀ (loc : Where) (objs : List Obj), nth .none objs d = .arr s es false → loc d = some (b, c) → CV loc objs w' F' rv rx ∧ Ref objs rv) :
 St.has C B F0 w0 (st.put dst rv (dead ++ [(d, .arr s es false)])) (a.put dst rx) w' := by
 obtain ⟨hnone, hlt⟩ := freeKey_ok hd
 have hsize := hbel.size
 have hnd := fun k => nth_upds_dead dead st.objs k fun p hp => ⟨(hdead p hp).1, (hdead p hp).2.1⟩
 have hdd : ¬ ∃ p ∈ dead, p.1 = d := fun ⟨p, hp, e⟩ => (hdead p hp).2.2 (by rw [e]; exact hnone)
 have hn : ∀ k, nth .none (upds st.objs (dead ++ [(d, .arr s es false)])) k = if k = d then .arr s es false else if (∃ p ∈ dead, p.1 = k) then .dead else nth .none st.objs k := fun k => by
  rw [upds_append]
  show nth .none (upd (upds st.objs dead) d (.arr s es false)) k = _
  by_cases hk : d = k
  ·subst hk; rw [nth_upd_same _ _ _ (by rw [length_upds]; exact hlt), if_pos rfl]
  ·rw [nth_upd_ne _ _ _ hk, if_neg (Ne.symm hk), hnd]
 have hown : ∀ x, Own ⟨w.heap.size, X⟩ x → Own B x := fun x hx => by
  rcases hx with hx | hx
  ·exact .inl (Nat.le_trans h.hB hx)
  ·obtain ⟨_, p, _, c, hl⟩ := hX x hx
   exact (h.fresh _ _ _ hl).1
 have hwF : ∀ x, F x → w'.heap[x]? = w.heap[x]? := fun x hx => hbel.block x (h.bound x hx) fun hX' => (hX x hX').1 hx
 open Classical in
 let loc' : Where := ⟨loc.P, fun k => if k = d then some (b, c) else if (∃ p ∈ dead, p.1 = k) then none else loc k, fun k => if k = d then t else loc.ty k⟩
 have hl' : ∀ k x y, loc' k = some (x, y) → (k = d ∧ x = b ∧ y = c) ∨ (k ≠ d ∧ (¬ ∃ p ∈ dead, p.1 = k) ∧ loc k = some (x, y)) := fun k x y hl => by
  simp only [loc'] at hl
  split at hl
  ·simp only [Option.some.injEq, Prod.mk.injEq] at hl
   exact .inl ⟨‹_›, hl.1.symm, hl.2.symm⟩
  ·split at hl
   ·simp at hl
   ·exact .inr ⟨‹_›, ‹_›, hl⟩
 have hnotX : ∀ k x y, (¬ ∃ p ∈ dead, p.1 = k) → loc k = some (x, y) → ¬ X x := fun k x y hk hl hx => by
  obtain ⟨_, p, hp, c', hl2⟩ := hX x hx
  exact hk ⟨p, hp, h.inj _ _ _ _ _ hl2 hl⟩
 have hle : Le st.objs (upds st.objs (dead ++ [(d, .arr s es false)])) loc loc' := by
  refine ⟨rfl, fun k hk => by
   have : k ≠ d := fun e => by subst e; exact absurd hnone hk
   simp [loc', this], fun k hk => ?_, fun k o' hk hc hbx => ?_, fun k s' es' fz' hk hc => ?_⟩
  ·have : k ≠ d := fun e => by subst e; exact absurd hnone hk
   rw [hn, if_neg this]; split
   ·simp
   ·exact hk
  ·have : k ≠ d := fun e => by subst e; exact absurd hnone hk
   rw [hn, if_neg this] at hc; split at hc
   ·rw [← hc] at hbx; simp [isBox] at hbx
   ·rename_i e; exact ⟨by rw [hc]; exact hbx, by simp only [loc']; rw [if_neg this, if_neg e]⟩
  ·have : k ≠ d := fun e => by subst e; exact absurd hnone hk
   rw [hn, if_neg this] at hc; split at hc
   ·simp at hc
   ·rename_i e; exact ⟨⟨_, _, hc, rfl⟩, by simp only [loc']; rw [if_neg this, if_neg e]⟩
 have hbw : BelowX B w w' := ⟨hbel.os, hbel.tape, hbel.output, hbel.size, fun j hj hjX => hbel.block j (Nat.lt_of_lt_of_le hj h.hB) fun hx => by
  rcases hown j (.inr hx) with h1 | h1
  ·omega
  ·exact hjX h1⟩
 refine ⟨F', loc', h.step hF1 hwF hle (h.below.trans hbw) (by have := h.hB; omega) (fun k => ?_) ?_ ?_ (fun x hx => (hF2 x hx).1) (fun x hx => ?_) (hv _ _ (by rw [hn, if_pos rfl]) (by simp [loc'])).1 (hv loc' _ (by rw [hn, if_pos rfl]) (by simp [loc'])).2⟩
 ·rw [hn]
  split
  ·rename_i e
   exact ⟨hL.room, hL.s0, hL.lens, .inr ⟨b, c, cs, t, by simp [loc', e], hL.nF, hL.blk, hL.sz, hL.lc, hL.cd, by show loc.P.cellsOf t = s; rw [h.prog]; exact hL.ct, by simp [loc', e]⟩⟩
  ·rename_i e1
   split
   ·rename_i e2
    show loc' k = none
    simp only [loc']; rw [if_neg e1, if_pos e2]
   ·rename_i e2
    refine CO.le hF1 hwF hle (by simp only [loc']; rw [if_neg e1, if_neg e2]) (by simp only [loc']; rw [if_neg e1]) (fun x y hl => ?_) (h.objs k)
    have hf := (h.fresh _ _ _ hl).2
    have hx := hnotX _ _ _ e2 hl
    refine ⟨hbel.block x hf hx, fun hnF hF' => ?_⟩
    rcases (hF2 x hF').2 with h1 | h1 | h1
    ·exact hnF h1
    ·have h1 : w.heap.size ≤ x := h1
     omega
    ·exact hx h1
 ·intro k k' x y y' q1 q2
  rcases hl' _ _ _ q1 with ⟨r1, r2, r3⟩ | ⟨r1, r2, r3⟩ <;> rcases hl' _ _ _ q2 with ⟨u1, u2, u3⟩ | ⟨u1, u2, u3⟩
  ·rw [r1, u1]
  ·subst r2
   exfalso
   rcases hb1 with hb1 | hb1
   ·have hb1 : w.heap.size ≤ x := hb1
    have := (h.fresh _ _ _ u3).2; omega
   ·exact hnotX _ _ _ u2 u3 hb1
  ·subst u2
   exfalso
   rcases hb1 with hb1 | hb1
   ·have hb1 : w.heap.size ≤ x := hb1
    have := (h.fresh _ _ _ r3).2; omega
   ·exact hnotX _ _ _ r2 r3 hb1
  ·exact h.inj _ _ _ _ _ r3 u3
 ·intro k x y q1
  rcases hl' _ _ _ q1 with ⟨r1, r2, r3⟩ | ⟨r1, r2, r3⟩
  ·subst r2; exact ⟨hown _ hb1, hL.lt⟩
  ·have := h.fresh _ _ _ r3
   exact ⟨this.1, by omega⟩
 ·rcases (hF2 x hx).2 with h1 | h1
  ·exact h.fsub x h1
  ·exact .inr (hown x h1)
theorem Conc.goneD {dst : Option Nat} {w' : World} {F' X : Nat → Prop} {dead : List (Nat × Obj)} {rv : V} {rx : Value} (h : Conc C B F0 w0 F loc st a w)
 (hdead : ∀ p ∈ dead, p.2 = .dead ∧ p.1 < st.objs.length ∧ nth .none st.objs p.1 ≠ .none) (hX : ∀ x, X x → ¬ F x ∧ ∃ p ∈ dead, ∃ c, loc p.1 = some (x, c))
 (hbel : BelowX ⟨w.heap.size, X⟩ w w') (hF1 : ∀ x, F x → F' x) (hF2 : ∀ x, F' x → x < w'.heap.size ∧ (F x ∨ Own ⟨w.heap.size, X⟩ x))
 (hv : ∀ (loc : Where) (objs : List Obj), CV loc objs w' F' rv rx ∧ Ref objs rv) : St.has C B F0 w0 (st.put dst rv dead) (a.put dst rx) w' := by
 have hsize := hbel.size
 have hn := fun k => nth_upds_dead dead st.objs k fun p hp => ⟨(hdead p hp).1, (hdead p hp).2.1⟩
 have hown : ∀ x, Own ⟨w.heap.size, X⟩ x → Own B x := fun x hx => by
  rcases hx with hx | hx
  ·exact .inl (Nat.le_trans h.hB hx)
  ·obtain ⟨_, p, _, c, hl⟩ := hX x hx
   exact (h.fresh _ _ _ hl).1
 have hwF : ∀ x, F x → w'.heap[x]? = w.heap[x]? := fun x hx => hbel.block x (h.bound x hx) fun hX' => (hX x hX').1 hx
 open Classical in
 let loc' : Where := ⟨loc.P, fun k => if (∃ p ∈ dead, p.1 = k) then none else loc k, loc.ty⟩
 have hl' : ∀ k x y, loc' k = some (x, y) → (¬ ∃ p ∈ dead, p.1 = k) ∧ loc k = some (x, y) := fun k x y hl => by
  simp only [loc'] at hl
  split at hl
  ·simp at hl
  ·exact ⟨‹_›, hl⟩
 have hnotX : ∀ k x y, (¬ ∃ p ∈ dead, p.1 = k) → loc k = some (x, y) → ¬ X x := fun k x y hk hl hx => by
  obtain ⟨_, p, hp, c', hl2⟩ := hX x hx
  exact hk ⟨p, hp, h.inj _ _ _ _ _ hl2 hl⟩
 have hle : Le st.objs (upds st.objs dead) loc loc' := by
  refine ⟨rfl, fun k hk => rfl, fun k hk => ?_, fun k o' hk hc hbx => ?_, fun k s' es' fz' hk hc => ?_⟩
  ·rw [hn]; split
   ·simp
   ·exact hk
  ·rw [hn] at hc; split at hc
   ·rw [← hc] at hbx; simp [isBox] at hbx
   ·rename_i e; exact ⟨by rw [hc]; exact hbx, by simp only [loc']; rw [if_neg e]⟩
  ·rw [hn] at hc; split at hc
   ·simp at hc
   ·rename_i e; exact ⟨⟨_, _, hc, rfl⟩, by simp only [loc']; rw [if_neg e]⟩
 have hbw : BelowX B w w' := ⟨hbel.os, hbel.tape, hbel.output, hbel.size, fun j hj hjX => hbel.block j (Nat.lt_of_lt_of_le hj h.hB) fun hx => by
  rcases hown j (.inr hx) with h1 | h1
  ·omega
  ·exact hjX h1⟩
 refine ⟨F', loc', h.step hF1 hwF hle (h.below.trans hbw) (by have := h.hB; omega) (fun k => ?_) ?_ ?_ (fun x hx => (hF2 x hx).1) (fun x hx => ?_) (hv _ _).1 (hv loc' _).2⟩
 ·rw [hn]
  split
  ·rename_i e2
   show loc' k = none
   simp only [loc']; rw [if_pos e2]
  ·rename_i e2
   refine CO.le hF1 hwF hle (by simp only [loc']; rw [if_neg e2]) rfl (fun x y hl => ?_) (h.objs k)
   have hf := (h.fresh _ _ _ hl).2
   have hx := hnotX _ _ _ e2 hl
   refine ⟨hbel.block x hf hx, fun hnF hF' => ?_⟩
   rcases (hF2 x hF').2 with h1 | h1 | h1
   ·exact hnF h1
   ·have h1 : w.heap.size ≤ x := h1
    omega
   ·exact hx h1
 ·intro k k' x y y' q1 q2
  exact h.inj _ _ _ _ _ (hl' _ _ _ q1).2 (hl' _ _ _ q2).2
 ·intro k x y q1
  have := h.fresh _ _ _ (hl' _ _ _ q1).2
  exact ⟨this.1, by omega⟩
 ·rcases (hF2 x hx).2 with h1 | h1
  ·exact h.fsub x h1
  ·exact .inr (hown x h1)
end
def GivesT (C : Cx) (f : Nat) (al : List A) (s : Nat) (es : List (List D)) (as : List A) : Prop :=
 ∀ (w : World) (F : Nat → Prop) (vs : List Value), (∀ b, F b → b < w.heap.size) → Inv C F w → All2 (CA w F) al vs →
  Calls C.P f vs.toArray w fun e w' => BelowX ⟨w.heap.size, fun _ => False⟩ w w' ∧
   ∃ (F' : Nat → Prop) (b c : Nat) (cs : Array Value) (t : TypeId) (ys : List Value), e = .returned (.tuple (.slice (some ⟨b, 0, none⟩) es.length c :: ys).toArray) ∧ (∀ x, F x → F' x) ∧ (∀ x, F' x → x < w'.heap.size ∧ (F x ∨ Own ⟨w.heap.size, fun _ => False⟩ x)) ∧
    Own ⟨w.heap.size, fun _ => False⟩ b ∧ LentOk C.P w' F' b c cs t s es ∧ All2 (CA w' F') as ys
def ownT (C : Cx) (st : St) (rs : List ResultVar) : Option (Nat × List (List D) × List A) :=
 match rs with
 | .tmp t :: r :: rr => match nth .any st.tmps t with
  | .arr k => match nth .none st.objs k with
   | .arr s es false => match resD C st (r :: rr) with
    | some as => match flatAll as && (notE2 es && !as.isEmpty) with
     | true => some (s, es, as)
     | false => none
    | none => none
   | _ => none
  | _ => none
 | _ => none
def runFt (tab : Nat → List A → Option (List A)) (C : Cx) (lim n f : Nat) (al : List A) : Option (Nat × List (List D) × List A) :=
 match C.P.funcs[f]? with
 | none => none
 | some fn => match fn.body with
  | none => none
  | some c => match runC (runF tab C lim n) C lim c (initSt fn.ntmps al) with
   | some (.normal, s) => ownT C s fn.results.toList
   | some (.ret, s) => ownT C s fn.results.toList
   | _ => none
def effOt (chk : List A → Bool) (mk : List A → Nat × List (List D) × List A) (dst : Option Nat) (vs : List V) (ob : List Obj) : R :=
 match dst with
 | none => .fail
 | some d => match freeKey ob d, toAs ob vs with
  | true, some (al, us) => .cond (chk al = true) (.tpo d (mk al).2.2) (us ++ [(d, .arr (mk al).1 (mk al).2.1 false)])
  | _, _ => .fail
def GivesD (C : Cx) (f s : Nat) (es : List (List D)) (post res : List A) : Prop :=
 ∀ (w : World) (F : Nat → Prop) (vs2 : List Value) (g c0 : Nat) (cs0 : Array Value) (t0 : TypeId), (∀ b, F b → b < w.heap.size) → Inv C F w → All2 (CA w F) post vs2 → LentOk C.P w F g c0 cs0 t0 s es →
  Calls C.P f (.slice (some ⟨g, 0, none⟩) es.length c0 :: vs2).toArray w fun e w' => BelowX ⟨w.heap.size, fun b => b = g⟩ w w' ∧ ∃ v, e = .returned v ∧ CRes w' (After F ⟨w.heap.size, fun b => b = g⟩ w') res v
def runFd (tab : Nat → List A → Option (List A)) (C : Cx) (lim n f s : Nat) (es : List (List D)) (post : List A) : Option (List A) :=
 match C.P.funcs[f]? with
 | none => none
 | some fn => match fn.body with
  | none => none
  | some c => match runC (runF tab C lim n) C lim c (initC fn.ntmps [] (some (s, es)) post) with
   | some (.normal, st) => resD C st fn.results.toList
   | some (.ret, st) => resD C st fn.results.toList
   | _ => none
def effCd (s : Nat) (chk : List (List D) → List A → Bool) (mk : List (List D) → List A → List A) (_ : Option Nat) (vs : List V) (ob : List Obj) : R :=
 match vs with
 | .arr k :: r => match nth .none ob k, toAs ob r with
  | .arr s0 es false, some (al, []) => match Nat.beq s0 s && notE2 es with
   | true => .cond (chk es al = true) (resV (mk es al)) [(k, .dead)]
   | false => .fail
  | _, _ => .fail
 | _ => .fail
section
variable {C : Cx}
theorem ownT_fin {fn : Func} {w : World} {B : Bd} {F : Nat → Prop} {s' : St} {a' : Act} {w' : World} {s : Nat} {es : List (List D)} {as : List A} (hh : St.has C B F w s' a' w') (has : ownT C s' fn.results.toList = some (s, es, as)) :
 a'.defers = [] ∧ ∃ v, (results fn a'.tmps).run C.P w' = .ok v w' ∧ BelowX B w w' ∧ ∃ (F' : Nat → Prop) (b c : Nat) (cs : Array Value) (t : TypeId) (ys : List Value), Ending.returned v = .returned (.tuple (.slice (some ⟨b, 0, none⟩) es.length c :: ys).toArray) ∧ (∀ x, F x → F' x) ∧ (∀ x, F' x → x < w'.heap.size ∧ (F x ∨ Own B x)) ∧
  Own B b ∧ LentOk C.P w' F' b c cs t s es ∧ All2 (CA w' F') as ys := by
 obtain ⟨F', loc', h⟩ := hh
 unfold ownT at has
 split at has
 ·rename_i t r rr hrs
  split at has
  ·rename_i k hk
   split at has
   ·rename_i s0 es0 hob
    split at has
    ·rename_i as0 hrd
     split at has
     ·rename_i hck
      simp only [Option.some.injEq, Prod.mk.injEq] at has
      obtain ⟨rfl, rfl, rfl⟩ := has
      simp only [Bool.and_eq_true, Bool.not_eq_true', List.isEmpty_eq_false_iff] at hck
      obtain ⟨us, h1, h2⟩ := resD_ok h hrd
      have h3 : All2 (CA w' F') as0 us := h2.mono_mem fun r hr v hv => flat_CA hv (flatAll_ok hck.1 r hr)
      have hx := (slot_ok h t).1
      simp only [Act.eval] at hx
      rw [hk] at hx
      have hco := h.objs k
      rw [hob] at hco
      obtain ⟨hroom, hs0, hlen, hco⟩ := hco
      rcases hco with ⟨_, h5⟩ | ⟨b', c', cs, t', h4, h5, h6, h7, h8, h9, h10, h11⟩
      ·rw [h5] at hck; simp [notE2] at hck
      rcases hx _ _ _ hob with ⟨b, c, hl, hv⟩ | ⟨hl, _, _⟩
      ·rw [h4] at hl
       simp only [Option.some.injEq, Prod.mk.injEq] at hl
       obtain ⟨rfl, rfl⟩ := hl
       have hfr := h.fresh _ _ _ h4
       have hl2 : 0 < us.length := by
        rw [← h2.length]; exact List.length_pos_iff.2 hck.2.2
       refine ⟨h.defers, .tuple (.slice (some ⟨b', 0, none⟩) es0.length c' :: us).toArray, ?_, h.below, F', b', c', cs, t', us, rfl, h.fsup, fun x hx => ⟨h.bound x hx, h.fsub x hx⟩, hfr.1, ⟨by simpa using h5, hfr.2, h6, h7, h8, hroom, hs0, hlen, by rw [← h.prog]; exact h10, h9⟩, h3⟩
       have h6 : ((fn.results.toList).mapM (getR a'.tmps)).run C.P w' = .ok (.slice (some ⟨b', 0, none⟩) es0.length c' :: us) w' := by
        rw [hrs, List.mapM_cons]
        have h7 : (getR a'.tmps (.tmp t)).run C.P w' = .ok (.slice (some ⟨b', 0, none⟩) es0.length c') w' := by
         show (pure (a'.tmps.getD t undef) : Sem Value).run C.P w' = _
         rw [hv]; rfl
        simp only [Sem.run_bind, h7, Result.andThen, h1]
        rfl
       have h8 : (results fn a'.tmps).run C.P w' = .ok (if h : (Value.slice (some ⟨b', 0, none⟩) es0.length c' :: us).toArray.size = 1 then (Value.slice (some ⟨b', 0, none⟩) es0.length c' :: us).toArray[0] else .tuple (Value.slice (some ⟨b', 0, none⟩) es0.length c' :: us).toArray) w' := by
        unfold results
        rw [Array.mapM_eq_mapM_toList]
        simp only [Sem.run_bind, map_eq_pure_bind]
        have h5 : ∀ g : ResultVar → Sem Value, g = getR a'.tmps → (fn.results.toList.mapM g).run C.P w' = .ok (.slice (some ⟨b', 0, none⟩) es0.length c' :: us) w' := fun g hg => by rw [hg]; exact h6
        rw [h5 _ (by funext r; cases r <;> rfl)]
        rfl
       rw [h8, dif_neg (by simp only [List.size_toArray, List.length_cons]; omega)]
      ·rw [h4] at hl; simp at hl
     ·simp at has
    ·simp at has
   ·simp at has
  ·simp at has
 ·simp at has
theorem runFt_ok [EffOk C] {tab : Nat → List A → Option (List A)} {lim : Nat} (hm : C.P.follows .mixedOrders = true) (htab : ∀ f as rs, tab f as = some rs → Gives C f as rs) {n f s : Nat} {al : List A} {es : List (List D)} {as : List A}
 (h : runFt tab C lim n f al = some (s, es, as)) : GivesT C f al s es as := by
 unfold runFt at h
 split at h
 ·simp at h
 rename_i fn hf
 split at h
 ·simp at h
 rename_i c hc
 have key : ∀ (x : X) (s' : St), (x = .normal ∨ x = .ret) → runC (runF tab C lim n) C lim c (initSt fn.ntmps al) = some (x, s') → ownT C s' fn.results.toList = some (s, es, as) → GivesT C f al s es as := by
  intro x s' hx hr hres w F vs hb hinv h1
  refine calls_of_wp hf hc (Code.wp_mono (fun e a' w' hp => ?_) (runC_ok hm (fun f as rs h => runF_ok hm htab n f as rs h) lim c _ s' x _ w hr (init_has hb hinv h1)))
  obtain ⟨he, hh⟩ := hp
  have fin := ownT_fin (fn := fn) hh hres
  rcases hx with rfl | rfl
  ·have he : e = .normal := he; subst he; exact fin
  ·have he : e = .ret := he; subst he; exact fin
 split at h
 ·rename_i s' hr; exact key _ _ (.inl rfl) hr h
 ·rename_i s' hr; exact key _ _ (.inr rfl) hr h
 ·simp at h
theorem res_finD {fn : Func} {w : World} {B : Bd} {F : Nat → Prop} {s' : St} {a' : Act} {w' : World} {res : List A} (hh : St.has C B F w s' a' w') (has : resD C s' fn.results.toList = some res) :
 a'.defers = [] ∧ ∃ v, (results fn a'.tmps).run C.P w' = .ok v w' ∧ BelowX B w w' ∧ ∃ u, Ending.returned v = .returned u ∧ CRes w' (After F B w') res u := by
 obtain ⟨F', loc', hcc⟩ := hh
 obtain ⟨us, h1, h2⟩ := resD_ok hcc has
 refine ⟨hcc.defers, if h : us.toArray.size = 1 then us.toArray[0] else .tuple us.toArray, ?_, hcc.below, _, rfl, ?_⟩
 ·unfold results
  rw [Array.mapM_eq_mapM_toList]
  simp only [Sem.run_bind, map_eq_pure_bind]
  have h5 : ∀ g : ResultVar → Sem Value, g = getR a'.tmps → (fn.results.toList.mapM g).run C.P w' = .ok us w' := fun g hg => by rw [hg]; exact h1
  rw [h5 _ (by funext r; cases r <;> rfl)]
  rfl
 ·match res, us, h2 with
  | [a], [u], h2 => exact h2.1
  | [], [], h2 => exact ⟨#[], rfl, trivial⟩
  | a :: b :: r, u :: v :: s, h2 => exact ⟨(u :: v :: s).toArray, by simp, h2⟩
theorem runFd_ok [EffOk C] {tab : Nat → List A → Option (List A)} {lim : Nat} (hm : C.P.follows .mixedOrders = true) (htab : ∀ f as rs, tab f as = some rs → Gives C f as rs) {n f s : Nat} {es : List (List D)} {post res : List A}
 (h : runFd tab C lim n f s es post = some res) : GivesD C f s es post res := by
 unfold runFd at h
 split at h
 ·simp at h
 rename_i fn hf
 split at h
 ·simp at h
 rename_i c hc
 have key : ∀ (x : X) (s' : St), (x = .normal ∨ x = .ret) → runC (runF tab C lim n) C lim c (initC fn.ntmps [] (some (s, es)) post) = some (x, s') → resD C s' fn.results.toList = some res → GivesD C f s es post res := by
  intro x s' hx hr hres w F vs2 g c0 cs0 t0 hb hinv h2 hL
  refine calls_of_wp hf hc (Code.wp_mono (fun e a' w' hp => ?_) (runC_ok hm (fun f as rs h => runF_ok hm htab n f as rs h) lim c _ s' x _ w hr (init_hasC (vs1 := []) hb hinv trivial h2 (fun s0 es0 he => by simp only [Option.some.injEq, Prod.mk.injEq] at he; obtain ⟨rfl, rfl⟩ := he; exact hL))))
  obtain ⟨he, hh⟩ := hp
  have fin := res_finD (fn := fn) hh hres
  rcases hx with rfl | rfl
  ·have he : e = .normal := he; subst he; exact fin
  ·have he : e = .ret := he; subst he; exact fin
 split at h
 ·rename_i s' hr; exact key _ _ (.inl rfl) hr h
 ·rename_i s' hr; exact key _ _ (.inr rfl) hr h
 ·simp at h
theorem effAt_ot {f : Nat} {fn : Func} {chk : List A → Bool} {mk : List A → Nat × List (List D) × List A} (hf : C.P.funcs[f]? = some fn) (hb : fn.body ≠ none) (hn : fn.name ≠ "runtime.NumGoroutine") (hmk : ∀ al, chk al = true → GivesT C f al (mk al).1 (mk al).2.1 (mk al).2.2) : EffAt C f (effOt chk mk) := by
 refine ⟨fun {B F0 w0 F loc st a w dst args ts ty pos after g} hc => ?_, fun dst vs ob ob' hh hd => ?_, fun dst vs ob hv _ => ?_⟩
 ·unfold effOt
  split
  ·trivial
  ·rename_i d
   split
   ·rename_i al us hd hto
    obtain ⟨hfz, hall⟩ := toAs_ok hc hto (all2_ev hc args.toList)
    obtain ⟨F', hc', hF', hb'⟩ := hc.freezes hfz st.dirty
    have hargs := hall F' hF' hb'
    intro hck next Q hnx
    have hG := hmk al hck
    have hcall := hG w F' (args.toList.map a.eval) hc'.bound hc'.inv hargs
    have hargs' : (args.toList.map a.eval).toArray = args.map a.eval := by apply Array.ext'; simp
    rw [hargs'] at hcall
    refine wp_entered hf hb hn hcall fun e w' he => ?_
    obtain ⟨hbel, F2, b, c, cs, t, ys, rfl, h1, h2, h3, h4, h5⟩ := he
    refine ⟨_, rfl, hnx _ _ ?_⟩
    have h6 := hc'.adoptG (dst := some d) (d := d) (dead := []) (rv := .tpo d (mk al).2.2) (rx := .tuple (.slice (some ⟨b, 0, none⟩) (mk al).2.1.length c :: ys).toArray) (freeKey_upds hfz hd) (fun p hp => by simp at hp) (fun x hx => hx.elim) hbel h1 h2 h3 h4
     (fun loc objs q1 q2 => ⟨⟨_, _, rfl, fun s' es' fz' hc => by
      rw [q1] at hc
      simp only [Obj.arr.injEq] at hc
      obtain ⟨rfl, rfl, rfl⟩ := hc
      exact ⟨b, c, q2, rfl⟩, h5⟩, by
      show nth .none objs d ≠ .none
      rw [q1]; simp⟩)
    refine has_same h6 rfl ?_
    show upds (upds st.objs us) ([] ++ [(d, .arr (mk al).1 (mk al).2.1 false)]) = upds st.objs (us ++ [(d, .arr (mk al).1 (mk al).2.1 false)])
    rw [upds_append us]; rfl
   ·trivial
 ·unfold effOt
  cases dst with
  | none => rfl
  | some d =>
   have h1 : toAs ob vs = toAs ob' vs := toAs_ag (c := 2) fun v hv k hk => .inl (hh k (by
    rw [mem_deepB]
    exact ⟨k, List.mem_flatMap.2 ⟨v, hv, hk⟩, .inl rfl⟩))
   simp only [h1]
   rw [hd d (.inl rfl)]
 ·unfold effOt
  split
  ·trivial
  ·rename_i d
   split
   ·rename_i al us hd hto
    have hfz := toAs_fz hto
    refine ⟨fun p hp => ?_, fun k hk => ?_⟩
    ·rcases List.mem_append.1 hp with hp | hp
     ·obtain ⟨⟨v, hv1, hv2⟩, s', es', fz, h1, h2⟩ := hfz p hp
      refine ⟨.inr ⟨?_, by rw [h1]; simp⟩, by rw [h2]; simp, fun u hu => by rw [h2] at hu; simp [objVs] at hu⟩
      rw [mem_deepB]
      exact ⟨p.1, List.mem_flatMap.2 ⟨v, hv1, hv2⟩, .inl rfl⟩
     ·simp only [List.mem_singleton] at hp
      subst hp
      exact ⟨.inl ⟨.inl rfl, hd⟩, by simp, fun u hu => by simp [objVs] at hu⟩
    ·simp only [keysV, List.mem_singleton] at hk
     subst hk
     exact .inr ⟨hd, _, List.mem_append_right _ (List.mem_singleton.2 rfl)⟩
   ·trivial
theorem effAt_cd {f s : Nat} {fn : Func} {chk : List (List D) → List A → Bool} {mk : List (List D) → List A → List A} (hf : C.P.funcs[f]? = some fn) (hb : fn.body ≠ none) (hn : fn.name ≠ "runtime.NumGoroutine")
 (hmk : ∀ es al, chk es al = true → GivesD C f s es al (mk es al)) : EffAt C f (effCd s chk mk) := by
 refine ⟨fun {B F0 w0 F loc st a w dst args ts ty pos after g} hc => ?_, fun dst vs ob ob' hh hd => ?_, fun dst vs ob hv _ => ?_⟩
 ·unfold effCd
  split
  ·rename_i k r hvs
   split
   ·rename_i s0 es al hk hto
    split
    ·rename_i hsk
     simp only [Bool.and_eq_true] at hsk
     obtain rfl := Nat.eq_of_beq_eq_true hsk.1
     intro hck next Q hnx
     have hG := hmk es al hck
     obtain ⟨x0, xs, hxs⟩ : ∃ x0 xs, args.toList = x0 :: xs := by
      cases h : args.toList with
      | nil => rw [h] at hvs; simp at hvs
      | cons x0 xs => exact ⟨x0, xs, rfl⟩
     rw [hxs] at hvs
     simp only [List.map_cons, List.cons.injEq] at hvs
     obtain ⟨hx0, rfl⟩ := hvs
     obtain ⟨hfz, hall⟩ := toAs_ok hc hto (all2_ev hc xs)
     have hargs := hall F (fun _ h => h) (fun p hp => by simp at hp)
     obtain ⟨gb, c0, cs0, t0, q1, q2, hL⟩ := own_arr hc hx0 hk (fun e => by rw [e] at hsk; simp [notE2] at hsk)
     have hcall := hG w F (xs.map a.eval) gb c0 cs0 t0 hc.bound hc.inv hargs hL
     have hargs' : (Value.slice (some ⟨gb, 0, none⟩) es.length c0 :: xs.map a.eval).toArray = args.map a.eval := by
      apply Array.ext'
      rw [Array.toList_map, hxs]
      simp [q2]
     rw [hargs'] at hcall
     refine wp_entered hf hb hn hcall fun e w' he => ?_
     obtain ⟨hbel, v, rfl, hres⟩ := he
     refine ⟨_, rfl, hnx _ _ ?_⟩
     exact hc.goneD (dead := [(k, .dead)]) (rv := resV (mk es al)) (fun p hp => by
      simp only [List.mem_singleton] at hp; subst hp
      exact ⟨rfl, lt_of_nth (by rw [hk]; simp), by rw [hk]; simp⟩) (fun x hx => by
      have hx : x = gb := hx
      rw [hx]
      exact ⟨hL.nF, (k, .dead), by simp, c0, q1⟩) hbel (fun x hx => .inl hx) (fun x hx => by
      rcases hx with hx | hx
      ·exact ⟨Nat.lt_of_lt_of_le (hc.bound x hx) hbel.size, .inl hx⟩
      ·exact ⟨hx.2, .inr hx.1⟩) (fun loc objs => res_CV hres)
    ·trivial
   ·trivial
  ·trivial
 ·unfold effCd
  cases vs with
  | nil => rfl
  | cons v r =>
   cases v with
   | arr k =>
    have h0 : nth .none ob k = nth .none ob' k := hh k (by
     rw [mem_deepB]
     exact ⟨k, List.mem_flatMap.2 ⟨.arr k, by simp, by simp [keysV]⟩, .inl rfl⟩)
    have h1 : toAs ob r = toAs ob' r := toAs_ag (c := 2) fun v hv k hk => .inl (hh k (by
     rw [mem_deepB]
     exact ⟨k, List.mem_flatMap.2 ⟨v, by simp [hv], hk⟩, .inl rfl⟩))
    simp only [h0, h1]
   | _ => rfl
 ·unfold effCd
  split
  ·rename_i k r
   split
   ·rename_i s0 es al hk hto
    split
    ·refine ⟨fun p hp => ?_, fun j hj => by rw [keys_resV] at hj; simp at hj⟩
     simp only [List.mem_singleton] at hp
     subst hp
     refine ⟨.inr ⟨?_, by rw [hk]; simp⟩, by simp, fun u hu => by simp [objVs] at hu⟩
     rw [mem_deepB]
     exact ⟨k, List.mem_flatMap.2 ⟨.arr k, by simp, by simp [keysV]⟩, .inl rfl⟩
    ·trivial
   ·trivial
  ·trivial
end
theorem givesT_cx {C C' : Cx} (hP : C'.P = C.P) (hG : C'.G = C.G) {f s : Nat} {al as : List A} {es : List (List D)} (h : GivesT C f al s es as) : GivesT C' f al s es as := by
 intro w F vs hb hi h2
 rw [hP]
 exact h w F vs hb (inv_cx hG.symm hi) h2
theorem givesD_cx {C C' : Cx} (hP : C'.P = C.P) (hG : C'.G = C.G) {f s : Nat} {es : List (List D)} {post res : List A} (h : GivesD C f s es post res) : GivesD C' f s es post res := by
 intro w F vs2 g c0 cs0 t0 hb hi h2 hl
 rw [hP] at hl ⊢
 exact h w F vs2 g c0 cs0 t0 hb (inv_cx hG.symm hi) h2 hl
end Eng
end
