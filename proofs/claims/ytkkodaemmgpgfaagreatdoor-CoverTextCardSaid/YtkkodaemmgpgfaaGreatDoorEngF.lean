/- The engine, part 33: such calls as calls that turn local objects. -/
import Derived.Test.YtkkodaemmgpgfaaGreatDoorEngE
section
namespace Eng
open Go Go.RowKit
def effCl (chk : List A → Bool) (s : Nat) (mk : List A → List (List D)) (dst : Option Nat) (vs : List V) (ob : List Obj) : R :=
 match dst with
 | none => .fail
 | some d => match freeKey ob d, toAs ob vs with
  | true, some (al, us) => .cond (chk al = true) (.arr d) (us ++ [(d, .arr s (mk al) false)])
  | _, _ => .fail
def keysU : List (Nat × Obj) → List Nat
 | [] => []
 | p :: r => p.1 :: keysU r
def effCo (s : Nat) (chk : List (List D) → List A → Bool) (mk : List (List D) → List A → List (List D)) (dst : Option Nat) (vs : List V) (ob : List Obj) : R :=
 match dst with
 | none => .fail
 | some d => match vs with
  | .arr k :: r => match freeKey ob d, nth .none ob k, toAs ob r with
   | true, .arr s0 es false, some (al, us) => match Nat.beq s0 s && !memN k (keysU us) with
    | true => .cond (chk es al = true) (.arr d) (us ++ [(k, .dead), (d, .arr s (mk es al) false)])
    | false => .fail
   | _, _, _ => .fail
  | _ => .fail
theorem mem_keysU {k : Nat} : ∀ {us : List (Nat × Obj)}, k ∈ keysU us ↔ ∃ p ∈ us, p.1 = k
 | [] => by simp [keysU]
 | p :: r => by
  simp only [keysU, List.mem_cons]
  rw [mem_keysU]
  constructor
  ·rintro (rfl | ⟨q, hq, rfl⟩)
   ·exact ⟨p, .inl rfl, rfl⟩
   ·exact ⟨q, .inr hq, rfl⟩
  ·rintro ⟨q, rfl | hq, rfl⟩
   ·exact .inl rfl
   ·exact .inr ⟨q, hq, rfl⟩
section
variable {C : Cx}
theorem effAt_cl {f s : Nat} {fn : Func} {chk : List A → Bool} {mk : List A → List (List D)} (hf : C.P.funcs[f]? = some fn) (hb : fn.body ≠ none) (hn : fn.name ≠ "runtime.NumGoroutine") (hmk : ∀ al, chk al = true → mk al ≠ [] ∧ GivesC C f al none [] s (mk al)) : EffAt C f (effCl chk s mk) := by
 refine ⟨fun {B F0 w0 F loc st a w dst args ts ty pos after g} hc => ?_, fun dst vs ob ob' hh hd => ?_, fun dst vs ob hv _ => ?_⟩
 ·unfold effCl
  split
  ·trivial
  ·rename_i d
   split
   ·rename_i al us hd hto
    obtain ⟨hfz, hall⟩ := toAs_ok hc hto (all2_ev hc args.toList)
    obtain ⟨F', hc', hF', hb'⟩ := hc.freezes hfz st.dirty
    have hargs := hall F' hF' hb'
    intro hck next Q hnx
    obtain ⟨hne, hG⟩ := hmk al hck
    have hcall := hG w F' (args.toList.map a.eval) [] 0 0 #[] 0 hc'.bound hc'.inv hargs trivial (fun s0 es0 h => by simp at h)
    have hargs' : (args.toList.map a.eval ++ (lentV 0 0 none ++ [])).toArray = args.map a.eval := by apply Array.ext'; simp [lentV]
    rw [hargs'] at hcall
    refine wp_entered hf hb hn hcall fun e w' he => ?_
    obtain ⟨hbel, F2, b, c, cs, t, rfl, h1, h2, h3, h4⟩ := he
    refine ⟨_, rfl, hnx _ _ ?_⟩
    have h5 := hc'.adoptC (dst := some d) (d := d) (dead := []) (freeKey_upds hfz hd) (fun p hp => by simp at hp) (fun x hx => hx.elim) hbel h1 h2 h3 h4 hne
    refine has_same h5 rfl ?_
    show upds (upds st.objs us) ([] ++ [(d, .arr s (mk al) false)]) = upds st.objs (us ++ [(d, .arr s (mk al) false)])
    rw [upds_append us]; rfl
   ·trivial
 ·unfold effCl
  cases dst with
  | none => rfl
  | some d =>
   have h1 : toAs ob vs = toAs ob' vs := toAs_ag (c := 2) fun v hv k hk => .inl (hh k (by
    rw [mem_deepK]
    exact ⟨k, List.mem_flatMap.2 ⟨v, hv, hk⟩, .inl rfl⟩))
   simp only [h1]
   rw [hd d rfl]
 ·unfold effCl
  split
  ·trivial
  ·rename_i d
   split
   ·rename_i al us hd hto
    have hfz := toAs_fz hto
    refine ⟨fun p hp => ?_, fun k hk => ?_⟩
    ·rcases List.mem_append.1 hp with hp | hp
     ·obtain ⟨⟨v, hv1, hv2⟩, s', es', fz, h1, h2⟩ := hfz p hp
      refine ⟨.inr ⟨?_, by rw [h1]; simp⟩, by rw [h2]; simp, fun u hu => by rw [h2] at hu; simp [objVs] at hu⟩
      rw [mem_deepK]
      exact ⟨p.1, List.mem_flatMap.2 ⟨v, hv1, hv2⟩, .inl rfl⟩
     ·simp only [List.mem_singleton] at hp
      subst hp
      exact ⟨.inl ⟨rfl, hd⟩, by simp, fun u hu => by simp [objVs] at hu⟩
    ·simp only [keysV, List.mem_singleton] at hk
     subst hk
     exact .inr ⟨hd, _, List.mem_append_right _ (List.mem_singleton.2 rfl)⟩
   ·trivial
theorem effAt_co {f s : Nat} {fn : Func} {chk : List (List D) → List A → Bool} {mk : List (List D) → List A → List (List D)} (hf : C.P.funcs[f]? = some fn) (hb : fn.body ≠ none) (hn : fn.name ≠ "runtime.NumGoroutine")
 (hmk : ∀ es al, chk es al = true → es ≠ [] ∧ mk es al ≠ [] ∧ GivesC C f [] (some (s, es)) al s (mk es al)) : EffAt C f (effCo s chk mk) := by
 refine ⟨fun {B F0 w0 F loc st a w dst args ts ty pos after g} hc => ?_, fun dst vs ob ob' hh hd => ?_, fun dst vs ob hv _ => ?_⟩
 ·unfold effCo
  split
  ·trivial
  ·rename_i d
   split
   ·rename_i k r hvs
    split
    ·rename_i s0 es al us hd hk hto
     split
     ·rename_i hsk
      simp only [Bool.and_eq_true, Bool.not_eq_true'] at hsk
      obtain rfl := Nat.eq_of_beq_eq_true hsk.1
      have hku : ¬ ∃ p ∈ us, p.1 = k := fun h => by
       have := memN_iff.2 (mem_keysU.2 h)
       rw [this] at hsk; simp at hsk
      intro hck next Q hnx
      obtain ⟨hne, hne2, hG⟩ := hmk es al hck
      obtain ⟨x0, xs, hxs⟩ : ∃ x0 xs, args.toList = x0 :: xs := by
       cases h : args.toList with
       | nil => rw [h] at hvs; simp at hvs
       | cons x0 xs => exact ⟨x0, xs, rfl⟩
      rw [hxs] at hvs
      simp only [List.map_cons, List.cons.injEq] at hvs
      obtain ⟨hx0, rfl⟩ := hvs
      obtain ⟨hfz, hall⟩ := toAs_ok hc hto (all2_ev hc xs)
      obtain ⟨F', hc', hF', hb'⟩ := hc.freezes hfz st.dirty
      have hargs := hall F' hF' hb'
      have hv0 := (ev_ok hc x0).1
      rw [hx0] at hv0
      have hk' : nth .none (upds st.objs us) k = .arr s0 es false := by
       rw [nth_upds_out _ _ fun p hp e => hku ⟨p, hp, e⟩]; exact hk
      have hco := hc'.objs k
      simp only at hco
      rw [hk'] at hco
      obtain ⟨q1, q2, q3, q4⟩ := hco
      rcases q4 with ⟨_, q5⟩ | ⟨gb, c0, cs0, t0, q5, q6, q7, q8, q9, q10, q11, q12⟩
      ·exact absurd q5 hne
      ·rcases hv0 _ _ _ hk with ⟨b1, c1, r1, r2⟩ | ⟨r1, _⟩
       ·rw [q5] at r1
        simp only [Option.some.injEq, Prod.mk.injEq] at r1
        obtain ⟨rfl, rfl⟩ := r1
        have hcall := hG w F' [] (xs.map a.eval) gb c0 cs0 t0 hc'.bound hc'.inv trivial hargs (fun s1 es1 he => by
         simp only [Option.some.injEq, Prod.mk.injEq] at he
         obtain ⟨rfl, rfl⟩ := he
         exact ⟨by simpa using q6, (hc'.fresh _ _ _ q5).2, q7, q8, q9, q1, q2, q3, by rw [← hc.prog]; exact q11, q10⟩)
        have hargs' : ([] ++ (lentV gb c0 (some (s0, es)) ++ xs.map a.eval)).toArray = args.map a.eval := by
         apply Array.ext'
         rw [Array.toList_map, hxs]
         simp [lentV, r2]
        rw [hargs'] at hcall
        refine wp_entered hf hb hn hcall fun e w' he => ?_
        obtain ⟨hbel, F2, b, c, cs, t, rfl, h1, h2, h3, h4⟩ := he
        refine ⟨_, rfl, hnx _ _ ?_⟩
        have hkl : k < (upds st.objs us).length := lt_of_nth (by rw [hk']; simp)
        have h5 := hc'.adoptC (dst := some d) (d := d) (dead := [(k, .dead)]) (freeKey_upds hfz hd) (fun p hp => by
         simp only [List.mem_singleton] at hp
         subst hp
         exact ⟨rfl, hkl, by rw [hk']; simp⟩) (fun x hx => by
         have hx : x = gb := hx
         subst hx
         exact ⟨by simpa using q6, (k, .dead), by simp, c0, q5⟩) hbel h1 h2 h3 h4 hne2
        refine has_same h5 rfl ?_
        show upds (upds st.objs us) ([(k, .dead)] ++ [(d, .arr s0 (mk es al) false)]) = upds st.objs (us ++ [(k, .dead), (d, .arr s0 (mk es al) false)])
        rw [upds_append us]; rfl
       ·have h6 : loc k = some (gb, c0) := q5
        rw [h6] at r1; simp at r1
     ·trivial
    ·trivial
   ·trivial
 ·unfold effCo
  cases dst with
  | none => rfl
  | some d =>
   dsimp only
   cases vs with
   | nil => rfl
   | cons v r =>
    cases v with
    | arr k =>
     have h0 : nth .none ob k = nth .none ob' k := hh k (by
      rw [mem_deepK]
      exact ⟨k, List.mem_flatMap.2 ⟨.arr k, by simp, by simp [keysV]⟩, .inl rfl⟩)
     have h1 : toAs ob r = toAs ob' r := toAs_ag (c := 2) fun v hv k hk => .inl (hh k (by
      rw [mem_deepK]
      exact ⟨k, List.mem_flatMap.2 ⟨v, by simp [hv], hk⟩, .inl rfl⟩))
     simp only [h0, h1]
     rw [hd d rfl]
    | _ => rfl
 ·unfold effCo
  split
  ·trivial
  ·rename_i d
   split
   ·rename_i k r
    split
    ·rename_i s0 es al us hd hk hto
     split
     ·have hfz := toAs_fz hto
      refine ⟨fun p hp => ?_, fun j hj => ?_⟩
      ·rcases List.mem_append.1 hp with hp | hp
       ·obtain ⟨⟨v, hv1, hv2⟩, s', es', fz, h1, h2⟩ := hfz p hp
        refine ⟨.inr ⟨?_, by rw [h1]; simp⟩, by rw [h2]; simp, fun u hu => by rw [h2] at hu; simp [objVs] at hu⟩
        rw [mem_deepK]
        exact ⟨p.1, List.mem_flatMap.2 ⟨v, by simp [hv1], hv2⟩, .inl rfl⟩
       ·simp only [List.mem_cons, List.not_mem_nil, or_false] at hp
        rcases hp with rfl | rfl
        ·refine ⟨.inr ⟨?_, by rw [hk]; simp⟩, by simp, fun u hu => by simp [objVs] at hu⟩
         rw [mem_deepK]
         exact ⟨k, List.mem_flatMap.2 ⟨.arr k, by simp, by simp [keysV]⟩, .inl rfl⟩
        ·exact ⟨.inl ⟨rfl, hd⟩, by simp, fun u hu => by simp [objVs] at hu⟩
      ·simp only [keysV, List.mem_singleton] at hj
       subst hj
       exact .inr ⟨hd, _, List.mem_append_right _ (List.mem_cons_of_mem _ (List.mem_singleton.2 rfl))⟩
     ·trivial
    ·trivial
   ·trivial
end
end Eng
end

section
namespace Eng
open Go Go.RowKit
def GivesI (C : Cx) (f : Nat) (s : Nat) (es : List (List D)) (post : List A) (res : List A) (es' : List (List D)) : Prop :=
 ∀ (w : World) (F : Nat → Prop) (vs2 : List Value) (g c0 : Nat) (cs0 : Array Value) (t0 : TypeId), (∀ b, F b → b < w.heap.size) → Inv C F w → All2 (CA w F) post vs2 → LentOk C.P w F g c0 cs0 t0 s es →
  Calls C.P f (.slice (some ⟨g, 0, none⟩) es.length c0 :: vs2).toArray w fun e w' => BelowX ⟨w.heap.size, fun b => b = g⟩ w w' ∧
   ∃ (F' : Nat → Prop) (cs : Array Value) (v : Value), e = .returned v ∧ (∀ x, F x → F' x) ∧ (∀ x, F' x → x < w'.heap.size ∧ (F x ∨ Own ⟨w.heap.size, fun b => b = g⟩ x)) ∧ CRes w' F' res v ∧ LentOk C.P w' F' g c0 cs t0 s es' ∧ es'.length = es.length
def initI (n s : Nat) (es : List (List D)) (post : List A) (g c t : Nat) : St :=
 ⟨.arrAt (keyC n) g c t :: (post.map argV ++ List.replicate (n - (1 + post.length)) .any), upd (List.replicate (n + 8) .none) (keyC n) (.arr s es false), []⟩
section
variable {C : Cx}
theorem init_hasI {n s g c0 : Nat} {es : List (List D)} {post : List A} {vs2 : List Value} {w : World} {F : Nat → Prop} {cs0 : Array Value} {t0 : TypeId} (hb : ∀ b, F b → b < w.heap.size) (hinv : Inv C F w) (h2 : All2 (CA w F) post vs2) (hL : LentOk C.P w F g c0 cs0 t0 s es) :
 St.has C ⟨w.heap.size, fun b => b = g⟩ F w (initI n s es post g c0 t0) { tmps := (Value.slice (some ⟨g, 0, none⟩) es.length c0 :: vs2).toArray ++ Array.replicate (n - (Value.slice (some ⟨g, 0, none⟩) es.length c0 :: vs2).toArray.size) undef, defers := [] } w := by
 have hl2 := h2.length
 have hkl : keyC n < (List.replicate (n + 8) Obj.none).length := by simp [keyC]
 have hn : ∀ k, nth .none (upd (List.replicate (n + 8) Obj.none) (keyC n) (.arr s es false)) k = if k = keyC n then .arr s es false else .none := fun k => by
  by_cases hk : keyC n = k
  ·subst hk; rw [nth_upd_same _ _ _ hkl, if_pos rfl]
  ·rw [nth_upd_ne _ _ _ hk, nth_rep, if_neg (Ne.symm hk)]
 refine ⟨F, ⟨C.P, fun k => if k = keyC n then some (g, c0) else none, fun _ => t0⟩, ⟨rfl, BelowX.refl _ _, Nat.le_refl _, rfl, ?_, fun v hv => ?_, fun k => ?_, ?_, ?_, hb, fun b h => .inl h, fun _ h => h, hinv⟩⟩
 ·simp only [initI, Array.toList_append, Array.toList_replicate, List.size_toArray, List.cons_append]
  refine ⟨?_, all2_app (argV_ok h2) ?_⟩
  ·intro s' es' fz' hc
   rw [hn, if_pos rfl] at hc
   simp only [Obj.arr.injEq] at hc
   obtain ⟨rfl, rfl, rfl⟩ := hc
   exact ⟨⟨by simp, rfl⟩, rfl⟩
  ·have e : (Value.slice (some ⟨g, 0, none⟩) es.length c0 :: vs2).length = 1 + post.length := by simp only [List.length_cons]; omega
   rw [e]
   exact all2_rep trivial _
 ·simp only [initI, List.mem_append, List.mem_cons, List.mem_map, List.mem_replicate] at hv
  rcases hv with rfl | ⟨x, _, rfl⟩ | ⟨_, rfl⟩
  ·intro hc
   have hc : nth Obj.none (upd (List.replicate (n + 8) Obj.none) (keyC n) (.arr s es false)) (keyC n) = Obj.none := hc
   rw [hn, if_pos rfl] at hc; simp at hc
  ·exact argV_ref x
  ·trivial
 ·simp only [initI]
  rw [hn]
  split
  ·rename_i e
   exact ⟨hL.room, hL.s0, hL.lens, .inr ⟨g, c0, cs0, t0, by simp [e], hL.nF, hL.blk, hL.sz, hL.lc, hL.cd, hL.ct, rfl⟩⟩
  ·rename_i e
   show (if k = keyC n then some (g, c0) else none) = none
   rw [if_neg e]
 ·intro k k' b c c' q1 q2
  simp only at q1 q2
  split at q1
  ·split at q2
   ·rename_i e1 e2; rw [e1, e2]
   ·simp at q2
  ·simp at q1
 ·intro k b c q1
  simp only at q1
  split at q1
  ·simp only [Option.some.injEq, Prod.mk.injEq] at q1
   obtain ⟨rfl, rfl⟩ := q1
   exact ⟨.inr rfl, hL.lt⟩
  ·simp at q1
theorem resD_okF {F0 : Nat → Prop} {w0 : World} {B : Bd} {F : Nat → Prop} {loc : Where} {st : St} {a : Act} {w : World} (h : Conc C B F0 w0 F loc st a w) {fn : Func} {as : List A} (hr : resD C st fn.results.toList = some as) (hfl : ∀ r ∈ as, flatA r = true) :
 a.defers = [] ∧ ∃ v, (results fn a.tmps).run C.P w = .ok v w ∧ ∀ F' : Nat → Prop, CRes w F' as v := by
 obtain ⟨us, h1, h2⟩ := resD_ok h hr
 refine ⟨h.defers, if h : us.toArray.size = 1 then us.toArray[0] else .tuple us.toArray, ?_, fun F' => ?_⟩
 ·unfold results
  rw [Array.mapM_eq_mapM_toList]
  simp only [Sem.run_bind, map_eq_pure_bind]
  have h5 : ∀ g : ResultVar → Sem Value, g = getR a.tmps → (fn.results.toList.mapM g).run C.P w = .ok us w := fun g hg => by rw [hg]; exact h1
  rw [h5 _ (by funext r; cases r <;> rfl)]
  rfl
 ·match as, us, h2 with
  | [a], [u], h2 => exact flat_CA h2.1 (hfl _ (by simp))
  | [], [], h2 => exact ⟨#[], rfl, trivial⟩
  | a :: b :: r, u :: v :: s, h2 => exact ⟨(u :: v :: s).toArray, by simp, h2.mono_mem fun r hr v hv => flat_CA hv (hfl r hr)⟩
variable {B : Bd} {F0 : Nat → Prop} {w0 : World} {F : Nat → Prop} {loc : Where} {st : St} {a : Act} {w : World}
theorem Conc.turned {dst : Option Nat} {k s g c0 : Nat} {es es' : List (List D)} {cs : Array Value} {t : TypeId} {w' : World} {F' : Nat → Prop} {v : V} {x : Value} {us : List (Nat × Obj)} (h : Conc C B F0 w0 F loc st a w) (hk : nth .none st.objs k = .arr s es false) (hl : loc k = some (g, c0)) (hnF : ¬ F g) (htk : loc.ty k = t)
 (hbel : BelowX ⟨w.heap.size, fun b => b = g⟩ w w') (hF1 : ∀ x, F x → F' x) (hF2 : ∀ x, F' x → x < w'.heap.size ∧ (F x ∨ Own ⟨w.heap.size, fun b => b = g⟩ x)) (hL : LentOk C.P w' F' g c0 cs t s es') (hlen : es'.length = es.length) (hus : us = [(k, .arr s es' false)])
 (hv : ∀ (loc : Where) (objs : List Obj), CV loc objs w' F' v x ∧ Ref objs v) : St.has C B F0 w0 (st.put dst v us) (a.put dst x) w' := by
 subst hus
 have hkl : k < st.objs.length := lt_of_nth (by rw [hk]; simp)
 have hle : Le st.objs (upd st.objs k (.arr s es' false)) loc loc := le_arr hk hlen
 have hsize := hbel.size
 have hwF : ∀ x, F x → w'.heap[x]? = w.heap[x]? := fun x hx => hbel.block x (h.bound x hx) fun e => by
  have e : x = g := e
  exact hnF (e ▸ hx)
 have hfr := h.fresh _ _ _ hl
 have hown : ∀ x, Own ⟨w.heap.size, fun b => b = g⟩ x → Own B x := fun x hx => by
  rcases hx with hx | hx
  ·exact .inl (Nat.le_trans h.hB hx)
  ·have hx : x = g := hx
   rw [hx]; exact hfr.1
 have hbw : BelowX B w w' := ⟨hbel.os, hbel.tape, hbel.output, hbel.size, fun j hj hjX => hbel.block j (Nat.lt_of_lt_of_le hj h.hB) fun hx => by
  rcases hown j (.inr hx) with h1 | h1
  ·omega
  ·exact hjX h1⟩
 refine ⟨F', loc, h.step (up := [(k, .arr s es' false)]) hF1 hwF hle (h.below.trans hbw) (by have := h.hB; omega) (fun j => ?_) h.inj (fun j x y hj => ⟨(h.fresh _ _ _ hj).1, Nat.lt_of_lt_of_le (h.fresh _ _ _ hj).2 hsize⟩) (fun x hx => (hF2 x hx).1) (fun x hx => ?_) (hv _ _).1 (hv loc _).2⟩
 ·show CO _ (upd st.objs k (.arr s es' false)) _ _ _ (nth .none (upd st.objs k (.arr s es' false)) j)
  by_cases hkj : k = j
  ·subst hkj
   rw [nth_upd_same _ _ _ hkl]
   exact ⟨hL.room, hL.s0, hL.lens, .inr ⟨g, c0, cs, t, hl, hL.nF, hL.blk, hL.sz, hL.lc, hL.cd, by rw [h.prog]; exact hL.ct, htk⟩⟩
  ·rw [nth_upd_ne _ _ _ hkj]
   refine CO.le hF1 hwF hle rfl rfl (fun x y hj => ?_) (h.objs j)
   have hx : x ≠ g := fun e => by subst e; exact hkj (h.inj _ _ _ _ _ hl hj)
   refine ⟨hbel.block x (h.fresh _ _ _ hj).2 hx, fun hnF2 hF' => ?_⟩
   rcases (hF2 x hF').2 with h1 | h1 | h1
   ·exact hnF2 h1
   ·have h1 : w.heap.size ≤ x := h1
    have := (h.fresh _ _ _ hj).2; omega
   ·exact hx h1
 ·rcases (hF2 x hx).2 with h1 | h1
  ·exact h.fsub x h1
  ·exact .inr (hown x h1)
end
end Eng
end

section
namespace Eng
open Go Go.RowKit
def effIn (s : Nat) (chk : List (List D) → List A → Bool) (mk : List (List D) → List A → List (List D)) (res : List (List D) → List A → List A) (_ : Option Nat) (vs : List V) (ob : List Obj) : R :=
 match vs with
 | .arr k :: r => match nth .none ob k, toAs ob r with
  | .arr s0 es false, some (al, us) => match Nat.beq s0 s && !memN k (keysU us) with
   | true => .cond (chk es al = true) (resV (res es al)) (us ++ [(k, .arr s (mk es al) false)])
   | false => .fail
  | _, _ => .fail
 | _ => .fail
section
variable {C : Cx}
theorem effAt_in {f s : Nat} {fn : Func} {chk : List (List D) → List A → Bool} {mk : List (List D) → List A → List (List D)} {res : List (List D) → List A → List A} (hf : C.P.funcs[f]? = some fn) (hb : fn.body ≠ none) (hn : fn.name ≠ "runtime.NumGoroutine")
 (hmk : ∀ es al, chk es al = true → es ≠ [] ∧ GivesI C f s es al (res es al) (mk es al)) : EffAt C f (effIn s chk mk res) := by
 refine ⟨fun {B F0 w0 F loc st a w dst args ts ty pos after g} hc => ?_, fun dst vs ob ob' hh hd => ?_, fun dst vs ob hv _ => ?_⟩
 ·unfold effIn
  split
  ·rename_i k r hvs
   split
   ·rename_i s0 es al us hk hto
    split
    ·rename_i hsk
     simp only [Bool.and_eq_true, Bool.not_eq_true'] at hsk
     obtain rfl := Nat.eq_of_beq_eq_true hsk.1
     have hku : ¬ ∃ p ∈ us, p.1 = k := fun h => by
      have := memN_iff.2 (mem_keysU.2 h)
      rw [this] at hsk; simp at hsk
     intro hck next Q hnx
     obtain ⟨hne, hG⟩ := hmk es al hck
     obtain ⟨x0, xs, hxs⟩ : ∃ x0 xs, args.toList = x0 :: xs := by
      cases h : args.toList with
      | nil => rw [h] at hvs; simp at hvs
      | cons x0 xs => exact ⟨x0, xs, rfl⟩
     rw [hxs] at hvs
     simp only [List.map_cons, List.cons.injEq] at hvs
     obtain ⟨hx0, rfl⟩ := hvs
     obtain ⟨hfz, hall⟩ := toAs_ok hc hto (all2_ev hc xs)
     obtain ⟨F', hc', hF', hb'⟩ := hc.freezes hfz st.dirty
     have hargs := hall F' hF' hb'
     have hv0 := (ev_ok hc x0).1
     rw [hx0] at hv0
     have hk' : nth .none (upds st.objs us) k = .arr s0 es false := by
      rw [nth_upds_out _ _ fun p hp e => hku ⟨p, hp, e⟩]; exact hk
     have hco := hc'.objs k
     simp only at hco
     rw [hk'] at hco
     obtain ⟨q1, q2, q3, q4⟩ := hco
     rcases q4 with ⟨_, q5⟩ | ⟨gb, c0, cs0, t0, q5, q6, q7, q8, q9, q10, q11, q12⟩
     ·exact absurd q5 hne
     ·rcases hv0 _ _ _ hk with ⟨b1, c1, r1, r2⟩ | ⟨r1, _⟩
      ·rw [q5] at r1
       simp only [Option.some.injEq, Prod.mk.injEq] at r1
       obtain ⟨rfl, rfl⟩ := r1
       have hcall := hG w F' (xs.map a.eval) gb c0 cs0 t0 hc'.bound hc'.inv hargs ⟨by simpa using q6, (hc'.fresh _ _ _ q5).2, q7, q8, q9, q1, q2, q3, by rw [← hc.prog]; exact q11, q10⟩
       have hargs' : (Value.slice (some ⟨gb, 0, none⟩) es.length c0 :: xs.map a.eval).toArray = args.map a.eval := by
        apply Array.ext'
        rw [Array.toList_map, hxs]
        simp [r2]
       rw [hargs'] at hcall
       refine wp_entered hf hb hn hcall fun e w' he => ?_
       obtain ⟨hbel, F2, cs, v, rfl, h1, h2, h3, h4, h5⟩ := he
       refine ⟨_, rfl, hnx _ _ ?_⟩
       have h6 := hc'.turned (dst := dst) (k := k) (es' := mk es al) (v := resV (res es al)) (x := v) hk' q5 (by simpa using q6) q12 hbel h1 h2 h4 h5 rfl (fun loc objs => res_CV h3)
       refine has_same h6 rfl ?_
       show upds (upds st.objs us) [(k, .arr s0 (mk es al) false)] = upds st.objs (us ++ [(k, .arr s0 (mk es al) false)])
       rw [upds_append us]
      ·have h6 : loc k = some (gb, c0) := q5
       rw [h6] at r1; simp at r1
    ·trivial
   ·trivial
  ·trivial
 ·unfold effIn
  cases vs with
  | nil => rfl
  | cons v r =>
   cases v with
   | arr k =>
    have h0 : nth .none ob k = nth .none ob' k := hh k (by
     rw [mem_deepK]
     exact ⟨k, List.mem_flatMap.2 ⟨.arr k, by simp, by simp [keysV]⟩, .inl rfl⟩)
    have h1 : toAs ob r = toAs ob' r := toAs_ag (c := 2) fun v hv k hk => .inl (hh k (by
     rw [mem_deepK]
     exact ⟨k, List.mem_flatMap.2 ⟨v, by simp [hv], hk⟩, .inl rfl⟩))
    simp only [h0, h1]
   | _ => rfl
 ·unfold effIn
  split
  ·rename_i k r
   split
   ·rename_i s0 es al us hk hto
    split
    ·have hfz := toAs_fz hto
     refine ⟨fun p hp => ?_, fun j hj => by rw [keys_resV] at hj; simp at hj⟩
     rcases List.mem_append.1 hp with hp | hp
     ·obtain ⟨⟨v, hv1, hv2⟩, s', es', fz, h1, h2⟩ := hfz p hp
      refine ⟨.inr ⟨?_, by rw [h1]; simp⟩, by rw [h2]; simp, fun u hu => by rw [h2] at hu; simp [objVs] at hu⟩
      rw [mem_deepK]
      exact ⟨p.1, List.mem_flatMap.2 ⟨v, by simp [hv1], hv2⟩, .inl rfl⟩
     ·simp only [List.mem_singleton] at hp
      subst hp
      refine ⟨.inr ⟨?_, by rw [hk]; simp⟩, by simp, fun u hu => by simp [objVs] at hu⟩
      rw [mem_deepK]
      exact ⟨k, List.mem_flatMap.2 ⟨.arr k, by simp, by simp [keysV]⟩, .inl rfl⟩
    ·trivial
   ·trivial
  ·trivial
end
end Eng
end

section
namespace Eng
open Go Go.RowKit
def runFc (tab : Nat → List A → Option (List A)) (C : Cx) (lim n f : Nat) (pre : List A) (lent : Option (Nat × List (List D))) (post : List A) : Option (Nat × List (List D)) :=
 match C.P.funcs[f]? with
 | none => none
 | some fn => match fn.body with
  | none => none
  | some c => match runC (runF tab C lim n) C lim c (initC fn.ntmps pre lent post) with
   | some (.normal, s) => ownP s fn.results.toList
   | some (.ret, s) => ownP s fn.results.toList
   | _ => none
def endB (C : Cx) (fn : Func) (st : St) : Option (List A × List (List D) × Nat × Nat × Nat × Nat) :=
 match resD C st fn.results.toList with
 | none => none
 | some as => match nth .any st.tmps 0 with
  | .arrAt k g c t => match Nat.beq k (keyC fn.ntmps), nth .none st.objs (keyC fn.ntmps) with
   | true, .arr s es false => some (as, es, s, g, c, t)
   | _, _ => none
  | _ => none
def runFi (tab : Nat → List A → Option (List A)) (C : Cx) (lim n f s : Nat) (es : List (List D)) (post : List A) (g c t : Nat) : Option (List A × List (List D) × Nat × Nat × Nat × Nat) :=
 match C.P.funcs[f]? with
 | none => none
 | some fn => match fn.body with
  | none => none
  | some b => match runC (runF tab C lim n) C lim b (initI fn.ntmps s es post g c t) with
   | some (.normal, st) => endB C fn st
   | some (.ret, st) => endB C fn st
   | _ => none
section
variable {C : Cx}
theorem runFc_ok [EffOk C] {tab : Nat → List A → Option (List A)} {lim : Nat} (hm : C.P.follows .mixedOrders = true) (htab : ∀ f as rs, tab f as = some rs → Gives C f as rs) {n f s : Nat} {pre post : List A} {lent : Option (Nat × List (List D))} {es : List (List D)} (hne : es ≠ [])
 (h : runFc tab C lim n f pre lent post = some (s, es)) : GivesC C f pre lent post s es := by
 unfold runFc at h
 split at h
 ·simp at h
 rename_i fn hf
 split at h
 ·simp at h
 rename_i c hc
 have key : ∀ (x : X) (s' : St), (x = .normal ∨ x = .ret) → runC (runF tab C lim n) C lim c (initC fn.ntmps pre lent post) = some (x, s') → ownP s' fn.results.toList = some (s, es) → GivesC C f pre lent post s es := by
  intro x s' hx hr hres w F vs1 vs2 g c0 cs0 t0 hb hinv h1 h2 hl
  refine calls_of_wp hf hc (Code.wp_mono (fun e a' w' hp => ?_) (runC_ok hm (fun f as rs h => runF_ok hm htab n f as rs h) lim c _ s' x _ w hr (init_hasC hb hinv h1 h2 hl)))
  obtain ⟨he, hh⟩ := hp
  have fin := own_finC (fn := fn) hh hres hne
  rcases hx with rfl | rfl
  ·have he : e = .normal := he; subst he; exact fin
  ·have he : e = .ret := he; subst he; exact fin
 split at h
 ·rename_i s' hr; exact key _ _ (.inl rfl) hr h
 ·rename_i s' hr; exact key _ _ (.inr rfl) hr h
 ·simp at h
theorem runFi_ok [EffOk C] {tab : Nat → List A → Option (List A)} {lim : Nat} (hm : C.P.follows .mixedOrders = true) (htab : ∀ f as rs, tab f as = some rs → Gives C f as rs) {n f s : Nat} {es es' : List (List D)} {post res : List A} (hfl : flatAll res = true) (hlen : Nat.beq es'.length es.length = true)
 (h : ∀ g c t, runFi tab C lim n f s es post g c t = some (res, es', s, g, c, t)) : GivesI C f s es post res es' := by
 intro w F vs2 g c0 cs0 t0 hb hinv h2 hL
 have h := h g c0 t0
 have hlen := Nat.eq_of_beq_eq_true hlen
 unfold runFi at h
 split at h
 ·simp at h
 rename_i fn hf
 split at h
 ·simp at h
 rename_i b hbd
 have key : ∀ (x : X) (s' : St), (x = .normal ∨ x = .ret) → runC (runF tab C lim n) C lim b (initI fn.ntmps s es post g c0 t0) = some (x, s') → endB C fn s' = some (res, es', s, g, c0, t0) →
  Calls C.P f (.slice (some ⟨g, 0, none⟩) es.length c0 :: vs2).toArray w fun e w' => BelowX ⟨w.heap.size, fun b => b = g⟩ w w' ∧
  ∃ (F' : Nat → Prop) (cs : Array Value) (v : Value), e = .returned v ∧ (∀ x, F x → F' x) ∧ (∀ x, F' x → x < w'.heap.size ∧ (F x ∨ Own ⟨w.heap.size, fun b => b = g⟩ x)) ∧ CRes w' F' res v ∧ LentOk C.P w' F' g c0 cs t0 s es' ∧ es'.length = es.length := by
  intro x s' hx hr hend
  refine calls_of_wp hf hbd (Code.wp_mono (fun e a' w' hp => ?_) (runC_ok hm (fun f as rs h => runF_ok hm htab n f as rs h) lim b _ s' x _ w hr (init_hasI hb hinv h2 hL)))
  obtain ⟨he, hh⟩ := hp
  have fin : a'.defers = [] ∧ ∃ v, (results fn a'.tmps).run C.P w' = .ok v w' ∧ BelowX ⟨w.heap.size, fun b => b = g⟩ w w' ∧
   ∃ (F' : Nat → Prop) (cs : Array Value) (u : Value), Ending.returned v = .returned u ∧ (∀ x, F x → F' x) ∧ (∀ x, F' x → x < w'.heap.size ∧ (F x ∨ Own ⟨w.heap.size, fun b => b = g⟩ x)) ∧ CRes w' F' res u ∧ LentOk C.P w' F' g c0 cs t0 s es' ∧ es'.length = es.length := by
   obtain ⟨F', loc', hcc⟩ := hh
   unfold endB at hend
   split at hend
   ·simp at hend
   rename_i as has
   split at hend
   ·rename_i k g1 c1 t1 h0
    split at hend
    ·rename_i s1 es1 hkb hob
     simp only [Option.some.injEq, Prod.mk.injEq] at hend
     obtain ⟨rfl, rfl, rfl, rfl, rfl, rfl⟩ := hend
     obtain ⟨hd, v, hv1, hv2⟩ := resD_okF hcc has (flatAll_ok hfl)
     have hk := Nat.eq_of_beq_eq_true hkb
     subst hk
     have hc0 := (slot_ok hcc 0).1
     rw [h0] at hc0
     obtain ⟨⟨q1, q3⟩, q2⟩ := hc0 _ _ _ hob
     have hco := hcc.objs (keyC fn.ntmps)
     rw [hob] at hco
     obtain ⟨p1, p2, p3, p4⟩ := hco
     rcases p4 with ⟨p4, _⟩ | ⟨b, c, cs, t, p4, p5, p6, p7, p8, p9, p10, p11⟩
     ·rw [p4] at q1; simp at q1
     ·rw [p4] at q1
      simp only [Option.some.injEq, Prod.mk.injEq] at q1
      obtain ⟨rfl, rfl⟩ := q1
      obtain rfl : t = t1 := by rw [← p11]; exact q3
      exact ⟨hd, v, hv1, hcc.below, F', cs, v, rfl, hcc.fsup, fun x hx => ⟨hcc.bound x hx, hcc.fsub x hx⟩, hv2 F', ⟨by simpa using p5, (hcc.fresh _ _ _ p4).2, p6, p7, p8, p1, p2, p3, by rw [← hcc.prog]; exact p10, p9⟩, hlen⟩
    ·simp at hend
   ·simp at hend
  rcases hx with rfl | rfl
  ·have he : e = .normal := he; subst he; exact fin
  ·have he : e = .ret := he; subst he; exact fin
 split at h
 ·rename_i s' hr; exact key _ _ (.inl rfl) hr h
 ·rename_i s' hr; exact key _ _ (.inr rfl) hr h
 ·simp at h
theorem givesC_cx {C C' : Cx} (hP : C'.P = C.P) (hG : C'.G = C.G) {f s : Nat} {pre post : List A} {lent : Option (Nat × List (List D))} {es : List (List D)} (h : GivesC C f pre lent post s es) : GivesC C' f pre lent post s es := by
 intro w F vs1 vs2 g c0 cs0 t0 hb hi h1 h2 hl
 rw [hP] at hl ⊢
 exact h w F vs1 vs2 g c0 cs0 t0 hb (inv_cx hG.symm hi) h1 h2 hl
theorem givesI_cx {C C' : Cx} (hP : C'.P = C.P) (hG : C'.G = C.G) {f s : Nat} {es es' : List (List D)} {post res : List A} (h : GivesI C f s es post res es') : GivesI C' f s es post res es' := by
 intro w F vs2 g c0 cs0 t0 hb hi h2 hl
 rw [hP] at hl ⊢
 exact h w F vs2 g c0 cs0 t0 hb (inv_cx hG.symm hi) h2 hl
end
end Eng
end

section
namespace Eng
open Go Go.RowKit
def GivesN (C : Cx) (f s : Nat) (es : List (List D)) (i : Int) (vs res : List (List D)) : Prop :=
 ∀ (w : World) (F : Nat → Prop) (g c0 : Nat) (cs0 : Array Value) (t0 : TypeId) (g2 c2 : Nat) (cs2 : Array Value) (t2 : TypeId), (∀ b, F b → b < w.heap.size) → Inv C F w → LentOk C.P w F g c0 cs0 t0 s es → LentOk C.P w F g2 c2 cs2 t2 s vs → g ≠ g2 →
  Calls C.P f #[.slice (some ⟨g, 0, none⟩) es.length c0, .int .i64 i, .slice (some ⟨g2, 0, none⟩) vs.length c2] w fun e w' => BelowX ⟨w.heap.size, fun b => b = g ∨ b = g2⟩ w w' ∧
   ∃ (F' : Nat → Prop) (b c : Nat) (cs : Array Value) (t : TypeId), e = .returned (.slice (some ⟨b, 0, none⟩) res.length c) ∧ (∀ x, F x → F' x) ∧ (∀ x, F' x → x < w'.heap.size ∧ (F x ∨ Own ⟨w.heap.size, fun b => b = g ∨ b = g2⟩ x)) ∧
    Own ⟨w.heap.size, fun b => b = g ∨ b = g2⟩ b ∧ LentOk C.P w' F' b c cs t s res
def effIns (s : Nat) (chk : List (List D) → Int → List (List D) → Bool) (mk : List (List D) → Int → List (List D) → List (List D)) (dst : Option Nat) (vs : List V) (ob : List Obj) : R :=
 match dst with
 | none => .fail
 | some d => match vs with
  | [.arr k, .c (.int .i64 i), .arr j] => match freeKey ob d, nth .none ob k, nth .none ob j with
   | true, .arr s0 es false, .arr s1 us false => match Nat.beq s0 s && (Nat.beq s1 s && !Nat.beq k j) with
    | true => .cond (chk es i us = true) (.arr d) [(k, .dead), (j, .dead), (d, .arr s (mk es i us) false)]
    | false => .fail
   | _, _, _ => .fail
  | _ => .fail
section
variable {C : Cx}
theorem own_arr {B : Bd} {F0 : Nat → Prop} {w0 : World} {F : Nat → Prop} {loc : Where} {st : St} {a : Act} {w : World} (hc : Conc C B F0 w0 F loc st a w) {x : Operand} {k s : Nat} {es : List (List D)} (hv : ev st x = .arr k) (hk : nth .none st.objs k = .arr s es false) (hne : es ≠ []) :
 ∃ (g c0 : Nat) (cs0 : Array Value) (t0 : TypeId), loc k = some (g, c0) ∧ a.eval x = .slice (some ⟨g, 0, none⟩) es.length c0 ∧ LentOk C.P w F g c0 cs0 t0 s es := by
 have hv0 := (ev_ok hc x).1
 rw [hv] at hv0
 have hco := hc.objs k
 rw [hk] at hco
 obtain ⟨q1, q2, q3, q4⟩ := hco
 rcases q4 with ⟨_, q5⟩ | ⟨gb, c0, cs0, t0, q5, q6, q7, q8, q9, q10, q11, q12⟩
 ·exact absurd q5 hne
 ·rcases hv0 _ _ _ hk with ⟨b1, c1, r1, r2⟩ | ⟨r1, _⟩
  ·rw [q5] at r1
   simp only [Option.some.injEq, Prod.mk.injEq] at r1
   obtain ⟨rfl, rfl⟩ := r1
   exact ⟨gb, c0, cs0, t0, q5, r2, ⟨by simpa using q6, (hc.fresh _ _ _ q5).2, q7, q8, q9, q1, q2, q3, by rw [← hc.prog]; exact q11, q10⟩⟩
  ·rw [q5] at r1; simp at r1
theorem effAt_ins {f s : Nat} {fn : Func} {chk : List (List D) → Int → List (List D) → Bool} {mk : List (List D) → Int → List (List D) → List (List D)} (hf : C.P.funcs[f]? = some fn) (hb : fn.body ≠ none) (hn : fn.name ≠ "runtime.NumGoroutine")
 (hmk : ∀ es i vs, chk es i vs = true → es ≠ [] ∧ vs ≠ [] ∧ mk es i vs ≠ [] ∧ GivesN C f s es i vs (mk es i vs)) : EffAt C f (effIns s chk mk) := by
 refine ⟨fun {B F0 w0 F loc st a w dst args ts ty pos after g} hc => ?_, fun dst vs ob ob' hh hd => ?_, fun dst vs ob hv _ => ?_⟩
 ·unfold effIns
  split
  ·trivial
  ·rename_i d
   split
   ·rename_i k i j hvs
    split
    ·rename_i s0 es s1 us hd hk hj
     split
     ·rename_i hsk
      simp only [Bool.and_eq_true, Bool.not_eq_true'] at hsk
      obtain ⟨hs0, hs1, hkj⟩ := hsk
      obtain rfl := Nat.eq_of_beq_eq_true hs0
      obtain rfl := Nat.eq_of_beq_eq_true hs1
      have hkj : k ≠ j := fun e => by subst e; simp at hkj
      intro hck next Q hnx
      obtain ⟨hne, hnv, hne2, hG⟩ := hmk es i us hck
      obtain ⟨x, y, z, hxs⟩ : ∃ x y z, args.toList = [x, y, z] := by
       match h : args.toList with
       | [x, y, z] => exact ⟨x, y, z, rfl⟩
       | [] => rw [h] at hvs; simp at hvs
       | [_] => rw [h] at hvs; simp at hvs
       | [_, _] => rw [h] at hvs; simp at hvs
       | _ :: _ :: _ :: _ :: _ => rw [h] at hvs; simp at hvs
      rw [hxs] at hvs
      simp only [List.map_cons, List.map_nil, List.cons.injEq, and_true] at hvs
      obtain ⟨hx, hy, hz⟩ := hvs
      obtain ⟨g1, c1, cs1, t1, l1, e1, L1⟩ := own_arr hc hx hk hne
      obtain ⟨g2, c2, cs2, t2, l2, e2, L2⟩ := own_arr hc hz hj hnv
      have ey := (ev_ok hc y).1
      rw [hy] at ey
      have ey := int_inv ey
      have hgg : g1 ≠ g2 := fun e => by subst e; exact hkj (hc.inj _ _ _ _ _ l1 l2)
      have hcall := hG w F g1 c1 cs1 t1 g2 c2 cs2 t2 hc.bound hc.inv L1 L2 hgg
      have hargs' : #[Value.slice (some ⟨g1, 0, none⟩) es.length c1, .int .i64 i, .slice (some ⟨g2, 0, none⟩) us.length c2] = args.map a.eval := by
       apply Array.ext'
       rw [Array.toList_map, hxs]
       simp [e1, e2, ey]
      rw [hargs'] at hcall
      refine wp_entered hf hb hn hcall fun e w' he => ?_
      obtain ⟨hbel, F2, b, c, cs, t, rfl, h1, h2, h3, h4⟩ := he
      refine ⟨_, rfl, hnx _ _ ?_⟩
      refine hc.adoptC (dst := some d) (d := d) (dead := [(k, .dead), (j, .dead)]) hd (fun p hp => ?_) (fun x hx => ?_) hbel h1 h2 h3 h4 hne2
      ·simp only [List.mem_cons, List.not_mem_nil, or_false] at hp
       rcases hp with rfl | rfl
       ·exact ⟨rfl, lt_of_nth (by rw [hk]; simp), by rw [hk]; simp⟩
       ·exact ⟨rfl, lt_of_nth (by rw [hj]; simp), by rw [hj]; simp⟩
      ·have hx : x = g1 ∨ x = g2 := hx
       rcases hx with rfl | rfl
       ·exact ⟨L1.nF, (k, .dead), by simp, c1, l1⟩
       ·exact ⟨L2.nF, (j, .dead), by simp, c2, l2⟩
     ·trivial
    ·trivial
   ·trivial
 ·unfold effIns
  cases dst with
  | none => rfl
  | some d =>
   dsimp only
   split
   ·rename_i k i j
    have h0 : nth .none ob k = nth .none ob' k := hh k (by
     rw [mem_deepK]
     exact ⟨k, List.mem_flatMap.2 ⟨.arr k, by simp, by simp [keysV]⟩, .inl rfl⟩)
    have h1 : nth .none ob j = nth .none ob' j := hh j (by
     rw [mem_deepK]
     exact ⟨j, List.mem_flatMap.2 ⟨.arr j, by simp, by simp [keysV]⟩, .inl rfl⟩)
    simp only [h0, h1]
    rw [hd d rfl]
   ·rfl
 ·unfold effIns
  split
  ·trivial
  ·rename_i d
   split
   ·rename_i k i j
    split
    ·rename_i s0 es s1 us hd hk hj
     split
     ·refine ⟨fun p hp => ?_, fun l hl => ?_⟩
      ·simp only [List.mem_cons, List.not_mem_nil, or_false] at hp
       rcases hp with rfl | rfl | rfl
       ·refine ⟨.inr ⟨?_, by rw [hk]; simp⟩, by simp, fun u hu => by simp [objVs] at hu⟩
        rw [mem_deepK]
        exact ⟨k, List.mem_flatMap.2 ⟨.arr k, by simp, by simp [keysV]⟩, .inl rfl⟩
       ·refine ⟨.inr ⟨?_, by rw [hj]; simp⟩, by simp, fun u hu => by simp [objVs] at hu⟩
        rw [mem_deepK]
        exact ⟨j, List.mem_flatMap.2 ⟨.arr j, by simp, by simp [keysV]⟩, .inl rfl⟩
       ·exact ⟨.inl ⟨rfl, hd⟩, by simp, fun u hu => by simp [objVs] at hu⟩
      ·simp only [keysV, List.mem_singleton] at hl
       subst hl
       exact .inr ⟨hd, .arr s (mk es i us) false, by simp⟩
     ·trivial
    ·trivial
   ·trivial
end
end Eng
end
