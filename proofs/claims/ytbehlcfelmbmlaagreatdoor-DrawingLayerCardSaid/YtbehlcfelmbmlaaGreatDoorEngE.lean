/- The engine, part 28: builders are as the effects say: the instance. -/
import Derived.Test.YtbehlcfelmbmlaaGreatDoorEngD
import Derived.Laws.Externs
import Derived.Lib.Bytealg
import Derived.Sort.Row
import Derived.Lib.Builder
section
namespace Eng
open Go Go.RowKit
def isBT (T : Nat) (v : V) (ob : List Obj) : Bool :=
 match v with
 | .box d 0 => match nth .none ob d with
  | .bld T' _ => Nat.beq T' T
  | _ => false
 | _ => false
def onB (T : Nat) (e : Option Nat → List V → List Obj → R) (dst : Option Nat) (vs : List V) (ob : List Obj) : R :=
 match vs with
 | v :: _ => match isBT T v ob with
  | true => e dst vs ob
  | false => .fail
 | [] => .fail
def bldEff (T fW fB fS : Nat) (f : Nat) : Option (Option Nat → List V → List Obj → R) :=
 match Nat.beq f fW with
 | true => some (onB T effW)
 | false => match Nat.beq f fB with
  | true => some (onB T effB)
  | false => match Nat.beq f fS with
   | true => some (onB T effS)
   | false => none
theorem bldEff_cases {T fW fB fS f : Nat} {e : Option Nat → List V → List Obj → R} (h : bldEff T fW fB fS f = some e) : (f = fW ∧ e = onB T effW) ∨ (f = fB ∧ e = onB T effB) ∨ (f = fS ∧ e = onB T effS) := by
 unfold bldEff at h
 split at h
 ·rename_i hb; exact .inl ⟨Nat.eq_of_beq_eq_true hb, by simpa using h.symm⟩
 ·split at h
  ·rename_i hb; exact .inr (.inl ⟨Nat.eq_of_beq_eq_true hb, by simpa using h.symm⟩)
  ·split at h
   ·rename_i hb; exact .inr (.inr ⟨Nat.eq_of_beq_eq_true hb, by simpa using h.symm⟩)
   ·simp at h
theorem isBT_ag {T : Nat} {v : V} {ob ob' : List Obj} (h : ∀ k ∈ deepB ob (keysV v), nth .none ob k = nth .none ob' k) : isBT T v ob = isBT T v ob' := by
 unfold isBT
 split
 ·rename_i d
  rw [h d (by simp [keysV, mem_deepB])]
 ·rfl
section
variable {C : Cx} {B : Bd} {F0 : Nat → Prop} {w0 : World} {F : Nat → Prop} {loc : Where} {st : St} {a : Act} {w : World}
variable {dst : Option Nat} {ty : TypeId} {pos : String} {after : Array Edge} {g : Option (Nat × Bool)}
theorem wp_entered {f : Nat} {fn : Func} {args : Array Operand} {ts : Array TypeId} (hf : C.P.funcs[f]? = some fn) (hb : fn.body ≠ none) (hn : fn.name ≠ "runtime.NumGoroutine")
 {R : Ending → World → Prop} (hc : Calls C.P f (args.map a.eval) w R) {next : Act → World → Prop} {Q : Exit → Act → World → Prop} (h : ∀ e w', R e w' → ∃ v, e = .returned v ∧ next (a.put dst v) w') :
 Oper.wp C.P ⟨dst, .call ⟨.value (.func f), args, ts⟩, ty, pos, after, g⟩ a w next Q := by
 have hrun : (execOp a.eval ⟨dst, .call ⟨.value (.func f), args, ts⟩, ty, pos, after, g⟩).run C.P w = .ok (.enter f (args.map a.eval)) w := by
  simp [execOp, resolve, Act.eval, Deferred.ofValue, invoke, callFunc, hf, hn, hb]
 unfold Oper.wp
 rw [hrun, Oper.upon_enter]
 refine hc.mono fun e w' he => ?_
 obtain ⟨v, rfl, hx⟩ := h e w' he
 exact hx
theorem conc_buf {T d : Nat} {q : V} (h : Conc C B F0 w0 F loc st a w) (hd : nth .none st.objs d = .bld T q)
 (hq : q = .nilS ∨ ∃ k es, q = .arr k ∧ nth .none st.objs k = .arr 1 es false) :
 ∃ b c0 p v own bs rows, loc d = some (b, c0) ∧ w.heap[b]? = some (.cells #[p, v] T (0, 0)) ∧ (p = .pointer none ∨ p = .pointer (some ⟨b, 0, none⟩)) ∧ Buf (bufElem C.P T) w b own v bs ∧
  All2 (CD w F) rows.flatten bs ∧ (∀ e ∈ rows, e.length = 1) ∧ ((q = .nilS ∧ own = none ∧ rows = [] ∧ v = .slice none 0 0) ∨ ∃ k, q = .arr k ∧ nth .none st.objs k = .arr 1 rows false ∧ own = loc k) := by
 have hco := h.objs d
 rw [hd] at hco
 obtain ⟨b, c0, p, v, hl, hnF, hblk, hp, hqv, hqr, hqt⟩ := hco
 rcases hq with rfl | ⟨k, es, rfl, hk⟩
 ·have : v = .slice none 0 0 := hqv
  subst this
  exact ⟨b, c0, p, _, none, [], [], hl, hblk, hp, ⟨rfl, rfl⟩, trivial, by simp, .inl ⟨rfl, rfl, rfl, rfl⟩⟩
 ·have hck := h.objs k
  rw [hk] at hck
  obtain ⟨hroom, _, hlen, hck⟩ := hck
  have hv := hqv 1 es false hk
  rcases hv with ⟨b2, c2, h1, h2⟩ | ⟨h1, h2, h3⟩
  ·rcases hck with ⟨h4, _⟩ | ⟨b3, c3, cs, t, h4, h5, h6, h7, h8, h9, h10, h11⟩
   ·rw [h4] at h1; simp at h1
   ·rw [h4] at h1
    simp only [Option.some.injEq, Prod.mk.injEq] at h1
    obtain ⟨rfl, rfl⟩ := h1
    have hf2 := h.fresh _ _ _ h4
    have hbb : b3 ≠ b := fun e => by
     subst e
     have := h.inj _ _ _ _ _ h4 hl
     subst this
     rw [hk] at hd; simp at hd
    have hfl : es.flatten.length = es.length := by rw [length_flatten hlen]; omega
    have hcl : (cs.toList.take es.length).length = es.length := by simp; omega
    have hall : All2 (CD w F) es.flatten (cs.toList.take es.length) := by
     refine all2_of_nth .undef undef (by omega) fun i hi => ?_
     obtain ⟨x, hx, hcd⟩ := h9 i (by omega)
     have : nth undef (cs.toList.take es.length) i = x := by
      rw [nth_eq, List.getElem?_take_of_lt (by omega)]
      simp [hx]
     rw [this]; exact hcd
    refine ⟨b, c0, p, v, some (b3, c3), cs.toList.take es.length, es, hl, hblk, hp, ⟨by rw [hcl]; exact h2, hbb, hf2.2, by omega, cs, t, h6, by omega, fun j u hj => ?_, ?_⟩, hall, hlen, .inr ⟨k, rfl, hk, h4.symm⟩⟩
    ·have hjl : j < es.length := by have := (List.getElem?_eq_some_iff.1 hj).1; omega
     rw [List.getElem?_take_of_lt hjl] at hj
     simpa using hj
    ·rw [← h11, hqt k rfl, h.prog]
  ·subst h2
   exact ⟨b, c0, p, v, none, [], [], hl, hblk, hp, ⟨h3, rfl⟩, trivial, by simp, .inr ⟨k, rfl, hk, h1.symm⟩⟩
theorem all2_rows {w : World} {F : Nat → Prop} (s : List UInt8) : All2 (CD w F) (rowsOf s).flatten (byteCells ⟨⟨s⟩⟩) := by
 induction s with
 | nil => trivial
 | cons c s ih => exact ⟨.int _ _, ih⟩
theorem rowsOf_len (s : List UInt8) : ∀ e ∈ rowsOf s, e.length = 1 := by
 intro e he
 simp only [rowsOf, List.mem_map] at he
 obtain ⟨c, _, rfl⟩ := he
 rfl
theorem bldW_ok {T E f : Nat} {fn : Func} {x : Operand} {ys : List Operand} {rows : List (List D)} {news : List Value} {res : V} {rv : Value} {args : Array Operand} {ts : Array TypeId}
 (h : Conc C B F0 w0 F loc st a w) (hf : C.P.funcs[f]? = some fn) (hb : fn.body ≠ none) (hn : fn.name ≠ "runtime.NumGoroutine") (hargs : args.toList = x :: ys) (hone : C.P.cellsOf E = 1)
 (helem : ∀ d T' q, ev st x = .box d 0 → nth .none st.objs d = .bld T' q → T' = T ∧ bufElem C.P T' = E)
 (hrows : ∀ e ∈ rows, e.length = 1) (hnews : ∀ (F : Nat → Prop) (w : World), All2 (CD w F) rows.flatten news)
 (hres : ∀ (loc : Where) (objs : List Obj) (w : World) (F : Nat → Prop), CV loc objs w F res rv ∧ Ref objs res)
 (hc : ∀ {w : World} {b : Nat} {p v : Value} {own : Option (Nat × Nat)} {bs : List Value}, w.heap[b]? = some (.cells #[p, v] T (0, 0)) → (p = .pointer none ∨ p = .pointer (some ⟨b, 0, none⟩)) → Buf E w b own v bs → bs.length + rows.length ≤ 1073741824 →
  Calls C.P f (.pointer (some ⟨b, 0, none⟩) :: ys.map a.eval).toArray w fun e w' => e = .returned rv ∧ Wrote T E w b own (bs ++ news) w') :
 RSW C B F0 w0 st a w ⟨dst, .call ⟨.value (.func f), args, ts⟩, ty, pos, after, g⟩ (bldW dst (ev st x) rows res st.objs) := by
 have hx := (ev_ok h x).1
 unfold bldW
 split
 ·rename_i d hxd
  rw [hxd] at hx
  split
  ·rename_i T' q hd
   obtain ⟨rfl, helem'⟩ := helem _ _ _ hxd hd
   obtain ⟨b, c0, hl, hxv⟩ := hx _ rfl (by rw [hd]; rfl)
   have key : ∀ (t : Nat) (up : List (Nat × Obj)) (rows' : List (List D)), dst = some t → freeKey st.objs t = true → room (rows'.length) → (q = .nilS ∨ ∃ k es, q = .arr k ∧ nth .none st.objs k = .arr 1 es false) →
    (∀ es, ((q = .nilS ∧ es = []) ∨ ∃ k, q = .arr k ∧ nth .none st.objs k = .arr 1 es false) → rows' = es ++ rows) →
    (∀ j, nth .none (upds st.objs up) j = if j = d then .bld T' (.arr t) else if j = t then .arr 1 rows' false else if oldKey q j = true then .dead else nth .none st.objs j) →
    ∀ (next : Act → World → Prop) (Q : Exit → Act → World → Prop), (∀ a' w', St.has C B F0 w0 (st.put dst res up) a' w' → next a' w') → Oper.wp C.P ⟨dst, .call ⟨.value (.func f), args, ts⟩, ty, pos, after, g⟩ a w next Q := by
    intro t up rows' hdst hfree hroom hq hes hup next Q hnx
    obtain ⟨b1, c1, p, v, own, bs, es, hl1, hblk, hp, hbuf, hall, hlen, hown⟩ := conc_buf h hd hq
    rw [hl] at hl1
    simp only [Option.some.injEq, Prod.mk.injEq] at hl1
    obtain ⟨rfl, rfl⟩ := hl1
    rw [helem'] at hbuf
    have hrw : rows' = es ++ rows := hes es (by
     rcases hown with ⟨h1, _, h3, _⟩ | ⟨k, h1, h2, _⟩
     ·exact .inl ⟨h1, h3⟩
     ·exact .inr ⟨k, h1, h2⟩)
    have hbl : bs.length = es.length := by
     have := hall.length
     rw [length_flatten hlen] at this
     omega
    have hcall := hc hblk hp hbuf (by
     have : rows'.length ≤ 1073741824 := hroom
     rw [hrw, List.length_append] at this
     omega)
    have hae : (.pointer (some ⟨b, 0, none⟩) :: ys.map a.eval).toArray = args.map a.eval := by
     apply Array.ext'
     rw [Array.toList_map, hargs, List.map_cons, hxv]
    rw [hae] at hcall
    refine wp_entered hf hb hn hcall fun e w' he => ?_
    obtain ⟨rfl, hw⟩ := he
    refine ⟨_, rfl, hnx _ _ ?_⟩
    have hrl : ∀ e ∈ rows', e.length = 1 := by
     rw [hrw]
     intro e he
     rcases List.mem_append.1 he with he | he
     ·exact hlen e he
     ·exact hrows e he
    refine conc_wrote (t := t) (d := d) (q := q) (own := own) (rows' := rows') (bs' := bs ++ news) h hd ?_ hfree hl hw helem' hone hrl ?_ hroom hup hres
    ·rcases hown with ⟨h1, h2, _, _⟩ | ⟨k, h1, h2, h3⟩
     ·exact .inl ⟨h1, h2⟩
     ·exact .inr ⟨k, es, h1, h2, h3⟩
    ·rw [hrw, List.flatten_append]
     exact All2.append hall (hnews _ _)
   split
   ·split
    ·rename_i t
     split
     ·rename_i hfree
      intro hroom next Q hnx
      obtain ⟨htn, htlt⟩ := freeKey_ok hfree
      have hdt : d ≠ t := fun e => by subst e; rw [hd] at htn; simp at htn
      refine key t _ rows rfl hfree hroom (.inl rfl) (fun es hes => ?_) (fun j => ?_) next Q hnx
      ·rcases hes with ⟨_, rfl⟩ | ⟨k, hk, _⟩
       ·rfl
       ·simp at hk
      ·have hdl : d < st.objs.length := lt_of_nth (by rw [hd]; simp)
       simp only [upds, oldKey]
       by_cases h1 : j = d
       ·subst h1; rw [nth_upd_same _ _ _ (by rw [length_upd]; exact hdl), if_pos rfl]
       ·rw [nth_upd_ne _ _ _ (Ne.symm h1), if_neg h1]
        by_cases h2 : j = t
        ·subst h2; rw [nth_upd_same _ _ _ htlt, if_pos rfl]
        ·rw [nth_upd_ne _ _ _ (Ne.symm h2), if_neg h2]
         simp
     ·trivial
    ·trivial
   ·rename_i k
    split
    ·rename_i sz es hk
     split
     ·rename_i t
      split
      ·rename_i hf2
       simp only [Bool.and_eq_true] at hf2
       obtain ⟨hsz, hfree⟩ := hf2
       have hsz : sz = 1 := Nat.eq_of_beq_eq_true hsz
       subst hsz
       intro hroom next Q hnx
       obtain ⟨htn, htlt⟩ := freeKey_ok hfree
       have hdt : d ≠ t := fun e => by subst e; rw [hd] at htn; simp at htn
       have hkt : k ≠ t := fun e => by subst e; rw [hk] at htn; simp at htn
       have hkd : k ≠ d := fun e => by subst e; rw [hk] at hd; simp at hd
       have hdl : d < st.objs.length := lt_of_nth (by rw [hd]; simp)
       have hkl : k < st.objs.length := lt_of_nth (by rw [hk]; simp)
       refine key t _ (es ++ rows) rfl hfree (by rw [List.length_append]; exact hroom) (.inr ⟨k, es, rfl, hk⟩) (fun es' hes => ?_) (fun j => ?_) next Q hnx
       ·rcases hes with ⟨he, _⟩ | ⟨k', he, hk'⟩
        ·simp at he
        ·simp only [V.arr.injEq] at he
         subst he
         rw [hk] at hk'
         simp only [Obj.arr.injEq] at hk'
         rw [hk'.2.1]
       ·simp only [upds, oldKey]
        by_cases h1 : j = d
        ·subst h1; rw [nth_upd_same _ _ _ (by rw [length_upd, length_upd]; exact hdl), if_pos rfl]
        ·rw [nth_upd_ne _ _ _ (Ne.symm h1), if_neg h1]
         by_cases h2 : j = t
         ·subst h2; rw [nth_upd_same _ _ _ (by rw [length_upd]; exact htlt), if_pos rfl]
         ·rw [nth_upd_ne _ _ _ (Ne.symm h2), if_neg h2]
          by_cases h3 : j = k
          ·subst h3; rw [nth_upd_same _ _ _ hkl]; simp
          ·rw [nth_upd_ne _ _ _ (Ne.symm h3)]; simp [h3]
      ·trivial
     ·trivial
    ·trivial
   ·trivial
  ·trivial
 ·trivial
theorem conc_kill {k b c : Nat} {es : List (List D)} {v : V} {x : Value} {w' : World} (h : Conc C B F0 w0 F loc st a w) (hk : nth .none st.objs k = .arr 1 es false) (hl : loc k = some (b, c)) (hkeep : Keeps w w' (fun j => j = b))
 (hv : ∀ (loc : Where) (objs : List Obj) (w : World) (F : Nat → Prop), CV loc objs w F v x ∧ Ref objs v) : St.has C B F0 w0 (st.put dst v [(k, .dead)]) (a.put dst x) w' := by
 have hck := h.objs k
 rw [hk] at hck
 obtain ⟨hroom, _, hlen, hck⟩ := hck
 have hnF : ¬ F b := by
  rcases hck with ⟨h4, _⟩ | ⟨b3, c3, cs, t, h4, h5, _⟩
  ·rw [h4] at hl; simp at hl
  ·rw [h4] at hl
   simp only [Option.some.injEq, Prod.mk.injEq] at hl
   obtain ⟨rfl, rfl⟩ := hl
   exact h5
 have hkl : k < st.objs.length := lt_of_nth (by rw [hk]; simp)
 have hfk := h.fresh _ _ _ hl
 have hsz := hkeep.below.size
 have hsame : ∀ β, β < w.heap.size → β ≠ b → w'.heap[β]? = w.heap[β]? := fun β h1 h2 => hkeep.block β h1 h2
 have hwF : ∀ β, F β → w'.heap[β]? = w.heap[β]? := fun β hβ => hsame β (h.bound β hβ) fun e => hnF (e ▸ hβ)
 let loc' : Where := ⟨loc.P, fun j => if j = k then none else loc j, loc.ty⟩
 have hn : ∀ j, nth .none (upds st.objs [(k, .dead)]) j = if j = k then .dead else nth .none st.objs j := by
  intro j
  show nth .none (upd st.objs k .dead) j = _
  by_cases h1 : j = k
  ·subst h1; rw [nth_upd_same _ _ _ hkl, if_pos rfl]
  ·rw [nth_upd_ne _ _ _ (Ne.symm h1), if_neg h1]
 have hle : Le st.objs (upds st.objs [(k, .dead)]) loc loc' := by
  refine ⟨rfl, fun j hj => rfl, fun j hj => ?_, fun j o' hj hc hbx => ?_, fun j s' es' fz' hj hc => ?_⟩
  ·rw [hn]; split
   ·simp
   ·exact hj
  ·rw [hn] at hc
   split at hc
   ·rw [← hc] at hbx; simp [isBox] at hbx
   ·rename_i e; exact ⟨by rw [hc]; exact hbx, by simp [loc', e]⟩
  ·rw [hn] at hc
   split at hc
   ·simp at hc
   ·rename_i e; exact ⟨⟨_, _, hc, rfl⟩, by simp [loc', e]⟩
 have hbw : BelowX B w w' := ⟨hkeep.below.os, hkeep.below.tape, hkeep.below.output, hkeep.below.size, fun j hj hjX => hsame j (by have := h.hB; omega) (fun e => by
  rcases hfk.1 with h1 | h1
  ·omega
  ·exact hjX (e ▸ h1))⟩
 refine ⟨F, loc', h.step (fun _ h => h) hwF hle (h.below.trans hbw) (by have := h.hB; omega) (fun j => ?_) ?_ ?_ (fun β hβ => by have := h.bound β hβ; omega) h.fsub (hv _ _ _ _).1 (hv loc' _ w' F).2⟩
 ·rw [hn]
  by_cases h1 : j = k
  ·rw [if_pos h1]
   show loc' j = none
   simp [loc', h1]
  ·rw [if_neg h1]
   refine CO.le (fun _ h => h) hwF hle (by simp [loc', h1]) rfl (fun β c hβ => ⟨?_, fun h => h⟩) (h.objs j)
   refine hsame β (h.fresh _ _ _ hβ).2 fun e => ?_
   subst e
   exact h1 (h.inj _ _ _ _ _ hβ hl)
 ·intro j j' β c c' g1 g2
  simp only [loc'] at g1 g2
  split at g1
  ·simp at g1
  ·split at g2
   ·simp at g2
   ·exact h.inj _ _ _ _ _ g1 g2
 ·intro j β c g1
  simp only [loc'] at g1
  split at g1
  ·simp at g1
  ·have := h.fresh _ _ _ g1; exact ⟨this.1, by omega⟩
theorem bytes_of {w : World} {F : Nat → Prop} : ∀ {es : List (List D)} {bs : List Value}, bytesOk es = true → All2 (CD w F) es.flatten bs → bs = (toBytes es).map fun x => .int .u8 x.toNat
 | [], bs, _, h => by
  cases bs with
  | nil => rfl
  | cons b bs => exact h.elim
 | e :: r, bs, hb, h => by
  have hr := rowsOf_toBytes hb
  simp only [toBytes, rowsOf, List.map_cons, List.cons.injEq] at hr
  have hb2 := hb
  simp only [bytesOk, Bool.and_eq_true] at hb2
  rw [← hr.1] at h
  cases bs with
  | nil => exact h.elim
  | cons b bs =>
   obtain ⟨h1, h2⟩ := h
   have hb' : b = .int .u8 (toByte e).toNat := by cases h1; rfl
   rw [hb', bytes_of hb2.2 h2]
   rfl
theorem toBytes_len : ∀ (es : List (List D)), (toBytes es).length = es.length
 | [] => rfl
 | e :: r => by simp only [toBytes, List.length_cons]; rw [toBytes_len r]
theorem effS_ok {T E fW fB fS : Nat} {args : Array Operand} {ts : Array TypeId} (hk : BldK C.P T E fW fB fS) (h : Conc C B F0 w0 F loc st a w) :
 RSW C B F0 w0 st a w ⟨dst, .call ⟨.value (.func fS), args, ts⟩, ty, pos, after, g⟩ (onB T effS dst (args.toList.map (ev st)) st.objs) := by
 unfold onB
 split
 ·rename_i v0 vs hargs
  split
  ·rename_i hbt
   unfold effS
   split
   ·rename_i d hvs
    obtain ⟨fn, hf, hb, hn⟩ := hk.there fS (.inr (.inr rfl))
    obtain ⟨x, hax, hx⟩ : ∃ x, args.toList = [x] ∧ ev st x = .box d 0 := by
     match hl : args.toList with
     | [] => rw [hl] at hvs; simp at hvs
     | [x] =>
      rw [hl] at hvs
      simp only [List.map_cons, List.map_nil, List.cons.injEq] at hvs
      exact ⟨x, rfl, hvs.1⟩
     | _ :: _ :: _ => rw [hl] at hvs; simp at hvs
    have hxv := (ev_ok h x).1
    rw [hx] at hxv
    rw [hvs] at hargs
    simp only [List.cons.injEq] at hargs
    obtain ⟨rfl, rfl⟩ := hargs
    split
    ·rename_i T' q hd
     have hT : T' = T := by simpa [isBT, hd] using hbt
     subst hT
     obtain ⟨b, c0, hl, hxv⟩ := hxv _ rfl (by rw [hd]; rfl)
     have hae : #[.pointer (some ⟨b, 0, none⟩)] = args.map a.eval := by
      apply Array.ext'
      rw [Array.toList_map, hax, List.map_cons, hxv]
      rfl
     split
     ·obtain ⟨b1, c1, p, v, own, bs, es, hl1, hblk, hp, hbuf, hall, hlen, hown⟩ := conc_buf h hd (.inl rfl)
      rw [hl] at hl1
      simp only [Option.some.injEq, Prod.mk.injEq] at hl1
      obtain ⟨rfl, rfl⟩ := hl1
      have hv : v = .slice none 0 0 := by
       rcases hown with ⟨_, _, _, hv⟩ | ⟨k, hk, _⟩
       ·exact hv
       ·simp at hk
      subst hv
      intro next Q hnx
      have hc := hk.sn hblk
      rw [hae] at hc
      refine wp_entered hf hb hn hc fun e w' he => ?_
      obtain ⟨rfl, hkeep⟩ := he
      refine ⟨_, rfl, hnx _ _ ⟨_, loc, h.behind ⟨hkeep.below.os, hkeep.below.tape, hkeep.below.output, hkeep.below.size, fun j hj => hkeep.block j hj (fun h => h)⟩ (CD.str []) trivial⟩⟩
     ·rename_i k
      split
      ·rename_i sz es hke
       split
       ·rename_i hsz
        have hsz : sz = 1 := Nat.eq_of_beq_eq_true hsz
        subst hsz
        intro hcnd next Q hnx
        obtain ⟨b1, c1, p, v, own, bs, es', hl1, hblk, hp, hbuf, hall, hlen, hown⟩ := conc_buf h hd (.inr ⟨k, es, rfl, hke⟩)
        rw [hl] at hl1
        simp only [Option.some.injEq, Prod.mk.injEq] at hl1
        obtain ⟨rfl, rfl⟩ := hl1
        rcases hown with ⟨h1, _⟩ | ⟨k', h1, h2, h3⟩
        ·simp at h1
        simp only [V.arr.injEq] at h1
        subst h1
        rw [hke] at h2
        simp only [Obj.arr.injEq] at h2
        obtain ⟨_, rfl, _⟩ := h2
        have hbs := bytes_of hcnd.2 hall
        cases own with
        | none =>
         obtain ⟨_, h5⟩ := hbuf
         have h6 := hall.length
         rw [length_flatten hlen, h5] at h6
         exact absurd (List.eq_nil_of_length_eq_zero (by simpa using h6)) hcnd.1
        | some gc =>
         obtain ⟨g0, c⟩ := gc
         rw [hk.elem, hbs] at hbuf
         have hck := h.objs k
         rw [hke] at hck
         have hroom : es.length ≤ 1073741824 := hck.1
         have hc := hk.st (toBytes es) (fun e => hcnd.1 (List.eq_nil_of_length_eq_zero (by rw [← toBytes_len, e]; rfl))) hblk hbuf (by rw [toBytes_len]; exact hroom)
         rw [hae] at hc
         refine wp_entered hf hb hn hc fun e w' he => ?_
         obtain ⟨rfl, hkeep⟩ := he
         exact ⟨_, rfl, hnx _ _ (conc_kill h hke h3.symm hkeep fun _ _ _ _ => ⟨CD.str _, trivial⟩)⟩
       ·trivial
      ·trivial
     ·trivial
    ·trivial
   ·trivial
  ·trivial
 ·trivial
theorem effW_ok {T E fW fB fS : Nat} {args : Array Operand} {ts : Array TypeId} (hk : BldK C.P T E fW fB fS) (h : Conc C B F0 w0 F loc st a w) :
 RSW C B F0 w0 st a w ⟨dst, .call ⟨.value (.func fW), args, ts⟩, ty, pos, after, g⟩ (onB T effW dst (args.toList.map (ev st)) st.objs) := by
 unfold onB
 split
 ·rename_i v0 vs hargs
  split
  ·rename_i hbt
   unfold effW
   split
   ·rename_i v s hvs
    obtain ⟨fn, hf, hb, hn⟩ := hk.there fW (.inl rfl)
    obtain ⟨x, y, hax, hx, hy⟩ : ∃ x y, args.toList = [x, y] ∧ ev st x = v ∧ ev st y = .c (.str s) := by
     match hl : args.toList with
     | [] => rw [hl] at hvs; simp at hvs
     | [x] => rw [hl] at hvs; simp at hvs
     | [x, y] =>
      rw [hl] at hvs
      simp only [List.map_cons, List.map_nil, List.cons.injEq] at hvs
      exact ⟨x, y, rfl, hvs.1, hvs.2.1⟩
     | _ :: _ :: _ :: _ => rw [hl] at hvs; simp at hvs
    rw [hvs] at hargs
    simp only [List.cons.injEq] at hargs
    obtain ⟨rfl, rfl⟩ := hargs
    have hyv := (ev_ok h y).1
    rw [hy] at hyv
    have hyv : a.eval y = .string ⟨⟨s⟩⟩ := (fun (u : Value) (hu : CD w F (.str s) u) => (by cases hu; rfl : u = .string ⟨⟨s⟩⟩)) _ hyv
    rw [← hx]
    rw [← hx] at hbt
    have hsz : (⟨⟨s⟩⟩ : ByteArray).size = s.length := rfl
    have hrl : (rowsOf s).length = s.length := by simp [rowsOf]
    refine bldW_ok (T := T) (ys := [y]) h hf hb hn hax hk.one (fun d T' q h1 h2 => ?_) (rowsOf_len s) (fun _ _ => all2_rows s) (rv := .tuple #[.int .i64 s.length, .nilIface]) (fun loc objs w F => ⟨⟨_, rfl, .int _ _, .nilI, trivial⟩, trivial⟩) ?_
    ·have : T' = T := by simpa [h1, isBT, h2] using hbt
     subst this
     exact ⟨rfl, hk.elem⟩
    ·intro w b p v own bs h1 h2 h3 h4
     have hc := hk.ws ⟨⟨s⟩⟩ h1 h2 h3 (by rw [hsz]; omega)
     rw [hsz] at hc
     have : (.pointer (some ⟨b, 0, none⟩) :: [y].map a.eval).toArray = #[.pointer (some ⟨b, 0, none⟩), .string ⟨⟨s⟩⟩] := by
      rw [List.map_cons, hyv]; rfl
     rw [this]
     exact hc
   ·trivial
  ·trivial
 ·trivial
theorem effB_ok {T E fW fB fS : Nat} {args : Array Operand} {ts : Array TypeId} (hk : BldK C.P T E fW fB fS) (h : Conc C B F0 w0 F loc st a w) :
 RSW C B F0 w0 st a w ⟨dst, .call ⟨.value (.func fB), args, ts⟩, ty, pos, after, g⟩ (onB T effB dst (args.toList.map (ev st)) st.objs) := by
 unfold onB
 split
 ·rename_i v0 vs hargs
  split
  ·rename_i hbt
   unfold effB
   split
   ·rename_i v n hvs
    obtain ⟨fn, hf, hb, hn⟩ := hk.there fB (.inr (.inl rfl))
    obtain ⟨x, y, hax, hx, hy⟩ : ∃ x y, args.toList = [x, y] ∧ ev st x = v ∧ ev st y = .c (.int .u8 n) := by
     match hl : args.toList with
     | [] => rw [hl] at hvs; simp at hvs
     | [x] => rw [hl] at hvs; simp at hvs
     | [x, y] =>
      rw [hl] at hvs
      simp only [List.map_cons, List.map_nil, List.cons.injEq] at hvs
      exact ⟨x, y, rfl, hvs.1, hvs.2.1⟩
     | _ :: _ :: _ :: _ => rw [hl] at hvs; simp at hvs
    rw [hvs] at hargs
    simp only [List.cons.injEq] at hargs
    obtain ⟨rfl, rfl⟩ := hargs
    have hyv := (ev_ok h y).1
    rw [hy] at hyv
    have hyv : a.eval y = .int .u8 n := (fun (u : Value) (hu : CD w F (.int .u8 n) u) => (by cases hu; rfl : u = .int .u8 n)) _ hyv
    rw [← hx]
    rw [← hx] at hbt
    refine bldW_ok (T := T) (ys := [y]) (news := [.int .u8 n]) h hf hb hn hax hk.one (fun d T' q h1 h2 => ?_) (fun e he => by simp at he; subst he; rfl) (fun _ _ => ⟨.int _ _, trivial⟩) (rv := .nilIface) (fun loc objs w F => ⟨CD.nilI, trivial⟩) ?_
    ·have : T' = T := by simpa [h1, isBT, h2] using hbt
     subst this
     exact ⟨rfl, hk.elem⟩
    ·intro w b p v own bs h1 h2 h3 h4
     have hc := hk.wb n h1 h2 h3 h4
     have : (.pointer (some ⟨b, 0, none⟩) :: [y].map a.eval).toArray = #[.pointer (some ⟨b, 0, none⟩), .int .u8 n] := by
      rw [List.map_cons, hyv]; rfl
     rw [this]
     exact hc
   ·trivial
  ·trivial
 ·trivial
theorem effOk_of {T E fW fB fS : Nat} (hk : BldK C.P T E fW fB fS) (he : C.eff = bldEff T fW fB fS) : EffOk C where
 rs := by
  intro f e hf B F0 w0 F loc st a w dst args ts ty pos after g h
  rw [he] at hf
  rcases bldEff_cases hf with ⟨rfl, rfl⟩ | ⟨rfl, rfl⟩ | ⟨rfl, rfl⟩
  ·exact effW_ok hk h
  ·exact effB_ok hk h
  ·exact effS_ok hk h
 ag := by
  intro f e hf dst vs ob ob' h hd
  rw [he] at hf
  have hW : ∀ (e : Option Nat → List V → List Obj → R), (e dst vs ob = e dst vs ob') → onB T e dst vs ob = onB T e dst vs ob' := by
   intro e hee
   unfold onB
   split
   ·rename_i v r
    rw [isBT_ag (ob := ob) (ob' := ob') fun k hk => h k (by
     rw [mem_deepB] at hk ⊢
     obtain ⟨j, hj, h2⟩ := hk
     exact ⟨j, by simp only [List.flatMap_cons, List.mem_append]; exact .inl hj, h2⟩), hee]
   ·rfl
  rcases bldEff_cases hf with ⟨rfl, rfl⟩ | ⟨rfl, rfl⟩ | ⟨rfl, rfl⟩
  ·apply hW
   unfold effW
   split
   ·exact bldW_ag (fun k hk => h k (by simpa [keysV] using hk)) hd
   ·rfl
  ·apply hW
   unfold effB
   split
   ·exact bldW_ag (fun k hk => h k (by simpa [keysV] using hk)) hd
   ·rfl
  ·exact hW _ (effS_ag h)
 good := by
  intro f e hf dst vs ob hv hb
  rw [he] at hf
  have hW : ∀ (e : Option Nat → List V → List Obj → R), EffR (C.wd f) dst (deepB ob (vs.flatMap keysV)) ob (e dst vs ob) → EffR (C.wd f) dst (deepB ob (vs.flatMap keysV)) ob (onB T e dst vs ob) := by
   intro e hee
   unfold onB
   split
   ·split
    ·exact hee
    ·trivial
   ·trivial
  rcases bldEff_cases hf with ⟨rfl, rfl⟩ | ⟨rfl, rfl⟩ | ⟨rfl, rfl⟩
  ·apply hW
   unfold effW
   split
   ·rename_i v s
    have := fun wd => bldW_good (wd := wd) (dst := dst) (v := v) (rows := rowsOf s) (res := .tp [.c (.int .i64 s.length), .c .nilI]) (ob := ob) rfl (hv v (by simp)) hb
    simpa [keysV] using this _
   ·trivial
  ·apply hW
   unfold effB
   split
   ·rename_i v n
    have := fun wd => bldW_good (wd := wd) (dst := dst) (v := v) (rows := [[.int .u8 n]]) (res := .c .nilI) (ob := ob) rfl (hv v (by simp)) hb
    simpa [keysV] using this _
   ·trivial
  ·exact hW _ effS_good
end
end Eng
end

section
namespace Eng
open Go Go.RowKit
structure EffAt (C : Cx) (f : Nat) (e : Option Nat → List V → List Obj → R) : Prop where
 rs : ∀ {B : Bd} {F0 : Nat → Prop} {w0 : World} {F : Nat → Prop} {loc : Where} {st : St} {a : Act} {w : World} {dst : Option Nat} {args : Array Operand} {ts : Array TypeId} {ty : TypeId} {pos : String} {after : Array Edge} {g : Option (Nat × Bool)},
  Conc C B F0 w0 F loc st a w → RSW C B F0 w0 st a w ⟨dst, .call ⟨.value (.func f), args, ts⟩, ty, pos, after, g⟩ (e dst (args.toList.map (ev st)) st.objs)
 ag : ∀ (dst : Option Nat) (vs : List V) (ob ob' : List Obj), (∀ k ∈ deepB ob (vs.flatMap keysV), nth .none ob k = nth .none ob' k) → (∀ d, newK (C.wd f) dst d → freeKey ob d = freeKey ob' d) → e dst vs ob = e dst vs ob'
 good : ∀ (dst : Option Nat) (vs : List V) (ob : List Obj), (∀ v ∈ vs, ∀ k ∈ keysV v, nth .none ob k ≠ .none) → (∀ k, ∀ u ∈ objVs (nth .none ob k), ∀ j ∈ keysV u, nth .none ob j ≠ .none) → EffR (C.wd f) dst (deepB ob (vs.flatMap keysV)) ob (e dst vs ob)
theorem effOk_all {C : Cx} (h : ∀ f e, C.eff f = some e → EffAt C f e) : EffOk C where
 rs hf _ _ _ _ _ _ _ _ _ _ _ _ _ _ _ hc := (h _ _ hf).rs hc
 ag hf := (h _ _ hf).ag
 good hf := (h _ _ hf).good
theorem effAt_bld {C : Cx} {T E fW fB fS : Nat} (hk : BldK C.P T E fW fB fS) {f : Nat} {e : Option Nat → List V → List Obj → R} (hf : bldEff T fW fB fS f = some e) : EffAt C f e := by
 have h : EffOk ⟨C.P, C.G, C.bt, bldEff T fW fB fS, C.keep, C.wd⟩ := effOk_of hk rfl
 have hc : ∀ {B : Bd} {F0 : Nat → Prop} {w0 : World} {F : Nat → Prop} {loc : Where} {st : St} {a : Act} {w : World}, Conc C B F0 w0 F loc st a w → Conc ⟨C.P, C.G, C.bt, bldEff T fW fB fS, C.keep, C.wd⟩ B F0 w0 F loc st a w :=
  fun h => ⟨h.prog, h.below, h.hB, h.defers, h.tmps, h.refs, h.objs, h.inj, h.fresh, h.bound, h.fsub, h.fsup, h.inv⟩
 have hb : ∀ {B : Bd} {F0 : Nat → Prop} {w0 : World} {st : St} {a : Act} {w : World}, St.has ⟨C.P, C.G, C.bt, bldEff T fW fB fS, C.keep, C.wd⟩ B F0 w0 st a w → St.has C B F0 w0 st a w :=
  fun ⟨F, loc, h⟩ => ⟨F, loc, h.prog, h.below, h.hB, h.defers, h.tmps, h.refs, h.objs, h.inj, h.fresh, h.bound, h.fsub, h.fsup, h.inv⟩
 refine ⟨fun {B F0 w0 F loc st a w dst args ts ty pos after g} hconc => ?_, h.ag hf, h.good hf⟩
 have h1 := h.rs hf (dst := dst) (args := args) (ts := ts) (ty := ty) (pos := pos) (after := after) (g := g) (hc hconc)
 have h2 := h.good hf dst (args.toList.map (ev st)) st.objs (fun v hv k hk => by
  obtain ⟨x, hx, rfl⟩ := List.mem_map.1 hv
  have := (ev_ok hconc x).2
  cases hxv : ev st x <;> rw [hxv] at hk this <;> simp only [keysV, List.mem_singleton, List.not_mem_nil] at hk <;> first | (subst hk; exact this) | exact this k hk) (fun k u hu j hj => by
  have hwf := has_WF ⟨F, loc, hconc⟩
  exact hwf.2 k u hu j hj)
 generalize e dst (args.toList.map (ev st)) st.objs = r at *
 cases r with
 | fail => trivial
 | ok v up => exact fun next Q hn => h1 next Q fun a' w' hh => hn a' w' (hb hh)
 | cond c v up => exact fun hcc next Q hn => h1 hcc next Q fun a' w' hh => hn a' w' (hb hh)
 | look z row off ag => exact h2.elim
 | call f as sh up => exact h2.elim
structure ExtK (P : Program) (f : Nat) (run : Array Value → Sem Value) : Prop where
 run : ∀ (args : Array Value) (w : World), (callFunc f args).run P w = ((run args).run P w).andThen fun v w' => .ok (.value v) w'
def effIdx (_ : Option Nat) (vs : List V) (_ : List Obj) : R :=
 match vs with
 | [.c (.str s), .c (.int .u8 n)] => .ok (.c (.int .i64 (Lib.indexByte s n.toNat.toUInt8))) []
 | _ => .fail
def effCnt (_ : Option Nat) (vs : List V) (_ : List Obj) : R :=
 match vs with
 | [.c (.str s), .c (.int .u8 n)] => .ok (.c (.int .i64 (Lib.countByte s n.toNat.toUInt8))) []
 | _ => .fail
theorem goodE {wd : Bool} {dst : Option Nat} {ks : List Nat} {ob : List Obj} {r : R} (h : ∃ d : D, r = .fail ∨ r = .ok (.c d) []) : EffR wd dst ks ob r := by
 obtain ⟨d, rfl | rfl⟩ := h
 ·trivial
 ·exact ⟨fun p hp => by simp at hp, fun k hk => by simp [keysV] at hk⟩
theorem effAt_ext {C : Cx} {f : Nat} {run : Array Value → Sem Value} (hk : ExtK C.P f run) {e : Option Nat → List V → List Obj → R} {d : List UInt8 → Int → D}
 (he : e = fun _ vs _ => match vs with | [.c (.str s), .c (.int .u8 n)] => .ok (.c (d s n)) [] | _ => .fail)
 (hd : ∀ s n (w : World) (F : Nat → Prop), ∃ v, (run #[.string ⟨⟨s⟩⟩, .int .u8 n]).run C.P w = .ok v w ∧ CD w F (d s n) v) : EffAt C f e := by
 subst he
 refine ⟨fun {B F0 w0 F loc st a w dst args ts ty pos after g} h => ?_, fun _ _ _ _ _ _ => rfl, fun dst vs ob _ _ => ?_⟩
 ·show RSW C B F0 w0 st a w _ (match args.toList.map (ev st) with | [.c (.str s), .c (.int .u8 n)] => .ok (.c (d s n)) [] | _ => .fail)
  split
  ·rename_i s n hvs
   obtain ⟨x, y, hax, hx, hy⟩ : ∃ x y, args.toList = [x, y] ∧ ev st x = .c (.str s) ∧ ev st y = .c (.int .u8 n) := by
    match hl : args.toList with
    | [] => rw [hl] at hvs; simp at hvs
    | [x] => rw [hl] at hvs; simp at hvs
    | [x, y] =>
     rw [hl] at hvs
     simp only [List.map_cons, List.map_nil, List.cons.injEq] at hvs
     exact ⟨x, y, rfl, hvs.1, hvs.2.1⟩
    | _ :: _ :: _ :: _ => rw [hl] at hvs; simp at hvs
   have hxv := (ev_ok h x).1
   have hyv := (ev_ok h y).1
   rw [hx] at hxv
   rw [hy] at hyv
   have hxv := str_inv hxv
   have hyv := int_inv hyv
   obtain ⟨v, hv, hcd⟩ := hd s n w F
   have hargs : args.map a.eval = #[.string ⟨⟨s⟩⟩, .int .u8 n] := by
    apply Array.ext'
    rw [Array.toList_map, hax, List.map_cons, List.map_cons, hxv, hyv]
    rfl
   refine rsw (r := .ok (.c (d s n)) []) (rs_value h (x := v) hcd trivial ?_)
   have := hk.run #[.string ⟨⟨s⟩⟩, .int .u8 n] w
   rw [hv] at this
   simp only [execOp, resolve, Act.eval, Deferred.ofValue, invoke, hargs]
   simpa using this
  ·trivial
 ·refine goodE ?_
  split
  ·exact ⟨_, .inr rfl⟩
  ·exact ⟨.undef, .inl rfl⟩
theorem effAt_idx {C : Cx} {f : Nat} (hk : ExtK C.P f Extern.BytealgIndexByte.indexByte) : EffAt C f effIdx :=
 effAt_ext hk (d := fun s n => .int .i64 (Lib.indexByte s n.toNat.toUInt8)) rfl fun s n w _ => ⟨_, Lib.run_indexByteString ⟨⟨s⟩⟩ n w, .int _ _⟩
theorem effAt_cnt {C : Cx} {f : Nat} (hk : ExtK C.P f Extern.BytealgCount.count) : EffAt C f effCnt :=
 effAt_ext hk (d := fun s n => .int .i64 (Lib.countByte s n.toNat.toUInt8)) rfl fun s n w _ => ⟨_, Lib.run_countString ⟨⟨s⟩⟩ n w, .int _ _⟩
end Eng
end

section
namespace Eng
open Go Go.RowKit Go.Sort
def subT (by_ c : Int) : List Int → Int
 | [] => c
 | y :: _ => IntKind.u64.wrap (c + IntKind.u64.wrap (IntKind.u64.wrap y * by_))
def resT (x c : Int) : List Int → Int
 | [] => IntKind.u32.wrap (x + c)
 | y :: _ => IntKind.u32.wrap (IntKind.u32.wrap (x + c) + y)
def subF (by_ : Int) : List Int → List Int → Int → Int → List Int × Int × Int
 | [], _, c, b => ([], c, b)
 | x :: us, vs, c, b =>
  let t := subT by_ c vs
  let y := IntKind.u64.wrap (t.tmod 1000000000 + b)
  match decide (IntKind.u64.wrap x < y) with
  | true =>
   let r := subF by_ us vs.tail (IntKind.u64.wrap (t.tdiv 1000000000)) 1
   (IntKind.u32.wrap (IntKind.u64.wrap (IntKind.u64.wrap (IntKind.u64.wrap x + 1000000000) - y)) :: r.1, r.2)
  | false =>
   let r := subF by_ us vs.tail (IntKind.u64.wrap (t.tdiv 1000000000)) 0
   (IntKind.u32.wrap (IntKind.u64.wrap (IntKind.u64.wrap x - y)) :: r.1, r.2)
def resF : List Int → List Int → Int → List Int
 | [], _, _ => []
 | x :: us, vs, c =>
  let t := resT x c vs
  match decide (1000000000 ≤ t) with
  | true => IntKind.u32.wrap (t - 1000000000) :: resF us vs.tail 1
  | false => t :: resF us vs.tail 0
theorem subF_length (by_ : Int) : ∀ (us vs : List Int) (c b : Int), (subF by_ us vs c b).1.length = us.length
 | [], _, _, _ => rfl
 | x :: us, vs, c, b => by
  simp only [subF]
  split <;> simp [subF_length by_ us]
theorem resF_length : ∀ (us vs : List Int) (c : Int), (resF us vs c).length = us.length
 | [], _, _ => rfl
 | x :: us, vs, c => by
  simp only [resF]
  split <;> simp [resF_length us]
structure SubK (P : Program) (fS fR : Nat) : Prop where
 there : ∀ f, f = fS ∨ f = fR → ∃ fn, P.funcs[f]? = some fn ∧ fn.body ≠ none ∧ fn.name ≠ "runtime.NumGoroutine"
 sub : ∀ {w : World} {g off cap bv ov cv : Nat} (us vs : List Int) (by_ : Int), Holds (Value.int .u32) w g off us.toArray → bv ≠ g → us.length ≤ 1073741824 → vs.length ≤ 1073741824 →
  (∀ j (h : j < vs.length), w.cell? ⟨bv, ov + j, none⟩ = some (.int .u32 vs[j])) →
  Calls P fS #[.slice (some ⟨g, off, none⟩) us.length cap, .slice (some ⟨bv, ov, none⟩) vs.length cv, .int .u64 by_] w fun e w' =>
   e = .returned (.bool (decide (0 < (subF by_ us vs 0 0).2.2) || decide (0 < (subF by_ us vs 0 0).2.1))) ∧ w' = putRow (Value.int .u32) w g off (subF by_ us vs 0 0).1.toArray
 res : ∀ {w : World} {g off cap bv ov cv : Nat} (us vs : List Int), Holds (Value.int .u32) w g off us.toArray → bv ≠ g → us.length ≤ 1073741824 → vs.length ≤ 1073741824 →
  (∀ j (h : j < vs.length), w.cell? ⟨bv, ov + j, none⟩ = some (.int .u32 vs[j])) →
  Calls P fR #[.slice (some ⟨g, off, none⟩) us.length cap, .slice (some ⟨bv, ov, none⟩) vs.length cv] w fun e w' =>
   e = .returned (.tuple #[]) ∧ w' = putRow (Value.int .u32) w g off (resF us vs 0).toArray
def intB : List D → Bool
 | [.int .u32 _] => true
 | _ => false
def intsB : List (List D) → Bool
 | [] => true
 | e :: r => intB e && intsB r
def intD : List D → Int
 | [.int _ n] => n
 | _ => 0
def intsD (es : List (List D)) : List Int := es.map intD
def ofInts (l : List Int) : List (List D) := l.map fun n => [.int .u32 n]
theorem intsB_ok : ∀ {es : List (List D)}, intsB es = true → es = ofInts (intsD es)
 | [], _ => rfl
 | e :: r, h => by
  simp only [intsB, Bool.and_eq_true] at h
  have ih := intsB_ok h.2
  have he := h.1
  unfold intB at he
  split at he
  ·simp only [ofInts, intsD, List.map_cons, intD] at ih ⊢
   rw [← ih]
  ·simp at he
theorem ofInts_flatten (l : List Int) : (ofInts l).flatten = l.map (D.int .u32) := by
 induction l with
 | nil => rfl
 | cons c l ih => simp only [ofInts, List.map_cons, List.flatten_cons] at ih ⊢; rw [ih]; rfl
theorem ofInts_length (l : List Int) : (ofInts l).length = l.length := by simp [ofInts]
theorem ofInts_one (l : List Int) : ∀ e ∈ ofInts l, e.length = 1 := by
 intro e he
 simp only [ofInts, List.mem_map] at he
 obtain ⟨c, _, rfl⟩ := he
 rfl
def effPart (c : Prop) [Decidable c] (res : List Int → V) (new : List Int → List Int) (x : V) (ob : List Obj) : R :=
 match x with
 | .sub k off len => match nth .none ob k with
  | .arr s es false => match Nat.beq s 1 with
   | true => .cond (c ∧ off + len ≤ es.length ∧ intsB ((es.drop off).take len) = true) (res (intsD ((es.drop off).take len))) [(k, .arr 1 (es.take off ++ ofInts (new (intsD ((es.drop off).take len))) ++ es.drop (off + len)) false)]
   | false => .fail
  | _ => .fail
 | _ => .fail
def effSub (_ : Option Nat) (vs : List V) (ob : List Obj) : R :=
 match vs with
 | [x, .c (.sl ys), .c (.int .u64 n)] => effPart (ys ≠ [] ∧ intsB ys = true ∧ ys.length ≤ 1073741824)
  (fun us => .c (.bool (decide (0 < (subF n us (intsD ys) 0 0).2.2) || decide (0 < (subF n us (intsD ys) 0 0).2.1)))) (fun us => (subF n us (intsD ys) 0 0).1) x ob
 | _ => .fail
def effRes (_ : Option Nat) (vs : List V) (ob : List Obj) : R :=
 match vs with
 | [x, .c (.sl ys)] => effPart (ys ≠ [] ∧ intsB ys = true ∧ ys.length ≤ 1073741824) (fun _ => .tp []) (fun us => resF us (intsD ys) 0) x ob
 | _ => .fail
theorem effPart_ag {c : Prop} [Decidable c] {res : List Int → V} {new : List Int → List Int} {x : V} {ob ob' : List Obj} (h : ∀ k ∈ deepB ob (keysV x), nth .none ob k = nth .none ob' k) : effPart c res new x ob = effPart c res new x ob' := by
 cases x with
 | sub k off len => simp only [effPart]; rw [h k (by simp [keysV, mem_deepB])]
 | _ => rfl
theorem effPart_good {wd : Bool} {dst : Option Nat} {c : Prop} [Decidable c] {res : List Int → V} {new : List Int → List Int} (hres : ∀ us, keysV (res us) = []) {x : V} {ob : List Obj} : EffR wd dst (deepB ob (keysV x)) ob (effPart c res new x ob) := by
 unfold effPart
 split
 ·rename_i k off len
  split
  ·rename_i s es hk
   split
   ·refine ⟨fun p hp => ?_, fun j hj => by rw [hres] at hj; simp at hj⟩
    simp only [List.mem_singleton] at hp
    subst hp
    exact ⟨.inr ⟨by simp [keysV, mem_deepB], by rw [hk]; simp⟩, by simp, fun u hu => by simp [objVs] at hu⟩
   ·trivial
  ·trivial
 ·trivial
section
variable {C : Cx} {B : Bd} {F0 : Nat → Prop} {w0 : World} {F : Nat → Prop} {loc : Where} {st : St} {a : Act} {w : World}
variable {dst : Option Nat} {ty : TypeId} {pos : String} {after : Array Edge} {g : Option (Nat × Bool)}
theorem conc_part {k off len b c : Nat} {es : List (List D)} {us us' : List Int} {v : V} {x : Value} (h : Conc C B F0 w0 F loc st a w) (hk : nth .none st.objs k = .arr 1 es false) (hl : loc k = some (b, c))
 (hle : off + len ≤ es.length) (hus : (es.drop off).take len = ofInts us) (hlen : us'.length = us.length)
 (hv : ∀ (loc : Where) (objs : List Obj) (w : World) (F : Nat → Prop), CV loc objs w F v x ∧ Ref objs v) :
 St.has C B F0 w0 (st.put dst v [(k, .arr 1 (es.take off ++ ofInts us' ++ es.drop (off + len)) false)]) (a.put dst x) (putRow (Value.int .u32) w b off us'.toArray) := by
 have hul : us.length = len := by
  have := congrArg List.length hus
  rw [ofInts_length, List.length_take, List.length_drop] at this
  omega
 have hck := h.objs k
 rw [hk] at hck
 obtain ⟨hroom, _, hone, hck⟩ := hck
 rcases hck with ⟨h4, _⟩ | ⟨b', c', cs, t, h4, h5, h6, h7, h8, h9, h10, h11⟩
 ·rw [h4] at hl; simp at hl
 rw [h4] at hl
 simp only [Option.some.injEq, Prod.mk.injEq] at hl
 obtain ⟨rfl, rfl⟩ := hl
 have hfk := h.fresh _ _ _ h4
 have hkl : k < st.objs.length := lt_of_nth (by rw [hk]; simp)
 generalize hes' : es.take off ++ ofInts us' ++ es.drop (off + len) = es' at *
 have hel : es'.length = es.length := by
  rw [← hes']
  simp only [List.length_append, List.length_take, List.length_drop, ofInts_length]
  omega
 have hes1 : ∀ e ∈ es', e.length = 1 := by
  rw [← hes']
  intro e he
  simp only [List.mem_append] at he
  rcases he with (he | he) | he
  ·exact hone e (List.mem_of_mem_take he)
  ·exact ofInts_one us' e he
  ·exact hone e (List.mem_of_mem_drop he)
 have hn : ∀ j, nth .none (upd st.objs k (.arr 1 es' false)) j = if j = k then .arr 1 es' false else nth .none st.objs j := by
  intro j
  by_cases h1 : j = k
  ·subst h1; rw [nth_upd_same _ _ _ hkl, if_pos rfl]
  ·rw [nth_upd_ne _ _ _ (Ne.symm h1), if_neg h1]
 have hheap : ∀ β, β ≠ b' → (putRow (Value.int .u32) w b' off us'.toArray).heap[β]? = w.heap[β]? := by
  intro β hβ
  show (w.heap.modify b' _)[β]? = _
  rw [Array.getElem?_modify, if_neg (Ne.symm hβ)]
 have hblk : (putRow (Value.int .u32) w b' off us'.toArray).heap[b']? = some (.cells (Go.Sort.putCells (Value.int .u32) off us'.toArray cs) t (0, 0)) := by
  show (w.heap.modify b' _)[b']? = _
  rw [Array.getElem?_modify, if_pos rfl, h6]
  rfl
 have hwF : ∀ β, F β → (putRow (Value.int .u32) w b' off us'.toArray).heap[β]? = w.heap[β]? := fun β hβ => hheap β fun e => h5 (e ▸ hβ)
 have hle' : Le st.objs (upd st.objs k (.arr 1 es' false)) loc loc := by
  refine ⟨rfl, fun _ _ => rfl, fun j hj => ?_, fun j o' hj hc hbx => ?_, fun j s' es2 fz' hj hc => ?_⟩
  ·rw [hn]; split
   ·simp
   ·exact hj
  ·rw [hn] at hc
   split at hc
   ·rw [← hc] at hbx; simp [isBox] at hbx
   ·exact ⟨by rw [hc]; exact hbx, rfl⟩
  ·rw [hn] at hc
   split at hc
   ·rename_i e
    subst e
    simp only [Obj.arr.injEq] at hc
    obtain ⟨rfl, rfl, rfl⟩ := hc
    exact ⟨⟨es, false, hk, hel⟩, rfl⟩
   ·exact ⟨⟨_, _, hc, rfl⟩, rfl⟩
 refine ⟨F, loc, h.step (up := [(k, .arr 1 es' false)]) (fun _ h => h) hwF hle' (h.below.trans ⟨rfl, rfl, rfl, by rw [size_putRow]; exact Nat.le_refl _, fun j hj hjX => hheap j (fun e => by
  rcases hfk.1 with h1 | h1
  ·omega
  ·exact hjX (e ▸ h1))⟩) (by rw [size_putRow]; exact h.hB) (fun j => ?_) h.inj (fun j β c hβ => by rw [size_putRow]; exact h.fresh j β c hβ) (fun β hβ => by rw [size_putRow]; exact h.bound β hβ) h.fsub (hv _ _ _ _).1 (hv loc _ w F).2⟩
 show CO loc (upd st.objs k (.arr 1 es' false)) _ F j (nth .none (upd st.objs k (.arr 1 es' false)) j)
 rw [hn]
 by_cases h1 : j = k
 ·subst h1
  rw [if_pos rfl]
  refine ⟨by rw [hel]; exact hroom, by omega, hes1, .inr ⟨b', c', _, t, h4, h5, hblk, ?_, by omega, fun i hi => ?_, h10, h11⟩⟩
  ·simp only [Go.Sort.putCells, Array.size_mapIdx]; exact h7
  ·rw [Nat.mul_one] at hi
   obtain ⟨u, hu, hcd⟩ := h9 i (by omega)
   have hcd' := hcd.mono (F' := F) (fun _ h => h) hwF
   have hget : (Go.Sort.putCells (Value.int .u32) off us'.toArray cs)[i]? = some (if off ≤ i ∧ i < off + us'.length then Value.int .u32 (us'.toArray[i - off]!) else u) := by
    simp only [Go.Sort.putCells, Array.getElem?_mapIdx, hu, Option.map_some, List.size_toArray]
   refine ⟨_, hget, ?_⟩
   have hnf : ∀ (l : List (List D)), (∀ e ∈ l, e.length = 1) → ∀ i, i < l.length → nth .undef l.flatten i = nth .undef (nth [] l i) 0 := fun l hl i hi => by
    have := nth_flatten hl i 0 hi (by omega)
    simpa using this
   rw [hnf es' hes1 i hi]
   rw [hnf es hone i (by omega)] at hcd'
   by_cases hr : off ≤ i ∧ i < off + us'.length
   ·rw [if_pos hr]
    have hiu : i - off < us'.length := by omega
    have : nth [] es' i = [D.int .u32 (us'[i - off])] := by
     rw [← hes', nth_eq, List.append_assoc, List.getElem?_append_right (by simp; omega), List.getElem?_append_left (by simp [ofInts_length]; omega)]
     have e1 : i - (es.take off).length = i - off := by simp; omega
     rw [e1]
     simp [ofInts, hiu]
    rw [this]
    have : us'.toArray[i - off]! = us'[i - off] := by simp [hiu]
    rw [this]
    exact .int _ _
   ·rw [if_neg hr]
    have : nth [] es' i = nth [] es i := by
     rw [← hes']
     simp only [nth_eq]
     by_cases h2 : i < off
     ·rw [List.append_assoc, List.getElem?_append_left (by simp; omega), List.getElem?_take_of_lt h2]
     ·rw [List.getElem?_append_right (by simp [ofInts_length]; omega), List.getElem?_drop]
      congr 2
      simp [ofInts_length]; omega
    rw [this]
    exact hcd'
 ·rw [if_neg h1]
  refine CO.le (fun _ h => h) hwF hle' rfl rfl (fun β c hβ => ⟨?_, fun h => h⟩) (h.objs j)
  refine hheap β fun e => ?_
  subst e
  exact h1 (h.inj _ _ _ _ _ hβ h4)
theorem effPart_ok {f : Nat} {fn : Func} {x : Operand} {zs : List Operand} {c : Prop} [Decidable c] {res : List Int → V} {new : List Int → List Int} {args : Array Operand} {ts : Array TypeId}
 (h : Conc C B F0 w0 F loc st a w) (hf : C.P.funcs[f]? = some fn) (hb : fn.body ≠ none) (hn : fn.name ≠ "runtime.NumGoroutine") (hargs : args.toList = x :: zs)
 (hc : c → ∀ {g off cap : Nat} (us : List Int), Holds (Value.int .u32) w g off us.toArray → ¬ F g → us.length ≤ 1073741824 → (new us).length = us.length ∧ ∃ rv, (∀ (loc : Where) (objs : List Obj) (w : World) (F : Nat → Prop), CV loc objs w F (res us) rv ∧ Ref objs (res us)) ∧
  Calls C.P f (.slice (some ⟨g, off, none⟩) us.length cap :: zs.map a.eval).toArray w fun e w' => e = .returned rv ∧ w' = putRow (Value.int .u32) w g off (new us).toArray) :
 RSW C B F0 w0 st a w ⟨dst, .call ⟨.value (.func f), args, ts⟩, ty, pos, after, g⟩ (effPart c res new (ev st x) st.objs) := by
 have hx := (ev_ok h x).1
 unfold effPart
 split
 ·rename_i k off len hxv
  rw [hxv] at hx
  split
  ·rename_i s es hk
   split
   ·rename_i hs
    have hs : s = 1 := Nat.eq_of_beq_eq_true hs
    subst hs
    rintro ⟨hcc, hle, hus⟩
    have hus := intsB_ok hus
    generalize hue : intsD ((es.drop off).take len) = us at *
    obtain ⟨b, cp, hl, hle2, hxe⟩ := hx 1 es false hk
    have hul : us.length = len := by
     have := congrArg List.length hus
     rw [ofInts_length, List.length_take, List.length_drop] at this
     omega
    have hck := h.objs k
    rw [hk] at hck
    obtain ⟨hroom, _, hone, hck⟩ := hck
    rcases hck with ⟨h4, _⟩ | ⟨b', c', cs, t, h4, h5, h6, h7, h8, h9, h10, h11⟩
    ·rw [h4] at hl; simp at hl
    rw [h4] at hl
    simp only [Option.some.injEq, Prod.mk.injEq] at hl
    obtain ⟨rfl, rfl⟩ := hl
    have hholds : Holds (Value.int .u32) w b' off us.toArray := by
     intro j hj
     have hj : j < us.length := by simpa using hj
     obtain ⟨u, hu, hcd⟩ := h9 (off + j) (by omega)
     have hel : nth [] es (off + j) = [D.int .u32 us[j]] := by
      have : nth [] ((es.drop off).take len) j = nth [] es (off + j) := by
       simp only [nth_eq]
       rw [List.getElem?_take_of_lt (by omega), List.getElem?_drop]
      rw [← this, hus, nth_eq]
      simp [ofInts, hj]
     have hnf := nth_flatten hone (off + j) 0 (by omega) (by omega)
     rw [Nat.mul_one, Nat.add_zero, hel] at hnf
     rw [hnf] at hcd
     have hu' : u = .int .u32 us[j] := by cases (hcd : CD _ _ (.int .u32 us[j]) _); rfl
     subst hu'
     refine ⟨?_, ?_⟩
     ·rw [Lib.cell_of_heap h6, hu]
      simp [hj]
     ·exact Lib.frozen_of_heap h6 _
    have hr : us.length ≤ 1073741824 := by have : es.length ≤ 1073741824 := hroom; omega
    obtain ⟨hlen, rv, hrv, hcall⟩ := hc hcc (cap := c' - off) us hholds h5 hr
    intro next Q hnx
    have hae : (.slice (some ⟨b', off, none⟩) us.length (c' - off) :: zs.map a.eval).toArray = args.map a.eval := by
     apply Array.ext'
     rw [Array.toList_map, hargs, List.map_cons, hxe, hul, Nat.mul_one]
    rw [hae] at hcall
    refine wp_entered hf hb hn hcall fun e w' he => ?_
    obtain ⟨rfl, rfl⟩ := he
    exact ⟨_, rfl, hnx _ _ (conc_part h hk h4 hle hus hlen hrv)⟩
   ·trivial
  ·trivial
 ·trivial
theorem ints_row {ys : List (List D)} {x : Value} (hx : CD w F (.sl ys) x) (hne : ys ≠ []) (hl : intsB ys = true) : ∃ b o c, x = .slice (some ⟨b, o, none⟩) (intsD ys).length c ∧ F b ∧ ∀ j (hj : j < (intsD ys).length), w.cell? ⟨b, o + j, none⟩ = some (.int .u32 (intsD ys)[j]) := by
 have hys := intsB_ok hl
 generalize intsD ys = l at *
 obtain ⟨ad, c, hxe, hlc, hrow⟩ := hx.slice_inv
 rcases hrow with h0 | ⟨b, o, size, rfl, hrow⟩
 ·exact absurd h0 hne
 ·subst hys
  have hs1 : size = 1 := by
   obtain ⟨e, r, he⟩ := List.exists_cons_of_ne_nil hne
   have h1 := hrow.hs e (by rw [he]; simp)
   have h2 := ofInts_one l e (by rw [he]; simp)
   omega
  subst hs1
  rw [ofInts_length] at hxe
  refine ⟨b, o, c, hxe, hrow.hF, fun j hj => ?_⟩
  obtain ⟨v, h1, h2⟩ := hrow.hc j (by rw [ofInts_length]; omega)
  rw [ofInts_flatten, nth_of_lt _ (by simpa using hj), List.getElem_map] at h2
  have : v = .int .u32 l[j] := by cases (h2 : CD _ _ (.int .u32 l[j]) _); rfl
  rw [h1, this]
theorem intsD_length (ys : List (List D)) : (intsD ys).length = ys.length := by simp [intsD]
theorem effAt_sub {fS fR : Nat} (hk : SubK C.P fS fR) : EffAt C fS effSub := by
 refine ⟨fun {B F0 w0 F loc st a w dst args ts ty pos after g} h => ?_, fun dst vs ob ob' h hd => ?_, fun dst vs ob hv hb => ?_⟩
 ·unfold effSub
  split
  ·rename_i v ys n hvs
   obtain ⟨x, y2, z, hax, hx, hy, hz⟩ : ∃ x y2 z, args.toList = [x, y2, z] ∧ ev st x = v ∧ ev st y2 = .c (.sl ys) ∧ ev st z = .c (.int .u64 n) := by
    match hl : args.toList with
    | [] => rw [hl] at hvs; simp at hvs
    | [x] => rw [hl] at hvs; simp at hvs
    | [x, y] => rw [hl] at hvs; simp at hvs
    | [x, y, z] =>
     rw [hl] at hvs
     simp only [List.map_cons, List.map_nil, List.cons.injEq] at hvs
     exact ⟨x, y, z, rfl, hvs.1, hvs.2.1, hvs.2.2.1⟩
    | _ :: _ :: _ :: _ :: _ => rw [hl] at hvs; simp at hvs
   obtain ⟨fn, hf, hb, hn⟩ := hk.there fS (.inl rfl)
   have hyv := (ev_ok h y2).1
   rw [hy] at hyv
   have hzv := (ev_ok h z).1
   rw [hz] at hzv
   have hzv := int_inv hzv
   rw [← hx]
   refine effPart_ok (zs := [y2, z]) h hf hb hn hax ?_
   rintro ⟨hne, hints, hlen2⟩ g off cap us hH hnF hlen
   obtain ⟨b, o, c, hye, hF, hcells⟩ := ints_row hyv hne hints
   refine ⟨subF_length _ _ _ _ _, _, fun loc objs w F => ⟨CD.bool _, trivial⟩, ?_⟩
   have := hk.sub (cap := cap) (cv := c) us (intsD ys) n hH (fun e => hnF (e ▸ hF)) hlen (by rw [intsD_length]; exact hlen2) hcells
   rw [List.map_cons, List.map_cons, List.map_nil, hye, hzv]
   exact this
  ·trivial
 ·unfold effSub
  split
  ·exact effPart_ag fun k hk => h k (by simpa [keysV] using hk)
  ·rfl
 ·unfold effSub
  split
  ·rename_i x ys n
   have := fun wd => effPart_good (wd := wd) (dst := dst) (ob := ob) (x := x) (c := ys ≠ [] ∧ intsB ys = true ∧ ys.length ≤ 1073741824) (res := fun us => .c (.bool (decide (0 < (subF n us (intsD ys) 0 0).2.2) || decide (0 < (subF n us (intsD ys) 0 0).2.1)))) (new := fun us => (subF n us (intsD ys) 0 0).1) (fun _ => rfl)
   simpa [keysV] using this _
  ·trivial
theorem effAt_res {fS fR : Nat} (hk : SubK C.P fS fR) : EffAt C fR effRes := by
 refine ⟨fun {B F0 w0 F loc st a w dst args ts ty pos after g} h => ?_, fun dst vs ob ob' h hd => ?_, fun dst vs ob hv hb => ?_⟩
 ·unfold effRes
  split
  ·rename_i v ys hvs
   obtain ⟨x, y2, hax, hx, hy⟩ : ∃ x y2, args.toList = [x, y2] ∧ ev st x = v ∧ ev st y2 = .c (.sl ys) := by
    match hl : args.toList with
    | [] => rw [hl] at hvs; simp at hvs
    | [x] => rw [hl] at hvs; simp at hvs
    | [x, y] =>
     rw [hl] at hvs
     simp only [List.map_cons, List.map_nil, List.cons.injEq] at hvs
     exact ⟨x, y, rfl, hvs.1, hvs.2.1⟩
    | _ :: _ :: _ :: _ => rw [hl] at hvs; simp at hvs
   obtain ⟨fn, hf, hb, hn⟩ := hk.there fR (.inr rfl)
   have hyv := (ev_ok h y2).1
   rw [hy] at hyv
   rw [← hx]
   refine effPart_ok (zs := [y2]) h hf hb hn hax ?_
   rintro ⟨hne, hints, hlen2⟩ g off cap us hH hnF hlen
   obtain ⟨b, o, c, hye, hF, hcells⟩ := ints_row hyv hne hints
   refine ⟨resF_length _ _ _, _, fun loc objs w F => ⟨⟨#[], rfl, trivial⟩, trivial⟩, ?_⟩
   have := hk.res (cap := cap) (cv := c) us (intsD ys) hH (fun e => hnF (e ▸ hF)) hlen (by rw [intsD_length]; exact hlen2) hcells
   rw [List.map_cons, List.map_nil, hye]
   exact this
  ·trivial
 ·unfold effRes
  split
  ·exact effPart_ag fun k hk => h k (by simpa [keysV] using hk)
  ·rfl
 ·unfold effRes
  split
  ·rename_i x ys
   have := fun wd => effPart_good (wd := wd) (dst := dst) (ob := ob) (x := x) (c := ys ≠ [] ∧ intsB ys = true ∧ ys.length ≤ 1073741824) (res := fun _ => .tp []) (new := fun us => resF us (intsD ys) 0) (fun _ => rfl)
   simpa [keysV] using this _
  ·trivial
end
end Eng
end

section
namespace Eng
open Go Go.RowKit
def ann2 (a b : Ann) : Nat → Ann
 | 0 => a
 | _ => b
def ann3 (a b c : Ann) : Nat → Ann
 | 0 => a
 | 1 => b
 | _ => c
def flatEs : List (List D) → Bool
 | [] => true
 | e :: r => e.all flatD && flatEs r
theorem flatEs_ok : ∀ {es : List (List D)}, flatEs es = true → ∀ d ∈ es.flatten, flatD d = true
 | [], _, d, hd => by simp at hd
 | e :: r, h, d, hd => by
  simp only [flatEs, Bool.and_eq_true] at h
  simp only [List.flatten_cons, List.mem_append] at hd
  rcases hd with hd | hd
  ·exact List.all_eq_true.1 h.1 d hd
  ·exact flatEs_ok h.2 d hd
def ownR (st : St) (rs : List ResultVar) : Option (Nat × List (List D)) :=
 match rs with
 | [.tmp t] => match nth .any st.tmps t with
  | .arr k => match nth .none st.objs k with
   | .arr s es false => some (s, es)
   | _ => none
  | _ => none
 | _ => none
def ownD (st : St) (rs : List ResultVar) : Option (Nat × List (List D)) :=
 match ownR st rs with
 | some (s, es) => match es with
  | [] => none
  | _ :: _ => match flatEs es with
   | true => some (s, es)
   | false => none
 | none => none
theorem ownD_ok {st : St} {rs : List ResultVar} {s : Nat} {es : List (List D)} (h : ownR st rs = some (s, es)) (h1 : es ≠ []) (h2 : flatEs es = true) : ownD st rs = some (s, es) := by
 unfold ownD
 rw [h]
 cases es with
 | nil => exact absurd rfl h1
 | cons e r => simp only [h2]
def GivesOwn (C : Cx) (f : Nat) (args : List A) (s : Nat) (es : List (List D)) : Prop :=
 ∀ (w : World) (F : Nat → Prop) (vs : List Value), (∀ b, F b → b < w.heap.size) → Inv C F w → All2 (CA w F) args vs →
  Calls C.P f vs.toArray w fun e w' => Below w.heap.size w w' ∧ ∃ b c cs t, e = .returned (.slice (some ⟨b, 0, none⟩) es.length c) ∧ w.heap.size ≤ b ∧ b < w'.heap.size ∧ w'.heap[b]? = some (.cells cs t (0, 0)) ∧ cs.size = c * s ∧ (es.length ≤ c ∧ c ≤ 9223372036854775807) ∧
   room es.length ∧ 0 < s ∧ (∀ e ∈ es, e.length = s) ∧ C.P.cellsOf t = s ∧ ∀ j, j < es.length * s → ∃ v, cs[j]? = some v ∧ ∀ (w : World) (F : Nat → Prop), CD w F (nth .undef es.flatten j) v
theorem inv_cx {C C' : Cx} (hG : C'.G = C.G) {F : Nat → Prop} {w : World} (h : Inv C F w) : Inv C' F w := fun g cs hg => h g cs (hG ▸ hg)
theorem gives_cx {C C' : Cx} (hP : C'.P = C.P) (hG : C'.G = C.G) {f : Nat} {as rs : List A} (h : Gives C f as rs) : Gives C' f as rs := by
 intro w F vs hb hi ha
 rw [hP]
 exact h w F vs hb (inv_cx hG.symm hi) ha
theorem givesOwn_cx {C C' : Cx} (hP : C'.P = C.P) (hG : C'.G = C.G) {f s : Nat} {as : List A} {es : List (List D)} (h : GivesOwn C f as s es) : GivesOwn C' f as s es := by
 intro w F vs hb hi ha
 rw [hP]
 exact h w F vs hb (inv_cx hG.symm hi) ha
section
variable {C : Cx}
theorem own_fin {fn : Func} {w : World} {F : Nat → Prop} {s' : St} {a' : Act} {w' : World} {s : Nat} {es : List (List D)} (hh : St.has C ⟨w.heap.size, fun _ => False⟩ F w s' a' w') (has : ownD s' fn.results.toList = some (s, es)) :
 a'.defers = [] ∧ ∃ v, (results fn a'.tmps).run C.P w' = .ok v w' ∧ Below w.heap.size w w' ∧ ∃ b c cs t, Ending.returned v = .returned (.slice (some ⟨b, 0, none⟩) es.length c) ∧ w.heap.size ≤ b ∧ b < w'.heap.size ∧ w'.heap[b]? = some (.cells cs t (0, 0)) ∧ cs.size = c * s ∧ (es.length ≤ c ∧ c ≤ 9223372036854775807) ∧
  room es.length ∧ 0 < s ∧ (∀ e ∈ es, e.length = s) ∧ C.P.cellsOf t = s ∧ ∀ j, j < es.length * s → ∃ v, cs[j]? = some v ∧ ∀ (w : World) (F : Nat → Prop), CD w F (nth .undef es.flatten j) v := by
 obtain ⟨F', loc', h⟩ := hh
 have has2 : ∃ e r, es = e :: r ∧ flatEs es = true ∧ ownR s' fn.results.toList = some (s, es) := by
  unfold ownD at has
  split at has
  ·rename_i s1 es1 h1
   split at has
   ·simp at has
   ·split at has
    ·rename_i hfl
     simp only [Option.some.injEq, Prod.mk.injEq] at has
     obtain ⟨rfl, rfl⟩ := has
     exact ⟨_, _, rfl, hfl, h1⟩
    ·simp at has
  ·simp at has
 obtain ⟨e, r, rfl, hfl, has⟩ := has2
 unfold ownR at has
 split at has
 ·rename_i t hrs
  split at has
  ·rename_i k hk
   split at has
   ·rename_i s0 es0 hob
    ··simp only [Option.some.injEq, Prod.mk.injEq] at has
      obtain ⟨rfl, rfl⟩ := has
      have hx := (slot_ok h t).1
      simp only [Act.eval] at hx
      rw [hk] at hx
      have hco := h.objs k
      rw [hob] at hco
      obtain ⟨hroom, hs0, hlen, hco⟩ := hco
      rcases hx _ _ _ hob with ⟨b, c, hl, hv⟩ | ⟨_, h0, _⟩
      ·rcases hco with ⟨h4, _⟩ | ⟨b', c', cs, t', h4, h5, h6, h7, h8, h9, h10, h11⟩
       ·rw [h4] at hl; simp at hl
       ·rw [h4] at hl
        simp only [Option.some.injEq, Prod.mk.injEq] at hl
        obtain ⟨rfl, rfl⟩ := hl
        have hfr := h.fresh _ _ _ h4
        refine ⟨h.defers, .slice (some ⟨b', 0, none⟩) (e :: r).length c', ?_, h.below.toBelow, b', c', cs, t', rfl, hfr.1.elim id False.elim, hfr.2, h6, h7, h8, hroom, hs0, hlen, by rw [← h.prog]; exact h10, fun j hj => ?_⟩
        ·have hr : fn.results = #[.tmp t] := by apply Array.ext'; simpa using hrs
         unfold results
         rw [hr]
         have hv' : a'.tmps[t]?.getD undef = .slice (some ⟨b', 0, none⟩) (e :: r).length c' := by rw [← hv]; simp
         simp [hv']
        ·obtain ⟨v, q1, q2⟩ := h9 j hj
         refine ⟨v, q1, fun w F => flat_CD q2 (flatEs_ok hfl _ ?_)⟩
         rw [nth_of_lt _ (by rw [length_flatten hlen]; exact hj)]
         exact List.getElem_mem _
      ·simp at h0
   ·simp at has
  ·simp at has
 ·simp at has
def runFo (tab : Nat → List A → Option (List A)) (C : Cx) (lim n f : Nat) (args : List A) : Option (Nat × List (List D)) :=
 match C.P.funcs[f]? with
 | none => none
 | some fn => match fn.body with
  | none => none
  | some c => match runC (runF tab C lim n) C lim c (initSt fn.ntmps args) with
   | some (.normal, s) => ownD s fn.results.toList
   | some (.ret, s) => ownD s fn.results.toList
   | _ => none
def wpFo (C : Cx) (Gv : Nat → List A → List A → Prop) (anns : Nat → Ann) (fn : Func) (args : List A) (Q : Nat → List (List D) → Prop) : Prop :=
 match fn.body with
 | none => False
 | some c => wpC C Gv anns 0 c (fun e s => match e with
  | .normal | .ret => match ownR s fn.results.toList with
   | some (k, es) => (es ≠ [] ∧ flatEs es = true) ∧ Q k es
   | none => False
  | .exit _ => False) (initSt fn.ntmps args)
theorem wpFo_ok [EffOk C] {anns : Nat → Ann} {f : Nat} {fn : Func} {args : List A} {s : Nat} {es : List (List D)} (hm : C.P.follows .mixedOrders = true) (hf : C.P.funcs[f]? = some fn) (h : wpFo C (Gives C) anns fn args (fun k r => k = s ∧ r = es)) : GivesOwn C f args s es := by
 intro w F vs hb hinv hargs
 unfold wpFo at h
 split at h
 ·exact h.elim
 rename_i c hc
 refine calls_of_wp hf hc ?_
 refine Code.wp_mono (fun e a' w' hp => ?_) (wpC_ok hm c 0 _ _ _ _ h (init_has hb hinv hargs))
 obtain ⟨x, s', hx, hq, _, hh⟩ := hp
 have fin : ∀ k as, ownR s' fn.results.toList = some (k, as) → ((as ≠ [] ∧ flatEs as = true) ∧ k = s ∧ as = es) → _ := fun k as has he => own_fin (fn := fn) hh (by rw [ownD_ok has he.1.1 he.1.2, he.2.1, he.2.2])
 cases x with
 | normal =>
  have hx : e = .normal := hx
  subst hx
  simp only at hq
  split at hq
  ·rename_i k as has; exact fin k as has hq
  ·exact hq.elim
 | ret =>
  have hx : e = .ret := hx
  subst hx
  simp only at hq
  split at hq
  ·rename_i k as has; exact fin k as has hq
  ·exact hq.elim
 | exit i => exact hq.elim
def effOwn (own : List A → Option (Nat × List (List D))) (dst : Option Nat) (vs : List V) (ob : List Obj) : R :=
 match dst with
 | none => .fail
 | some d => match freeKey ob d, toAs ob vs with
  | true, some (as, us) => match own as with
   | some (s, es) => .ok (.arr d) (us ++ [(d, .arr s es false)])
   | none => .fail
  | _, _ => .fail
variable {B : Bd} {F0 : Nat → Prop} {w0 : World} {F : Nat → Prop} {loc : Where} {st : St} {a : Act} {w : World}
theorem Conc.adoptNew {dst : Option Nat} {d s b c : Nat} {es : List (List D)} {cs : Array Value} {t : TypeId} {w' : World} (h : Conc C B F0 w0 F loc st a w) (hd : freeKey st.objs d = true) (hbel : Below w.heap.size w w')
 (hb1 : w.heap.size ≤ b) (hb2 : b < w'.heap.size) (hblk : w'.heap[b]? = some (.cells cs t (0, 0))) (hsz : cs.size = c * s) (hlc : es.length ≤ c ∧ c ≤ 9223372036854775807) (hroom : room es.length) (hs0 : 0 < s) (hlen : ∀ e ∈ es, e.length = s) (ht : C.P.cellsOf t = s)
 (hcd : ∀ j, j < es.length * s → ∃ v, cs[j]? = some v ∧ ∀ (w : World) (F : Nat → Prop), CD w F (nth .undef es.flatten j) v) :
 Conc C B F0 w0 F (at_ loc d (b, c) t) (st.put dst (.arr d) [(d, .arr s es false)]) (a.put dst (.slice (some ⟨b, 0, none⟩) es.length c)) w' := by
 obtain ⟨hnone, hlt⟩ := freeKey_ok hd
 have hw : ∀ b, F b → w'.heap[b]? = w.heap[b]? := fun b hb => hbel.block b (h.bound b hb)
 have hsize := hbel.size
 have hle : Le st.objs (upd st.objs d (.arr s es false)) loc (at_ loc d (b, c) t) := by
  refine ⟨rfl, fun k hk => by
   have : k ≠ d := fun e => by subst e; exact absurd hnone hk
   simp [at_, this], fun k hk => ?_, fun k o' hk hc hbx => ?_, fun k s es' fz' hk hc => ?_⟩
  ·by_cases hkd : d = k
   ·subst hkd; exact absurd hnone hk
   ·rw [nth_upd_ne _ _ _ hkd]; exact hk
  ·by_cases hkd : d = k
   ·subst hkd; exact absurd hnone hk
   ·rw [nth_upd_ne _ _ _ hkd] at hc
    exact ⟨by rw [hc]; exact hbx, by simp [at_, Ne.symm hkd]⟩
  ·by_cases hkd : d = k
   ·subst hkd; exact absurd hnone hk
   ·rw [nth_upd_ne _ _ _ hkd] at hc
    exact ⟨⟨_, _, hc, rfl⟩, by simp [at_, Ne.symm hkd]⟩
 refine h.step (up := [(d, .arr s es false)]) (fun _ h => h) hw hle (h.below.trans (.of hbel h.hB)) (by have := h.hB; omega) (fun k => ?_) ?_ ?_ (fun b hb => by have := h.bound b hb; omega) h.fsub ?_ ?_
 ·show CO _ (upd st.objs d (.arr s es false)) _ _ _ (nth .none (upd st.objs d (.arr s es false)) k)
  by_cases hk : d = k
  ·subst hk
   rw [nth_upd_same _ _ _ hlt]
   refine ⟨hroom, hs0, hlen, .inr ⟨b, c, cs, t, by simp [at_], fun hF => ?_, hblk, hsz, hlc, fun j hj => ?_, ?_, by simp [at_]⟩⟩
   ·have := h.bound b hF; omega
   ·obtain ⟨v, q1, q2⟩ := hcd j hj
    exact ⟨v, q1, q2 _ _⟩
   ·show loc.P.cellsOf t = s
    rw [h.prog]; exact ht
  ·rw [nth_upd_ne _ _ _ hk]
   refine CO.le (fun _ h => h) hw hle (by simp [at_, Ne.symm hk]) (by simp [at_, Ne.symm hk]) (fun b c hb => ⟨hbel.block b (h.fresh _ _ _ hb).2, fun h => h⟩) (h.objs k)
 ·intro k k' b' c1 c2 h1 h2
  have hf := h.fresh
  simp only [at_] at h1 h2
  split at h1 <;> split at h2
  ·rw [‹k = d›, ‹k' = d›]
  ·simp only [Option.some.injEq, Prod.mk.injEq] at h1
   have := hf _ _ _ h2; omega
  ·simp only [Option.some.injEq, Prod.mk.injEq] at h2
   have := hf _ _ _ h1; omega
  ·exact h.inj _ _ _ _ _ h1 h2
 ·intro k b' c1 h1
  simp only [at_] at h1
  split at h1
  ·simp only [Option.some.injEq, Prod.mk.injEq] at h1
   have := h.hB; exact ⟨.inl (by omega), by omega⟩
  ·have := h.fresh _ _ _ h1; exact ⟨this.1, by omega⟩
 ·intro s' es' fz' hc
  have hc : nth .none (upd st.objs d (.arr s es false)) d = .arr s' es' fz' := hc
  rw [nth_upd_same _ _ _ hlt] at hc
  simp only [Obj.arr.injEq] at hc
  obtain ⟨rfl, rfl, rfl⟩ := hc
  exact .inl ⟨b, c, by simp [at_], rfl⟩
 ·show nth .none (upd st.objs d (.arr s es false)) d ≠ .none
  rw [nth_upd_same _ _ _ hlt]; simp
theorem effAt_own {f : Nat} {fn : Func} {own : List A → Option (Nat × List (List D))} (hf : C.P.funcs[f]? = some fn) (hb : fn.body ≠ none) (hn : fn.name ≠ "runtime.NumGoroutine") (h : ∀ as s es, own as = some (s, es) → GivesOwn C f as s es) : EffAt C f (effOwn own) := by
 refine ⟨fun {B F0 w0 F loc st a w dst args ts ty pos after g} hc => ?_, fun dst vs ob ob' hh hd => ?_, fun dst vs ob hv _ => ?_⟩
 ·unfold effOwn
  split
  ·trivial
  ·rename_i d
   split
   ·rename_i as us hd hto
    split
    ·rename_i s es hown
     obtain ⟨hfz, hall⟩ := toAs_ok hc hto (all2_ev hc args.toList)
     obtain ⟨F', hc', hF', hb'⟩ := hc.freezes hfz st.dirty
     have hargs := hall F' hF' hb'
     have hargs' : (args.toList.map a.eval).toArray = args.map a.eval := by apply Array.ext'; simp
     intro next Q hnx
     have hcall := h as s es hown w F' (args.toList.map a.eval) hc'.bound hc'.inv hargs
     rw [hargs'] at hcall
     refine wp_entered hf hb hn hcall fun e w' he => ?_
     obtain ⟨hbel, b, c, cs, t, rfl, h1, h2, h3, h4, h5, h6, h7, h8, h9, h10⟩ := he
     refine ⟨_, rfl, hnx _ _ ⟨F', at_ loc d (b, c) t, ?_⟩⟩
     have h11 := hc'.adoptNew (dst := some d) (freeKey_upds hfz hd) hbel h1 h2 h3 h4 h5 h6 h7 h8 h9 h10
     have : upds st.objs (us ++ [(d, .arr s es false)]) = upds (upds st.objs us) [(d, .arr s es false)] := upds_append _ _ _
     have hst : (st.put (some d) (.arr d) (us ++ [(d, .arr s es false)])).objs = upds (upds st.objs us) [(d, .arr s es false)] := this
     have h12 := h11.redirty (dt := (st.put (some d) (.arr d) (us ++ [(d, .arr s es false)])).dirty)
     have e : (st.put (some d) (.arr d) (us ++ [(d, .arr s es false)])) = ⟨upd st.tmps d (.arr d), upds (upds st.objs us) [(d, .arr s es false)], (st.put (some d) (.arr d) (us ++ [(d, .arr s es false)])).dirty⟩ := by
      rw [← hst]; rfl
     rw [e]
     exact h12
    ·trivial
   ·trivial
 ·unfold effOwn
  cases dst with
  | none => rfl
  | some d =>
   have h1 : toAs ob vs = toAs ob' vs := toAs_ag (c := 2) fun v hv k hk => .inl (hh k (by
    rw [mem_deepB]
    exact ⟨k, List.mem_flatMap.2 ⟨v, hv, hk⟩, .inl rfl⟩))
   simp only [h1]
   rw [hd d (.inl rfl)]
 ·unfold effOwn
  split
  ·trivial
  ·rename_i d
   split
   ·rename_i as us hd hto
    split
    ·rename_i s es _
     have hfz := toAs_fz hto
     refine ⟨fun p hp => ?_, fun k hk => ?_⟩
     ·rcases List.mem_append.1 hp with hp | hp
      ·obtain ⟨⟨v, hv1, hv2⟩, s', es', fz, h1, h2⟩ := hfz p hp
       refine ⟨.inr ⟨?_, by rw [h1]; simp⟩, by rw [h2]; simp, fun u hu => by rw [h2] at hu; simp [objVs] at hu⟩
       rw [mem_deepB]
       exact ⟨p.1, List.mem_flatMap.2 ⟨v, hv1, hv2⟩, .inl rfl⟩
      ·simp only [List.mem_singleton] at hp
       subst hp
       exact ⟨.inl ⟨.inl rfl, hd⟩, by simp, fun u hu => by simp [objVs] at hu⟩
     ·simp only [keysV, List.mem_singleton] at hk
      subst hk
      exact .inr ⟨hd, _, List.mem_append_right _ (List.mem_singleton.2 rfl)⟩
    ·trivial
   ·trivial
end
end Eng
end

section
namespace Eng
open Go Go.RowKit
structure LentOk (P : Program) (w : World) (F : Nat → Prop) (g c : Nat) (cs : Array Value) (t : TypeId) (s : Nat) (es : List (List D)) : Prop where
 nF : ¬ F g
 lt : g < w.heap.size
 blk : w.heap[g]? = some (.cells cs t (0, 0))
 sz : cs.size = c * s
 lc : es.length ≤ c ∧ c ≤ 9223372036854775807
 room : Eng.room es.length
 s0 : 0 < s
 lens : ∀ e ∈ es, e.length = s
 ct : P.cellsOf t = s
 cd : ∀ j, j < es.length * s → ∃ v, cs[j]? = some v ∧ CD w F (nth .undef es.flatten j) v
def lentV (g c : Nat) : Option (Nat × List (List D)) → List Value
 | none => []
 | some (_, es) => [.slice (some ⟨g, 0, none⟩) es.length c]
def lentX (g : Nat) : Option (Nat × List (List D)) → Nat → Prop
 | none, _ => False
 | some _, b => b = g
def keyC (n : Nat) : Nat := n + 7
def initC (n : Nat) (pre : List A) (lent : Option (Nat × List (List D))) (post : List A) : St :=
 match lent with
 | none => initSt n (pre ++ post)
 | some (s, es) => ⟨pre.map argV ++ (.arr (keyC n) :: (post.map argV ++ List.replicate (n - (pre.length + (1 + post.length))) .any)), upd (List.replicate (n + 8) .none) (keyC n) (.arr s es false), []⟩
section
variable {C : Cx}
theorem init_hasC {n : Nat} {pre post : List A} {lent : Option (Nat × List (List D))} {vs1 vs2 : List Value} {w : World} {F : Nat → Prop} {g c0 : Nat} {cs0 : Array Value} {t0 : TypeId} (hb : ∀ b, F b → b < w.heap.size) (hinv : Inv C F w) (h1 : All2 (CA w F) pre vs1) (h2 : All2 (CA w F) post vs2)
 (hl : ∀ s0 es0, lent = some (s0, es0) → LentOk C.P w F g c0 cs0 t0 s0 es0) :
 St.has C ⟨w.heap.size, lentX g lent⟩ F w (initC n pre lent post) { tmps := (vs1 ++ (lentV g c0 lent ++ vs2)).toArray ++ Array.replicate (n - (vs1 ++ (lentV g c0 lent ++ vs2)).toArray.size) undef, defers := [] } w := by
 cases lent with
 | none =>
  have h := init_has (n := n) hb hinv (All2.append h1 h2)
  exact h
 | some se =>
  obtain ⟨s, es⟩ := se
  have hL := hl s es rfl
  have hl1 := h1.length
  have hl2 := h2.length
  have hkl : keyC n < (List.replicate (n + 8) Obj.none).length := by simp [keyC]
  have hn : ∀ k, nth .none (upd (List.replicate (n + 8) Obj.none) (keyC n) (.arr s es false)) k = if k = keyC n then .arr s es false else .none := fun k => by
   by_cases hk : keyC n = k
   ·subst hk; rw [nth_upd_same _ _ _ hkl, if_pos rfl]
   ·rw [nth_upd_ne _ _ _ hk, nth_rep, if_neg (Ne.symm hk)]
  refine ⟨F, ⟨C.P, fun k => if k = keyC n then some (g, c0) else none, fun _ => t0⟩, ⟨rfl, BelowX.refl _ _, Nat.le_refl _, rfl, ?_, fun v hv => ?_, fun k => ?_, ?_, ?_, hb, fun b h => .inl h, fun _ h => h, hinv⟩⟩
  ·simp only [initC, lentV, Array.toList_append, Array.toList_replicate, List.size_toArray, List.append_assoc, List.cons_append, List.nil_append]
   refine all2_app (argV_ok h1) ⟨?_, all2_app (argV_ok h2) ?_⟩
   ·intro s' es' fz' hc
    rw [hn, if_pos rfl] at hc
    simp only [Obj.arr.injEq] at hc
    obtain ⟨rfl, rfl, rfl⟩ := hc
    exact .inl ⟨g, c0, by simp, rfl⟩
   ·have e : (vs1 ++ Value.slice (some ⟨g, 0, none⟩) es.length c0 :: vs2).length = pre.length + (1 + post.length) := by simp only [List.length_append, List.length_cons]; omega
    rw [e]
    exact all2_rep trivial _
  ·simp only [initC, List.mem_append, List.mem_cons, List.mem_map, List.mem_replicate] at hv
   rcases hv with ⟨x, _, rfl⟩ | rfl | ⟨x, _, rfl⟩ | ⟨_, rfl⟩
   ·exact argV_ref x
   ·intro hc
    have hc : nth Obj.none (upd (List.replicate (n + 8) Obj.none) (keyC n) (.arr s es false)) (keyC n) = Obj.none := hc
    rw [hn, if_pos rfl] at hc; simp at hc
   ·exact argV_ref x
   ·trivial
  ·simp only [initC]
   rw [hn]
   split
   ·rename_i e
    exact ⟨hL.room, hL.s0, hL.lens, .inr ⟨g, c0, cs0, t0, by simp [e], hL.nF, hL.blk, hL.sz, hL.lc, hL.cd, hL.ct, rfl⟩⟩
   ·rename_i e
    show (if k = keyC n then some (g, c0) else none) = none
    rw [if_neg e]
  ·intro k k' b c c' q1 q2
   simp only at q1 q2
   split at q1
   ·split at q2
    ·rename_i e1 e2; rw [e1, e2]
    ·simp at q2
   ·simp at q1
  ·intro k b c q1
   simp only at q1
   split at q1
   ·simp only [Option.some.injEq, Prod.mk.injEq] at q1
    obtain ⟨rfl, rfl⟩ := q1
    exact ⟨.inr rfl, hL.lt⟩
   ·simp at q1
variable {B : Bd} {F0 : Nat → Prop} {w0 : World} {F : Nat → Prop} {loc : Where} {st : St} {a : Act} {w : World}
end
end Eng
end
