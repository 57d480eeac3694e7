/- cover.Cover: its contract. -/
import Derived.Test.YtkkodaemmgpgfaaGreatDoorCvC
import Derived.Test.YtkkodaemmgpgfaaGreatDoorSortA
section
namespace Eng
open Go Go.Proofs
open Go.Sort (SWO)
open Go.Proofs (ltOf)
set_option maxRecDepth 100000
abbrev SB := {s : St4 // s.b < 2147483648}
instance : Inhabited SB := ⟨⟨⟨0, 0, 0, 0⟩, by decide⟩⟩
def SB.row (k : SB) : List D := k.1.cs
def SB.enc (k : SB) : List Value := [.int .i64 (k.1.a : Int), .int .i64 (k.1.b : Int), .int .i64 (k.1.c : Int), .int .i64 (k.1.d : Int)]
def cfS (x y : SB) : Int := (x.1.b : Int) - (y.1.b : Int)
theorem lt_cfS (x y : SB) : ltOf cfS x y = decide (x.1.b < y.1.b) := by
 unfold ltOf cfS
 rw [decide_eq_decide]; omega
theorem swo_cfS : SWO (ltOf cfS) where
 irrefl x := by rw [lt_cfS]; simp
 trans x y z h1 h2 := by rw [lt_cfS] at *; simp only [decide_eq_true_eq] at *; omega
 ntrans x y z h1 h2 := by rw [lt_cfS] at *; simp only [decide_eq_false_iff_not] at *; omega
theorem row_det (k : SB) (w : World) (F : Nat → Prop) (vs : List Value) (h : All2 (CD w F) k.row vs) : vs = k.enc := by
 match vs, h with
 | [v1, v2, v3, v4], h =>
  obtain ⟨a1, a2, a3, a4, _⟩ := h
  have e : ∀ (n : Int) (v : Value), CD w F (.int .i64 n) v → v = .int .i64 n := fun n v h => by cases h; rfl
  unfold SB.enc
  rw [e _ _ a1, e _ _ a2, e _ _ a3, e _ _ a4]
theorem row_back (k : SB) (w : World) (F : Nat → Prop) : All2 (CD w F) k.row k.enc := ⟨.int _ _, .int _ _, .int _ _, .int _ _, trivial⟩
def sortS (ks : List SB) : List SB := pdqL cfS ks
theorem sortS_I (ks : List SB) : GivesI CC 63 4 (ks.map SB.row) [.c (.fn 64)] [] ((sortS ks).map SB.row) :=
 sort_plain (C := CC) (ρ := Tryz.sortStrip_ren) Tryz.sortStrip (by omega) Tryz.isAgg88 Tryz.sizeOf88 SB.row SB.enc (fun _ => rfl) (fun _ => rfl) (fun k v hv => by
  simp only [SB.enc, List.mem_cons, List.not_mem_nil, or_false] at hv
  rcases hv with rfl | rfl | rfl | rfl <;> rfl) row_det row_back cfS swo_cfS (enters_of Tryz.func64 (by kernel_rfl) rfl) (fun x y => cov3_ok x.1 y.1 x.2 y.2)
def rdS : List D → Option SB
 | [.int .i64 (.ofNat a), .int .i64 (.ofNat b), .int .i64 (.ofNat c), .int .i64 (.ofNat d)] => if h : b < 2147483648 then some ⟨⟨a, b, c, d⟩, h⟩ else none
 | _ => none
theorem rdS_row (k : SB) : rdS k.row = some k := by
 obtain ⟨⟨a, b, c, d⟩, h⟩ := k
 show (if h : b < 2147483648 then some (⟨⟨a, b, c, d⟩, h⟩ : SB) else none) = _
 rw [dif_pos h]
theorem rdS_ok {row : List D} {k : SB} (h : rdS row = some k) : row = k.row := by
 unfold rdS at h
 split at h
 ·split at h
  ·simp only [Option.some.injEq] at h
   subst h; rfl
  ·simp at h
 ·simp at h
def isStrip (row : List D) : Bool := isSm (rdS row)
def toSs (es : List (List D)) : List SB := es.map fun r => (rdS r).getD default
theorem toSs_ok : ∀ {es : List (List D)}, es.all isStrip = true → es = (toSs es).map SB.row
 | [], _ => rfl
 | e :: es, h => by
  simp only [List.all_cons, Bool.and_eq_true] at h
  have ih := toSs_ok h.2
  have h1 := h.1
  unfold isStrip at h1
  cases hr : rdS e with
  | none => rw [hr] at h1; simp [isSm] at h1
  | some k =>
   show e :: es = ((rdS e).getD default).row :: (toSs es).map SB.row
   rw [hr, ← ih]
   show e :: es = k.row :: es
   rw [rdS_ok hr]
theorem toSs_rows : ∀ (ks : List SB), toSs (ks.map SB.row) = ks ∧ (ks.map SB.row).all isStrip = true
 | [] => ⟨rfl, rfl⟩
 | k :: ks => by
  obtain ⟨h1, h2⟩ := toSs_rows ks
  constructor
  ·show (rdS k.row).getD default :: toSs (ks.map SB.row) = _
   rw [rdS_row, h1]; rfl
  ·show (isStrip k.row && (ks.map SB.row).all isStrip) = true
   rw [h2]; unfold isStrip; rw [rdS_row]; rfl
def tcS : Ck2 := fun es al => isFn 64 al && (notE es && es.all isStrip)
noncomputable def tmS : Mk2 := fun es _ => (sortS (toSs es)).map SB.row
noncomputable abbrev CVS : Cx := CVx no1 nm1 no2 nm2 no2 nm2 tcS tmS
instance : EffOk CVS := eff_cv (fun _ h => by simp at h) (fun _ _ h => by simp at h) (fun _ _ h => by simp at h) fun es al h => by
 simp only [tcS, Bool.and_eq_true, notE_iff] at h
 obtain ⟨h1, h2, h3⟩ := h
 refine ⟨h2, ?_⟩
 rw [isFn_ok h1]
 have hc := sortS_I (toSs es)
 rw [← toSs_ok h3] at hc
 exact hc
def Rb.bx (x : Rb) : Bx := ⟨x.a.val, x.b.val, x.c.val, x.d.val⟩
def xsOf (b : Bx) (l : List Bx) : List Rat := [b.x0, b.x1] ++ l.flatMap fun x => [x.x0, x.x1]
def ysOf (b : Bx) (l : List Bx) : List Rat := [b.y0, b.y1] ++ l.flatMap fun x => [x.y0, x.y1]
def mkSB (s : St4) : SB := if h : s.b < 2147483648 then ⟨s, h⟩ else default
def stepT (x : Nat) (top : Nat) (s : SB) : Nat := if s.1.a ≤ x then if x < s.1.c then if s.1.b ≤ top then if top < s.1.d then s.1.d else top else top else top else top
def sweep (x top : Nat) (σ : List SB) : Nat := σ.foldl (stepT x) top
def coverP (b : Bx) (l : List Bx) : Bool :=
 let xs := ranksP (xsOf b l)
 let ys := ranksP (ysOf b l)
 let t := strip xs ys b
 let σ := sortS (l.map fun x => mkSB (strip xs ys x))
 (List.range' t.a (t.c - t.a)).all fun x => decide (t.d ≤ sweep x t.b σ)
theorem rnk_le (rs : List Rat) (x : Rat) : rnk rs x ≤ rs.length := List.findIdx_le_length
theorem xsOf_len (b : Bx) (l : List Bx) : (xsOf b l).length = 2 + 2 * l.length ∧ (ysOf b l).length = 2 + 2 * l.length := by
 unfold xsOf ysOf
 simp only [List.length_append, List.length_cons, List.length_nil, List.length_flatMap]
 have : ∀ l : List Bx, (l.map fun _ => 2).sum = 2 * l.length := fun l => by
  induction l with
  | nil => rfl
  | cons x l ih => simp only [List.map_cons, List.sum_cons, ih, List.length_cons]; omega
 simp [this]
theorem sweep_snoc (x top : Nat) (σ : List SB) (s : SB) : sweep x top (σ ++ [s]) = stepT x (sweep x top σ) s := by simp [sweep]
end Eng
end

section
namespace Eng
open Go Go.Proofs
set_option maxRecDepth 100000
theorem bx_cs {x : Rb} (h : x.ok = true) (hm : x.mid) : x.cs = x.bx.cs ∧ x.bx.sr := by
 simp only [Rb.ok, okB, Bool.and_eq_true] at h
 obtain ⟨o1, o2, o3, o4, _⟩ := h
 obtain ⟨e1, z1⟩ := x.a.val_mid o1 hm.1
 obtain ⟨e2, z2⟩ := x.b.val_mid o2 hm.2.1
 obtain ⟨e3, z3⟩ := x.c.val_mid o3 hm.2.2.1
 obtain ⟨e4, z4⟩ := x.d.val_mid o4 hm.2.2.2
 refine ⟨?_, z1, z2, z3, z4⟩
 show x.a.cs ++ (x.b.cs ++ (x.c.cs ++ x.d.cs)) = _
 rw [e1, e2, e3, e4]; rfl
def bxs (l : List Bx) : List (List D) := l.map Bx.cs
theorem bxs_length (l : List Bx) : (bxs l).length = l.length := by simp [bxs]
theorem nth_bxs {l : List Bx} {k : Nat} (h : k < l.length) : nth [] (bxs l) k = l[k].cs := by
 rw [nth_of_lt _ (by rw [bxs_length]; exact h)]; simp [bxs]
theorem flat_snoc {α β : Type} (f : α → List β) {l : List α} {k : Nat} (h : k < l.length) : (l.take (k + 1)).flatMap f = (l.take k).flatMap f ++ f l[k] := by
 rw [List.take_succ_eq_append_getElem h, List.flatMap_append]
 show _ ++ (f l[k] ++ []) = _
 rw [List.append_nil]
theorem rats_app (a b : List Rat) : rats (a ++ b) = rats a ++ rats b := by simp [rats]
theorem xsOf_snoc (b : Bx) {l : List Bx} {k : Nat} (h : k < l.length) : xsOf b (l.take (k + 1)) = xsOf b (l.take k) ++ [l[k].x0, l[k].x1] := by
 unfold xsOf; rw [flat_snoc _ h, List.append_assoc]
theorem ysOf_snoc (b : Bx) {l : List Bx} {k : Nat} (h : k < l.length) : ysOf b (l.take (k + 1)) = ysOf b (l.take k) ++ [l[k].y0, l[k].y1] := by
 unfold ysOf; rw [flat_snoc _ h, List.append_assoc]
theorem lens_two (x y : Rat) : lens 4 [cR x, cR y] := fun e he => by
 simp only [List.mem_cons, List.not_mem_nil, or_false] at he
 rcases he with rfl | rfl <;> rfl
theorem lens_strip (s : St4) : lens 4 [s.cs] := fun e he => by
 simp only [List.mem_cons, List.not_mem_nil, or_false] at he
 rw [he]; rfl
theorem mkSB_row {s : St4} (h : s.b < 2147483648) : (mkSB s).row = s.cs := by unfold mkSB; rw [dif_pos h]; rfl
theorem cover_ok {b : Rb} {l : List Rb} (hb : b.mid) (hl : ∀ x ∈ l, x.mid) (hn : l.length ≤ 1000) (hne : l ≠ []) :
 Gives CC 17 [.ag b.cs, .c (.sl (rbs l))] [.c (.bool (b.ok && (l.all Rb.ok && coverP b.bx (l.map Rb.bx))))] := by
 have g46 : Gives CVS 46 [.ag b.cs] [.c (.bool b.ok)] := gives_cx (C := CC) rfl rfl (cvalidBox_mid hb.1 hb.2.1 hb.2.2.1 hb.2.2.2)
 have g58 : Gives CVS 58 [.c (.sl (rbs l)), .c (.fn 59)] [.c (.bool (!l.all Rb.ok))] := gives_cx (C := CC) rfl rfl (contf_ok (by omega) hl)
 by_cases hall : b.ok = true ∧ l.all Rb.ok = true
 rotate_left
 ·-- an invalid box
  refine gives_cx (C := CVS) rfl rfl (wpF_ok (C := CVS) (anns := ann4
   ⟨[.slot 42 (.int .i64 0), .cel 5 125 4, .cel 6 126 4], [], fun _ _ => False, fun _ => 0⟩
   ⟨[.slot 71 (.int .i64 0), .own 11 127 4], [], fun _ _ => False, fun _ => 0⟩
   ⟨[.slot 14 (.int .i64 0)], [], fun _ _ => False, fun _ => 0⟩
   ⟨[.slot 15 (.int .i64 0), .slot 96 (.int .i64 0)], [.slot 14 (.int .i64 0)], fun _ _ => False, fun _ => 0⟩) mixedT Tryz.func17 ?_)
  rw [Rb.cs_eq, vc_cover]
  simp only [Int.ofNat_eq_natCast, rbs_length]
  refine ⟨_, g46, brb (fun h => ?_) (fun h => brd (fun h2 => absurd h2 (by omega)) (fun _ => ⟨_, g58, brb' (fun h2 => ?_) (fun h2 => ?_)⟩))⟩
  ·have : b.ok = false := by simpa using h
   rw [this]; rfl
  ·have : l.all Rb.ok = false := by simpa using h2
   rw [this]; simp
  ·have h3 : b.ok = true := by simpa using h
   have h4 : l.all Rb.ok = true := by simpa using h2
   exact absurd ⟨h3, h4⟩ hall
 obtain ⟨hbo, hlo⟩ := hall
 rw [hbo] at g46
 rw [hlo] at g58
 rw [hbo, hlo]
 simp only [Bool.true_and]
 obtain ⟨eb, sb⟩ := bx_cs hbo hb
 -- all in numbers
 have hbx : ∀ x ∈ l.map Rb.bx, x.sr := fun x hx => by
  simp only [List.mem_map] at hx
  obtain ⟨y, hy, rfl⟩ := hx
  exact (bx_cs (List.all_eq_true.1 hlo y hy) (hl y hy)).2
 have erb : rbs l = bxs (l.map Rb.bx) := by
  unfold rbs bxs
  rw [List.map_map]
  refine List.map_congr_left fun x hx => ?_
  exact (bx_cs (List.all_eq_true.1 hlo x hx) (hl x hx)).1
 have hLn : (l.map Rb.bx).length ≤ 1000 := by simpa using hn
 have hLne : l.map Rb.bx ≠ [] := by simpa using hne
 generalize hL : l.map Rb.bx = L at *
 generalize hB : b.bx = B at *
 rw [eb] at g46 ⊢
 rw [erb] at g58 ⊢
 clear eb erb hL hB hbo hlo hl hb hn hne
 have hxsr : ∀ y ∈ xsOf B L, Sr y := fun y hy => by
  simp only [xsOf, List.mem_append, List.mem_cons, List.not_mem_nil, or_false, List.mem_flatMap] at hy
  rcases hy with (rfl | rfl) | ⟨x, hx, rfl | rfl⟩
  ·exact sb.1
  ·exact sb.2.2.1
  ·exact (hbx x hx).1
  ·exact (hbx x hx).2.2.1
 have hysr : ∀ y ∈ ysOf B L, Sr y := fun y hy => by
  simp only [ysOf, List.mem_append, List.mem_cons, List.not_mem_nil, or_false, List.mem_flatMap] at hy
  rcases hy with (rfl | rfl) | ⟨x, hx, rfl | rfl⟩
  ·exact sb.2.1
  ·exact sb.2.2.2
  ·exact (hbx x hx).2.1
  ·exact (hbx x hx).2.2.2
 obtain ⟨lx, ly⟩ := xsOf_len B L
 have r1 : Gives CVS 60 [.c (.sl (rats (xsOf B L)))] [.c (.sl (rats (ranksP (xsOf B L))))] := gives_cx (C := CC) rfl rfl (ranks_ok (by simp [xsOf]) hxsr (by omega))
 have r2 : Gives CVS 60 [.c (.sl (rats (ysOf B L)))] [.c (.sl (rats (ranksP (ysOf B L))))] := gives_cx (C := CC) rfl rfl (ranks_ok (by simp [ysOf]) hysr (by omega))
 have px := ranksP_len (xsOf B L)
 have py := ranksP_len (ysOf B L)
 have mx : ∀ y ∈ ranksP (xsOf B L), Sr y := fun y hy => hxsr y (ranksP_mem.1 hy)
 have my : ∀ y ∈ ranksP (ysOf B L), Sr y := fun y hy => hysr y (ranksP_mem.1 hy)
 have sx := ranksP_sorted (xsOf B L)
 have sy := ranksP_sorted (ysOf B L)
 have hcl : ∀ x : Bx, x.sr → Gives CVS 61 [.ag x.cs, .c (.ptr [.sl (rats (ranksP (xsOf B L)))]), .c (.ptr [.sl (rats (ranksP (ysOf B L)))])] [.ag (strip (ranksP (xsOf B L)) (ranksP (ysOf B L)) x).cs] :=
  fun x hx => gives_cx (C := CC) rfl rfl (cov2_ok hx sx sy mx my (by omega) (by omega))
 have hbd : ∀ x : Bx, (strip (ranksP (xsOf B L)) (ranksP (ysOf B L)) x).b < 2147483648 ∧ (strip (ranksP (xsOf B L)) (ranksP (ysOf B L)) x).d < 2147483648 ∧ (strip (ranksP (xsOf B L)) (ranksP (ysOf B L)) x).a < 2147483648 ∧ (strip (ranksP (xsOf B L)) (ranksP (ysOf B L)) x).c < 2147483648 := fun x => by
  have a1 := rnk_le (ranksP (ysOf B L)) x.y0
  have a2 := rnk_le (ranksP (ysOf B L)) x.y1
  have a3 := rnk_le (ranksP (xsOf B L)) x.x0
  have a4 := rnk_le (ranksP (xsOf B L)) x.x1
  simp only [strip]
  omega
 have hcov : coverP B L = ((List.range' (strip (ranksP (xsOf B L)) (ranksP (ysOf B L)) B).a ((strip (ranksP (xsOf B L)) (ranksP (ysOf B L)) B).c - (strip (ranksP (xsOf B L)) (ranksP (ysOf B L)) B).a)).all fun x =>
  decide ((strip (ranksP (xsOf B L)) (ranksP (ysOf B L)) B).d ≤ sweep x (strip (ranksP (xsOf B L)) (ranksP (ysOf B L)) B).b (sortS (L.map fun x => mkSB (strip (ranksP (xsOf B L)) (ranksP (ysOf B L)) x))))) := rfl
 have hrows : ∀ m : Nat, (((L.take m).map (strip (ranksP (xsOf B L)) (ranksP (ysOf B L)))).map St4.cs) = ((L.take m).map fun x => mkSB (strip (ranksP (xsOf B L)) (ranksP (ysOf B L)) x)).map SB.row := fun m => by
  rw [List.map_map, List.map_map]
  refine List.map_congr_left fun x _ => ?_
  exact (mkSB_row (hbd x).1).symm
 generalize hstr : strip (ranksP (xsOf B L)) (ranksP (ysOf B L)) = S at *
 generalize hks : (L.map fun x => mkSB (S x)) = ks at *
 have hkl : ks.length = L.length := by rw [← hks]; simp
 have hkne : ks ≠ [] := fun e => by rw [e] at hkl; exact hLne (List.eq_nil_of_length_eq_zero hkl.symm)
 have hsl : (sortS ks).length = L.length := by
  have := (Eng.pdqL_ok swo_cfS ks).1.length_eq
  unfold sortS; omega
 have hfl : ∀ s ∈ sortS ks, s.1.a < 2147483648 ∧ s.1.c < 2147483648 ∧ s.1.d < 2147483648 := fun s hs => by
  have h1 : s ∈ ks := (Eng.pdqL_ok swo_cfS ks).1.mem_iff.1 hs
  rw [← hks] at h1
  simp only [List.mem_map] at h1
  obtain ⟨x, _, rfl⟩ := h1
  unfold mkSB
  rw [dif_pos (hbd x).1]
  exact ⟨(hbd x).2.2.1, (hbd x).2.2.2, (hbd x).2.1⟩
 have hsw : ∀ x m, sweep x (S B).b ((sortS ks).take m) < 2147483648 := fun x m => by
  have key : ∀ (σ : List SB) (top : Nat), (∀ s ∈ σ, s.1.d < 2147483648) → top < 2147483648 → sweep x top σ < 2147483648 := by
   intro σ
   induction σ with
   | nil => intro top _ h; exact h
   | cons s σ ih =>
    intro top hs ht
    refine ih _ (fun t ht' => hs t (by simp [ht'])) ?_
    unfold stepT
    have := hs s (by simp)
    repeat' split
    all_goals omega
  exact key _ _ (fun s hs => (hfl s (List.mem_of_mem_take hs)).2.2) (hbd B).1
 generalize hσ : sortS ks = σ at *
 obtain ⟨bB1, bB2, bB3, bB4⟩ := hbd B
 refine gives_cx (C := CVS) rfl rfl (wpF_ok (C := CVS) (anns := ann4
  ⟨[.slot 42 (.int .i64 0), .cel 5 125 4, .cel 6 126 4], [], fun _ ds => ∃ k : Nat, k ≤ L.length ∧ ds = [.int .i64 (k : Int), .sl (rats (xsOf B (L.take k))), .sl (rats (ysOf B (L.take k)))], fun ds => (L.length - toI (nth .undef ds 0)).toNat⟩
  ⟨[.slot 71 (.int .i64 0), .own 11 127 4], [], fun _ ds => ∃ k : Nat, k ≤ L.length ∧ ds = [.int .i64 (k : Int), .sl (((L.take k).map S).map St4.cs)], fun ds => (L.length - toI (nth .undef ds 0)).toNat⟩
  ⟨[.slot 14 (.int .i64 0)], [], fun _ ds => ∃ x : Nat, (S B).a ≤ x ∧ (x ≤ (S B).c ∨ x = (S B).a) ∧ ds = [.int .i64 (x : Int)] ∧ ∀ x', (S B).a ≤ x' → x' < x → (S B).d ≤ sweep x' (S B).b σ, fun ds => ((S B).c - toI (nth .undef ds 0)).toNat⟩
  ⟨[.slot 15 (.int .i64 0), .slot 96 (.int .i64 0)], [.slot 14 (.int .i64 0)], fun gs ds => ∃ x m : Nat, m ≤ σ.length ∧ gs = [.int .i64 (x : Int)] ∧ ds = [.int .i64 (sweep x (S B).b (σ.take m) : Int), .int .i64 (m : Int)], fun ds => (σ.length - toI (nth .undef ds 1)).toNat⟩) mixedT Tryz.func17 ?_)
 have eB : A.ag B.cs = encB B.x0 B.y0 B.x1 B.y1 := rfl
 rw [eB] at g46 ⊢
 rw [encB_cells] at g46 ⊢
 rw [vc_cover]
 simp only [Int.ofNat_eq_natCast, bxs_length]
 refine ⟨_, g46, brb (fun h => by simp at h) (fun _ => brd (fun h2 => absurd h2 (by omega)) (fun _ => ⟨_, g58, brb' (fun h2 => by simp at h2) (fun _ => ⟨⟨0, by omega, rfl⟩, ?_⟩)⟩))⟩
 rintro n es1 es2 ⟨k, hk, he⟩
 simp only [List.cons.injEq, D.int.injEq, D.sl.injEq, true_and, and_true] at he
 obtain ⟨rfl, rfl, rfl⟩ := he
 refine brd (fun h => ?_) (fun h => ?_)
 ·have hkl' : k < L.length := by omega
  have hw : IntKind.wrap .i64 ((k : Int) + 1) = ((k + 1 : Nat) : Int) := by rw [i64w (by omega) (by omega)]; omega
  rw [hw, Int.toNat_natCast, nth_bxs hkl']
  obtain ⟨q1, q2⟩ := xsOf_len B (L.take k)
  rw [List.length_take] at q1 q2
  refine ⟨⟨by omega, by omega, rfl⟩, _, _, _, _, _, _, _, _, _, _, _, _, _, _, _, _, cut_all (l := L[k].cs) rfl, ⟨?_, lens_two L[k].x0 L[k].x1⟩, ⟨?_, lens_two L[k].y0 L[k].y1⟩, ⟨k + 1, by omega, ?_⟩, by simp only [nth, toI]; omega⟩
  ·unfold room; rw [rats_length]; omega
  ·unfold room; rw [rats_length]; omega
  ·rw [xsOf_snoc B hkl', ysOf_snoc B hkl', rats_app, rats_app]; rfl
 have hk0 : k = L.length := by omega
 subst hk0
 rw [List.take_length]
 have c0 := hcl B sb
 rw [eB, encB_cells] at c0
 refine ⟨_, r1, _, r2, _, _, _, _, c0, ⟨0, by omega, rfl⟩, ?_⟩
 rintro n4 es5 ⟨k, hk, he⟩
 simp only [List.cons.injEq, D.int.injEq, D.sl.injEq, true_and, and_true] at he
 obtain ⟨rfl, rfl⟩ := he
 refine brd (fun h => ?_) (fun h => ?_)
 ·have hkl' : k < L.length := by omega
  have hw : IntKind.wrap .i64 ((k : Int) + 1) = ((k + 1 : Nat) : Int) := by rw [i64w (by omega) (by omega)]; omega
  rw [hw, Int.toNat_natCast, nth_bxs hkl']
  refine ⟨⟨by omega, by omega, rfl⟩, _, _, _, _, _, _, _, _, _, _, _, _, _, _, _, _, cut_all (l := L[k].cs) rfl, _, _, _, _, hcl L[k] (hbx _ (List.getElem_mem hkl')), ⟨?_, lens_strip (S L[k])⟩, ⟨k + 1, by omega, ?_⟩, by simp only [nth, toI]; omega⟩
  ·unfold room; simp only [List.length_map, List.length_take]; omega
  ·rw [List.take_succ_eq_append_getElem hkl']
   simp only [List.map_append, List.map_cons, List.map_nil]
   rfl
 have hk0 : k = L.length := by omega
 subst hk0
 have hrw := hrows L.length
 rw [List.take_length, hks] at hrw
 rw [List.take_length, hrw]
 obtain ⟨t1, t2⟩ := toSs_rows ks
 have htm : tmS (ks.map SB.row) [A.c (D.fn 64)] = σ.map SB.row := by unfold tmS; rw [t1, hσ]
 rw [htm]
 simp only [List.length_map]
 refine ⟨?_, ⟨(S B).a, Nat.le_refl _, .inr rfl, rfl, by omega⟩, ?_⟩
 ·show (isFn 64 [A.c (D.fn 64)] && (notE (ks.map SB.row) && (ks.map SB.row).all isStrip)) = true
  simp only [Bool.and_eq_true, notE_iff]
  exact ⟨rfl, fun e => hkne (by simpa using e), t2⟩
 rintro n ⟨x, hx1, hx2, he, hgood⟩
 simp only [List.cons.injEq, D.int.injEq, true_and, and_true] at he
 subst he
 refine brd (fun h => ?_) (fun h => ?_)
 rotate_left
 ·have hcv : coverP B L = true := by
   rw [hcov, List.all_eq_true]
   intro x' hx'
   rw [List.mem_range'_1] at hx'
   exact decide_eq_true (hgood x' hx'.1 (by omega))
  rw [hcv]
 have hxc : x < (S B).c := by omega
 refine ⟨⟨x, 0, by omega, rfl, rfl⟩, ?_⟩
 rintro n5 n6 ⟨x', m, hm, hg, he⟩
 simp only [List.cons.injEq, D.int.injEq, true_and, and_true] at hg he
 obtain ⟨rfl, rfl⟩ := he
 have hxx : x' = x := by omega
 subst hxx
 refine brd (fun h2 => ?_) (fun h2 => ?_)
 ·have hml : m < σ.length := by omega
  have hw : IntKind.wrap .i64 ((m : Int) + 1) = ((m + 1 : Nat) : Int) := by rw [i64w (by omega) (by omega)]; omega
  rw [hw, Int.toNat_natCast, nth_of_lt [] (by simpa using hml), List.getElem_map]
  have hst := sweep_snoc x' (S B).b (σ.take m) σ[m]
  rw [← List.take_succ_eq_append_getElem hml] at hst
  have hSt : σ[m].row = [.int .i64 (σ[m].1.a : Int), .int .i64 (σ[m].1.b : Int), .int .i64 (σ[m].1.c : Int), .int .i64 (σ[m].1.d : Int)] := rfl
  generalize hT : sweep x' (S B).b (σ.take m) = T at *
  generalize hs : σ[m] = s at *
  have fin : ∀ t : Int, t = (sweep x' (S B).b (σ.take (m + 1)) : Int) → ((∃ x m_1 : Nat, m_1 ≤ σ.length ∧ [D.int .i64 (x' : Int)] = [.int .i64 (x : Int)] ∧ [D.int .i64 t, D.int .i64 ((m + 1 : Nat) : Int)] = [.int .i64 (sweep x (S B).b (σ.take m_1) : Int), .int .i64 (m_1 : Int)]) ∧
   (σ.length - toI (nth .undef [D.int .i64 t, D.int .i64 ((m + 1 : Nat) : Int)] 1)).toNat < (σ.length - toI (nth .undef [D.int .i64 (T : Int), D.int .i64 (m : Int)] 1)).toNat) := by
   intro t ht
   exact ⟨⟨x', m + 1, by omega, rfl, by rw [ht]⟩, by simp only [nth, toI]; omega⟩
  refine ⟨⟨by omega, by omega⟩, _, _, _, _, cut_all (l := s.row) rfl, brd (fun h3 => brd (fun h4 => brd (fun h5 => fin _ ?_) (fun h5 => fin _ ?_)) (fun h4 => fin _ ?_)) (fun h3 => fin _ ?_)⟩
  ·rw [hst]; unfold stepT
   rw [if_pos (by omega), if_pos (by omega), if_pos (by omega)]
   by_cases h6 : T < s.1.d
   ·rw [if_pos h6]
    have h7 : decide ((T : Int) < (s.1.d : Int)) = true := decide_eq_true (by omega)
    simp only [h7]
   ·rw [if_neg h6]
    have h7 : decide ((T : Int) < (s.1.d : Int)) = false := decide_eq_false (by omega)
    simp only [h7]
  ·rw [hst]; unfold stepT
   rw [if_pos (by omega), if_pos (by omega), if_neg (by omega)]
  ·rw [hst]; unfold stepT
   rw [if_pos (by omega), if_neg (by omega)]
  ·rw [hst]; unfold stepT
   rw [if_neg (by omega)]
 ·have hml : m = σ.length := by omega
  subst hml
  rw [List.take_length]
  have hw : IntKind.wrap .i64 ((x' : Int) + 1) = ((x' + 1 : Nat) : Int) := by rw [i64w (by omega) (by omega)]; omega
  rw [hw]
  refine brd (fun h3 => ?_) (fun h3 => ⟨⟨x' + 1, by omega, .inl (by omega), rfl, fun x'' h4 h5 => ?_⟩, by simp only [nth, toI]; omega⟩)
  ·have hcv : coverP B L = false := by
    rw [hcov, List.all_eq_false]
    exact ⟨x', by rw [List.mem_range'_1]; omega, by simp only [decide_eq_true_eq]; omega⟩
   rw [hcv]
  ·rcases Nat.lt_or_ge x'' x' with h6 | h6
   ·exact hgood x'' h4 h6
   ·have : x'' = x' := by omega
    subst this
    omega
end Eng
end

section
namespace Eng
open Go Go.Proofs
set_option maxRecDepth 100000
def inB (b : Bx) (x y : Rat) : Prop := b.x0 ≤ x ∧ x ≤ b.x1 ∧ b.y0 ≤ y ∧ y ≤ b.y1
def Cov (b : Bx) (l : List Bx) : Prop := ∀ x y, inB b x y → ∃ c ∈ l, inB c x y
theorem stepT_ge (x top : Nat) (s : SB) : top ≤ stepT x top s := by
 unfold stepT; repeat' split
 all_goals omega
theorem sweep_ge (x : Nat) : ∀ (σ : List SB) (top : Nat), top ≤ sweep x top σ
 | [], _ => Nat.le_refl _
 | s :: σ, top => Nat.le_trans (stepT_ge x top s) (sweep_ge x σ _)
theorem sweep_cons (x top : Nat) (s : SB) (σ : List SB) : sweep x top (s :: σ) = sweep x (stepT x top s) σ := rfl
theorem sweep_cov (x : Nat) : ∀ (σ : List SB) (top y : Nat), top ≤ y → y < sweep x top σ → ∃ s ∈ σ, s.1.a ≤ x ∧ x < s.1.c ∧ s.1.b ≤ y ∧ y < s.1.d
 | [], top, y, h1, h2 => by simp only [sweep, List.foldl_nil] at h2; omega
 | s :: σ, top, y, h1, h2 => by
  rw [sweep_cons] at h2
  rcases Nat.lt_or_ge y (stepT x top s) with h3 | h3
  ·refine ⟨s, by simp, ?_⟩
   unfold stepT at h3
   split at h3
   ·split at h3
    ·split at h3
     ·split at h3
      ·exact ⟨by assumption, by assumption, by omega, h3⟩
      ·omega
     ·omega
    ·omega
   ·omega
  ·obtain ⟨t, ht, h4⟩ := sweep_cov x σ _ y h3 h2
   exact ⟨t, by simp [ht], h4⟩
theorem sweep_stop (x : Nat) : ∀ (σ : List SB) (top : Nat), σ.Pairwise (fun s t => ¬ t.1.b < s.1.b) → ¬ ∃ s ∈ σ, s.1.a ≤ x ∧ x < s.1.c ∧ s.1.b ≤ sweep x top σ ∧ sweep x top σ < s.1.d
 | [], _, _ => by simp
 | s :: σ, top, hp => by
  rw [List.pairwise_cons] at hp
  rw [sweep_cons]
  rintro ⟨t, ht, h1, h2, h3, h4⟩
  rcases List.mem_cons.1 ht with rfl | ht
  ·-- s itself
   by_cases hb : t.1.b ≤ top
   ·have : t.1.d ≤ stepT x top t := by
     unfold stepT
     rw [if_pos h1, if_pos h2, if_pos hb]
     split <;> omega
    have := sweep_ge x σ (stepT x top t)
    omega
   ·have e : stepT x top t = top := by
     unfold stepT
     rw [if_pos h1, if_pos h2, if_neg hb]
    have key : ∀ (σ : List SB), (∀ u ∈ σ, ¬ u.1.b < t.1.b) → sweep x top σ = top := by
     intro σ
     induction σ with
     | nil => intro _; rfl
     | cons u σ ih =>
      intro hu
      have hub := hu u (by simp)
      have : stepT x top u = top := by
       unfold stepT
       split
       ·split
        ·rw [if_neg (by omega)]
        ·rfl
       ·rfl
      rw [sweep_cons, this]
      exact ih fun v hv => hu v (by simp [hv])
    rw [e, key σ fun u hu => hp.1 u hu] at h3
    omega
  ·exact sweep_stop x σ _ hp.2 ⟨t, ht, h1, h2, h3, h4⟩
theorem sweep_iff {x tb td : Nat} {σ : List SB} (hp : σ.Pairwise (fun s t => ¬ t.1.b < s.1.b)) : td ≤ sweep x tb σ ↔ ∀ y, tb ≤ y → y < td → ∃ s ∈ σ, s.1.a ≤ x ∧ x < s.1.c ∧ s.1.b ≤ y ∧ y < s.1.d := by
 constructor
 ·intro h y h1 h2
  exact sweep_cov x σ tb y h1 (by omega)
 ·intro h
  rcases Nat.lt_or_ge (sweep x tb σ) td with h1 | h1
  ·obtain ⟨s, hs, h2, h3, h4, h5⟩ := h _ (sweep_ge x σ tb) h1
   exact absurd ⟨s, hs, h2, h3, h4, h5⟩ (sweep_stop x σ tb hp)
  ·exact h1
theorem rnk_lt {rs : List Rat} {x : Rat} {k : Nat} (hk : k < rs.length) (h : k < rnk rs x) : rs[k] < x := by
 have := List.not_of_lt_findIdx (xs := rs) (p := fun y => !decide (y < x)) h
 simpa using this
theorem rnk_ge {rs : List Rat} {x : Rat} (hs : rs.Pairwise (· < ·)) {k : Nat} (hk : k < rs.length) (h : rnk rs x ≤ k) : ¬ rs[k] < x := by
 have hr : rnk rs x < rs.length := by omega
 have h1 : ¬ rs[rnk rs x] < x := by
  have := List.findIdx_getElem (xs := rs) (p := fun y => !decide (y < x)) (w := hr)
  have this : (!decide (rs[rnk rs x] < x)) = true := this
  rw [Bool.not_eq_true', decide_eq_false_iff_not] at this
  exact this
 rcases Nat.lt_or_ge (rnk rs x) k with h2 | h2
 ·have := List.pairwise_iff_getElem.1 hs _ k hr hk h2
  grind
 ·have : rnk rs x = k := by omega
  simp only [this] at h1
  exact h1
theorem rnk_mem {rs : List Rat} {x : Rat} (hs : rs.Pairwise (· < ·)) (hx : x ∈ rs) : ∃ h : rnk rs x < rs.length, rs[rnk rs x] = x := by
 obtain ⟨k, hk, rfl⟩ := List.getElem_of_mem hx
 have : rnk rs rs[k] = k := by
  refine rnk_of (by omega) (fun j hj hjk => List.pairwise_iff_getElem.1 hs j k hj hk hjk) fun _ => ?_
  exact Rat.lt_irrefl
 refine ⟨by omega, ?_⟩
 simp only [this]
theorem mono_get {rs : List Rat} (hs : rs.Pairwise (· < ·)) {i j : Nat} (hi : i < rs.length) (hj : j < rs.length) (h : i ≤ j) : rs[i] ≤ rs[j] := by
 rcases Nat.lt_or_ge i j with h1 | h1
 ·have := List.pairwise_iff_getElem.1 hs i j hi hj h1
  grind
 ·have : i = j := by omega
  subst this
  exact Rat.le_refl
theorem locate {rs : List Rat} (hs : rs.Pairwise (· < ·)) {lo hi p : Rat} (hlo : lo ∈ rs) (hhi : hi ∈ rs) (hlt : lo < hi) (h1 : lo ≤ p) (h2 : p ≤ hi) :
 ∃ i, rnk rs lo ≤ i ∧ i < rnk rs hi ∧ ∃ h : i + 1 < rs.length, rs[i] ≤ p ∧ p ≤ rs[i + 1] := by
 obtain ⟨a1, a2⟩ := rnk_mem hs hlo
 obtain ⟨b1, b2⟩ := rnk_mem hs hhi
 have hab : rnk rs lo < rnk rs hi := by
  rcases Nat.lt_or_ge (rnk rs lo) (rnk rs hi) with h | h
  ·exact h
  ·have := mono_get hs b1 a1 h
   grind
 have hk : rnk rs p ≤ rnk rs hi := by
  rcases Nat.lt_or_ge (rnk rs hi) (rnk rs p) with h | h
  ·have := rnk_lt b1 h
   grind
  ·exact h
 rcases Nat.lt_or_ge (rnk rs lo) (rnk rs p) with h | h
 ·refine ⟨rnk rs p - 1, by omega, by omega, by omega, ?_, ?_⟩
  ·have := rnk_lt (rs := rs) (x := p) (k := rnk rs p - 1) (by omega) (by omega)
   grind
  ·have := rnk_ge hs (x := p) (k := rnk rs p - 1 + 1) (by omega) (by omega)
   grind
 ·refine ⟨rnk rs lo, Nat.le_refl _, hab, by omega, by rw [a2]; exact h1, ?_⟩
  have := rnk_ge hs (x := p) (k := rnk rs lo + 1) (by omega) (by omega)
  grind
theorem between {a b : Rat} (h : a < b) : a < (a + b) * (1 / 2) ∧ (a + b) * (1 / 2) < b := by
 constructor <;> grind
theorem cell_in {rs : List Rat} (hs : rs.Pairwise (· < ·)) {c : Rat} (hc : c ∈ rs) {i : Nat} (hi : i + 1 < rs.length) : (rnk rs c ≤ i ↔ c ≤ rs[i]) ∧ (i < rnk rs c ↔ rs[i + 1] ≤ c) := by
 obtain ⟨a1, a2⟩ := rnk_mem hs hc
 constructor
 ·constructor
  ·intro h
   have := mono_get hs a1 (by omega : i < rs.length) h
   rw [a2] at this; exact this
  ·intro h
   rcases Nat.lt_or_ge i (rnk rs c) with h1 | h1
   ·have := rnk_lt (rs := rs) (x := c) (by omega : i < rs.length) h1
    grind
   ·exact h1
 ·constructor
  ·intro h
   have := mono_get hs hi a1 h
   rw [a2] at this; exact this
  ·intro h
   rcases Nat.lt_or_ge i (rnk rs c) with h1 | h1
   ·exact h1
   ·have h2 := mono_get hs a1 (by omega : i < rs.length) h1
    have h3 := List.pairwise_iff_getElem.1 hs i (i + 1) (by omega) hi (by omega)
    rw [a2] at h2
    grind
theorem coverP_iff {b : Bx} {l : List Bx} (hb : b.x0 < b.x1 ∧ b.y0 < b.y1) (hn : l.length ≤ 1000) : coverP b l = true ↔ Cov b l := by
 have sx := ranksP_sorted (xsOf b l)
 have sy := ranksP_sorted (ysOf b l)
 have px := ranksP_len (xsOf b l)
 have py := ranksP_len (ysOf b l)
 obtain ⟨lx, ly⟩ := xsOf_len b l
 have mx0 : b.x0 ∈ ranksP (xsOf b l) := ranksP_mem.2 (by simp [xsOf])
 have mx1 : b.x1 ∈ ranksP (xsOf b l) := ranksP_mem.2 (by simp [xsOf])
 have my0 : b.y0 ∈ ranksP (ysOf b l) := ranksP_mem.2 (by simp [ysOf])
 have my1 : b.y1 ∈ ranksP (ysOf b l) := ranksP_mem.2 (by simp [ysOf])
 have cx0 : ∀ c ∈ l, c.x0 ∈ ranksP (xsOf b l) := fun c hc => ranksP_mem.2 (by simp only [xsOf, List.mem_append, List.mem_flatMap]; exact .inr ⟨c, hc, by simp⟩)
 have cx1 : ∀ c ∈ l, c.x1 ∈ ranksP (xsOf b l) := fun c hc => ranksP_mem.2 (by simp only [xsOf, List.mem_append, List.mem_flatMap]; exact .inr ⟨c, hc, by simp⟩)
 have cy0 : ∀ c ∈ l, c.y0 ∈ ranksP (ysOf b l) := fun c hc => ranksP_mem.2 (by simp only [ysOf, List.mem_append, List.mem_flatMap]; exact .inr ⟨c, hc, by simp⟩)
 have cy1 : ∀ c ∈ l, c.y1 ∈ ranksP (ysOf b l) := fun c hc => ranksP_mem.2 (by simp only [ysOf, List.mem_append, List.mem_flatMap]; exact .inr ⟨c, hc, by simp⟩)
 have hcell : coverP b l = true ↔ ∀ i, rnk (ranksP (xsOf b l)) b.x0 ≤ i → i < rnk (ranksP (xsOf b l)) b.x1 → ∀ j, rnk (ranksP (ysOf b l)) b.y0 ≤ j → j < rnk (ranksP (ysOf b l)) b.y1 →
  ∃ c ∈ l, rnk (ranksP (xsOf b l)) c.x0 ≤ i ∧ i < rnk (ranksP (xsOf b l)) c.x1 ∧ rnk (ranksP (ysOf b l)) c.y0 ≤ j ∧ j < rnk (ranksP (ysOf b l)) c.y1 := by
  have hbd : ∀ c : Bx, (strip (ranksP (xsOf b l)) (ranksP (ysOf b l)) c).b < 2147483648 := fun c => by
   have := rnk_le (ranksP (ysOf b l)) c.y0
   simp only [strip]; omega
  unfold coverP
  simp only
  rw [List.all_eq_true]
  obtain ⟨hperm, hso⟩ := pdqL_ok swo_cfS (l.map fun x => mkSB (strip (ranksP (xsOf b l)) (ranksP (ysOf b l)) x))
  have hso' : (sortS (l.map fun x => mkSB (strip (ranksP (xsOf b l)) (ranksP (ysOf b l)) x))).Pairwise (fun s t => ¬ t.1.b < s.1.b) := hso.imp fun {s t} h => by
   rw [lt_cfS, decide_eq_false_iff_not] at h; exact h
  have hmem : ∀ P : SB → Prop, (∃ s ∈ sortS (l.map fun x => mkSB (strip (ranksP (xsOf b l)) (ranksP (ysOf b l)) x)), P s) ↔ ∃ c ∈ l, P (mkSB (strip (ranksP (xsOf b l)) (ranksP (ysOf b l)) c)) := fun P => by
   constructor
   ·rintro ⟨s, hs, h⟩
    have hs := hperm.mem_iff.1 hs
    simp only [List.mem_map] at hs
    obtain ⟨c, hc, rfl⟩ := hs
    exact ⟨c, hc, h⟩
   ·rintro ⟨c, hc, h⟩
    exact ⟨_, hperm.mem_iff.2 (List.mem_map.2 ⟨c, hc, rfl⟩), h⟩
  have hmk : ∀ c : Bx, (mkSB (strip (ranksP (xsOf b l)) (ranksP (ysOf b l)) c)).1 = strip (ranksP (xsOf b l)) (ranksP (ysOf b l)) c := fun c => by
   unfold mkSB; rw [dif_pos (hbd c)]
  constructor
  ·intro h i hi1 hi2 j hj1 hj2
   have h1 := h i (List.mem_range'_1.2 ⟨hi1, by simp only [strip]; omega⟩)
   rw [decide_eq_true_eq, sweep_iff hso'] at h1
   have h2 := h1 j hj1 hj2
   rw [hmem] at h2
   obtain ⟨c, hc, h3⟩ := h2
   rw [hmk] at h3
   exact ⟨c, hc, h3⟩
  ·intro h i hi
   rw [List.mem_range'_1] at hi
   simp only [strip] at hi
   rw [decide_eq_true_eq, sweep_iff hso']
   intro j hj1 hj2
   obtain ⟨c, hc, h3⟩ := h i hi.1 (by omega) j hj1 hj2
   rw [hmem]
   refine ⟨c, hc, ?_⟩
   rw [hmk]
   exact h3
 rw [hcell]
 constructor
 ·intro h x y hxy
  obtain ⟨h1, h2, h3, h4⟩ := hxy
  obtain ⟨i, i1, i2, i3, i4, i5⟩ := locate sx mx0 mx1 hb.1 h1 h2
  obtain ⟨j, j1, j2, j3, j4, j5⟩ := locate sy my0 my1 hb.2 h3 h4
  obtain ⟨c, hc, k1, k2, k3, k4⟩ := h i i1 i2 j j1 j2
  rw [(cell_in sx (cx0 c hc) i3).1] at k1
  rw [(cell_in sx (cx1 c hc) i3).2] at k2
  rw [(cell_in sy (cy0 c hc) j3).1] at k3
  rw [(cell_in sy (cy1 c hc) j3).2] at k4
  exact ⟨c, hc, by grind, by grind, by grind, by grind⟩
 ·intro h i i1 i2 j j1 j2
  have i3 : i + 1 < (ranksP (xsOf b l)).length := by
   obtain ⟨h1, _⟩ := rnk_mem sx mx1
   omega
  have j3 : j + 1 < (ranksP (ysOf b l)).length := by
   obtain ⟨h1, _⟩ := rnk_mem sy my1
   omega
  rw [(cell_in sx mx0 i3).1] at i1
  rw [(cell_in sx mx1 i3).2] at i2
  rw [(cell_in sy my0 j3).1] at j1
  rw [(cell_in sy my1 j3).2] at j2
  have bx := between (List.pairwise_iff_getElem.1 sx i (i + 1) (by omega) i3 (by omega))
  have by' := between (List.pairwise_iff_getElem.1 sy j (j + 1) (by omega) j3 (by omega))
  obtain ⟨c, hc, k1, k2, k3, k4⟩ := h _ _ (⟨by grind, by grind, by grind, by grind⟩ : inB b (((ranksP (xsOf b l))[i] + (ranksP (xsOf b l))[i + 1]) * (1 / 2)) (((ranksP (ysOf b l))[j] + (ranksP (ysOf b l))[j + 1]) * (1 / 2)))
  refine ⟨c, hc, ?_, ?_, ?_, ?_⟩
  ·rcases Nat.lt_or_ge i (rnk (ranksP (xsOf b l)) c.x0) with g | g
   ·rw [(cell_in sx (cx0 c hc) i3).2] at g; grind
   ·exact g
  ·rcases Nat.lt_or_ge i (rnk (ranksP (xsOf b l)) c.x1) with g | g
   ·exact g
   ·have g : rnk (ranksP (xsOf b l)) c.x1 ≤ i := g
    rw [(cell_in sx (cx1 c hc) i3).1] at g; grind
  ·rcases Nat.lt_or_ge j (rnk (ranksP (ysOf b l)) c.y0) with g | g
   ·rw [(cell_in sy (cy0 c hc) j3).2] at g; grind
   ·exact g
  ·rcases Nat.lt_or_ge j (rnk (ranksP (ysOf b l)) c.y1) with g | g
   ·exact g
   ·have g : rnk (ranksP (ysOf b l)) c.y1 ≤ j := g
    rw [(cell_in sy (cy1 c hc) j3).1] at g; grind
end Eng
end
