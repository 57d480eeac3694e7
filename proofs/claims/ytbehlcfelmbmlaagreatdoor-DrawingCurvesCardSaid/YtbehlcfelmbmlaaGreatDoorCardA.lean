/- The laws of this seat: what the rows' condition gives; the frame of a row's proof. -/
import Derived.Test.YtbehlcfelmbmlaaGreatDoorRdA
import Derived.Test.YtbehlcfelmbmlaaGreatDoorCtxB
import Derived.Test.YtbehlcfelmbmlaaGreatDoorRows
import Derived.Test.YtbehlcfelmbmlaaGreatDoorCards
import Derived.Test.YtbehlcfelmbmlaaGreatDoorTie
import Derived.ProofKit
import Derived.LaidMore
import Derived.Lay
import Derived.SevenTiedAt
import Derived.Stop.Joined
import Derived.Stop.LaidErr
section
namespace Eng
open Go Go.Proofs Go.ChangeShapes Go.WideShapes Go.ChangeAt Go.RowKit
set_option maxRecDepth 100000
theorem ownK : ownKnob Tryz.prog.godebug = none := by kernel_rfl
theorem S9 : laidOutB Tryz.prog = true := by kernel_rfl
def Ng : List Int := [1, 10, 100, 1000, 10000, 100000, 1000000, 10000000, 100000000, 1000000000, 10000000000, 100000000000, 1000000000000, 10000000000000, 100000000000000, 1000000000000000, 10000000000000000, 100000000000000000, 1000000000000000000, 10000000000000000000]
theorem ZH {w : World} {F : Nat → Prop} {k : IntKind} : ∀ l : List Int, All2 (CD w F) (l.map (D.int k)) (l.map (Value.int k))
  | [] => trivial
  | _ :: l => ⟨.int _ _, ZH l⟩
theorem G0 {W : World} {name : String} {g t e : Nat} {k : IntKind} {n : Nat} {zs : List Int} {cs : Array Value} {fuel : Nat} {p : List MemPlace} {H : Type} {enc : TypeId × Value → H} {sp : Nat → Bool} {held : Bool}
    (hg : Tryz.prog.globalNamed name = some g) (hv : W.var? Tryz.prog name = some cs) (ht : Tryz.prog.underlying t = some (.array n e)) (he : Tryz.prog.underlying e = some (.int k)) (hc : Tryz.prog.cellsOf e = 1) (hn : zs.length = n) (hct : Tryz.prog.cellsOf t = n)
    (hd : DataW.trod enc Tryz.prog W 0 sp held fuel t cs.toList = some (.agg (zs.map fun z => .lit (.int k z)), p)) :
    ∃ (t' : TypeId) (fr : Nat × Nat), W.heap[g]? = some (.cells cs t' fr) ∧ cs.toList = zs.map (Value.int k) := by
  have hb : ∃ (t' : TypeId) (fr : Nat × Nat), W.heap[g]? = some (.cells cs t' fr) := by
    unfold World.var? at hv
    rw [hg] at hv
    simp only [Option.bind_some] at hv
    split at hv
    · rename_i cs' t' fr hh
      simp only [Option.some.injEq] at hv
      subst hv
      exact ⟨_, _, hh⟩
    · simp at hv
  obtain ⟨t', fr, hb⟩ := hb
  refine ⟨t', fr, hb, ?_⟩
  obtain ⟨xs, m, _, ex, hlen, hl, hel⟩ := DataW.trod_array ht hd
  have e3 : (xs.map (·.1)) = zs.map fun z => .lit (.int k z) := (DataW.agg.inj (Prod.mk.inj ex).1).symm
  rw [hct] at hlen
  apply List.ext_getElem
  · rw [hlen, List.length_map, hn]
  · intro i h1 h2
    have hi : i < n := by omega
    have hE := hel i hi
    rw [hc, Nat.mul_one, List.getElem?_eq_getElem (by omega)] at hE
    obtain ⟨z, e1, e2, _⟩ := DataW.trod_int he hE
    have e4 : (xs.map (·.1))[i]? = (zs.map fun z => (DataW.lit (.int k z) : DataW H))[i]? := by rw [e3]
    rw [List.getElem?_map, List.getElem?_map, List.getElem?_eq_getElem (by omega : i < xs.length), List.getElem?_eq_getElem (by omega : i < zs.length), e2] at e4
    simp only [Option.map_some, Option.some.injEq, DataW.lit.injEq, Lit.int.injEq, true_and] at e4
    have h0 : ((cs.toList.drop i).take 1)[0]? = some (.int k z) := by rw [e1]; rfl
    have h3 : cs.toList[i]? = some (.int k z) := by simpa using h0
    rw [List.getElem?_eq_getElem h1] at h3
    rw [Option.some.inj h3, List.getElem_map, e4]
theorem WA {W : World} {name : String} {g t e : Nat} {n : Nat} {H : Type} {enc : TypeId × Value → H} {zs : List (DataW H)} {cs : Array Value} {fuel : Nat} {p : List MemPlace} {sp : Nat → Bool} {held : Bool}
    (hg : Tryz.prog.globalNamed name = some g) (hv : W.var? Tryz.prog name = some cs) (ht : Tryz.prog.underlying t = some (.array n e)) (hn : zs.length = n)
    (hd : DataW.trod enc Tryz.prog W 0 sp held fuel t cs.toList = some (.agg zs, p)) :
    (∃ (t' : TypeId) (fr : Nat × Nat), W.heap[g]? = some (.cells cs t' fr)) ∧ cs.toList.length = Tryz.prog.cellsOf t ∧ ∀ i (h : i < zs.length), ∃ m q, DataW.trod enc Tryz.prog W 0 sp held m e ((cs.toList.drop (i * Tryz.prog.cellsOf e)).take (Tryz.prog.cellsOf e)) = some (zs[i], q) := by
  have hb : ∃ (t' : TypeId) (fr : Nat × Nat), W.heap[g]? = some (.cells cs t' fr) := by
    unfold World.var? at hv
    rw [hg] at hv
    simp only [Option.bind_some] at hv
    split at hv
    · rename_i cs' t' fr hh
      simp only [Option.some.injEq] at hv
      subst hv
      exact ⟨_, _, hh⟩
    · simp at hv
  obtain ⟨xs, m, _, ex, hlen, hl, hel⟩ := DataW.trod_array ht hd
  have e3 : (xs.map (·.1)) = zs := (DataW.agg.inj (Prod.mk.inj ex).1).symm
  refine ⟨hb, hlen, fun i hi => ?_⟩
  have hi2 : i < n := by omega
  have hE := hel i hi2
  have hx : i < xs.length := by omega
  rw [List.getElem?_eq_getElem hx] at hE
  refine ⟨m, (xs[i]).2, ?_⟩
  rw [hE]
  have : zs[i] = (xs[i]).1 := by
    subst e3
    rw [List.getElem_map]
  rw [this]
theorem Bb {α : Type} {l : List α} (h : l.length = 5) : ∃ a b c d e, l = [a, b, c, d, e] := by
  match l, h with
  | [a, b, c, d, e], _ => exact ⟨a, b, c, d, e, rfl⟩
theorem Bc {α : Type} {l : List α} (h : l.length = 8) : ∃ a b c d e f g i, l = [a, b, c, d, e, f, g, i] := by
  match l, h with
  | [a, b, c, d, e, f, g, i], _ => exact ⟨a, b, c, d, e, f, g, i, rfl⟩
theorem und9 : Tryz.prog.underlying 9 = some .string := by kernel_rfl
theorem und3 : Tryz.prog.underlying 3 = some (.int .i64) := by kernel_rfl
theorem QT {W : World} {F : Nat → Prop} {H : Type} {enc : TypeId × Value → H} {m : Nat} {v : Value} {s : List UInt8} {q : List MemPlace} {sp : Nat → Bool} {held : Bool}
    (h : DataW.trod enc Tryz.prog W 0 sp held m 9 [v] = some (.lit (.string s), q)) : CD W F (.str s) v := by
  obtain ⟨b, e1, e2, _⟩ := DataW.trod_string und9 h
  simp only [List.cons.injEq, and_true] at e1
  simp only [Prod.mk.injEq, DataW.lit.injEq, Lit.string.injEq] at e2
  rw [e1, e2.1]
  exact CD.str _
theorem Rk {W : World} {F : Nat → Prop} {H : Type} {enc : TypeId × Value → H} {m : Nat} {v : Value} {z : Int} {q : List MemPlace} {sp : Nat → Bool} {held : Bool}
    (h : DataW.trod enc Tryz.prog W 0 sp held m 3 [v] = some (.lit (.int .i64 z), q)) : CD W F (.int .i64 z) v := by
  obtain ⟨n, e1, e2, _⟩ := DataW.trod_int und3 h
  simp only [List.cons.injEq, and_true] at e1
  simp only [Prod.mk.injEq, DataW.lit.injEq, Lit.int.injEq, true_and] at e2
  rw [e1, e2.1]
  exact CD.int _ _
theorem Ye {W : World} {F : Nat → Prop} {H : Type} {enc : TypeId × Value → H} {cs : Array Value} {fuel : Nat} {p : List MemPlace} {sp : Nat → Bool} {held : Bool}
    (hv : W.var? Tryz.prog "swarf/drawing.kinds" = some cs)
    (hd : DataW.trod enc Tryz.prog W 0 sp held fuel 81 cs.toList = some (YtbehlcfelmbmlaaGreatDoor.Rows.laid_swarf_drawing_kinds, p)) :
    ∃ (t' : TypeId) (fr : Nat × Nat), W.heap[0]? = some (.cells cs t' fr) ∧ All2 (CD W F) NF cs.toList := by
  have hu : Tryz.prog.underlying 81 = some (.array 5 9) := by kernel_rfl
  have hc9 : Tryz.prog.cellsOf 9 = 1 := by kernel_rfl
  have hc : Tryz.prog.cellsOf 81 = 5 := by kernel_rfl
  obtain ⟨⟨t', fr, hb⟩, hl, hel⟩ := WA (by kernel_rfl : Tryz.prog.globalNamed "swarf/drawing.kinds" = some 0) hv hu (by rfl) hd
  refine ⟨t', fr, hb, ?_⟩
  rw [hc] at hl
  rw [hc9] at hel
  obtain ⟨a, b, c, d, e, h5⟩ := Bb hl
  rw [h5] at hel ⊢
  obtain ⟨m0, q0, h0⟩ := hel 0 (show 0 < 5 by decide)
  obtain ⟨m1, q1, h1⟩ := hel 1 (show 1 < 5 by decide)
  obtain ⟨m2, q2, h2⟩ := hel 2 (show 2 < 5 by decide)
  obtain ⟨m3, q3, h3⟩ := hel 3 (show 3 < 5 by decide)
  obtain ⟨m4, q4, h4⟩ := hel 4 (show 4 < 5 by decide)
  exact ⟨QT h0, QT h1, QT h2, QT h3, QT h4, trivial⟩
theorem Kg {W : World} {F : Nat → Prop} {H : Type} {enc : TypeId × Value → H} {cs : Array Value} {fuel : Nat} {p : List MemPlace} {sp : Nat → Bool} {held : Bool}
    (hv : W.var? Tryz.prog "swarf/drawing.shapes" = some cs)
    (hd : DataW.trod enc Tryz.prog W 0 sp held fuel 84 cs.toList = some (YtbehlcfelmbmlaaGreatDoor.Rows.laid_swarf_drawing_shapes, p)) :
    ∃ (t' : TypeId) (fr : Nat × Nat), W.heap[1]? = some (.cells cs t' fr) ∧ All2 (CD W F) UR cs.toList := by
  have hu : Tryz.prog.underlying 84 = some (.array 4 83) := by kernel_rfl
  obtain ⟨f0, f1, hs, ht0, ho0, ht1, ho1⟩ : ∃ f0 f1 : Field, Tryz.prog.underlying 83 = some (.struct #[f0, f1]) ∧ f0.type = 9 ∧ f0.offset = 0 ∧ f1.type = 3 ∧ f1.offset = 1 := ⟨_, _, Tryz.underlying83, rfl, rfl, rfl, rfl⟩
  have hc9 : Tryz.prog.cellsOf 9 = 1 := by kernel_rfl
  have hc3 : Tryz.prog.cellsOf 3 = 1 := by kernel_rfl
  have hc83 : Tryz.prog.cellsOf 83 = 2 := by kernel_rfl
  have hc : Tryz.prog.cellsOf 84 = 8 := by kernel_rfl
  obtain ⟨⟨t', fr, hb⟩, hl, hel⟩ := WA (by kernel_rfl : Tryz.prog.globalNamed "swarf/drawing.shapes" = some 1) hv hu (by rfl) hd
  refine ⟨t', fr, hb, ?_⟩
  rw [hc] at hl
  rw [hc83] at hel
  obtain ⟨a, b, c, d, e, f, g, i, h8⟩ := Bc hl
  rw [h8] at hel ⊢
  have two : ∀ {m : Nat} {u v : Value} {s : List UInt8} {z : Int} {q : List MemPlace}, DataW.trod enc Tryz.prog W 0 sp held m 83 [u, v] = some (.agg [.lit (.string s), .lit (.int .i64 z)], q) → CD W F (.str s) u ∧ CD W F (.int .i64 z) v := by
    intro m u v s z q h
    obtain ⟨y0, y1, n, ex, _, e0, e1⟩ := trod_struct2 hs h
    rw [ht0, ho0, hc9] at e0
    rw [ht1, ho1, hc3] at e1
    obtain ⟨y0a, y0b⟩ := y0
    obtain ⟨y1a, y1b⟩ := y1
    simp only [Prod.mk.injEq, DataW.agg.injEq, List.cons.injEq, and_true] at ex
    obtain ⟨⟨rfl, rfl⟩, _⟩ := ex
    exact ⟨QT e0, Rk e1⟩
  obtain ⟨m0, q0, h0⟩ := hel 0 (show 0 < 4 by decide)
  obtain ⟨m1, q1, h1⟩ := hel 1 (show 1 < 4 by decide)
  obtain ⟨m2, q2, h2⟩ := hel 2 (show 2 < 4 by decide)
  obtain ⟨m3, q3, h3⟩ := hel 3 (show 3 < 4 by decide)
  exact ⟨(two h0).1, (two h0).2, (two h1).1, (two h1).2, (two h2).1, (two h2).2, (two h3).1, (two h3).2, trivial⟩
abbrev T5 : List (String × DataW Unit) := YtbehlcfelmbmlaaGreatDoor.Rows.drawingLayerRow.laid
theorem G1 {r : List (String × DataW Unit)} {W : World} {F : Nat → Prop} {n : String} {g : Nat} {text : List UInt8} (hg : Tryz.prog.globalNamed n = some g) (ht : (Tryz.prog.globals[g]?).map (·.type) = some 78)
    (h : laidMet Tryz.prog ((n, .iface "*errors.errorString" (.ptr (.agg [.lit (.string text)]))) :: r) W) : ∃ (vs : Array Value) (t' : TypeId) (fr : Nat × Nat), W.heap[g]? = some (.cells vs t' fr) ∧ All2 (CD W F) [.ifc false] vs.toList := by
  obtain ⟨ps, ⟨g0, t0, cs0, f0, p0, q0, hg0, ht0, hv0, hd0, _, e0⟩, _, hrows⟩ := h
  obtain rfl := Option.some.inj (hg.symm.trans hg0)
  obtain rfl := Option.some.inj (ht.symm.trans ht0)
  obtain ⟨ms, hi⟩ : ∃ ms, Tryz.prog.underlying 78 = some (.interface ms) := ⟨_, Tryz.underlying78⟩
  obtain ⟨f1, u, v, e1, _, _⟩ := iface_of_trod hi hd0
  unfold World.var? at hv0
  rw [hg] at hv0
  simp only [Option.bind_some] at hv0
  split at hv0
  · rename_i cs' t' fr hh
    simp only [Option.some.injEq] at hv0
    subst hv0
    refine ⟨_, _, _, hh, ?_⟩
    rw [e1]
    exact ⟨CD.someI _ _ rfl, trivial⟩
  · simp at hv0
theorem NK {W : World} (h : laidMetH Tryz.prog T5 W) : Inv CC (fun b => b < W.heap.size) W := by
  rw [MakeChecks.laidMetH_plain _ _ _ (by kernel_rfl)] at h
  have h2 := h.tail.tail
  have h4 := h2.tail.tail
  have h5 := h4.tail
  have h6 := h5.tail
  have h7 := h6.tail
  intro g cs hg
  replace hg : Sv g = some cs := hg
  have lt : ∀ {g : Nat} {o : Go.Obj}, W.heap[g]? = some o → g < W.heap.size := fun h => (Array.getElem?_eq_some_iff.1 h).1
  unfold Sv at hg
  split at hg
  · simp only [Option.some.injEq] at hg
    subst hg
    obtain ⟨ps, ⟨g, t, cs, fuel, p, q, hg, ht, hv, hd, _, _⟩, _, _⟩ := h6
    obtain rfl := Option.some.inj ((show Tryz.prog.globalNamed "swarf/drawing.kinds" = some 0 by kernel_rfl).symm.trans hg)
    obtain rfl := Option.some.inj ((show (Tryz.prog.globals[0]?).map (·.type) = some 81 by kernel_rfl).symm.trans ht)
    obtain ⟨t', fr, h1, h2⟩ := Ye hv hd
    exact ⟨lt h1, cs, t', fr, h1, h2⟩
  · simp only [Option.some.injEq] at hg
    subst hg
    obtain ⟨ps, ⟨g, t, cs, fuel, p, q, hg, ht, hv, hd, _, _⟩, _, _⟩ := h7
    obtain rfl := Option.some.inj ((show Tryz.prog.globalNamed "swarf/drawing.shapes" = some 1 by kernel_rfl).symm.trans hg)
    obtain rfl := Option.some.inj ((show (Tryz.prog.globals[1]?).map (·.type) = some 84 by kernel_rfl).symm.trans ht)
    obtain ⟨t', fr, h1, h2⟩ := Kg hv hd
    exact ⟨lt h1, cs, t', fr, h1, h2⟩
  · simp only [Option.some.injEq] at hg
    subst hg
    obtain ⟨ps, ⟨g, t, cs, fuel, p, q, hg, ht, hv, hd, _, _⟩, _, _⟩ := h2
    obtain rfl := Option.some.inj ((show Tryz.prog.globalNamed "internal/strconv.uint64pow10" = some 2 by kernel_rfl).symm.trans hg)
    obtain rfl := Option.some.inj ((show (Tryz.prog.globals[2]?).map (·.type) = some 306 by kernel_rfl).symm.trans ht)
    have hu : Tryz.prog.underlying 306 = some (.array 20 140) := by kernel_rfl
    obtain ⟨t', fr, h1, h2⟩ := G0 (zs := Ng) (k := .u64) hg hv hu (by kernel_rfl) (by kernel_rfl) rfl (by kernel_rfl) hd
    refine ⟨lt h1, cs, t', fr, h1, ?_⟩
    rw [h2]
    exact ZH Ng
  · simp only [Option.some.injEq] at hg
    subst hg
    obtain ⟨vs, t', fr, h1, h2⟩ := G1 (g := 4) (by kernel_rfl) (by kernel_rfl) h5
    exact ⟨lt h1, vs, t', fr, h1, h2⟩
  · simp only [Option.some.injEq] at hg
    subst hg
    obtain ⟨vs, t', fr, h1, h2⟩ := G1 (g := 5) (by kernel_rfl) (by kernel_rfl) h4
    exact ⟨lt h1, vs, t', fr, h1, h2⟩
  · simp at hg
end Eng
end
