/- PROVED HERE: swarflaw26.SetupWorld returns true for every input that can be read as data, and leaves its arguments as they were. Conditions: those of the given card alone (package-level variables as the program's text lays them). -/
import Derived.Test.YtlgnobmngljmaaaGreatDoorPaA
import Derived.Test.YtlgnobmngljmaaaGreatDoorPcA
import Derived.Test.YtlgnobmngljmaaaGreatDoorPdA
import Derived.Test.YtlgnobmngljmaaaGreatDoorRows
import Derived.Test.YtlgnobmngljmaaaGreatDoorCards
import Derived.Test.YtlgnobmngljmaaaGreatDoorTie
import Derived.ProofKit
import Derived.LaidMore
import Derived.Lay
import Derived.SevenTiedAt
import Derived.Stop.Joined
section
namespace Eng
open Go Go.Proofs Go.ChangeShapes Go.WideShapes Go.ChangeAt Go.RowKit
set_option maxRecDepth 100000
theorem ownK : ownKnob Tryz.prog.godebug = none := by kernel_rfl
theorem laidOutP : laidOutB Tryz.prog = true := by kernel_rfl
def pow10Z : List Int := [1, 10, 100, 1000, 10000, 100000, 1000000, 10000000, 100000000, 1000000000, 10000000000, 100000000000, 1000000000000, 10000000000000, 100000000000000, 1000000000000000, 10000000000000000, 100000000000000000, 1000000000000000000, 10000000000000000000]
theorem all2_ints [Env] {w : World} {F : Nat → Prop} {k : IntKind} : ∀ l : List Int, All2 (CD w F) (l.map (D.int k)) (l.map (Value.int k))
  | [] => trivial
  | _ :: l => ⟨.int _ _, all2_ints l⟩
theorem laid_ints {W : World} {name : String} {g t e : Nat} {k : IntKind} {n : Nat} {zs : List Int} {cs : Array Value} {fuel : Nat} {p : List MemPlace} {H : Type} {enc : TypeId × Value → H} {sp : Nat → Bool} {held : Bool}
    (hg : Tryz.prog.globalNamed name = some g) (hv : W.var? Tryz.prog name = some cs) (ht : Tryz.prog.underlying t = some (.array n e)) (he : Tryz.prog.underlying e = some (.int k)) (hc : Tryz.prog.cellsOf e = 1) (hn : zs.length = n) (hct : Tryz.prog.cellsOf t = n)
    (hd : DataW.trod enc Tryz.prog W 0 sp held fuel t cs.toList = some (.agg (zs.map fun z => .lit (.int k z)), p)) :
    ∃ (t' : TypeId) (fr : Nat × Nat), W.heap[g]? = some (.cells cs t' fr) ∧ cs.toList = zs.map (Value.int k) := by
  have hb : ∃ (t' : TypeId) (fr : Nat × Nat), W.heap[g]? = some (.cells cs t' fr) := by
    unfold World.var? at hv
    rw [hg] at hv
    simp only [Option.bind_some] at hv
    split at hv
    · rename_i cs' t' fr hh
      simp only [Option.some.injEq] at hv
      subst hv
      exact ⟨_, _, hh⟩
    · simp at hv
  obtain ⟨t', fr, hb⟩ := hb
  refine ⟨t', fr, hb, ?_⟩
  obtain ⟨xs, m, _, ex, hlen, hl, hel⟩ := DataW.trod_array ht hd
  have e3 : (xs.map (·.1)) = zs.map fun z => .lit (.int k z) := (DataW.agg.inj (Prod.mk.inj ex).1).symm
  rw [hct] at hlen
  apply List.ext_getElem
  · rw [hlen, List.length_map, hn]
  · intro i h1 h2
    have hi : i < n := by omega
    have hE := hel i hi
    rw [hc, Nat.mul_one, List.getElem?_eq_getElem (by omega)] at hE
    obtain ⟨z, e1, e2, _⟩ := DataW.trod_int he hE
    have e4 : (xs.map (·.1))[i]? = (zs.map fun z => (DataW.lit (.int k z) : DataW H))[i]? := by rw [e3]
    rw [List.getElem?_map, List.getElem?_map, List.getElem?_eq_getElem (by omega : i < xs.length), List.getElem?_eq_getElem (by omega : i < zs.length), e2] at e4
    simp only [Option.map_some, Option.some.injEq, DataW.lit.injEq, Lit.int.injEq, true_and] at e4
    have h0 : ((cs.toList.drop i).take 1)[0]? = some (.int k z) := by rw [e1]; rfl
    have h3 : cs.toList[i]? = some (.int k z) := by simpa using h0
    rw [List.getElem?_eq_getElem h1] at h3
    rw [Option.some.inj h3, List.getElem_map, e4]
theorem inv_of_laid [Env] {W : World} (h : laidMetH Tryz.prog YtlgnobmngljmaaaGreatDoor.Rows.setupWorldRow.laid W) : Inv CS (fun b => b < W.heap.size) W := by
  intro g cs hg
  replace hg : gvar g = some cs := hg
  unfold gvar at hg
  split at hg
  · simp only [Option.some.injEq] at hg
    subst hg
    rw [MakeChecks.laidMetH_plain _ _ _ (by kernel_rfl)] at h
    obtain ⟨ps, ⟨g0, t0, cs0, f0, p0, q0, hg0, ht0, hv0, hd0, ⟨g1, t1, cs1, f1, p1, q1, hg1, ht1, hv1, hd1, ⟨g, t, cs, fuel, p, q, hg, ht, hv, hd, _, _⟩, _⟩, _⟩, _, _⟩ := h
    obtain rfl := Option.some.inj ((show Tryz.prog.globalNamed "internal/strconv.uint64pow10" = some 0 by kernel_rfl).symm.trans hg)
    obtain ⟨T, hT⟩ : ∃ T, (Tryz.prog.globals[0]?).map (·.type) = some T ∧ Tryz.prog.underlying T = some (.array 20 152) ∧ Tryz.prog.cellsOf T = 20 := ⟨348, by kernel_rfl, by kernel_rfl, by kernel_rfl⟩
    obtain rfl := Option.some.inj (hT.1.symm.trans ht)
    obtain ⟨t', fr, h1, h2⟩ := laid_ints (zs := pow10Z) (k := .u64) hg hv hT.2.1 (by kernel_rfl) (by kernel_rfl) rfl hT.2.2 hd
    refine ⟨(Array.getElem?_eq_some_iff.1 h1).1, cs, t', fr, h1, ?_⟩
    rw [h2]
    exact all2_ints pow10Z
  · simp at hg
def i64T : CT := .int .i64
def clTy : List CT := [i64T, i64T, i64T, i64T, i64T]
def suT : List CT := [i64T, i64T, i64T, i64T, i64T, i64T, .sl clTy, i64T]
def spT : List CT := [.int .i16, .int .i16, .int .u8]
abbrev tSu : Nat := 24
abbrev tI : Nat := 2
abbrev tSp : Nat := 27
theorem suT_ok : cellTys Tryz.prog 10 tSu = some suT := by kernel_rfl
theorem spT_ok : cellTys Tryz.prog 10 tSp = some spT := by kernel_rfl
theorem iT_ok : cellTys Tryz.prog 10 tI = some [i64T] := by kernel_rfl
theorem rows_cl : ∀ {es : List (List D)}, (∀ r ∈ es, hasL clTy r) → ∃ l, es = clRs l
  | [], _ => ⟨[], rfl⟩
  | r :: es, h => by
    obtain ⟨l, hl⟩ := rows_cl (es := es) fun r hr => h r (by simp [hr])
    have h1 := h r (by simp)
    simp only [clTy, i64T, hasL, hasC] at h1
    obtain ⟨d1, r1, rfl, ⟨n1, rfl, _⟩, d2, r2, rfl, ⟨n2, rfl, _⟩, d3, r3, rfl, ⟨n3, rfl, _⟩, d4, r4, rfl, ⟨n4, rfl, _⟩, d5, r5, rfl, ⟨n5, rfl, _⟩, rfl⟩ := h1
    exact ⟨⟨n1, n2, n3, n4, n5⟩ :: l, by rw [hl]; rfl⟩
theorem ag_of {t : TypeId} {T : List CT} {a : A} (hT : cellTys Tryz.prog 10 t = some T) (ht : tAgg Tryz.prog t = true) (h : hasA Tryz.prog 10 t a) : ∃ ds, a = .ag ds ∧ hasL T ds := by
  obtain ⟨T', hT', h⟩ := h
  rw [hT] at hT'
  obtain rfl := Option.some.inj hT'
  rcases h with ⟨_, ds, rfl, h2⟩ | ⟨h1, _⟩
  · exact ⟨ds, rfl, h2⟩
  · rw [ht] at h1; simp at h1
theorem c_of {t : TypeId} {T : List CT} {a : A} (hT : cellTys Tryz.prog 10 t = some T) (ht : tAgg Tryz.prog t = false) (h : hasA Tryz.prog 10 t a) : ∃ d, a = .c d ∧ hasL T [d] := by
  obtain ⟨T', hT', h⟩ := h
  rw [hT] at hT'
  obtain rfl := Option.some.inj hT'
  rcases h with ⟨h1, _⟩ | ⟨_, d, rfl, h2⟩
  · rw [ht] at h1; simp at h1
  · exact ⟨d, rfl, h2⟩
theorem hasA_su {a : A} (h : hasA Tryz.prog 10 tSu a) : ∃ s : Su, a = encS s ∧ s.cl.length ≤ maxLen := by
  obtain ⟨ds, rfl, h2⟩ := ag_of suT_ok (by kernel_rfl) h
  simp only [suT, i64T, hasL] at h2
  obtain ⟨d1, r1, rfl, c1, d2, r2, rfl, c2, d3, r3, rfl, c3, d4, r4, rfl, c4, d5, r5, rfl, c5, d6, r6, rfl, c6, d7, r7, rfl, c7, d8, r8, rfl, c8, rfl⟩ := h2
  simp only [hasC] at c1 c2 c3 c4 c5 c6 c7 c8
  obtain ⟨n1, rfl, _⟩ := c1
  obtain ⟨n2, rfl, _⟩ := c2
  obtain ⟨n3, rfl, _⟩ := c3
  obtain ⟨n4, rfl, _⟩ := c4
  obtain ⟨n5, rfl, _⟩ := c5
  obtain ⟨n6, rfl, _⟩ := c6
  obtain ⟨es, rfl, hl, hr⟩ := c7
  obtain ⟨n8, rfl, _⟩ := c8
  obtain ⟨l, rfl⟩ := rows_cl hr
  exact ⟨⟨n1, n2, n3, n4, n5, n6, l, n8⟩, rfl, by rw [clRs_length] at hl; exact hl⟩
theorem world_gives (al : List A) (h : All2 (hasA Tryz.prog 10) [tSu, tI, tSp] al) : ∃ E : Env, @Gives E CS 3 al [.c (.bool true)] := by
  match al, h with
  | [a, b, c], h =>
    obtain ⟨s, rfl, _⟩ := hasA_su h.1
    obtain ⟨d, rfl, h2⟩ := c_of iT_ok (by kernel_rfl) h.2.1
    obtain ⟨ds, rfl, h3⟩ := ag_of spT_ok (by kernel_rfl) h.2.2.1
    simp only [i64T, hasL, hasC] at h2
    obtain ⟨d', r, e, ⟨m, rfl, _⟩, rfl⟩ := h2
    obtain rfl : d = .int .i64 m := (List.cons.inj e).1
    simp only [spT, hasL, hasC] at h3
    obtain ⟨d1, r1, rfl, ⟨x, rfl, hx⟩, d2, r2, rfl, ⟨y, rfl, hy⟩, d3, r3, rfl, ⟨u, rfl, hu⟩, rfl⟩ := h3
    have hx' : sm16 x := by
      have a1 : IntKind.min .i16 = -32768 := rfl
      have a2 : IntKind.max .i16 = 32767 := rfl
      simp only [Lit.wf, a1, a2, Bool.and_eq_true, decide_eq_true_eq] at hx
      unfold sm16; omega
    have hy' : sm16 y := by
      have a1 : IntKind.min .i16 = -32768 := rfl
      have a2 : IntKind.max .i16 = 32767 := rfl
      simp only [Lit.wf, a1, a2, Bool.and_eq_true, decide_eq_true_eq] at hy
      unfold sm16; omega
    have hu' : 0 ≤ u ∧ u < 256 := by
      have a1 : IntKind.min .u8 = 0 := rfl
      have a2 : IntKind.max .u8 = 255 := rfl
      simp only [Lit.wf, a1, a2, Bool.and_eq_true, decide_eq_true_eq] at hu
      omega
    have := lWorld_ok (fun E => @awake_ok E) (fun ρ a b c d h t => runs_ok h t) s (by omega) m hx' hy' (su := u.toNat) (by omega)
    rw [Int.toNat_of_nonneg hu'.1] at this
    exact this
  | [], h => exact h.elim
  | [_], h => exact h.2.elim
  | [_, _], h => exact h.2.2.elim
  | _ :: _ :: _ :: _ :: _, h => exact h.2.2.2.elim
end Eng
namespace Go.Proofs.YtlgnobmngljmaaaGreatDoor
open Go.ChangeShapes Go.WideShapes Go.ChangeAt Go.RowKit
def suZ : Value := .agg #[.int .i64 0, .int .i64 0, .int .i64 0, .int .i64 0, .int .i64 0, .int .i64 0, .slice none 0 0, .int .i64 0]
set_option maxRecDepth 100000 in
theorem world_lifted (os : Os) (started : os.Started) (H : Type) (enc : TypeId × Value → H) :
    ReturnsInHanded {} Tryz.checked os 3 .any (fun w args => (Rows.setupWorldSpec.pre enc Tryz.prog Tryz.f3 [] false w args ∧ laidMetH Tryz.prog Rows.setupWorldRow.laid w) ∧ sizedMet enc Tryz.prog Tryz.f3 (OpenSpec.ofChange Rows.setupWorldSpec) false w args)
      (Rows.setupWorldSpec.post enc Tryz.prog Tryz.f3 false true false false) := by
  refine returnsInHanded_of_change_and (C := Tryz.checked) (X := fun w _ => laidMetH Tryz.prog Rows.setupWorldRow.laid w) (fun _ _ _ hh h => h.of_heap hh) Eng.ownK started (by kernel_rfl) Tryz.func3
    (ChangeSpec.witness_shaped (enc := enc) (C := Tryz.checked) (os := os) (X := fun w _ => laidMetH Tryz.prog Rows.setupWorldRow.laid w) false (World.laidAll Tryz.prog os Rows.setupWorldRow.laid) #[suZ, .int .i64 0, .agg #[.int .i16 0, .int .i16 0, .int .u8 0]] 8 (World.laidAll_os _ _ _)
      (World.shaped_of_ZipB (by kernel_rfl) (by kernel_rfl)) (by kernel_rfl) (by kernel_rfl) (by kernel_rfl)
      (by rw [MakeChecks.laidMetH_plain _ _ _ (by kernel_rfl)]; exact laidMet_laidAll _ (by kernel_rfl) (by kernel_rfl))) ?_
  intro W base args ds gs before hval hW _ _ hL _
  have hrd : (Tryz.f3.params.toList.all fun t => Tryz.prog.readableRec t && (decide (t < Tryz.prog.types.size) && (Eng.cellTys Tryz.prog 10 t).isSome)) = true := by kernel_rfl
  letI : Eng.Env := Eng.envP (fun _ => 0) (fun _ _ => 0)
  refine Eng.law_call (C := Eng.CS) (m := 10) (bt := 4) Eng.laidOutP Tryz.underlying4 (by kernel_rfl) (fun t ht => ?_) rfl (fun ds hds => ?_) (fun al h => ?_) (fun E => @Eng.inv_of_laid E _ hL) hval hW
  · have := List.all_eq_true.1 hrd t ht
    simp only [Bool.and_eq_true, decide_eq_true_eq] at this
    exact ⟨this.1, this.2.1, this.2.2⟩
  · have h2 : Tryz.f3.params.size = 3 := by kernel_rfl
    rw [h2] at hds
    match ds, hds with
    | [d1, d2, d3], _ => rfl
  · have hp : Tryz.f3.params = #[Eng.tSu, Eng.tI, Eng.tSp] := by kernel_rfl
    rw [hp] at h
    exact Eng.world_gives al h
theorem cell_inPlace : (Rows.setupWorldRow.inPlace == Tryz.pinned.checked.prog.inPlace 3) = true := by kernel_rfl
theorem cell_unfollowed : (Rows.setupWorldRow.unfollowed == Tryz.pinned.checked.prog.unfollowed 3) = true := by kernel_rfl
theorem cell_recurses : (Rows.setupWorldRow.recurses == Tryz.pinned.checked.prog.recurses 3) = true := by kernel_rfl
theorem cell_named : (Rows.setupWorldRow.named == Tryz.pinned.checked.prog.varsNamed 3) = true := by kernel_rfl
theorem cell_wf : Rows.setupWorldRow.wf (OpenSpec.ofChange Rows.setupWorldSpec) = true := by kernel_rfl
theorem cell_laidOut : laidOutB Tryz.pinned.checked.prog = true := by kernel_rfl
theorem cell_mapsRowed : mapsRowed Tryz.pinned.checked.prog = true := by kernel_rfl
theorem cell_enter : Tryz.pinned.checked.prog.mayEnter = true := by kernel_rfl
theorem cell_heard : Tryz.pinned.checked.prog.stopsHeard = true := by kernel_rfl
theorem cell_lifted : (Rows.setupWorldRow.lifted == Tryz.pinned.checked.prog.liftsFinal) = true := by kernel_rfl
theorem cell_keys : (Rows.setupWorldRow.plainKeys == Tryz.pinned.checked.prog.plainKeys) = true := by kernel_rfl
theorem cell_joined : joinedFacts Tryz.pinned.checked.prog 3 Tryz.f3 Rows.setupWorldSpec Rows.setupWorldRow = true := by
  unfold joinedFacts
  rw [cell_inPlace, cell_unfollowed, cell_recurses, cell_named, cell_wf, cell_laidOut, cell_mapsRowed, cell_enter, cell_heard, cell_lifted, cell_keys]
  kernel_rfl
theorem cell_name : Tryz.pinned.checked.prog.funcNamed Rows.setupWorldRow.func = some 3 := by kernel_rfl
theorem cell_wrap : Tryz.f3.isWrapper Tryz.pinned.checked.prog Rows.setupWorldRow.wrapper Rows.setupWorldRow.mainSum := by
  unfold Func.isWrapper; first | (rw [if_pos (by decide +kernel)]; kernel_rfl) | (rw [if_neg (by decide +kernel)]; exact ⟨rfl, rfl⟩)
theorem cell_inst : Tryz.f3.isInstance Tryz.pinned.checked.prog Rows.setupWorldRow.origin Rows.setupWorldRow.targs := of_decide_eq_true (by kernel_rfl)
theorem setupWorld_holds : Rows.SetupWorldSaid :=
  OpenClaim.holds_of_wide 3 Tryz.f3 rfl rfl rfl rfl rfl rfl rfl ⟨rfl, rfl, rfl, rfl, rfl⟩ rfl rfl rfl rfl rfl cell_name Tryz.func3 cell_joined cell_inst cell_wrap
    (fun os started H enc _ => world_lifted os started H enc)
theorem cell_text : Rows.setupWorldRow.wfByText (OpenSpec.ofChange Rows.setupWorldSpec) = true := by kernel_rfl
theorem cell_main : Tryz.pinned.checked.prog.mainIs = some (true, "52fd40c608bde4bf98d30cab7e49ff79680bcf378ebc684fbc513f1ba1f15969".toList) := by kernel_rfl
theorem cell_looks : true = Tryz.pinned.checked.prog.looks [] := by kernel_rfl
theorem goes_of {P : Program} {c : OpenClaim} {f : FuncId} (hn : P.funcNamed c.func = some f) (h1 : ((P.closure f).any fun g => (P.funcs[g]?).any Func.goes) = false) (h2 : (P.unfollowed f && P.funcs.any Func.goes) = false) (h3 : c.start = .entering) : false = c.goesBy P := by
  have h4 : P.goes f = false := by unfold Program.goes; rw [h1, h2]; rfl
  unfold OpenClaim.goesBy Program.goesAt Program.goesFrom
  rw [hn, h3]
  show false = (P.goes f || false)
  rw [h4]; rfl
theorem cell_cg : ((Tryz.pinned.checked.prog.closure 3).any fun g => (Tryz.pinned.checked.prog.funcs[g]?).any Func.goes) = false := by kernel_rfl
theorem cell_fg : (Rows.setupWorldRow.unfollowed && Tryz.pinned.checked.prog.funcs.any Func.goes) = false := by kernel_rfl
theorem cell_goes : false = Rows.setupWorldRow.goesBy Tryz.pinned.checked.prog :=
  goes_of cell_name cell_cg (by rw [← eq_of_beq cell_unfollowed]; exact cell_fg) rfl
theorem cell_stand : ([Eng.tSu, Eng.tI, Eng.tSp].all fun u => !Tryz.prog.wantsStandIn u) = true := by kernel_rfl
theorem setupWorld_card : Rows.SetupWorldCardSaid :=
  Claim7.holds_tied_plain_at .later [] [.data, .data, .data, .data, .sentinel, .sentinel, .pinned] true (true, "52fd40c608bde4bf98d30cab7e49ff79680bcf378ebc684fbc513f1ba1f15969") true setupWorld_holds (fun _ h => by cases h) cell_text (fun _ h => by cases h) setupWorld_row_tie rfl ⟨rfl, rfl⟩ cell_main rfl
    (fun f fn hf hfn => by
      obtain rfl : f = 3 := Option.some.inj (cell_name.symm.trans hf) |>.symm
      obtain rfl : fn = Tryz.f3 := (Option.some.inj (Tryz.func3.symm.trans hfn)).symm
      exact ⟨cell_looks, fun j t ht => by
        have hp : Tryz.f3.params = #[Eng.tSu, Eng.tI, Eng.tSp] := by kernel_rfl
        rw [hp] at ht
        have hm : t ∈ [Eng.tSu, Eng.tI, Eng.tSp] := by simpa using Array.mem_of_getElem? ht
        exact (show Tryz.prog.wantsStandIn t = false by simpa using List.all_eq_true.1 cell_stand t hm)⟩)
    cell_goes
#print axioms setupWorld_card
end Go.Proofs.YtlgnobmngljmaaaGreatDoor
end
