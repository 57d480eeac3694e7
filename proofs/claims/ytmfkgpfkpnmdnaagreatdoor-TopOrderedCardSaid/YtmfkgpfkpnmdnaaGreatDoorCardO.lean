/- PROVED HERE: swarftop.TopOrdered returns true for every input that can be read as data, and leaves its arguments as they were. Conditions: those of the given card alone (package-level variables as the program's text lays them). -/
import Derived.Test.YtmfkgpfkpnmdnaaGreatDoorPdA
import Derived.Test.YtmfkgpfkpnmdnaaGreatDoorAwk
import Derived.Test.YtmfkgpfkpnmdnaaGreatDoorRows
import Derived.Test.YtmfkgpfkpnmdnaaGreatDoorCards
import Derived.Test.YtmfkgpfkpnmdnaaGreatDoorTie
import Derived.ProofKit
import Derived.LaidMore
import Derived.Lay
import Derived.SevenTiedAt
import Derived.Stop.Joined
section
namespace Eng
open Go Go.Proofs Go.ChangeShapes Go.WideShapes Go.ChangeAt Go.RowKit
set_option maxRecDepth 100000
theorem ownK : ownKnob Tryz.prog.godebug = none := by kernel_rfl
theorem ay : laidOutB Tryz.prog = true := by kernel_rfl
theorem SH [Env] {W : World} (h : laidMetH Tryz.prog YtmfkgpfkpnmdnaaGreatDoor.Rows.topOrderedRow.laid W) : Inv (CN []) (λb => b < W.heap.size) W := by
  intro g cs hg
  replace hg : gvN g = some cs := hg
  unfold gvN at hg
  split at hg
  · simp only [Option.some.injEq] at hg
    subst hg
    rw [MakeChecks.laidMetH_plain _ _ _ (by kernel_rfl)] at h
    obtain ⟨ps, ⟨g, t, cs, fuel, p, q, hg, ht, hv, hd, _, _⟩, _, _⟩ := h
    obtain rfl := Option.some.inj ((show Tryz.prog.globalNamed "swarf/tool.names" = some 0 by kernel_rfl).symm.trans hg)
    obtain ⟨T, hT⟩ : ∃ T, (Tryz.prog.globals[0]?).map (·.type) = some T /\ Tryz.prog.underlying T = some (.map 3 9) := ⟨278, by kernel_rfl, by kernel_rfl⟩
    obtain rfl := Option.some.inj (hT.1.symm.trans ht)
    obtain ⟨b, es, clock, h1, h2, h3⟩ := Uk (l := LX) hT.2 (by kernel_rfl) (by kernel_rfl) (by decide) hd
    have hb : ∃ (t' : TypeId) (fr : Nat × Nat), W.heap[0]? = some (.cells cs t' fr) := by
      unfold World.var? at hv
      rw [hg] at hv
      simp only [Option.bind_some] at hv
      split at hv
      · rename_i cs' t' fr hh
        simp only [Option.some.injEq] at hv
        subst hv
        exact ⟨_, _, hh⟩
      · simp at hv
    obtain ⟨t', fr, hb⟩ := hb
    refine ⟨(Array.getElem?_eq_some_iff.1 hb).1, cs, t', fr, hb, ?_⟩
    rw [h1]
    exact ⟨.map _ _ _ _ (Array.getElem?_eq_some_iff.1 h2).1 h2 h3, trivial⟩
  · simp at hg
def u8T : CT := .int .u8
def shT : List CT := [u8T, u8T, u8T, u8T, u8T, u8T, u8T, u8T, u8T, u8T, u8T, u8T, u8T, u8T, u8T, u8T, u8T, u8T, u8T, u8T]
abbrev tSh : Nat := 26
theorem ER : zF Tryz.prog 10 tSh = some shT := by kernel_rfl
theorem c7 {t : TypeId} {T : List CT} {a : A} (hT : zF Tryz.prog 10 t = some T) (ht : wk Tryz.prog t = true) (h : OH Tryz.prog 10 t a) : ∃ ds, a = .ag ds /\ ww T ds := by
  obtain ⟨T', hT', h⟩ := h
  rw [hT] at hT'
  obtain rfl := Option.some.inj hT'
  rcases h with ⟨_, ds, rfl, h2⟩ | ⟨h1, _⟩
  · exact ⟨ds, rfl, h2⟩
  · rw [ht] at h1; simp at h1
theorem wj {n : Int} (h : (Lit.int .u8 n).wf = true) : 0 <= n := by
  have a1 : IntKind.min .u8 = 0 := rfl
  simp only [Lit.wf, a1, Bool.and_eq_true, decide_eq_true_eq] at h
  exact h.1
theorem ES (al : List A) (h : All2 (OH Tryz.prog 10) [tSh] al) : ∃ E : Env, @Gives E (CN []) 3 al [.c (.bool true)] := by
  match al, h with
  | [a], h =>
    obtain ⟨ds, rfl, h2⟩ := c7 ER (by kernel_rfl) h.1
    simp only [shT, u8T, ww, QF] at h2
    obtain ⟨_, _, rfl, ⟨a0, rfl, w0⟩, _, _, rfl, ⟨a1, rfl, w1⟩, _, _, rfl, ⟨a2, rfl, w2⟩, _, _, rfl, ⟨a3, rfl, w3⟩, _, _, rfl, ⟨co, rfl, w4⟩, _, _, rfl, ⟨h0, rfl, w5⟩, _, _, rfl, ⟨h1, rfl, w6⟩, _, _, rfl, ⟨h2, rfl, w7⟩, _, _, rfl, ⟨fr, rfl, w8⟩, _, _, rfl, ⟨ha, rfl, w9⟩, _, _, rfl, ⟨d0, rfl, w10⟩, _, _, rfl, ⟨d1, rfl, w11⟩, _, _, rfl, ⟨c0, rfl, w12⟩, _, _, rfl, ⟨c1, rfl, w13⟩, _, _, rfl, ⟨c2, rfl, w14⟩, _, _, rfl, ⟨m0, rfl, w15⟩, _, _, rfl, ⟨m1, rfl, w16⟩, _, _, rfl, ⟨m2, rfl, w17⟩, _, _, rfl, ⟨dr, rfl, w18⟩, _, _, rfl, ⟨to, rfl, w19⟩, rfl⟩ := h2
    letI : Env := envP (λ_ => 0) (λ_ _ => 0)
    exact ⟨_, DG a0 a1 a2 a3 co h0 h1 h2 fr ha d0 d1 c0 c1 c2 m0 m1 m2 dr to ⟨⟨wj w0, wj w1, wj w2, wj w3⟩, wj w4, ⟨wj w5, wj w6, wj w7⟩, wj w8, ⟨wj w10, wj w11⟩, ⟨wj w12, wj w13, wj w14⟩, ⟨wj w15, wj w16, wj w17⟩, wj w18⟩ (upN NC)⟩
  | [], h => exact h.elim
  | _ :: _ :: _, h => exact h.2.elim
end Eng
namespace Go.Proofs.YtmfkgpfkpnmdnaaGreatDoor
open Go.ChangeShapes Go.WideShapes Go.ChangeAt Go.RowKit
def shZ : Value := .agg #[.int .u8 0, .int .u8 0, .int .u8 0, .int .u8 0, .int .u8 0, .int .u8 0, .int .u8 0, .int .u8 0, .int .u8 0, .int .u8 0, .int .u8 0, .int .u8 0, .int .u8 0, .int .u8 0, .int .u8 0, .int .u8 0, .int .u8 0, .int .u8 0, .int .u8 0, .int .u8 0]
theorem NN (os : Os) (args : Array Value) : laidMetH Tryz.prog Rows.topOrderedRow.laid ((World.doorLaid Tryz.prog 34 os).forCall (λ_ _ => 0) ⟨#[], args, []⟩).memory :=
  laidMetH_of_parts3 (fuel := 8) (laidMet_of_run' 8 (by kernel_rfl) (by kernel_rfl)) (by kernel_rfl) (by kernel_rfl)
set_option maxRecDepth 100000 in
theorem Hb (os : Os) (started : os.Started) (H : Type) (enc : TypeId × Value -> H) :
    ReturnsInHanded {} Tryz.checked os 3 .any (λw args => (Rows.topOrderedSpec.pre enc Tryz.prog Tryz.f3 [] false w args /\ laidMetH Tryz.prog Rows.topOrderedRow.laid w) /\ sizedMet enc Tryz.prog Tryz.f3 (OpenSpec.ofChange Rows.topOrderedSpec) false w args)
      (Rows.topOrderedSpec.post enc Tryz.prog Tryz.f3 false true false false) := by
  refine returnsInHanded_of_change_and (C := Tryz.checked) (X := λw _ => laidMetH Tryz.prog Rows.topOrderedRow.laid w) (λ_ _ _ hh h => h.of_heap hh) Eng.ownK started (by kernel_rfl) Tryz.func3
    (ChangeSpec.witness_shaped (enc := enc) (C := Tryz.checked) (os := os) (X := λw _ => laidMetH Tryz.prog Rows.topOrderedRow.laid w) false (World.doorLaid Tryz.prog 34 os) #[shZ] 8 rfl
      (World.shaped_of_ZipB (by kernel_rfl) (by kernel_rfl)) (by kernel_rfl) (by kernel_rfl) (by kernel_rfl) (NN os _)) ?_
  intro W base args ds gs before hval hW _ _ hL _
  have hrd : (Tryz.f3.params.toList.all λt => Tryz.prog.readableRec t && (decide (t < Tryz.prog.types.size) && (Eng.zF Tryz.prog 10 t).isSome)) = true := by kernel_rfl
  letI : Eng.Env := Eng.envP (λ_ => 0) (λ_ _ => 0)
  refine Eng.aO (C := Eng.CN []) (m := 10) (bt := 4) Eng.ay Tryz.underlying4 (by kernel_rfl) (λt ht => ?_) rfl (λds hds => ?_) (λal h => ?_) (λE => @Eng.SH E _ hL) hval hW
  · have := List.all_eq_true.1 hrd t ht
    simp only [Bool.and_eq_true, decide_eq_true_eq] at this
    exact ⟨this.1, this.2.1, this.2.2⟩
  · have h2 : Tryz.f3.params.size = 1 := by kernel_rfl
    rw [h2] at hds
    match ds, hds with
    | [d1], _ => rfl
  · have hp : Tryz.f3.params = #[Eng.tSh] := by kernel_rfl
    rw [hp] at h
    exact Eng.ES al h
theorem KR : (Rows.topOrderedRow.inPlace == Tryz.pinned.checked.prog.inPlace 3) = true := by kernel_rfl
theorem wz : (Rows.topOrderedRow.unfollowed == Tryz.pinned.checked.prog.unfollowed 3) = true := by kernel_rfl
theorem J9 : (Rows.topOrderedRow.recurses == Tryz.pinned.checked.prog.recurses 3) = true := by kernel_rfl
theorem Hc : (Rows.topOrderedRow.named == Tryz.pinned.checked.prog.varsNamed 3) = true := by kernel_rfl
theorem SI : Rows.topOrderedRow.wf (OpenSpec.ofChange Rows.topOrderedSpec) = true := by kernel_rfl
theorem KS : laidOutB Tryz.pinned.checked.prog = true := by kernel_rfl
theorem ZB : mapsRowed Tryz.pinned.checked.prog = true := by kernel_rfl
theorem Hd : Tryz.pinned.checked.prog.mayEnter = true := by kernel_rfl
theorem He : Tryz.pinned.checked.prog.stopsHeard = true := by kernel_rfl
theorem Vx : (Rows.topOrderedRow.lifted == Tryz.pinned.checked.prog.liftsFinal) = true := by kernel_rfl
theorem UH : (Rows.topOrderedRow.plainKeys == Tryz.pinned.checked.prog.plainKeys) = true := by kernel_rfl
theorem Vy : joinedFacts Tryz.pinned.checked.prog 3 Tryz.f3 Rows.topOrderedSpec Rows.topOrderedRow = true := by
  unfold joinedFacts
  rw [KR, wz, J9, Hc, SI, KS, ZB, Hd, He, Vx, UH]
  kernel_rfl
theorem cell_name : Tryz.pinned.checked.prog.funcNamed Rows.topOrderedRow.func = some 3 := by kernel_rfl
theorem UI : Tryz.f3.isWrapper Tryz.pinned.checked.prog Rows.topOrderedRow.wrapper Rows.topOrderedRow.mainSum := by
  unfold Func.isWrapper; first | (rw [if_pos (by decide +kernel)]; kernel_rfl) | (rw [if_neg (by decide +kernel)]; exact ⟨rfl, rfl⟩)
theorem UJ : Tryz.f3.isInstance Tryz.pinned.checked.prog Rows.topOrderedRow.origin Rows.topOrderedRow.targs := of_decide_eq_true (by kernel_rfl)
theorem QJ : Rows.TopOrderedSaid :=
  OpenClaim.holds_of_wide 3 Tryz.f3 rfl rfl rfl rfl rfl rfl rfl ⟨rfl, rfl, rfl, rfl, rfl⟩ rfl rfl rfl rfl rfl cell_name Tryz.func3 Vy UJ UI
    (λos started H enc _ => Hb os started H enc)
theorem UK : Rows.topOrderedRow.wfByText (OpenSpec.ofChange Rows.topOrderedSpec) = true := by kernel_rfl
theorem UL : Tryz.pinned.checked.prog.mainIs = some (true, "45055fd19406d6e0ebc4a43dca916dc579bdd2598db1a1855210551248a9ee1f".toList) := by kernel_rfl
theorem Hf : false = Tryz.pinned.checked.prog.looks [] := by kernel_rfl
theorem SJ {P : Program} {c : OpenClaim} {f : FuncId} (hn : P.funcNamed c.func = some f) (h1 : ((P.closure f).any λg => (P.funcs[g]?).any Func.goes) = false) (h2 : (P.unfollowed f && P.funcs.any Func.goes) = false) (h3 : c.start = .entering) : false = c.goesBy P := by
  have h4 : P.goes f = false := by unfold Program.goes; rw [h1, h2]; rfl
  unfold OpenClaim.goesBy Program.goesAt Program.goesFrom
  rw [hn, h3]
  show false = (P.goes f || false)
  rw [h4]; rfl
theorem SK : ((Tryz.pinned.checked.prog.closure 3).any λg => (Tryz.pinned.checked.prog.funcs[g]?).any Func.goes) = false := by kernel_rfl
theorem SL : (Rows.topOrderedRow.unfollowed && Tryz.pinned.checked.prog.funcs.any Func.goes) = false := by kernel_rfl
theorem UM : false = Rows.topOrderedRow.goesBy Tryz.pinned.checked.prog :=
  SJ cell_name SK (by rw [<- eq_of_beq wz]; exact SL) rfl
theorem Hg : ([Eng.tSh].all λu => !Tryz.prog.wantsStandIn u) = true := by kernel_rfl
theorem Xk : Rows.TopOrderedCardSaid :=
  Claim7.holds_tied_plain_at .later [] [.mapped] true (true, "45055fd19406d6e0ebc4a43dca916dc579bdd2598db1a1855210551248a9ee1f") false QJ (λ_ h => by cases h) UK (λ_ h => by cases h) topOrdered_row_tie rfl ⟨rfl, rfl⟩ UL rfl
    (λf fn hf hfn => by
      obtain rfl : f = 3 := Option.some.inj (cell_name.symm.trans hf) |>.symm
      obtain rfl : fn = Tryz.f3 := (Option.some.inj (Tryz.func3.symm.trans hfn)).symm
      exact ⟨Hf, λj t ht => by
        have hp : Tryz.f3.params = #[Eng.tSh] := by kernel_rfl
        rw [hp] at ht
        have hm : t ∈ [Eng.tSh] := by simpa using Array.mem_of_getElem? ht
        exact (show Tryz.prog.wantsStandIn t = false by simpa using List.all_eq_true.1 Hg t hm)⟩)
    UM
#print axioms Xk
end Go.Proofs.YtmfkgpfkpnmdnaaGreatDoor
end
