/- Clone of no points. -/
import Derived.Test.YtbehlcfelmbmlaaGreatDoorTabB
import Derived.Shelf.Lays2
import Derived.Shelf.RegionOpenPlain
import Derived.WalkKit
import Derived.Deep.LoopGhost
import Derived.Deep.RegionLaw
import Derived.Lib.Walk
import Derived.Lib.SliceRun
import Derived.KernelRfl
section
namespace Eng
open Go Go.Proofs Go.RowKit Go.Lib Go.Shelf
set_option maxRecDepth 1000000
def ptZ : List Value := [.bool false, .slice none 0 0, .bool false, .slice none 0 0, .bool false, .slice none 0 0, .bool false, .slice none 0 0, .bool false, .slice none 0 0, .bool false, .slice none 0 0, .bool false, .slice none 0 0, .bool false, .slice none 0 0, .bool false, .slice none 0 0, .bool false, .slice none 0 0]
theorem zeros53 : zeros Tryz.prog 53 = some ptZ := by kernel_rfl
theorem und242 : Tryz.prog.underlying 242 = some (.slice 53) := by kernel_rfl
set_option maxHeartbeats 4000000 in
theorem clone_nil (c : Nat) (w : World) : Calls Tryz.prog 349 #[.slice none 0 c] w fun e w' => e = .returned (.slice none 0 0) ∧ w' = w := by
 have mixed : Tryz.prog.follows .mixedOrders = true := by kernel_rfl
 have t242 := und242
 have he : ∀ w, (binOp .eql 242 (.slice none 0 c) (.slice none 0 0)).run Tryz.prog w = .ok (.bool true) w := fun w => by have := run_eql_slice_nil (P := Tryz.prog) w 242 53 none 0 c 0 0 und242; simpa using this
 go_enter Tryz.func349, Tryz.ntmps349
 go_wp2
 all_goals (go_ret; exact ⟨rfl, rfl⟩)
set_option maxHeartbeats 4000000 in
theorem clone_emp (a : Addr) (c : Nat) (w : World) : Calls Tryz.prog 349 #[.slice (some a) 0 c] w fun e w' => ∃ b, e = .returned (.slice (some b) 0 0) ∧ w' = w.alloc (.cells #[] 53) := by
 have mixed : Tryz.prog.follows .mixedOrders = true := by kernel_rfl
 have t242 := und242
 have he : ∀ w, (binOp .eql 242 (.slice (some a) 0 c) (.slice none 0 0)).run Tryz.prog w = .ok (.bool false) w := fun w => by have := run_eql_slice_nil (P := Tryz.prog) w 242 53 (some a) 0 c 0 0 und242; simpa using this
 have z53 : ∀ w, (Go.sizeOf 53).run Tryz.prog w = .ok 20 w := fun w => run_sizeOf' zeros53 w
 go_enter Tryz.func349, Tryz.ntmps349
 go_wp2
 go_ret
 exact ⟨_, rfl, rfl⟩
theorem cloneE_ok : Gives CC 349 [.c (.sl [])] [.c (.sl [])] := by
 intro w F vs _ _ ha
 match vs, ha with
 | [v], ⟨h, _⟩ =>
  obtain ⟨ad, c, rfl, _⟩ := CD.slice_inv (show CD w F (.sl []) v from h)
  have hP : CC.P = Tryz.prog := rfl
  rw [hP]
  cases ad with
  | none =>
   refine (clone_nil c w).mono ?_
   rintro e w' ⟨rfl, rfl⟩
   exact ⟨Below.refl _ _, _, rfl, CD.nil _ _⟩
  | some a =>
   refine (clone_emp a c w).mono ?_
   rintro e w' ⟨b, rfl, rfl⟩
   exact ⟨(Below.refl _ _).alloc (Nat.le_refl _) _, _, rfl, CD.nil _ _⟩
def tabE (f : Nat) (al : List A) : Option (List A) :=
 match Nat.beq f 349 with
 | false => tabU f al
 | true => match al with
  | [.c (.sl [])] => some [.c (.sl [])]
  | _ => none
theorem tabE_ok (f : Nat) (al rs : List A) (h : tabE f al = some rs) : Gives CC f al rs := by
 unfold tabE at h
 split at h
 ·exact tabU_ok f al rs h
 ·rename_i hf
  obtain rfl := Nat.eq_of_beq_eq_true hf
  split at h
  ·simp only [Option.some.injEq] at h; subst h; exact cloneE_ok
  ·simp at h
theorem tabE_okX {ex : List (Nat × EffF)} (f : Nat) (al rs : List A) (h : tabE f al = some rs) : Gives (CX ex) f al rs := upX (tabE_ok f al rs h)
theorem isSm_some {α : Type} {o : Option α} (h : isSm o = true) : ∃ x, o = some x := by cases o with | none => simp [isSm] at h | some x => exact ⟨x, rfl⟩
end Eng
end

section
namespace Eng
open Go Go.Proofs
set_option maxRecDepth 100000
abbrev EntD := List (List D) × List A × List A
def findD (es : List (List D)) (al : List A) : List EntD → Option (List A)
 | [] => none
 | (es0, al0, rs0) :: r => match eqL (eqL (eqD 20)) es es0 with
  | true => match eqL eqA al al0 with
   | true => some rs0
   | false => findD es al r
  | false => findD es al r
def effDT (s : Nat) (T : List EntD) : EffF := effCd s (fun es al => isSm (findD es al T)) (fun es al => match findD es al T with | some r => r | none => [])
def AllD (C : Cx) (f s : Nat) : List EntD → Prop
 | [] => True
 | (es0, al0, rs0) :: r => GivesD C f s es0 al0 rs0 ∧ AllD C f s r
theorem findD_ok {C : Cx} {f s : Nat} {es : List (List D)} {al rs : List A} : ∀ {T : List EntD}, AllD C f s T → findD es al T = some rs → GivesD C f s es al rs
 | [], _, h => by simp [findD] at h
 | (es0, al0, rs0) :: r, ha, h => by
  obtain ⟨h1, h2⟩ := ha
  unfold findD at h
  split at h
  ·rename_i he
   split at h
   ·rename_i ha'
    obtain rfl := eqL_ok (fun a b hh => eqL_ok (eqD_ok 20) hh) he
    obtain rfl := eqL_ok eqA_ok ha'
    simp only [Option.some.injEq] at h
    subst h; exact h1
   ·exact findD_ok h2 h
  ·exact findD_ok h2 h
theorem effAt_DT {C C' : Cx} (hP : C'.P = C.P) (hG : C'.G = C.G) {f s : Nat} {fn : Func} {T : List EntD} (hf : C'.P.funcs[f]? = some fn) (hb : fn.body ≠ none) (hn : fn.name ≠ "runtime.NumGoroutine") (hT : AllD C f s T) : EffAt C' f (effDT s T) :=
 effAt_cd hf hb hn fun es al hc => by
  obtain ⟨x, hx⟩ := isSm_some hc
  simp only [hx]
  exact givesD_cx hP hG (findD_ok hT hx)
abbrev EntT := List A × Nat × List (List D) × List A
def findT (al : List A) : List EntT → Option (Nat × List (List D) × List A)
 | [] => none
 | (al0, x) :: r => match eqL eqA al al0 with
  | true => some x
  | false => findT al r
def effTT (T : List EntT) : EffF := effOt (fun al => isSm (findT al T)) (fun al => match findT al T with | some r => r | none => (0, [], []))
def AllT (C : Cx) (f : Nat) : List EntT → Prop
 | [] => True
 | (al0, s, es, a2) :: r => GivesT C f al0 s es a2 ∧ AllT C f r
theorem findT_ok {C : Cx} {f s : Nat} {al : List A} {es : List (List D)} {a2 : List A} : ∀ {T : List EntT}, AllT C f T → findT al T = some (s, es, a2) → GivesT C f al s es a2
 | [], _, h => by simp [findT] at h
 | (al0, s0, es0, as0) :: r, ha, h => by
  obtain ⟨h1, h2⟩ := ha
  unfold findT at h
  split at h
  ·rename_i ha'
   obtain rfl := eqL_ok eqA_ok ha'
   simp only [Option.some.injEq, Prod.mk.injEq] at h
   obtain ⟨rfl, rfl, rfl⟩ := h; exact h1
  ·exact findT_ok h2 h
theorem effAt_TT {C C' : Cx} (hP : C'.P = C.P) (hG : C'.G = C.G) {f : Nat} {fn : Func} {T : List EntT} (hf : C'.P.funcs[f]? = some fn) (hb : fn.body ≠ none) (hn : fn.name ≠ "runtime.NumGoroutine") (hT : AllT C f T) : EffAt C' f (effTT T) :=
 effAt_ot hf hb hn fun al hc => by
  obtain ⟨⟨s, es, a2⟩, hx⟩ := isSm_some hc
  simp only [hx]
  exact givesT_cx hP hG (findT_ok hT hx)
abbrev EntB := List (List D) × List (List D) × List A × List (List D) × List (List D)
def findB (xs ys : List (List D)) (al : List A) : List EntB → Option (List (List D) × List (List D))
 | [] => none
 | (xs0, ys0, al0, xs1, ys1) :: r => match eqL (eqL (eqD 20)) xs xs0 && eqL (eqL (eqD 20)) ys ys0 with
  | true => match eqL eqA al al0 with
   | true => some (xs1, ys1)
   | false => findB xs ys al r
  | false => findB xs ys al r
def effBT (s : Nat) (T : List EntB) : EffF := effBx s (fun xs ys al => isSm (findB xs ys al T)) (fun xs ys al => match findB xs ys al T with | some r => r | none => ([], []))
def AllB (C : Cx) (f s : Nat) : List EntB → Prop
 | [] => True
 | (xs0, ys0, al0, xs1, ys1) :: r => GivesB C f s xs0 ys0 al0 xs1 ys1 ∧ AllB C f s r
theorem findB_ok {C : Cx} {f s : Nat} {xs ys xs' ys' : List (List D)} {al : List A} : ∀ {T : List EntB}, AllB C f s T → findB xs ys al T = some (xs', ys') → GivesB C f s xs ys al xs' ys'
 | [], _, h => by simp [findB] at h
 | (xs0, ys0, al0, xs1, ys1) :: r, ha, h => by
  obtain ⟨h1, h2⟩ := ha
  unfold findB at h
  split at h
  ·rename_i he
   simp only [Bool.and_eq_true] at he
   split at h
   ·rename_i ha'
    obtain rfl := eqL_ok (fun a b hh => eqL_ok (eqD_ok 20) hh) he.1
    obtain rfl := eqL_ok (fun a b hh => eqL_ok (eqD_ok 20) hh) he.2
    obtain rfl := eqL_ok eqA_ok ha'
    simp only [Option.some.injEq, Prod.mk.injEq] at h
    obtain ⟨rfl, rfl⟩ := h; exact h1
   ·exact findB_ok h2 h
  ·exact findB_ok h2 h
theorem effAt_BT {C C' : Cx} (hP : C'.P = C.P) (hG : C'.G = C.G) {f s : Nat} {fn : Func} {T : List EntB} (hf : C'.P.funcs[f]? = some fn) (hb : fn.body ≠ none) (hn : fn.name ≠ "runtime.NumGoroutine") (hw : C'.wd f = true) (hT : AllB C f s T) : EffAt C' f (effBT s T) :=
 effAt_bx hf hb hn hw fun xs ys al hc => by
  obtain ⟨⟨x1, y1⟩, hx⟩ := isSm_some hc
  simp only [hx]
  exact givesB_cx hP hG (findB_ok hT hx)
end Eng
end

section
namespace Eng
open Go Go.Proofs
set_option maxRecDepth 1000000
def exA : List D := [.bool false, .sl [[.int .u32 4000]], .bool false, .sl [[.int .u32 1]], .bool false, .sl [], .bool false, .sl [[.int .u32 1]], .bool false, .sl [[.int .u32 5000]], .bool false, .sl [[.int .u32 1]], .bool false, .sl [], .bool false, .sl [[.int .u32 1]], .bool false, .sl [], .bool false, .sl [[.int .u32 1]]]
def exB : List D := [.bool false, .sl [[.int .u32 6000]], .bool false, .sl [[.int .u32 1]], .bool false, .sl [], .bool false, .sl [[.int .u32 1]], .bool false, .sl [[.int .u32 5000]], .bool false, .sl [[.int .u32 1]], .bool false, .sl [], .bool false, .sl [[.int .u32 1]], .bool false, .sl [], .bool false, .sl [[.int .u32 1]]]
def exH : List D := [.bool true, .bool false, .sl [], .bool false, .sl [[.int .u32 1]], .bool false, .sl [], .bool false, .sl [[.int .u32 1]], .bool false, .sl [], .bool false, .sl [[.int .u32 1]], .bool false, .sl [[.int .u32 5000]], .bool false, .sl [[.int .u32 1]], .bool false, .sl [[.int .u32 5000]], .bool false, .sl [[.int .u32 1]], .bool false, .sl [[.int .u32 1000000]], .bool false, .sl [[.int .u32 1]], .bool false] ++ (exA ++ exB)
def exK : List D := [.bool true, .bool false, .sl [], .bool false, .sl [[.int .u32 1]], .bool false, .sl [], .bool false, .sl [[.int .u32 1]], .bool false, .sl [], .bool false, .sl [[.int .u32 1]], .bool false, .sl [[.int .u32 5000]], .bool false, .sl [[.int .u32 1]], .bool false, .sl [[.int .u32 5000]], .bool false, .sl [[.int .u32 1]], .bool false, .sl [[.int .u32 1000000]], .bool false, .sl [[.int .u32 1]], .bool false] ++ (exB ++ exA)
theorem d209H : runFd tabE CB 1000 40 209 20 [exA, exB] [.c (.clo 210 [.ptr exH])] = some [.c (.sl [])] := by kernel_rfl
theorem t212H : runFt tabE CB 1000 40 212 [.ag exH, .c (.sl [])] = some (66, [exH], [.c (.int .i64 0)]) := by kernel_rfl
theorem d209K : runFd tabE CB 1000 40 209 20 [exA, exB] [.c (.clo 210 [.ptr exK])] = some [.c (.sl [])] := by kernel_rfl
theorem t212K : runFt tabE CB 1000 40 212 [.ag exK, .c (.sl [])] = some (66, [exK], [.c (.int .i64 0)]) := by kernel_rfl
end Eng
end

section
namespace Eng
open Go Go.Proofs
def TD : List EntD := [([exA, exB], [.c (.clo 210 [.ptr exH])], [.c (.sl [])]), ([exA, exB], [.c (.clo 210 [.ptr exK])], [.c (.sl [])])]
theorem TD_ok : AllD CB 209 20 TD := ⟨runFd_ok (C := CB) mixedT tabE_okX d209H, runFd_ok (C := CB) mixedT tabE_okX d209K, trivial⟩
def TT : List EntT := [([.ag exH, .c (.sl [])], 66, [exH], [.c (.int .i64 0)]), ([.ag exK, .c (.sl [])], 66, [exK], [.c (.int .i64 0)])]
theorem TT_ok : AllT CB 212 TT := ⟨runFt_ok (C := CB) mixedT tabE_okX t212H, runFt_ok (C := CB) mixedT tabE_okX t212K, trivial⟩
noncomputable def K1L : List (Nat × EffF) := [(209, effDT 20 TD), (212, effTT TT)]
noncomputable def K1 : Cx := CX K1L
instance : EffOk K1 := effOk_all (effX_ok ⟨effAt_DT (C' := CX K1L) rfl rfl Tryz.func209 (by simp [Tryz.f209]) (by decide) TD_ok, effAt_TT (C' := CX K1L) rfl rfl Tryz.func212 (by simp [Tryz.f212]) (by decide) TT_ok, trivial⟩)
end Eng
end

section
namespace Eng
open Go Go.Proofs
set_option maxRecDepth 1000000
def exL : List D := [.bool false, .bool true, .sl [[.int .u32 500]], .bool false, .sl [[.int .u32 1]], .bool false, .sl [[.int .u32 10000]], .bool false, .sl [[.int .u32 1]], .bool false, .sl [], .bool false, .sl [[.int .u32 1]], .bool false, .sl [], .bool false, .sl [[.int .u32 1]], .bool false, .sl [], .bool false, .sl [[.int .u32 1]], .bool false, .sl [], .bool false, .sl [[.int .u32 1]], .bool false, .bool false, .sl [], .bool false, .sl [[.int .u32 1]], .bool false, .sl [], .bool false, .sl [[.int .u32 1]], .bool false, .sl [], .bool false, .sl [[.int .u32 1]], .bool false, .sl [], .bool false, .sl [[.int .u32 1]], .bool false, .sl [], .bool false, .sl [[.int .u32 1]], .bool false, .sl [[.int .u32 10000]], .bool false, .sl [[.int .u32 1]], .bool false, .sl [], .bool false, .sl [[.int .u32 1]], .bool false, .sl [[.int .u32 500]], .bool false, .sl [[.int .u32 1]], .bool false, .sl [], .bool false, .sl [[.int .u32 1]], .bool false, .sl [], .bool false, .sl [[.int .u32 1]]]
def z4 : List D := [.bool false, .sl [], .bool false, .sl [[.int .u32 1]]]
def rtN (n : Int) : List D := [.bool false, .sl [[.int .u32 n]], .bool false, .sl [[.int .u32 1]]] ++ (z4 ++ z4)
def rtZ : List D := z4 ++ (z4 ++ z4)
def xs0 : List (List D) := []
def xs1 : List (List D) := [rtZ]
def xs2 : List (List D) := [rtZ, rtN 10000]
def xs3 : List (List D) := [rtZ, rtN 10000, rtN 4000]
def xs4 : List (List D) := [rtZ, rtN 10000, rtN 4000, rtN 6000]
def xs5 : List (List D) := [rtZ, rtN 10000, rtN 4000, rtN 6000, rtN 5000]
def xs6 : List (List D) := [rtZ, rtN 10000, rtN 4000, rtN 6000, rtN 5000, rtN 4000]
def xs7 : List (List D) := [rtZ, rtN 10000, rtN 4000, rtN 6000, rtN 5000, rtN 4000, rtN 6000]
def xs8 : List (List D) := [rtZ, rtN 10000, rtN 4000, rtN 6000, rtN 5000, rtN 4000, rtN 6000, rtN 5000]
def ys0 : List (List D) := []
def ys1 : List (List D) := [rtZ]
def ys2 : List (List D) := [rtZ, rtN 500]
def ys3 : List (List D) := [rtZ, rtN 500, rtN 5000]
def ys4 : List (List D) := [rtZ, rtN 500, rtN 5000, rtN 5000]
def ys5 : List (List D) := [rtZ, rtN 500, rtN 5000, rtN 5000, rtN 4000]
def ys6 : List (List D) := [rtZ, rtN 500, rtN 5000, rtN 5000, rtN 4000, rtN 5000]
def ys7 : List (List D) := [rtZ, rtN 500, rtN 5000, rtN 5000, rtN 4000, rtN 5000, rtN 5000]
def ys8 : List (List D) := [rtZ, rtN 500, rtN 5000, rtN 5000, rtN 4000, rtN 5000, rtN 5000, rtN 6000]
theorem add0 (g : Nat) : runFb tabE CB 1000 40 64 12 xs0 ys0 [.ag (rtZ), .ag (rtZ)] g = some (xs1, ys1, 12, 12, g) := by kernel_rfl
theorem add1 (g : Nat) : runFb tabE CB 1000 40 64 12 xs1 ys1 [.ag (rtN 10000), .ag (rtN 500)] g = some (xs2, ys2, 12, 12, g) := by kernel_rfl
theorem add2 (g : Nat) : runFb tabE CB 1000 40 64 12 xs2 ys2 [.ag (rtN 4000), .ag (rtN 5000)] g = some (xs3, ys3, 12, 12, g) := by kernel_rfl
theorem add3 (g : Nat) : runFb tabE CB 1000 40 64 12 xs3 ys3 [.ag (rtN 6000), .ag (rtN 5000)] g = some (xs4, ys4, 12, 12, g) := by kernel_rfl
theorem add4 (g : Nat) : runFb tabE CB 1000 40 64 12 xs4 ys4 [.ag (rtN 5000), .ag (rtN 4000)] g = some (xs5, ys5, 12, 12, g) := by kernel_rfl
theorem add5 (g : Nat) : runFb tabE CB 1000 40 64 12 xs5 ys5 [.ag (rtN 4000), .ag (rtN 5000)] g = some (xs6, ys6, 12, 12, g) := by kernel_rfl
theorem add6 (g : Nat) : runFb tabE CB 1000 40 64 12 xs6 ys6 [.ag (rtN 6000), .ag (rtN 5000)] g = some (xs7, ys7, 12, 12, g) := by kernel_rfl
theorem add7 (g : Nat) : runFb tabE CB 1000 40 64 12 xs7 ys7 [.ag (rtN 5000), .ag (rtN 6000)] g = some (xs8, ys8, 12, 12, g) := by kernel_rfl
def TA : List EntB := [(xs0, ys0, [.ag (rtZ), .ag (rtZ)], xs1, ys1), (xs1, ys1, [.ag (rtN 10000), .ag (rtN 500)], xs2, ys2), (xs2, ys2, [.ag (rtN 4000), .ag (rtN 5000)], xs3, ys3), (xs3, ys3, [.ag (rtN 6000), .ag (rtN 5000)], xs4, ys4), (xs4, ys4, [.ag (rtN 5000), .ag (rtN 4000)], xs5, ys5), (xs5, ys5, [.ag (rtN 4000), .ag (rtN 5000)], xs6, ys6), (xs6, ys6, [.ag (rtN 6000), .ag (rtN 5000)], xs7, ys7), (xs7, ys7, [.ag (rtN 5000), .ag (rtN 6000)], xs8, ys8)]
theorem TA_ok : AllB CB 64 12 TA := ⟨runFb_ok (C := CB) mixedT tabE_okX add0, runFb_ok (C := CB) mixedT tabE_okX add1, runFb_ok (C := CB) mixedT tabE_okX add2, runFb_ok (C := CB) mixedT tabE_okX add3, runFb_ok (C := CB) mixedT tabE_okX add4, runFb_ok (C := CB) mixedT tabE_okX add5, runFb_ok (C := CB) mixedT tabE_okX add6, runFb_ok (C := CB) mixedT tabE_okX add7, trivial⟩
noncomputable def K2L : List (Nat × EffF) := [(209, effDT 20 TD), (212, effTT TT), (64, effBT 12 TA)]
noncomputable def K2 : Cx := CX K2L
instance : EffOk K2 := effOk_all (effX_ok ⟨effAt_DT (C' := CX K2L) rfl rfl Tryz.func209 (by simp [Tryz.f209]) (by decide) TD_ok, effAt_TT (C' := CX K2L) rfl rfl Tryz.func212 (by simp [Tryz.f212]) (by decide) TT_ok, effAt_BT (C' := CX K2L) rfl rfl Tryz.func64 (by simp [Tryz.f64]) (by decide) rfl TA_ok, trivial⟩)
end Eng
end

section
namespace Eng
open Go Go.Proofs
set_option maxRecDepth 1000000
theorem crv0 (g : Nat) : runFb tabE K2 1000 40 63 12 xs0 ys0 [.ag exL] g = some (xs2, ys2, 12, 12, g) := by kernel_rfl
theorem crv1 (g : Nat) : runFb tabE K2 1000 40 63 12 xs2 ys2 [.ag exH] g = some (xs5, ys5, 12, 12, g) := by kernel_rfl
theorem crv2 (g : Nat) : runFb tabE K2 1000 40 63 12 xs5 ys5 [.ag exK] g = some (xs8, ys8, 12, 12, g) := by kernel_rfl
def TC : List EntB := [(xs0, ys0, [.ag exL], xs2, ys2), (xs2, ys2, [.ag exH], xs5, ys5), (xs5, ys5, [.ag exK], xs8, ys8)]
theorem TC_ok : AllB K2 63 12 TC := ⟨runFb_ok (C := K2) mixedT tabE_okX crv0, runFb_ok (C := K2) mixedT tabE_okX crv1, runFb_ok (C := K2) mixedT tabE_okX crv2, trivial⟩
noncomputable def K3L : List (Nat × EffF) := [(63, effBT 12 TC)]
noncomputable def K3 : Cx := CX K3L
instance : EffOk K3 := effOk_all (effX_ok ⟨effAt_BT (C := K2) (C' := CX K3L) rfl rfl Tryz.func63 (by simp [Tryz.f63]) (by decide) rfl TC_ok, trivial⟩)
end Eng
end
