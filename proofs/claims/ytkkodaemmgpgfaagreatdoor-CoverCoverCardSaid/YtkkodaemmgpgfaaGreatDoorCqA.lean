/- Contexts for the law CoverQuarter: cloning boxes and deleting one as calls that turn arrays. -/
import Derived.Test.YtkkodaemmgpgfaaGreatDoorCvC
import Derived.Test.YtkkodaemmgpgfaaGreatDoorCvF
import Derived.Test.YtkkodaemmgpgfaaGreatDoorDelA
import Derived.KernelRfl
section
namespace Eng
open Go Go.Proofs
noncomputable def CQx (c1 : Ck1) (m1 : Mk1) (c2 : Ck2) (m2 : Mk2) : Cx :=
 CX [(18, effCl c1 16 m1), (33, effCo 16 c2 m2)]
end Eng
end

section
open Go Go.Proofs Eng
set_option maxRecDepth 1000000
namespace Eng
theorem vc_emiddle (Gv : Nat → List A → List A → Prop) (p1 q1 p2 q2 : Bool) (l1 m1 l2 m2 : List (List D)) (Q : List A → Prop) :
 wpF CC Gv (fun _ => ⟨[], [], fun _ _ => True, fun _ => 0⟩) Tryz.f66 [.ag [.bool p1, .sl l1, .bool q1, .sl m1], .ag [.bool p2, .sl l2, .bool q2, .sl m2]] Q = (
 ∃ b es b_1 es_1,
 Gv 23 [A.ag [D.bool p1, D.sl l1, D.bool q1, D.sl m1], A.ag [D.bool p2, D.sl l2, D.bool q2, D.sl m2]]
 [A.ag [D.bool b, D.sl es, D.bool b_1, D.sl es_1]] ∧
 ∃ b_2 es_2 b_3 es_3,
 Gv 69 [A.c (D.int .i64 (1 : Int)), A.c (D.int .i64 (2 : Int))] [A.ag [D.bool b_2, D.sl es_2, D.bool b_3, D.sl es_3]] ∧
 ∃ b_4 es_4 b_5 es_5,
 Gv 112 [A.ag [D.bool b, D.sl es, D.bool b_1, D.sl es_1], A.ag [D.bool b_2, D.sl es_2, D.bool b_3, D.sl es_3]]
 [A.ag [D.bool b_4, D.sl es_4, D.bool b_5, D.sl es_5]] ∧
 Q [A.ag [D.bool b_4, D.sl es_4, D.bool b_5, D.sl es_5]]) := by kernel_rfl
theorem vc_cloneB (Gv : Nat → List A → List A → Prop) (es : List (List D)) (Q : Nat → List (List D) → Prop) :
 wpFc CC Gv (fun _ => ⟨[], [], fun _ _ => True, fun _ => 0⟩) Tryz.f18 [.c (.sl es)] none [] Q = (
 0 < List.length es ∧ (room (0 + List.length es) ∧ lens 16 es) ∧ es ≠ [] ∧ Q 16 es) := by kernel_rfl
end Eng
end

section
open Go Go.Proofs Eng
set_option maxRecDepth 1000000
namespace Eng
end Eng
end

section
namespace Eng
open Go Go.Proofs
set_option maxRecDepth 100000
def halfR : Rat := ⟨1, 2, by decide, by decide⟩
theorem sz_half : Sz 1 halfR := ⟨by decide, by decide⟩
theorem uHalf_ok : Gives CC 69 [.c (.int .i64 1), .c (.int .i64 2)] [encR halfR] :=
 gives_cx (C := CV0) rfl rfl (runF_ok (C := CV0) mixedT tabU_okX 6 69 _ _ (show runF tabU CV0 1000 6 69 [.c (.int .i64 1), .c (.int .i64 2)] = some [encR halfR] by kernel_rfl))
def mdR (x y : Rat) : Rat := (x + y) * halfR
theorem Sz.md {x y : Rat} (hx : Sz 18 x) (hy : Sz 18 y) : Sz 74 (mdR x y) := (hx.add hy).mul (sz_half.mono (by omega))
theorem emiddle_ok {x y : Rat} (hx : Sz 18 x) (hy : Sz 18 y) : Gives CC 66 [encR x, encR y] [encR (mdR x y)] := by
 have h1 := uAdd_ok partsOk (hx.sr (by omega)) (hy.sr (by omega))
 have h2 := uMul_ok partsOk ((hx.add hy).sr (by omega)) (sz_half.sr (by omega))
 refine wpF_ok (anns := fun _ => ⟨[], [], fun _ _ => True, fun _ => 0⟩) mixedT Tryz.func66 ?_
 rw [encR_cells x, encR_cells y, vc_emiddle]
 exact ⟨_, _, _, _, h1, _, _, _, _, uHalf_ok, _, _, _, _, h2, rfl⟩
def Bx.sz (k : Nat) (B : Bx) : Prop := Sz k B.x0 ∧ Sz k B.y0 ∧ Sz k B.x1 ∧ Sz k B.y1
theorem enc_bx (B : Bx) : A.ag B.cs = encB B.x0 B.y0 B.x1 B.y1 := rfl
end Eng
end

section
namespace Eng
open Go Go.Proofs
theorem half_two : halfR + halfR = 1 := by decide +kernel
theorem mdR_mid {x y : Rat} (h : x < y) : x < mdR x y ∧ mdR x y < y := by
 have e := half_two
 have e2 : halfR = 1 / 2 := by grind
 unfold mdR
 rw [e2]
 constructor <;> grind
end Eng
end
