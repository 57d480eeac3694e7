import Derived.Test.YtkaghlcopjaclaaGreatDoorPcA
import Derived.Test.YtkaghlcopjaclaaGreatDoorPaG
open Classical renaming propDecidable->B0
open List renaming forall_mem_cons->Dd, not_mem_nil->F0, mem_cons->F2, map->Gv
open Rat renaming intCast_eq_zero_iff->Hu, intCast_lt_intCast->Hv, intCast_sub->Hx, intCast_mul->Hy, intCast_add->HZ, le_total->I0
section
namespace Eng
open Go Go.Proofs Rl
set_option maxRecDepth 100000
theorem Su {l:List Cl} (hne:l ≠ []) (hl:l.length <= 1000):wC CC 11 [.c (.sl (zM l))] none [] 25 (zM l):=by
  refine KW (anns := λ_ => ⟨[], [], λ_ _ => True, λ_ => 0⟩) mixedT Tryz.func11 ?_
  rw [Ez]
  refine ⟨?_, ⟨?_, Xh jf _⟩, Xo hne, rfl, rfl⟩
  · rw [xU]; exact List.length_pos_iff.2 hne
  · unfold room; rw [xU]; omega
theorem iI (x y:Int) (hx:x.natAbs < 9) (hy:y.natAbs < 9):qa CC 18 [.c (.int .i64 x),.c (.int .i64 y)] [.ag (kV ⟨x,y⟩)] :=
  gOk Tryz.func18 (gL ..) ⟨_, ET (by omega) (by omega), _, ET (by omega) (by omega), rfl⟩
def clE (x y a b:Int):Cl:=⟨⟨x,y,(x + 2:Int),(y + 2:Int)⟩,false,some ⟨a,b⟩⟩
theorem YE (x y a b:Int) (hx:x.natAbs < 9) (hy:y.natAbs < 9) (ha:a.natAbs < 9) (hb:b.natAbs < 9):qa CC 19 [.c (.int .i64 x),.c (.int .i64 y),.c (.int .i64 a),.c (.int .i64 b)] [.ag (kCl (clE x y a b))] :=
  gOk Tryz.func19 (Ey ..) ⟨_, ET (by omega) (by omega), _, ET (by omega) (by omega), _, by rw [wI]; exact ET (by omega) (by omega), _, by rw [wI]; exact ET (by omega) (by omega), _, _, iI a b ha hb, rfl⟩
def sgE (a b c x y z w:Int):Cu:=⟨false,⟨a,b,c⟩,⟨0,0,0⟩,false,atV ⟨x,y⟩,atV ⟨z,w⟩,z4A⟩
theorem hzI {n:Int}{k:Nat} (h:n.natAbs < 9) (hk:1 <= k):Hz k (n:Rat):=(Hz.int (k:=1) (by omega)).mono hk
theorem lnv0 {l:Ln}{v:Vc} (h:l.a * v.x + l.b * v.y - l.c = 0):lnv l (atV v) = 0:=by
  unfold lnv; rw [Ai, Aj, <- qL, <- qL, <- ze, <- wS, h]; rfl
theorem iJ {u v:Vc} (h:u.x < v.x \/ (u.x = v.x /\ u.y < v.y)):zW (atV u) (atV v) < 0:=by
  rw [D5, Ai, Ai, Aj, Aj, QC, QC, yG]; exact h
theorem moE {a b c x y z w:Int} (ha:a.natAbs < 9) (hb:b.natAbs < 9) (hc:c.natAbs < 9) (hx:x.natAbs < 9) (hy:y.natAbs < 9) (hz:z.natAbs < 9) (hw:w.natAbs < 9) (h0:a ≠ 0 \/ b ≠ 0)
    (h1 : a * x + b * y - c = 0) (h2 : a * z + b * w - c = 0) (hl : x < z \/ (x = z /\ y < w)) : Mo (sgE a b c x y z w) := by
  have e1 : lnv ⟨a, b, c⟩ (atV ⟨x, y⟩) = 0 := lnv0 (by have := congrArg (λn : Int => (n : Rat)) h1; simpa [HZ, Hx, Hy] using this)
  have e2 : lnv ⟨a, b, c⟩ (atV ⟨z, w⟩) = 0 := lnv0 (by have := congrArg (λn : Int => (n : Rat)) h2; simpa [HZ, Hx, Hy] using this)
  have hk : zW (atV ⟨x, y⟩) (atV ⟨z, w⟩) < 0 := iJ (by
    rcases hl with h | ⟨h, h'⟩
    · exact .inl (Hv.2 h)
    · exact .inr ⟨by rw [h], Hv.2 h'⟩)
  have hn : ¬ ((a : Rat) = 0 /\ (b : Rat) = 0) := λh => by
    have p := Hu.1 h.1
    have q := Hu.1 h.2
    omega
  refine ⟨⟨⟨⟨rfl, .inr ⟨rfl, ⟨hzI ha (by omega), hzI hb (by omega), hzI hc (by omega)⟩, hn⟩⟩, RI ⟨hzI hx (by omega), hzI hy (by omega)⟩, RI ⟨hzI hz (by omega), hzI hw (by omega)⟩⟩, ?_⟩, hk, λh => by cases h⟩
  have hk' : zW (atV ⟨x, y⟩) (atV ⟨z, w⟩) ≠ 0 := by omega
  simp [Vm, sgE, Z0, wU, e1, e2, hk', zL]; omega
theorem pb {c:Cu} (h:Mo c) (ha:c.arc = false):y5 c c.fr = true /\ y5 c c.tt = true:=by
  obtain ⟨s1, s2, _⟩ := h.1.sup
  have hk := h.2.1
  have r : ∀ p, zW p p = 0 := λp => vu.2 ⟨rfl, rfl⟩
  have hn : ¬ 0 < zW c.fr c.tt := by omega
  constructor <;> simp [y5, s1, s2, zZ, ha, hn, r, Int.le_of_lt hk]
def sqC:List Cu:=[sgE 0 2 0 0 0 2 0,sgE 2 0 0 0 0 0 2,sgE 0 (-2) (-4) 0 2 2 2,sgE (-2) 0 (-4) 2 0 2 2]
theorem iK:∀ c ∈ sqC,Mo c:=by
  simp only [sqC, Dd]
  refine ⟨?_, ?_, ?_, ?_, λ_ h => nomatch h⟩ <;> exact moE (by omega) (by omega) (by omega) (by omega) (by omega) (by omega) (by omega) (by omega) (by omega) (by omega) (by omega)
theorem Ni {x y:Int} (h:∃ c ∈ sqC,c.arc = false /\ (c.fr = atV ⟨x,y⟩ \/ c.tt = atV ⟨x,y⟩)):wZ sqC ⟨x,y⟩ = true:=by
  obtain ⟨c, hc, ha, h⟩ := h
  have : onL sqC (atV ⟨x, y⟩) = true := List.any_eq_true.2 ⟨c, hc, by
    have := pb (iK c hc) ha
    rcases h with h | h
    · rw [<- h]; exact this.1
    · rw [<- h]; exact this.2⟩
  unfold wZ j8
  rw [if_pos this]; rfl
def vE:Vc:=⟨(1:Int),(1:Int)⟩
def rE:Rat:=(2:Int)
def lE:List Cl:=[clE (-1) (-1) 0 0,clE 1 (-1) 2 0,clE (-1) 1 0 2,clE 1 1 2 2]
def oE:List Cl:=[clE (-1) (-1) 0 0,clE 1 (-1) 1 1,clE (-1) 1 0 2,clE 1 1 2 2]
theorem arE:arB vE rE = ⟨(-1:Int),(-1:Int),(3:Int),(3:Int)⟩:=by kernel_rfl
theorem gcE {x y a b:Int} (hx:x.natAbs < 7) (hy:y.natAbs < 7) (ha:a.natAbs < 9) (hb:b.natAbs < 9):GC (clE x y a b):=by
  refine ⟨⟨hzI (by omega) (by omega), hzI (by omega) (by omega), hzI (by omega) (by omega), hzI (by omega) (by omega)⟩, λu hu => ?_⟩
  simp only [clE, Option.some.injEq] at hu
  subst hu
  exact ⟨hzI ha (by omega), hzI hb (by omega)⟩
theorem ckE {l:List Cl} (hl:∀ c ∈ l,GC c) (hn:l.length <= 1000):CkH sqC rE vE l :=
  ⟨iK, by decide, hzI (by omega) (by omega), ⟨hzI (by omega) (by omega), hzI (by omega) (by omega)⟩, by rw [arE]; exact ⟨hzI (by omega) (by omega), hzI (by omega) (by omega), hzI (by omega) (by omega), hzI (by omega) (by omega)⟩, hl, hn⟩
theorem gcl:(∀ c ∈ lE,GC c) /\ ∀ c ∈ oE,GC c:=by
  simp only [lE, oE, Dd]
  refine ⟨⟨?_, ?_, ?_, ?_, λ_ h => nomatch h⟩, ?_, ?_, ?_, ?_, λ_ h => nomatch h⟩ <;> exact gcE (by omega) (by omega) (by omega) (by omega)
theorem ck1:ckP sqC rE vE lE = true:=by
  have o1 : wZ sqC ⟨(0 : Int), (0 : Int)⟩ = true := Ni ⟨_, .head _, rfl, .inl rfl⟩
  have o2 : wZ sqC ⟨(2 : Int), (0 : Int)⟩ = true := Ni ⟨_, .head _, rfl, .inr rfl⟩
  have o3 : wZ sqC ⟨(0 : Int), (2 : Int)⟩ = true := Ni ⟨_, .tail _ (.head _), rfl, .inr rfl⟩
  have o4 : wZ sqC ⟨(2 : Int), (2 : Int)⟩ = true := Ni ⟨_, .tail _ (.tail _ (.head _)), rfl, .inr rfl⟩
  have n1 : jC (clE (-1) (-1) 0 0).b ⟨(0 : Int), (0 : Int)⟩ rE = true := by decide +kernel
  have n2 : jC (clE 1 (-1) 2 0).b ⟨(2 : Int), (0 : Int)⟩ rE = true := by decide +kernel
  have n3 : jC (clE (-1) 1 0 2).b ⟨(0 : Int), (2 : Int)⟩ rE = true := by decide +kernel
  have n4 : jC (clE 1 1 2 2).b ⟨(2 : Int), (2 : Int)⟩ rE = true := by decide +kernel
  have hc : zw (arB vE rE) (lE.map Cl.b) = true := by
    rw [arE]
    refine (Jh (by decide +kernel) (by decide)).2 λx y h => ?_
    simp only [inB, Rat.intCast_neg, Rat.intCast_ofNat] at h
    simp only [lE, Gv, clE, F2, F0, or_false, exists_eq_or_imp, exists_eq_left, inB]
    rcases I0 (a := x) (b := 1) with hx | hx <;> rcases I0 (a := y) (b := 1) with hy | hy
    · exact .inl ⟨h.1, hx, h.2.2.1, hy⟩
    · exact .inr (.inr (.inl ⟨h.1, hx, hy, h.2.2.2⟩))
    · exact .inr (.inl ⟨hx, h.2.1, h.2.2.1, hy⟩)
    · exact .inr (.inr (.inr ⟨hx, h.2.1, hy, h.2.2.2⟩))
  have d1 : (decide (0 < rE) && ((arB vE rE).ok && (lE.map Cl.b).all Bx.ok)) = true := by decide +kernel
  have dA : lE.all (ckC sqC rE vE) = true := by
    show (jC _ _ rE && wZ sqC _ && (jC _ _ rE && wZ sqC _ && (jC _ _ rE && wZ sqC _ && (jC _ _ rE && wZ sqC _ && true)))) = true
    rw [o1, o2, o3, o4, n1, n2, n3, n4]; rfl
  unfold ckP
  simp only [Bool.and_eq_true] at d1 ⊢
  exact ⟨d1.1, dA, d1.2.1, d1.2.2, hc⟩
theorem ck2:ckP sqC rE vE lE.tail = false:=by
  have hc : ¬ zw (arB vE rE) (lE.tail.map Cl.b) = true := λh => by
    rw [arE] at h
    have := (Jh (by decide +kernel) (by decide)).1 h (-1 : Int) (-1 : Int) (by unfold inB; decide +kernel)
    revert this
    simp only [lE, List.tail, Gv, clE, F2, F0, or_false, exists_eq_or_imp, exists_eq_left, inB]
    decide +kernel
  unfold ckP
  rw [Bool.eq_false_iff]
  simp only [ne_eq, Bool.and_eq_true, not_and]
  intro _ _ _ _; exact hc
theorem ck3:ckP sqC rE vE oE = false:=by
  have n2 : jC (clE 1 (-1) 1 1).b ⟨(1 : Int), (1 : Int)⟩ rE = false := by decide +kernel
  have : oE.all (ckC sqC rE vE) = false := by
    rw [List.all_eq_false]
    exact ⟨clE 1 (-1) 1 1, .tail _ (.head _), by show ¬ (jC _ _ rE && wZ sqC _) = true; rw [n2]; simp⟩
  unfold ckP
  rw [this]; simp
noncomputable def nX:Ck1:=λal => @decide (∃ l:List Cl,al = [.c (.sl (zM l))] /\ l ≠ [] /\ l.length <= 1000) (B0 _)
def mCl:Mk1:=λal => match al with
  | [.c (.sl es)] => es
  | _ => []
theorem Sv {l:List Cl} (h:l ≠ []) (hn:l.length <= 1000):nX [.c (.sl (zM l))] = true:=@decide_eq_true _ (B0 _) ⟨l,rfl,h,hn⟩
theorem EZ (hS:qa CC 16 [.c (.int .i64 0),.c (.int .i64 0),.c (.int .i64 2)] [.ag [.sl (kUs sqC)]])
    (hF : qa CC 20 [.c (.sl (zM [clE (-1) (-1) 0 0]))] [.c (.str fE)]) : qa CC 5 [] [.c (.bool true)] := by
  letI : EffOk (CX [(11, XE nX 25 mCl)]) :=
    zY (Xj ⟨JK Tryz.func11 (by simp [Tryz.f11]) (by decide) λal h => by
      obtain ⟨l, rfl, h1, h2⟩ := @of_decide_eq_true _ (B0 _) h
      exact ⟨Xo h1, jr (C := CC) rfl rfl (Su h1 h2)⟩, trivial⟩)
  have k1 := TM (ckE gcl.1 (by decide))
  have k2 := TM (ckE (l := lE.tail) (λc h => gcl.1 c (List.mem_of_mem_tail h)) (by decide))
  have k3 := TM (ckE gcl.2 (by decide))
  rw [ck1] at k1; rw [ck2] at k2; rw [ck3] at k3
  refine zb (C := CX [(11, XE nX 25 mCl)]) rfl rfl (qo mixedT Tryz.func5 ((IO (qa CC) nX mCl (· = [.c (.bool true)])).mpr ?_))
  refine ⟨_, hS, _, ET (by omega) (by omega), _, _, iI 1 1 (by omega) (by omega), _, _, _, _, _, _, _, YE (-1) (-1) 0 0 (by omega) (by omega) (by omega) (by omega),
    _, _, _, _, _, _, _, YE 1 (-1) 2 0 (by omega) (by omega) (by omega) (by omega), _, _, _, _, _, _, _, YE (-1) 1 0 2 (by omega) (by omega) (by omega) (by omega),
    _, _, _, _, _, _, _, YE 1 1 2 2 (by omega) (by omega) (by omega) (by omega), Sv (l := lE) (by decide) (by decide), ⟨by omega, by decide⟩, by omega, Sv (l := lE) (by decide) (by decide), ?_⟩
  refine ⟨_, k1, ⟨by omega, by omega, by omega, Xh jf lE⟩, Sv (l := lE.tail) (by decide) (by decide), _, k2, ?_⟩
  exact ⟨_, k3, ⟨by omega, by omega, by omega, Xh jf lE⟩, _, hF, rfl⟩
end Eng
end
