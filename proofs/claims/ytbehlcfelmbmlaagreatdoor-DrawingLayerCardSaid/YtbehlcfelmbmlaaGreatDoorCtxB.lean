/- A part of the proof. -/
import Derived.Test.YtbehlcfelmbmlaaGreatDoorIntA
import Derived.KernelRfl
section
namespace Eng
open Go Go.Proofs Go.RowKit
def effOwnC (chk : List A → Bool) (s : Nat) (mk : List A → List (List D)) (dst : Option Nat) (vs : List V) (ob : List Obj) : R :=
 match dst with
 | none => .fail
 | some d => match freeKey ob d, toAs ob vs with
  | true, some (al, us) => .cond (chk al = true) (.arr d) (us ++ [(d, .arr s (mk al) false)])
  | _, _ => .fail
theorem effAt_ownC {C : Cx} {f s : Nat} {fn : Func} {chk : List A → Bool} {mk : List A → List (List D)} (hf : C.P.funcs[f]? = some fn) (hb : fn.body ≠ none) (hn : fn.name ≠ "runtime.NumGoroutine") (h : ∀ al, chk al = true → GivesOwn C f al s (mk al)) : EffAt C f (effOwnC chk s mk) := by
 have h0 := effAt_own (C := C) (own := fun al => match chk al with | true => some (s, mk al) | false => none) hf hb hn (fun al s' es ho => by
  split at ho
  ·rename_i hc
   simp only [Option.some.injEq, Prod.mk.injEq] at ho
   obtain ⟨rfl, rfl⟩ := ho
   exact h al hc
  ·simp at ho)
 have hE : ∀ (dst : Option Nat) (vs : List V) (ob : List Obj), (∃ al us d, dst = some d ∧ freeKey ob d = true ∧ toAs ob vs = some (al, us) ∧ effOwnC chk s mk dst vs ob = .cond (chk al = true) (.arr d) (us ++ [(d, .arr s (mk al) false)]) ∧
  (chk al = true → effOwn (fun al => match chk al with | true => some (s, mk al) | false => none) dst vs ob = .ok (.arr d) (us ++ [(d, .arr s (mk al) false)]))) ∨ effOwnC chk s mk dst vs ob = .fail := by
  intro dst vs ob
  unfold effOwnC
  split
  ·exact .inr rfl
  ·rename_i d
   split
   ·rename_i al us h1 h2
    refine .inl ⟨al, us, d, rfl, h1, h2, rfl, fun hc => ?_⟩
    simp only [effOwn, h1, h2, hc]
   ·exact .inr rfl
 refine ⟨fun {B F0 w0 F loc st a w dst args ts ty pos after g} hc => ?_, fun dst vs ob ob' hh hd => ?_, fun dst vs ob hv hb => ?_⟩
 ·rcases hE dst (args.toList.map (ev st)) st.objs with ⟨al, us, d, h1, h2, h3, h4, h5⟩ | h1
  ·rw [h4]
   intro hcc
   have := h0.rs (dst := dst) (args := args) (ts := ts) (ty := ty) (pos := pos) (after := after) (g := g) hc
   rw [h5 hcc] at this
   exact this
  ·rw [h1]; trivial
 ·unfold effOwnC
  cases dst with
  | none => rfl
  | some d =>
   have h1 : toAs ob vs = toAs ob' vs := toAs_ag (c := 2) fun v hv k hk => .inl (hh k (by
    rw [mem_deepB]
    exact ⟨k, List.mem_flatMap.2 ⟨v, hv, hk⟩, .inl rfl⟩))
   simp only [h1]
   rw [hd d (.inl rfl)]
 ·rcases hE dst vs ob with ⟨al, us, d, rfl, h2, h3, h4, h5⟩ | h1
  ·rw [h4]
   have hfz := toAs_fz h3
   refine ⟨fun p hp => ?_, fun k hk => ?_⟩
   ·rcases List.mem_append.1 hp with hp | hp
    ·obtain ⟨⟨v, hv1, hv2⟩, s', es', fz, h1, h2⟩ := hfz p hp
     refine ⟨.inr ⟨?_, by rw [h1]; simp⟩, by rw [h2]; simp, fun u hu => by rw [h2] at hu; simp [objVs] at hu⟩
     rw [mem_deepB]
     exact ⟨p.1, List.mem_flatMap.2 ⟨v, hv1, hv2⟩, .inl rfl⟩
    ·simp only [List.mem_singleton] at hp
     subst hp
     exact ⟨.inl ⟨.inl rfl, h2⟩, by simp, fun u hu => by simp [objVs] at hu⟩
   ·simp only [keysV, List.mem_singleton] at hk
    subst hk
    exact .inr ⟨h2, _, List.mem_append_right _ (List.mem_singleton.2 rfl)⟩
  ·rw [h1]; trivial
def limbD : List D → Bool
 | [.int .u32 (.ofNat n)] => Nat.blt n 1000000000
 | _ => false
def limbsD : List (List D) → Bool
 | [] => true
 | e :: r => limbD e && limbsD r
def natD : List D → Nat
 | [.int _ n] => n.toNat
 | _ => 0
def natsD (es : List (List D)) : List Nat := es.map natD
def valD : List (List D) → Nat
 | [] => 0
 | e :: r => natD e + 1000000000 * valD r
theorem limbsD_ok : ∀ {es : List (List D)}, limbsD es = true → es = raw (natsD es) ∧ Limbs (natsD es) ∧ val (natsD es) = valD es
 | [], _ => ⟨rfl, Limbs.nil, rfl⟩
 | e :: r, h => by
  simp only [limbsD, Bool.and_eq_true] at h
  obtain ⟨h1, h2, h3⟩ := limbsD_ok h.2
  have he := h.1
  unfold limbD at he
  split at he
  ·rename_i n
   rw [Nat.blt_eq] at he
   refine ⟨?_, Limbs.cons he h2, ?_⟩
   ·simp only [natsD, List.map_cons, raw, natD] at h1 ⊢
    rw [← h1]
    rfl
   ·simp only [natsD, List.map_cons, val, valD, natD] at h3 ⊢
    rw [h3]
  ·simp at he
theorem limbsD_raw : ∀ {l : List Nat}, Limbs l → limbsD (raw l) = true
 | [], _ => rfl
 | x :: l, h => by
  obtain ⟨h1, h2⟩ := h.of_cons
  simp only [raw, List.map_cons, limbsD, Bool.and_eq_true]
  refine ⟨?_, limbsD_raw h2⟩
  show Nat.blt x 1000000000 = true
  rw [Nat.blt_eq]; exact h1
theorem valD_raw : ∀ (l : List Nat), valD (raw l) = val l
 | [] => rfl
 | x :: l => by
  have := valD_raw l
  simp only [raw, List.map_cons, valD, val, natD] at this ⊢
  rw [this]; rfl
def timesChk : List A → Bool
 | [.c (.sl a), .c (.sl b)] => limbsD a && (limbsD b && (Nat.ble a.length 536870912 && (Nat.ble b.length 536870912 && Nat.blt 0 (a.length + b.length))))
 | _ => false
def timesMk : List A → List (List D)
 | [.c (.sl a), .c (.sl b)] => raw (pad (a.length + b.length) (valD a * valD b))
 | _ => []
theorem times_chk (al : List A) (h : timesChk al = true) : GivesOwn C0 190 al 1 (timesMk al) := by
 unfold timesChk at h
 split at h
 ·rename_i a b
  simp only [Bool.and_eq_true] at h
  obtain ⟨h1, h2, h3, h4, h5⟩ := h
  obtain ⟨ea, la, va⟩ := limbsD_ok h1
  obtain ⟨eb, lb, vb⟩ := limbsD_ok h2
  have h3 := Nat.le_of_ble_eq_true h3
  have h4 := Nat.le_of_ble_eq_true h4
  rw [Nat.blt_eq] at h5
  have na : (natsD a).length = a.length := by simp [natsD]
  have nb : (natsD b).length = b.length := by simp [natsD]
  have := itimes_own la lb (by omega) (by omega) (by omega)
  rw [← ea, ← eb, va, vb, na, nb] at this
  exact this
 ·simp at h
theorem extIdx : ExtK Tryz.prog 319 Extern.BytealgIndexByte.indexByte := ⟨fun args w => run_callFunc_extern Tryz.func319 (by kernel_rfl) (by kernel_rfl) (by kernel_rfl) (by kernel_rfl) args w⟩
theorem extCnt : ExtK Tryz.prog 317 Extern.BytealgCount.count := ⟨fun args w => run_callFunc_extern Tryz.func317 (by kernel_rfl) (by kernel_rfl) (by kernel_rfl) (by kernel_rfl) args w⟩
def keepT (t : TypeId) (d : Option Nat) : Bool :=
 match Nat.beq t 37, d with
 | true, some d => Nat.beq d 148 || (Nat.beq d 160 || Nat.beq d 71)
 | _, _ => false
def effM (chk : List A → Bool) (mk : List A → List (List D)) (f : Nat) : Option (Option Nat → List V → List Obj → R) :=
 match bldEff 76 29 158 32 f with
 | some e => some e
 | none => match Nat.beq f 319 with
  | true => some effIdx
  | false => match Nat.beq f 317 with
   | true => some effCnt
   | false => match Nat.beq f 309 with
    | true => some effSub
    | false => match Nat.beq f 310 with
     | true => some effRes
     | false => match Nat.beq f 190 with
      | true => some (effOwnC chk 1 mk)
      | false => none
noncomputable def CM (chk : List A → Bool) (mk : List A → List (List D)) : Cx := ⟨Tryz.prog, gvar, fun t => Nat.beq t 76, effM chk mk, keepT, fun _ => false⟩
noncomputable def CC : Cx := CM timesChk timesMk
theorem effT_ok (f : Nat) (e : Option Nat → List V → List Obj → R) (h : CC.eff f = some e) : EffAt CC f e := by
 replace h : effM timesChk timesMk f = some e := h
 unfold effM at h
 split at h
 ·rename_i e' he
  simp only [Option.some.injEq] at h
  subst h
  exact effAt_bld (C := CC) bldK he
 ·split at h
  ·rename_i hb; obtain rfl := Nat.eq_of_beq_eq_true hb
   simp only [Option.some.injEq] at h; subst h
   exact effAt_idx extIdx
  ·split at h
   ·rename_i hb; obtain rfl := Nat.eq_of_beq_eq_true hb
    simp only [Option.some.injEq] at h; subst h
    exact effAt_cnt extCnt
   ·split at h
    ·rename_i hb; obtain rfl := Nat.eq_of_beq_eq_true hb
     simp only [Option.some.injEq] at h; subst h
     exact effAt_sub (C := CC) subK
    ·split at h
     ·rename_i hb; obtain rfl := Nat.eq_of_beq_eq_true hb
      simp only [Option.some.injEq] at h; subst h
      exact effAt_res (C := CC) subK
     ·split at h
      ·rename_i hb; obtain rfl := Nat.eq_of_beq_eq_true hb
       simp only [Option.some.injEq] at h; subst h
       exact effAt_ownC (C := CC) Tryz.func190 (by simp [Tryz.f190]) (by decide) fun al hc => givesOwn_cx (C := C0) (C' := CC) rfl rfl (times_chk al hc)
      ·simp at h
instance : EffOk CC := effOk_all effT_ok
def decF : Nat → Nat → List UInt8
 | 0, _ => []
 | n + 1, u => match Nat.blt u 10 with
  | true => [UInt8.ofNat (48 + u)]
  | false => decF n (u / 10) ++ [UInt8.ofNat (48 + u % 10)]
theorem decF_ok : ∀ (n u : Nat), 0 < n → u < 10 ^ n → decF n u = Lib.decDigits u
 | n + 1, u, _, h => by
  rw [Lib.decDigits]
  simp only [decF]
  by_cases h1 : u < 10
  ·rw [dif_pos h1]
   have : Nat.blt u 10 = true := by rw [Nat.blt_eq]; exact h1
   rw [this]
  ·rw [dif_neg h1]
   have : Nat.blt u 10 = false := by
    rw [Bool.eq_false_iff]; intro h2; rw [Nat.blt_eq] at h2; exact h1 h2
   rw [this]
   simp only
   have hn : 0 < n := by
    rcases Nat.eq_zero_or_pos n with h0 | h0
    ·subst h0; simp at h; omega
    ·exact h0
   rw [decF_ok n (u / 10) hn (by rw [Nat.pow_succ] at h; omega)]
theorem tabIs {F : Nat → Prop} {w : World} (h : Inv CC F w) : Lib.TabIs Tryz.prog w "internal/strconv.uint64pow10" .u64 Lib.pow10Tab := by
 obtain ⟨_, vs, t, fr, hb, hcs⟩ := h 2 pow10D rfl
 have hg : Tryz.prog.globalNamed "internal/strconv.uint64pow10" = some 2 := by kernel_rfl
 unfold Lib.TabIs World.var?
 rw [hg]
 simp only [Option.bind_some, hb]
 have hv : vs.toList = pow10D.map fun d => match d with | .int k n => Value.int k n | _ => undef := by
  have key : ∀ (l : List D) (us : List Value), (∀ d ∈ l, ∃ k n, d = .int k n) → All2 (CD w F) l us → us = l.map fun d => match d with | .int k n => Value.int k n | _ => undef := by
   intro l
   induction l with
   | nil => intro us _ h; cases us with | nil => rfl | cons _ _ => exact h.elim
   | cons d l ih =>
    intro us hl h
    cases us with
    | nil => exact h.elim
    | cons u us =>
     obtain ⟨k, n, rfl⟩ := hl d (by simp)
     rw [ih us (fun d hd => hl d (by simp [hd])) h.2]
     cases (h.1 : CD _ _ _ _)
     rfl
  refine key _ _ (fun d hd => ?_) hcs
  simp only [pow10D, List.mem_cons, List.not_mem_nil, or_false] at hd
  rcases hd with rfl | rfl | rfl | rfl | rfl | rfl | rfl | rfl | rfl | rfl | rfl | rfl | rfl | rfl | rfl | rfl | rfl | rfl | rfl | rfl <;> exact ⟨_, _, rfl⟩
 have : vs = (pow10D.map fun d => match d with | .int k n => Value.int k n | _ => undef).toArray := by rw [← hv]
 rw [this]
 rfl
theorem fmtUint_ok (u : Nat) (hu : u < 18446744073709551616) : Gives CC 71 [.c (.int .u64 u), .c (.int .i64 10)] [.c (.str (Lib.decDigits u))] :=
 gives_flat rfl (fun _ _ => CD.str _) fun w F hi => by
  have := fu61 u hu w (tabIs hi)
  exact this
theorem repeat_ok (s : List UInt8) (c : Nat) (hc : s.length * c ≤ 1073741824) (hc2 : c ≤ 1073741824) : Gives CC 161 [.c (.str s), .c (.int .i64 c)] [.c (.str (Lib.repeatL s c))] :=
 gives_flat rfl (fun _ _ => CD.str _) fun w F _ => by
  have hs : (⟨⟨s⟩⟩ : ByteArray).size = s.length := rfl
  exact Tryz.strings_Repeat ⟨⟨s⟩⟩ c w (by omega) (by rw [hs]; omega)
def tabL (f : Nat) (al : List A) : Option (List A) :=
 match Nat.beq f 161 with
 | true => match al with
  | [.c (.str s), .c (.int .i64 (.ofNat c))] => match Nat.ble (s.length * c) 1073741824, Nat.ble c 1073741824 with
   | true, true => some [.c (.str (Lib.repeatL s c))]
   | _, _ => none
  | _ => none
 | false => match Nat.beq f 71 with
  | true => match al with
   | [.c (.int .u64 (.ofNat u)), .c (.int .i64 (.ofNat b))] => match Nat.beq b 10, Nat.blt u 18446744073709551616 with
    | true, true => some [.c (.str (decF 20 u))]
    | _, _ => none
   | _ => none
  | false => none
theorem tabL_ok (f : Nat) (al rs : List A) (h : tabL f al = some rs) : Gives CC f al rs := by
 unfold tabL at h
 split at h
 ·rename_i hb; obtain rfl := Nat.eq_of_beq_eq_true hb
  split at h
  ·rename_i s c
   split at h
   ·rename_i h1 h2
    simp only [Option.some.injEq] at h; subst h
    exact repeat_ok s c (Nat.le_of_ble_eq_true h1) (Nat.le_of_ble_eq_true h2)
   ·simp at h
  ·simp at h
 ·split at h
  ·rename_i hb; obtain rfl := Nat.eq_of_beq_eq_true hb
   split at h
   ·rename_i u b
    split at h
    ·rename_i h1 h2
     simp only [Option.some.injEq] at h; subst h
     obtain rfl := Nat.eq_of_beq_eq_true h1
     rw [Nat.blt_eq] at h2; have hu := h2
     rw [decF_ok 20 u (by omega) (by omega)]
     exact fmtUint_ok u hu
    ·simp at h
   ·simp at h
  ·simp at h
end Eng
end

section
open Go Go.Proofs Eng
set_option maxRecDepth 1000000
namespace Eng
theorem vc_DivMod (Gv : Nat → List A → List A → Prop) (p q : Bool) (es fs : List (List D)) (Q : List A → Prop) :
 wpF CC Gv (fun _ => ⟨[], [], fun _ _ => True, fun _ => 0⟩) Tryz.f137 [.ag [.bool p, .sl es], .ag [.bool q, .sl fs]] Q = (
 br (toB (D.bool ((Int.ofNat (List.length fs)) == (0 : Int)))) (Q [A.ag [D.bool false, D.sl []], A.ag [D.bool false, D.sl []], A.c (D.int .i64 (6 : Int))])
 (∃ es_1 es_2,
 Gv 233 [A.c (D.sl es), A.c (D.sl fs)] [A.c (D.sl es_1), A.c (D.sl es_2)] ∧
 ∃ b es,
 Gv 189 [A.c (D.bool !p == q), A.c (D.sl es_1)] [A.ag [D.bool b, D.sl es]] ∧
 ∃ b_1 es_3,
 Gv 189 [A.c (D.bool p), A.c (D.sl es_2)] [A.ag [D.bool b_1, D.sl es_3]] ∧
 br (toB (D.bool (decide ((Int.ofNat (List.length es_3)) > (0 : Int)))))
 (br (toB (D.bool !b_1 == q))
 (∃ b_2 es_4,
 Gv 136 [A.c (D.int .i64 (1 : Int))] [A.ag [D.bool b_2, D.sl es_4]] ∧
 ∃ b_3 es_5,
 Gv 234 [A.ag [D.bool b, D.sl es], A.ag [D.bool b_2, D.sl es_4]] [A.ag [D.bool b_3, D.sl es_5]] ∧
 ∃ b es,
 Gv 235 [A.ag [D.bool b_1, D.sl es_3], A.ag [D.bool q, D.sl fs]] [A.ag [D.bool b, D.sl es]] ∧
 Q [A.ag [D.bool b_3, D.sl es_5], A.ag [D.bool b, D.sl es], A.c (D.int .i64 (0 : Int))])
 (Q [A.ag [D.bool b, D.sl es], A.ag [D.bool b_1, D.sl es_3], A.c (D.int .i64 (0 : Int))]))
 (Q [A.ag [D.bool b, D.sl es], A.ag [D.bool b_1, D.sl es_3], A.c (D.int .i64 (0 : Int))]))) := by kernel_rfl
theorem vc_GCD (Gv : Nat → List A → List A → Prop) (I0 : List D → List D → Prop) (M0 : List D → Nat) (I1 : List D → List D → Prop) (M1 : List D → Nat) (p q : Bool) (es fs : List (List D)) (Q : List A → Prop) :
 wpF CC Gv (ann2 ⟨[.box 5 [.bool false, .slice none 0 0], .box 6 [.bool false, .slice none 0 0]], [], I0, M0⟩ ⟨[.slot 7 (.int .u64 0), .slot 9 (.int .u64 0)], [], I1, M1⟩) Tryz.f186 [.ag [.bool p, .sl es], .ag [.bool q, .sl fs]] Q = (
 ∃ b es_1,
 Gv 189 [A.c (D.bool false), A.c (D.sl es)] [A.ag [D.bool b, D.sl es_1]] ∧
 ∃ b_1 es,
 Gv 189 [A.c (D.bool false), A.c (D.sl fs)] [A.ag [D.bool b_1, D.sl es]] ∧
 I0 [] [D.bool b, D.sl es_1, D.bool b_1, D.sl es] ∧
 ∀ (b : Bool) (es : List (List D)) (b_2 : Bool) (es_2 : List (List D)),
 I0 [] [D.bool b, D.sl es, D.bool b_2, D.sl es_2] →
 br (toB (D.bool (decide ((Int.ofNat (List.length es_2)) > (0 : Int)))))
 (∃ n b_3,
 Gv 268 [A.ag [D.bool b, D.sl es]] [A.c (D.int .u64 n), A.c (D.bool b_3)] ∧
 ∃ n_1 b_4,
 Gv 268 [A.ag [D.bool b_2, D.sl es_2]] [A.c (D.int .u64 n_1), A.c (D.bool b_4)] ∧
 br b_3
 (br b_4
 (I1 [] [D.int .u64 n, D.int .u64 n_1] ∧
 ∀ (n n_2 : Int),
 I1 [] [D.int .u64 n, D.int .u64 n_2] →
 br (toB (D.bool (decide (n_2 > (0 : Int)))))
 (n_2 ≠ (0 : Int) ∧
 I1 [] [D.int .u64 n_2, D.int .u64 (Int.tmod n n_2)] ∧
 M1 [D.int .u64 n_2, D.int .u64 (Int.tmod n n_2)] < M1 [D.int .u64 n, D.int .u64 n_2])
 (∃ es,
 Gv 232 [A.c (D.int .u64 n)] [A.c (D.sl es)] ∧
 ∃ b es_3,
 Gv 189 [A.c (D.bool false), A.c (D.sl es)] [A.ag [D.bool b, D.sl es_3]] ∧ Q [A.ag [D.bool b, D.sl es_3]]))
 (∃ es_3 es_4,
 Gv 233 [A.c (D.sl es), A.c (D.sl es_2)] [A.c (D.sl es_3), A.c (D.sl es_4)] ∧
 ∃ b_5 es_5,
 Gv 189 [A.c (D.bool false), A.c (D.sl es_4)] [A.ag [D.bool b_5, D.sl es_5]] ∧
 I0 [] [D.bool b_2, D.sl es_2, D.bool b_5, D.sl es_5] ∧
 M0 [D.bool b_2, D.sl es_2, D.bool b_5, D.sl es_5] < M0 [D.bool b, D.sl es, D.bool b_2, D.sl es_2]))
 (∃ es_3 es_4,
 Gv 233 [A.c (D.sl es), A.c (D.sl es_2)] [A.c (D.sl es_3), A.c (D.sl es_4)] ∧
 ∃ b_5 es_5,
 Gv 189 [A.c (D.bool false), A.c (D.sl es_4)] [A.ag [D.bool b_5, D.sl es_5]] ∧
 I0 [] [D.bool b_2, D.sl es_2, D.bool b_5, D.sl es_5] ∧
 M0 [D.bool b_2, D.sl es_2, D.bool b_5, D.sl es_5] < M0 [D.bool b, D.sl es, D.bool b_2, D.sl es_2]))
 ((room (List.length es) ∧ lens 1 es) ∧
 ∃ b es_3, Gv 189 [A.c (D.bool false), A.c (D.sl es)] [A.ag [D.bool b, D.sl es_3]] ∧ Q [A.ag [D.bool b, D.sl es_3]])) := by kernel_rfl
end Eng
end

section
namespace Eng
open Go Go.Proofs
set_option maxRecDepth 100000
theorem up {f : Nat} {al rs : List A} (h : Gives C0 f al rs) : Gives CC f al rs := gives_cx rfl rfl h
def DivOk : Prop := ∀ (a b : List Nat), Limbs a → Limbs b → val b ≠ 0 → a.length ≤ 1000 → b.length ≤ 1000 →
 ∃ q r, Gives CC 233 [.c (.sl (raw a)), .c (.sl (raw b))] [.c (.sl (raw q)), .c (.sl (raw r))] ∧ Limbs q ∧ Limbs r ∧ val q = val a / val b ∧ val r = val a % val b ∧ q.length ≤ 1073741824 ∧ r.length ≤ 1073741824
theorem smN {n : Nat} : Sm (n : Int) ↔ n < topN := by unfold Sm; rw [Int.natAbs_natCast]
theorem iGCD_ok (hd : DivOk) {x y : Int} (hx : Sm x) (hy : Sm y) : Gives CC 186 [encI x, encI y] [encI (Nat.gcd x.natAbs y.natAbs : Nat)] := by
 generalize hG : Nat.gcd x.natAbs y.natAbs = G
 refine wpF_ok (anns := ann2
  ⟨[.box 5 [.bool false, .slice none 0 0], .box 6 [.bool false, .slice none 0 0]], [], fun _ ds => ∃ m n : Nat, ds = cI (m : Int) ++ cI (n : Int) ∧ Nat.gcd m n = G ∧ m < topN ∧ n < topN, fun ds => valD (toL (nth .undef ds 3))⟩
  ⟨[.slot 7 (.int .u64 0), .slot 9 (.int .u64 0)], [], fun _ ds => ∃ u v : Nat, ds = [.int .u64 (u : Int), .int .u64 (v : Int)] ∧ Nat.gcd u v = G ∧ u < 1000000000000000000 ∧ v < 1000000000000000000, fun ds => (toI (nth .undef ds 1)).toNat⟩) mixedT Tryz.func186 ?_
 have lx := hx.len
 have ly := hy.len
 rw [show encI x = .ag (cI x) from rfl, show encI y = .ag (cI y) from rfl]
 have vx := signed_enc false (lim_limbs x.natAbs) (by omega) (z := (x.natAbs : Int)) (by simp [lim_val])
 have vy := signed_enc false (lim_limbs y.natAbs) (by omega) (z := (y.natAbs : Int)) (by simp [lim_val])
 rw [cI, cI, vc_GCD]
 simp only [Int.ofNat_eq_natCast]
 refine ⟨_, _, up vx, _, _, up vy, ⟨x.natAbs, y.natAbs, rfl, hG, hx, hy⟩, ?_⟩
 rintro bx es by_ fs ⟨m, n, he, hg, hm, hn⟩
 simp only [cI, List.cons_append, List.nil_append, List.cons.injEq, D.bool.injEq, D.sl.injEq, and_true, Int.natAbs_natCast] at he
 obtain ⟨rfl, rfl, rfl, rfl⟩ := he
 have lm := (smN.2 hm).len
 have ln := (smN.2 hn).len
 rw [Int.natAbs_natCast] at lm ln
 have em : encI (m : Int) = A.ag [D.bool (decide ((m : Int) < 0)), D.sl (raw (lim m))] := by unfold encI cI; rw [Int.natAbs_natCast]
 have en : encI (n : Int) = A.ag [D.bool (decide ((n : Int) < 0)), D.sl (raw (lim n))] := by unfold encI cI; rw [Int.natAbs_natCast]
 have wm := iword_ok (smN.2 hm)
 have wn := iword_ok (smN.2 hn)
 rw [Int.natAbs_natCast] at wm wn
 rw [em] at wm
 rw [en] at wn
 rw [raw_length, raw_length]
 have hstep : 0 < n → ∃ es_3 es_4,
  Gives CC 233 [A.c (D.sl (raw (lim m))), A.c (D.sl (raw (lim n)))] [A.c (D.sl es_3), A.c (D.sl es_4)] ∧
   ∃ b_5 es_5,
    Gives CC 189 [A.c (D.bool false), A.c (D.sl es_4)] [A.ag [D.bool b_5, D.sl es_5]] ∧
     (∃ m' n' : Nat, [D.bool (decide ((n : Int) < 0)), D.sl (raw (lim n)), D.bool b_5, D.sl es_5] = cI (m' : Int) ++ cI (n' : Int) ∧ Nat.gcd m' n' = G ∧ m' < topN ∧ n' < topN) ∧
      valD (toL (nth .undef [D.bool (decide ((n : Int) < 0)), D.sl (raw (lim n)), D.bool b_5, D.sl es_5] 3)) < valD (toL (nth .undef [D.bool (decide ((m : Int) < 0)), D.sl (raw (lim m)), D.bool (decide ((n : Int) < 0)), D.sl (raw (lim n))] 3)) := by
  intro hn0
  obtain ⟨q, r, h1, lq, lr, vq, vr, q1, r1⟩ := hd (lim m) (lim n) (lim_limbs _) (lim_limbs _) (by rw [lim_val]; omega) lm ln
  rw [lim_val, lim_val] at vr
  have hmod := Nat.mod_lt m hn0
  refine ⟨_, _, h1, _, _, up (signed_enc false lr r1 (z := ((m % n : Nat) : Int)) (by simp [vr])), ⟨n, m % n, ?_, ?_, hn, by omega⟩, ?_⟩
  ·simp only [cI, Int.natAbs_natCast, List.cons_append, List.nil_append]
  ·rw [← hg, Nat.gcd_comm n, ← Nat.gcd_rec, Nat.gcd_comm]
  ·simp only [nth, toL, Int.natAbs_natCast, valD_raw, lim_val]
   exact hmod
 refine brd (fun h => ?_) (fun h => ?_)
 ·have hn0 : 0 < n := lim_len_pos.1 (by omega)
  by_cases sm : m < 1000000000000000000
  ·rw [if_pos sm] at wm
   by_cases sn : n < 1000000000000000000
   ·rw [if_pos sn] at wn
    refine ⟨_, _, up wm, _, _, up wn, ?_⟩
    refine ⟨⟨m, n, rfl, hg, sm, sn⟩, ?_⟩
    rintro a b ⟨u, v, he, hg', hu, hv⟩
    simp only [List.cons.injEq, D.int.injEq, true_and, and_true] at he
    obtain ⟨rfl, rfl⟩ := he
    refine brd (fun h2 => ?_) (fun h2 => ?_)
    ·have hv0 : 0 < v := by omega
     have e2 : Int.tmod (u : Int) (v : Int) = ((u % v : Nat) : Int) := by rw [Int.tmod_eq_emod_of_nonneg (by omega)]; rfl
     have hmod := Nat.mod_lt u hv0
     rw [e2]
     refine ⟨by omega, ⟨v, u % v, rfl, by rw [← hg', Nat.gcd_comm v, ← Nat.gcd_rec, Nat.gcd_comm], hv, by omega⟩, ?_⟩
     simp only [nth, toI, Int.toNat_natCast]
     exact hmod
    ·have hv0 : v = 0 := by omega
     subst hv0
     rw [Nat.gcd_zero_right] at hg'
     subst hg'
     obtain ⟨l1, l2⟩ := split_limbs (u := u) (by omega)
     exact ⟨_, up (isplit_ok (by omega)), _, _, up (signed_enc false l1 (by simp) (z := (u : Int)) (by rw [l2]; rfl)), rfl⟩
   ·rw [if_neg sn] at wn
    exact ⟨_, _, up wm, _, _, up wn, hstep hn0⟩
  ·rw [if_neg sm] at wm
   by_cases sn : n < 1000000000000000000
   ·rw [if_pos sn] at wn
    exact ⟨_, _, up wm, _, _, up wn, hstep hn0⟩
   ·rw [if_neg sn] at wn
    exact ⟨_, _, up wm, _, _, up wn, hstep hn0⟩
 ·have hn0 : n = 0 := by
   rcases Nat.eq_zero_or_pos n with h0 | h0
   ·exact h0
   ·have := lim_len_pos.2 h0; omega
  subst hn0
  rw [Nat.gcd_zero_right] at hg
  subst hg
  exact ⟨⟨by unfold room; omega, lens_raw _⟩, _, _, up (signed_enc false (lim_limbs m) (by omega) (z := (m : Int)) (by simp [lim_val])), rfl⟩
theorem iDivMod_ok (hd : DivOk) {x y : Int} (hx : Sm x) (hy : Sm y) (hy0 : 0 < y) : Gives CC 137 [encI x, encI y] [encI (x / y), encI (x % y), .c (.int .i64 0)] := by
 refine wpF_ok (anns := fun _ => ⟨[], [], fun _ _ => True, fun _ => 0⟩) mixedT Tryz.func137 ?_
 have lx := hx.len
 have ly := hy.len
 have hyn : y.natAbs ≠ 0 := by omega
 have hlp : 0 < (lim y.natAbs).length := lim_len_pos.2 (by omega)
 obtain ⟨q, r, h1, lq, lr, vq, vr, q1, r1⟩ := hd (lim x.natAbs) (lim y.natAbs) (lim_limbs _) (lim_limbs _) (by rw [lim_val]; exact hyn) lx ly
 rw [lim_val, lim_val] at vq vr
 rw [show encI x = .ag (cI x) from rfl, show encI y = .ag (cI y) from rfl, cI, cI, vc_DivMod]
 simp only [Int.ofNat_eq_natCast]
 obtain ⟨a, ha⟩ : ∃ a : Nat, x.natAbs = a := ⟨_, rfl⟩
 obtain ⟨b, hb⟩ : ∃ b : Nat, y = (b : Int) := ⟨y.natAbs, by omega⟩
 have hbn : y.natAbs = b := by omega
 have hb0 : 0 < b := by omega
 rw [ha, hbn] at vq vr
 have hdm := Nat.div_add_mod a b
 have hml := Nat.mod_lt a hb0
 refine brb (fun h => ?_) (fun _ => ?_)
 ·rw [raw_length] at h
  have : ((lim y.natAbs).length : Int) = 0 := by simpa using h
  omega
 have hyf : decide (y < 0) = false := decide_eq_false (by omega)
 rw [hyf]
 by_cases hx0 : x < 0
 ·have hxt : decide (x < 0) = true := decide_eq_true hx0
  rw [hxt]
  have hxa : x = -(a : Int) := by omega
  have gq := signed_enc true lq q1 (z := -((a / b : Nat) : Int)) (by rw [vq]; rfl)
  have gr := signed_enc true lr r1 (z := -((a % b : Nat) : Int)) (by rw [vr]; rfl)
  refine ⟨_, _, h1, _, _, up gq, _, _, up gr, ?_⟩
  have e0 : (-((a % b : Nat) : Int)).natAbs = a % b := by rw [Int.natAbs_neg, Int.natAbs_natCast]
  rw [raw_length]
  have hq : (a / b) < topN := Nat.lt_of_le_of_lt (Nat.div_le_self _ _) (ha ▸ hx)
  refine brd (fun h => brb (fun h2 => ?_) (fun h2 => ?_)) (fun h => ?_)
  ·rw [e0] at h
   have hr0 : 0 < a % b := lim_len_pos.1 (by omega)
   have g1 := iFromInt64_ok (n := 1) (by omega) (by omega)
   have sq : Sm (-((a / b : Nat) : Int)) := by unfold Sm; rw [Int.natAbs_neg, Int.natAbs_natCast]; exact hq
   have s1 : Sm 1 := by unfold Sm topN; exact Nat.one_lt_pow (by omega) (Nat.one_lt_pow (by omega) (by omega))
   have sr : Sm (-((a % b : Nat) : Int)) := by unfold Sm; rw [Int.natAbs_neg, Int.natAbs_natCast]; exact Nat.lt_trans hml (hbn ▸ hy)
   have gs := iSub_ok sq s1
   have ga := iAdd_ok sr hy
   have ga2 : Gives CC 235 [encI (-((a % b : Nat) : Int)), .ag [.bool false, .sl (raw (lim y.natAbs))]] [encI (-((a % b : Nat) : Int) + y)] := by
    have := up ga
    rw [show encI y = .ag (cI y) from rfl, cI, hyf] at this
    exact this
   refine ⟨_, _, up g1, _, _, up gs, _, _, ga2, ?_⟩
   ·have e1 : x / y = -((a / b : Nat) : Int) - 1 ∧ x % y = -((a % b : Nat) : Int) + y := by
     have := Int.ediv_emod_unique (a := x) (b := y) (r := -((a % b : Nat) : Int) + y) (q := -((a / b : Nat) : Int) - 1) hy0
     refine this.2 ⟨?_, by omega, by omega⟩
     rw [hxa, hb]
     have h5 : (b : Int) * (-((a / b : Nat) : Int) - 1) = -((b * (a / b) : Nat) : Int) - b := by rw [Int.mul_sub, Int.mul_neg, Int.mul_one, Int.natCast_mul]
     rw [h5]
     omega
    rw [e1.1, e1.2]
    rfl
  ·exfalso
   rw [e0] at h
   have hr0 : 0 < a % b := lim_len_pos.1 (by omega)
   have : decide (-((a % b : Nat) : Int) < 0) = true := decide_eq_true (by omega)
   rw [this] at h2
   simp at h2
  ·have hr0 : a % b = 0 := by
    rcases Nat.eq_zero_or_pos (a % b) with h0 | h0
    ·exact h0
    ·have := lim_len_pos.2 h0; rw [e0] at h; omega
   have e1 : x / y = -((a / b : Nat) : Int) ∧ x % y = -((a % b : Nat) : Int) := by
    have := Int.ediv_emod_unique (a := x) (b := y) (r := -((a % b : Nat) : Int)) (q := -((a / b : Nat) : Int)) hy0
    refine this.2 ⟨?_, by omega, by omega⟩
    rw [hxa, hb, Int.mul_neg, ← Int.natCast_mul]
    omega
   rw [e1.1, e1.2]
   simp only [encI, cI, Int.natAbs_neg, Int.natAbs_natCast]
 ·have hxf : decide (x < 0) = false := decide_eq_false hx0
  rw [hxf]
  have hxa : x = (a : Int) := by omega
  have gq := signed_enc false lq q1 (z := ((a / b : Nat) : Int)) (by rw [vq]; rfl)
  have gr := signed_enc false lr r1 (z := ((a % b : Nat) : Int)) (by rw [vr]; rfl)
  refine ⟨_, _, h1, _, _, up gq, _, _, up gr, ?_⟩
  have hrf : decide (((a % b : Nat) : Int) < 0) = false := decide_eq_false (by omega)
  have e1 : x / y = ((a / b : Nat) : Int) ∧ x % y = ((a % b : Nat) : Int) := by rw [hxa, hb]; exact ⟨rfl, rfl⟩
  refine brd (fun h => brb (fun h2 => ?_) (fun h2 => ?_)) (fun h => ?_)
  ·rw [hrf] at h2; simp at h2
  ·rw [e1.1, e1.2]; rfl
  ·rw [e1.1, e1.2]; rfl
end Eng
end
