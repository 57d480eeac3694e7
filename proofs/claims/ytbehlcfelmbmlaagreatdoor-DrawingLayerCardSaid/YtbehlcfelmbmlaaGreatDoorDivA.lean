/- The long division. -/
import Derived.Test.YtbehlcfelmbmlaaGreatDoorDivV
import Derived.Test.YtbehlcfelmbmlaaGreatDoorIntA
import Derived.Test.YtbehlcfelmbmlaaGreatDoorCtxB
section
namespace Eng
open Go Go.Proofs
set_option maxRecDepth 100000
theorem intsD_raw (l : List Nat) : intsD (raw l) = ints l := by simp [intsD, raw, ints, intD]
theorem ofInts_ints (l : List Nat) : ofInts (ints l) = raw l := by simp [ofInts, raw, ints]
theorem intsB_raw : ∀ (l : List Nat), intsB (raw l) = true
 | [] => rfl
 | x :: l => by
  have := intsB_raw l
  simp only [raw, List.map_cons, intsB] at this ⊢
  rw [this]; rfl
theorem raw_ne {l : List Nat} (h : l ≠ []) : raw l ≠ [] := by
 intro e; apply h; exact List.map_eq_nil_iff.1 e
def I0v (n m V U0 : Nat) : List D → List D → Prop := fun _ ds => ∃ (kk : Nat) (ul ql : List Nat), ds = [.sl (raw ul), .sl (raw ql), .int .i64 ((kk : Int) - 1)] ∧ DInv n m V U0 kk ul ql
def M0v : List D → Nat := fun ds => (toI (nth .undef ds 2) + 1).toNat
def midV (es : List (List D)) (k n : Nat) : Nat := valD ((es.drop k).take (n + 1))
def I1v (n v1 V : Nat) : List D → List D → Prop := fun gs ds => ∃ (top k : Nat) (es : List (List D)) (g r : Nat), gs = [.int .u64 (top : Int), .int .i64 (k : Int), .sl es] ∧ ds = [.int .u64 (g : Int), .int .u64 (r : Int)] ∧ top = g * v1 + r ∧ midV es k n / V ≤ g ∧ g ≤ 1000000001 ∧ r < 1000000000
def M1v : List D → Nat := fun ds => (toI (nth .undef ds 0)).toNat
theorem midV_raw (ul : List Nat) (k n : Nat) : midV (raw ul) k n = val ((ul.drop k).take (n + 1)) := by
 unfold midV; rw [raw_drop, raw_take, valD_raw]
theorem after_ok {n m V U0 k g : Nat} {bl ul ql vl : List Nat} (hn : 2 ≤ n) (hb : bl.length = n) (hv : vl.length = n) (lv : Limbs vl) (vV : val vl = V) (hD : DInv n m V U0 (k + 1) ul ql) (hm : n + m ≤ 1000000) (hV0 : 0 < V)
 (hq : val ((ul.drop k).take (n + 1)) / V ≤ g) (hg : g ≤ 1000000000) (hgV : g * V ≤ val ((ul.drop k).take (n + 1)) + V) : AfterV (I0v n m V U0) M0v (raw bl) (raw vl) (raw ul) (raw ql) (k : Int) (g : Int) := by
 have hk := hD.hk
 have lu := hD.lu
 have lq := hD.lq
 have hVn : V < 1000000000 ^ n := by have := val_lt lv; rw [hv, vV] at this; exact this
 obtain ⟨hlt, hnext⟩ := hD.mid hVn hV0
 have l1 : (ul.take k).length = k := by rw [List.length_take]; omega
 have l2 : ((ul.drop k).take (n + 1)).length = n + 1 := by rw [List.length_take, List.length_drop]; omega
 have Lm : Limbs ((ul.drop k).take (n + 1)) := (hD.Lu.drop k).take _
 have hdv : val ((ul.drop k).take (n + 1)) / V < 1000000000 := by
  rw [Nat.div_lt_iff_lt_mul hV0, Nat.mul_comm]; exact hlt
 obtain ⟨r, c, b, hs, Lr, lr, hcase⟩ := sub_round (us := (ul.drop k).take (n + 1)) (vs := vl) (V := V) (g := g) Lm lv (by omega) vV hV0
  (by rw [l2]; exact Nat.le_trans (Nat.le_of_lt hVn) (Nat.pow_le_pow_right (by omega) (by omega))) hq hg hgV
 rw [l2] at lr
 have hne : vl ≠ [] := by intro e; rw [e] at hv; simp at hv; omega
 have w1 : IntKind.wrap .i64 (IntKind.wrap .i64 ((k : Int) + (n : Int)) + 1) = ((k + n + 1 : Nat) : Int) := by
  rw [i64w (n := (k : Int) + (n : Int)) (by omega) (by omega), i64w (by omega) (by omega)]; omega
 have w2 : IntKind.wrap .i64 ((k : Int) - 1) = (k : Int) - 1 := i64w (by omega) (by omega)
 unfold AfterV
 simp only [Int.ofNat_eq_natCast, raw_length, hb, w1, Int.toNat_natCast]
 rw [show k + n + 1 - k = n + 1 by omega, raw_drop, raw_take, intsD_raw, intsD_raw, hs]
 simp only
 rw [ofInts_ints]
 rw [raw_drop, raw_take, ← raw_append, ← raw_append]
 have l3 : (ul.take k ++ r ++ ul.drop (k + (n + 1))).length = n + m := by
  rw [List.length_append, List.length_append, l1, lr, List.length_drop]; omega
 refine ⟨⟨by omega, by omega, by omega⟩, ⟨⟨raw_ne hne, intsB_raw _, by rw [hv]; omega⟩, by omega, intsB_raw _⟩, brb (fun h => ?_) (fun h => ?_)⟩
 ·have hcb : c ≠ 0 ∨ b ≠ 0 := by
   rw [Bool.or_eq_true, decide_eq_true_eq, decide_eq_true_eq] at h
   omega
  rcases hcase with ⟨e1, e2, _, _⟩ | ⟨_, hg1, r2, h2, Lr2, lr2, vr2⟩
  ·omega
  rw [l2] at lr2
  have e3 : (ul.take k ++ r ++ ul.drop (k + (n + 1))).take k = ul.take k := by
   rw [List.append_assoc, List.take_append_of_le_length (by omega), List.take_take, Nat.min_self]
  have e4 : ((ul.take k ++ r ++ ul.drop (k + (n + 1))).drop k).take (n + 1) = r := by
   rw [List.append_assoc, List.drop_append_of_le_length (by omega), List.drop_eq_nil_of_le (by omega), List.nil_append, List.take_append_of_le_length (by omega), List.take_of_length_le (by omega)]
  have e5 : (ul.take k ++ r ++ ul.drop (k + (n + 1))).drop (k + (n + 1)) = ul.drop (k + (n + 1)) := by
   rw [List.drop_append_of_le_length (by simp [l1, lr])]
   rw [List.drop_eq_nil_of_le (by simp [l1, lr]), List.nil_append]
  rw [raw_drop, raw_take, intsD_raw, e4, h2, ofInts_ints, raw_take, e3, raw_drop, e5, ← raw_append, ← raw_append]
  have w3 : IntKind.wrap .u32 (IntKind.wrap .u64 ((g : Int) - 1)) = ((val ((ul.drop k).take (n + 1)) / V : Nat) : Int) := by
   have hg1' : 1 ≤ g := by rw [hg1]; exact Nat.le_add_left 1 _
   have hg2 : g - 1 = val ((ul.drop k).take (n + 1)) / V := by rw [hg1]; exact Nat.add_sub_cancel ..
   rw [← hg2, u64w (by omega) (by omega), u32w (by omega) (by omega)]; omega
  rw [w3, upd_raw (by omega), raw_length, l3, w2]
  refine ⟨⟨by omega, by omega, by omega⟩, ⟨⟨raw_ne hne, intsB_raw _, by rw [hv]; omega⟩, by omega, intsB_raw _⟩, ⟨by omega, by omega⟩, by omega, ⟨k, _, _, rfl, hnext r2 Lr2 lr2 vr2⟩, ?_⟩
  simp only [M0v, nth, toI]; omega
 ·have hcb : c = 0 ∧ b = 0 := by
   rw [Bool.or_eq_false_iff, decide_eq_false_iff_not, decide_eq_false_iff_not] at h
   omega
  rcases hcase with ⟨_, _, hg1, vr⟩ | ⟨e1, _⟩
  ·have w3 : IntKind.wrap .u32 (g : Int) = ((val ((ul.drop k).take (n + 1)) / V : Nat) : Int) := by
    rw [u32w (by omega) (by omega)]; omega
   rw [w3, upd_raw (by omega), w2]
   refine ⟨⟨by omega, by omega⟩, by omega, ⟨k, _, _, rfl, hnext r Lr lr vr⟩, ?_⟩
   simp only [M0v, nth, toI]; omega
  ·omega
theorem chk_raw {a b : List Nat} (ha : Limbs a) (hb : Limbs b) (h1 : a.length ≤ 536870912) (h2 : b.length ≤ 536870912) (h3 : 0 < a.length + b.length) : timesChk [.c (.sl (raw a)), .c (.sl (raw b))] = true := by
 simp only [timesChk, limbsD_raw ha, limbsD_raw hb, raw_length, Bool.true_and, Bool.and_eq_true, Nat.ble_eq, Nat.blt_eq]
 exact ⟨h1, h2, h3⟩
theorem mk_raw (a b : List Nat) : timesMk [.c (.sl (raw a)), .c (.sl (raw b))] = raw (pad (a.length + b.length) (val a * val b)) := by
 simp only [timesMk, raw_length, valD_raw]
theorem getD_mid {ul : List Nat} {k n i : Nat} (hi : i ≤ n) : ((ul.drop k).take (n + 1)).getD i 0 = ul.getD (k + i) 0 := by
 simp only [List.getD, List.getElem?_take, List.getElem?_drop]
 rw [if_pos (by omega)]
def annD (I0 : List D → List D → Prop) (M0 : List D → Nat) (I1 : List D → List D → Prop) (M1 : List D → Nat) : Nat → Ann :=
 ann2 ⟨[.own 8 180 1, .own 10 181 1, .slot 11 (.int .i64 0)], [], I0, M0⟩ ⟨[.slot 13 (.int .u64 0), .slot 14 (.int .u64 0)], [.slot 12 (.int .u64 0), .slot 11 (.int .i64 0), .own 8 180 1], I1, M1⟩
theorem div_small {a b al : List Nat} {d : Nat} (ta : Gives CC 307 [.c (.sl (raw a))] [.c (.sl (raw al))]) (tb : Gives CC 307 [.c (.sl (raw b))] [.c (.sl (raw [d]))]) (lA : Limbs al) (ra : al.length ≤ 1000) (hd0 : 0 < d) (hd1 : d < 1000000000) :
 Gives CC 233 [.c (.sl (raw a)), .c (.sl (raw b))] [.c (.sl (raw (pad al.length (val al / d)))), .c (.sl (raw [val al % d]))] := by
 refine wpF_ok (anns := annD (fun _ _ => True) (fun _ => 0) (fun _ _ => True) (fun _ => 0)) mixedT Tryz.func233 ?_
 show wpF (CM timesChk timesMk) _ _ _ _ _
 unfold annD
 rw [vc_divide]
 refine ⟨_, ta, _, tb, brb (fun _ => ?_) (fun h => ?_)⟩
 ·exact ⟨⟨by omega, by simp [raw], rfl⟩, _, cut_raw (l := [d]) (i := 0) (by simp), _, _, up (ibyWord_ok lA hd0 hd1 (by omega)), rfl⟩
 ·simp [raw] at h
theorem div_less {a b al bl : List Nat} (ta : Gives CC 307 [.c (.sl (raw a))] [.c (.sl (raw al))]) (tb : Gives CC 307 [.c (.sl (raw b))] [.c (.sl (raw bl))]) (lA : Limbs al) (lB : Limbs bl) (ra : al.length ≤ 1000) (rb : bl.length ≤ 1000) (hn : 2 ≤ bl.length) (hlt : val al < val bl) :
 Gives CC 233 [.c (.sl (raw a)), .c (.sl (raw b))] [.c (.sl (raw [])), .c (.sl (raw al))] := by
 refine wpF_ok (anns := annD (fun _ _ => True) (fun _ => 0) (fun _ _ => True) (fun _ => 0)) mixedT Tryz.func233 ?_
 show wpF (CM timesChk timesMk) _ _ _ _ _
 unfold annD
 rw [vc_divide]
 refine ⟨_, ta, _, tb, brb (fun h => ?_) (fun h => ?_)⟩
 ·rw [raw_length] at h
  simp only [Int.ofNat_eq_natCast, beq_iff_eq] at h
  omega
 ·refine ⟨_, up (icompare_ok lA lB (by omega) (by omega)), brd (fun h2 => ?_) (fun h2 => ?_)⟩
  ·exact ⟨⟨by rw [raw_length]; unfold room; omega, lens_raw _⟩, rfl⟩
  ·rw [cmpN, if_pos hlt] at h2; omega
set_option maxHeartbeats 2000000 in
theorem div_great {a b al bl : List Nat} (ta : Gives CC 307 [.c (.sl (raw a))] [.c (.sl (raw al))]) (tb : Gives CC 307 [.c (.sl (raw b))] [.c (.sl (raw bl))]) (lA : Limbs al) (lB : Limbs bl) (ra : al.length ≤ 1000) (rb : bl.length ≤ 1000)
 (vA : val al = val a) (vB : val bl = val b) (zB : bl.getLast? ≠ some 0) {p : Nat} (hn : bl.length = p + 2) (hle : val bl ≤ val al) :
 ∃ q r, Gives CC 233 [.c (.sl (raw a)), .c (.sl (raw b))] [.c (.sl (raw q)), .c (.sl (raw r))] ∧ Limbs q ∧ Limbs r ∧ val q = val a / val b ∧ val r = val a % val b ∧ q.length ≤ 1073741824 ∧ r.length ≤ 1073741824 := by
 have hBn : bl ≠ [] := by intro e; rw [e] at hn; simp at hn
 have hdl : p + 1 < bl.length := by omega
 obtain ⟨d, hdg⟩ : ∃ d, bl[p + 1] = d := ⟨_, rfl⟩
 have hd0 : 0 < d := by
  rcases Nat.eq_zero_or_pos d with h0 | h0
  ·exfalso; apply zB
   rw [List.getLast?_eq_getElem?, hn, show p + 2 - 1 = p + 1 by omega, List.getElem?_eq_getElem hdl, hdg, h0]
  ·exact h0
 have hd1 : d < 1000000000 := hdg ▸ lB.get hdl
 obtain ⟨s, hs⟩ : ∃ s, s = 1000000000 / (d + 1) := ⟨_, rfl⟩
 obtain ⟨hs1, hs2, hs3⟩ := scale_half hd0 hd1 hs
 have hsB : s < 1000000000 := by
  have : s * 2 ≤ s * (d + 1) := Nat.mul_le_mul_left _ (by omega)
  omega
 obtain ⟨B, hB⟩ : ∃ B, val b = B := ⟨_, rfl⟩
 obtain ⟨A, hA⟩ : ∃ A, val a = A := ⟨_, rfl⟩
 rw [hA] at vA ⊢
 rw [hB] at vB ⊢
 rw [vA, vB] at hle
 -- the scaled divisor
 obtain ⟨V, hV⟩ : ∃ V, V = B * s := ⟨_, rfl⟩
 have hdec : B = val (bl.take (p + 1)) + 1000000000 ^ (p + 1) * d := by
  rw [← vB, ← hdg, ← getD_get hdl, ← val_take_succ, List.take_of_length_le (by omega)]
 have hlo : val (bl.take (p + 1)) < 1000000000 ^ (p + 1) := by
  have := val_lt (lB.take (p + 1))
  rw [List.length_take, hn, Nat.min_eq_left (by omega)] at this
  exact this
 obtain ⟨P1, hP1⟩ : ∃ P1, 1000000000 ^ (p + 1) = P1 := ⟨_, rfl⟩
 have hP2 : 1000000000 ^ (p + 2) = P1 * 1000000000 := by rw [← hP1]; exact Nat.pow_succ ..
 rw [hP1] at hdec hlo
 have hP0 : 0 < P1 := by rw [← hP1]; exact Nat.pow_pos (by omega)
 have hVlt : V < P1 * 1000000000 := by
  have h1 : B < P1 * (d + 1) := by rw [Nat.mul_add, Nat.mul_one]; omega
  have h2 : B * s < P1 * (d + 1) * s := Nat.mul_lt_mul_of_pos_right h1 (by omega)
  have h3 : P1 * (d + 1) * s = P1 * (s * (d + 1)) := by rw [Nat.mul_assoc, Nat.mul_comm (d + 1) s]
  have h4 : P1 * (s * (d + 1)) ≤ P1 * 1000000000 := Nat.mul_le_mul_left _ hs3
  omega
 have hVge : 500000000 * P1 ≤ V := by
  have h1 : P1 * d * s ≤ B * s := Nat.mul_le_mul_right s (by omega)
  have h2 : P1 * d * s = d * s * P1 := by rw [Nat.mul_assoc, Nat.mul_comm]
  have h3 : 500000000 * P1 ≤ d * s * P1 := Nat.mul_le_mul_right P1 hs1
  omega
 have hV0 : 0 < V := by omega
 obtain ⟨vl, hvl⟩ : ∃ vl, lim V = vl := ⟨_, rfl⟩
 have Lv : Limbs vl := hvl ▸ lim_limbs _
 have vV : val vl = V := hvl ▸ lim_val _
 have lv : vl.length = p + 2 := by
  have h1 : (lim V).length ≤ p + 2 := lim_length_le (by rw [hP2]; exact hVlt)
  have h2 : p + 1 < (lim V).length := lim_length_of_le (by rw [hP1]; omega)
  rw [hvl] at h1 h2
  omega
 obtain ⟨v1, hv1⟩ : ∃ v1, vl[p + 1] = v1 := ⟨_, rfl⟩
 obtain ⟨v2, hv2⟩ : ∃ v2, vl[p] = v2 := ⟨_, rfl⟩
 have hv1B : v1 < 1000000000 := hv1 ▸ Lv.get _
 have hv2B : v2 < 1000000000 := hv2 ▸ Lv.get _
 have hVd := val2 (v := vl) (p := p)
 rw [List.take_of_length_le (by omega), getD_get (by omega), getD_get (by omega), hv1, hv2, vV] at hVd
 have hvlo : val (vl.take p) < 1000000000 ^ p := by
  have := val_lt (Lv.take p)
  rw [List.length_take, lv, Nat.min_eq_left (by omega)] at this
  exact this
 have hVd1 : V = val (vl.take (p + 1)) + P1 * v1 := by
  rw [← hP1, ← hv1, ← getD_get, ← val_take_succ, List.take_of_length_le (by omega), vV]
 have hvlo1 : val (vl.take (p + 1)) < P1 := by
  have := val_lt (Lv.take (p + 1))
  rw [List.length_take, lv, Nat.min_eq_left (by omega), hP1] at this
  exact this
 have hVa : V < (v1 + 1) * P1 := by rw [Nat.mul_comm, Nat.mul_add]; omega
 have hVb : v1 * P1 ≤ V := by rw [Nat.mul_comm]; omega
 have hv1h : 500000000 ≤ v1 := by
  apply Nat.le_of_lt_succ
  exact Nat.lt_of_mul_lt_mul_right (a := P1) (Nat.lt_of_le_of_lt hVge hVa)
 -- the scaled dividend
 have hal : p + 2 ≤ al.length := by
  apply Nat.le_of_not_lt; intro h
  have := len_lt lA zB hBn (by omega)
  omega
 obtain ⟨m, hm⟩ : ∃ m, al.length = p + m := ⟨al.length - p, by omega⟩
 have hAlt : A * s < 1000000000 ^ (al.length + 1) := by
  have h1 := val_lt lA
  rw [vA] at h1
  have h2 : A * s ≤ A * 1000000000 := Nat.mul_le_mul_left _ (by omega)
  have h3 : A * 1000000000 < 1000000000 ^ al.length * 1000000000 := Nat.mul_lt_mul_of_pos_right h1 (by omega)
  rw [Nat.pow_succ]
  omega
 obtain ⟨ul0, hul0⟩ : ∃ ul0, pad (al.length + 1) (A * s) ++ [0] = ul0 := ⟨_, rfl⟩
 have lul0 : ul0.length = al.length + 2 := by rw [← hul0]; simp [pad_length]
 have hinit : DInv (p + 2) m V (A * s) m ul0 (List.replicate m 0) := by
  have hvu : val ul0 = A * s := by
   rw [← hul0, val_append, pad_val, Nat.mod_eq_of_lt hAlt, show val [0] = 0 from rfl, Nat.mul_zero, Nat.add_zero]
  refine ⟨Nat.le_refl _, by omega, List.length_replicate, ?_, ?_, ?_, ?_⟩
  ·rw [← hul0]; exact (pad_limbs _ _).append (Limbs.cons (by omega) Limbs.nil)
  ·intro x hx; rw [List.eq_of_mem_replicate hx]; omega
  ·rw [hvu]
   have h1 : P1 * 1000000000 ^ m ≤ V * 1000000000 ^ m := Nat.mul_le_mul_right _ (by omega)
   have h2 : P1 * 1000000000 ^ m = 1000000000 ^ (al.length + 1) := by
    rw [← hP1, ← Nat.pow_add, show p + 1 + m = al.length + 1 by omega]
   omega
  ·rw [List.drop_eq_nil_of_le (by simp), hvu]; simp [val]
 have hsc : IntKind.wrap .u32 (IntKind.wrap .u64 (Int.tdiv 1000000000 (IntKind.wrap .u64 (IntKind.wrap .u64 (d : Int) + 1)))) = (s : Int) := by
  have e : Int.tdiv 1000000000 ((d : Int) + 1) = (s : Int) := by
   rw [hs, Int.tdiv_eq_ediv_of_nonneg (by omega), Int.natCast_ediv]
   have e2 : ((d + 1 : Nat) : Int) = (d : Int) + 1 := Int.natCast_add d 1
   rw [e2]
   exact congrArg (· / ((d : Int) + 1)) (show (1000000000 : Int) = ((1000000000 : Nat) : Int) from rfl)
  rw [u64w (n := (d : Int)) (by omega) (by omega), u64w (n := (d : Int) + 1) (by omega) (by omega), e, u64w (by omega) (by omega), u32w (by omega) (by omega)]
 have mkA : timesMk [.c (.sl (raw al)), .c (.sl [[.int .u32 (s : Int)]])] = raw (pad (al.length + 1) (A * s)) := (mk_raw al [s]).trans (by rw [vA]; simp [val])
 have mkB : timesMk [.c (.sl (raw bl)), .c (.sl [[.int .u32 (s : Int)]])] = raw (pad (p + 3) V) := (mk_raw bl [s]).trans (by rw [vB, hV, hn]; simp [val])
 have Ls : Limbs [s] := Limbs.cons hsB Limbs.nil
 have chkA : timesChk [.c (.sl (raw al)), .c (.sl [[.int .u32 (s : Int)]])] = true := chk_raw lA Ls (by omega) (by simp) (by simp)
 have chkB : timesChk [.c (.sl (raw bl)), .c (.sl [[.int .u32 (s : Int)]])] = true := chk_raw lB Ls (by omega) (by simp) (by simp)
 have tv : Gives CC 307 [.c (.sl (raw (pad (p + 3) V)))] [.c (.sl (raw vl))] := by
  have := up (itrim_ok (pad_limbs (p + 3) V) (by rw [pad_length]; omega))
  rw [pad_val, Nat.mod_eq_of_lt (show V < 1000000000 ^ (p + 3) from Nat.lt_of_lt_of_le hVlt (by rw [← hP2]; exact Nat.pow_le_pow_right (by omega) (by omega))), hvl] at this
  exact this
 have eU : raw (pad (al.length + 1) (A * s)) ++ [[D.int .u32 (0 : Int)]] = raw ul0 := by rw [← hul0, raw_append]; rfl
 have hdiv : A * s / V = A / B := by rw [hV]; exact Nat.mul_div_mul_right _ _ (by omega)
 have hmod : A * s % V = A % B * s := by rw [hV]; exact Nat.mul_mod_mul_right _ _ _
 refine ⟨pad m (A / B), pad (lim (A % B * s)).length (A % B), wpF_ok (anns := annD (I0v (p + 2) m V (A * s)) M0v (I1v (p + 2) v1 V) M1v) mixedT Tryz.func233 ?_, pad_limbs _ _, pad_limbs _ _, ?_, ?_, by rw [pad_length]; omega, ?_⟩
 ·show wpF (CM timesChk timesMk) _ _ _ _ _
  unfold annD
  rw [vc_divide]
  refine ⟨_, ta, _, tb, ?_⟩
  have wn1 : IntKind.wrap .i64 (((p + 2 : Nat) : Int) - 1) = ((p + 1 : Nat) : Int) := by rw [i64w (by omega) (by omega)]; omega
  have wn2 : IntKind.wrap .i64 (((p + 2 : Nat) : Int) - 2) = (p : Int) := by rw [i64w (by omega) (by omega)]; omega
  simp only [Int.ofNat_eq_natCast, raw_length, hn, wn1, wn2, Int.toNat_natCast]
  refine brb (fun h => ?_) (fun _ => ⟨_, up (icompare_ok lA lB (by omega) (by omega)), brd (fun h2 => ?_) (fun _ => ?_)⟩)
  ·simp only [beq_iff_eq] at h; omega
  ·rw [cmpN, vA, vB, if_neg (by omega)] at h2
   split at h2 <;> omega
  refine ⟨⟨by omega, by omega, raw_len1 hdl⟩, _, cut_raw hdl, ?_⟩
  rw [hdg]
  simp only [hsc, mkA, mkB, eU, raw_length, lul0]
  have wm : IntKind.wrap .i64 (((al.length + 2 : Nat) : Int) - ((p + 2 : Nat) : Int)) = (m : Int) := by rw [i64w (by omega) (by omega)]; omega
  have wm1 : IntKind.wrap .i64 ((m : Int) - 1) = (m : Int) - 1 := i64w (by omega) (by omega)
  simp only [wm, wm1, Int.toNat_natCast, pad_length]
  refine ⟨?_, chkA, ⟨by unfold room; omega, lens_raw [0]⟩, chkB, _, tv, ⟨by omega, by omega, by unfold room; omega⟩, ⟨m, ul0, List.replicate m 0, by rw [raw_replicate], hinit⟩, ?_⟩
  ·rw [u64w (n := (d : Int)) (by omega) (by omega), u64w (by omega) (by omega)]; omega
  rintro es_3 es_4 n_1 ⟨kk, ul, ql, he, hD⟩
  simp only [List.cons.injEq, D.sl.injEq, D.int.injEq, true_and, and_true] at he
  obtain ⟨rfl, rfl, rfl⟩ := he
  have hlu := hD.lu
  have hkm := hD.hk
  refine brd (fun h => ?_) (fun h => ?_)
  ·obtain ⟨k, rfl⟩ : ∃ k, kk = k + 1 := ⟨kk - 1, by omega⟩
   rw [show ((k + 1 : Nat) : Int) - 1 = (k : Int) by omega]
   have W0 : IntKind.wrap .i64 ((k : Int) + ((p + 2 : Nat) : Int)) = ((k + p + 2 : Nat) : Int) := by rw [i64w (by omega) (by omega)]; omega
   have W1 : IntKind.wrap .i64 (((k + p + 2 : Nat) : Int) - 1) = ((k + p + 1 : Nat) : Int) := by rw [i64w (by omega) (by omega)]; omega
   have W2 : IntKind.wrap .i64 (((k + p + 2 : Nat) : Int) - 2) = ((k + p : Nat) : Int) := by rw [i64w (by omega) (by omega)]; omega
   simp only [W0, W1, W2, Int.toNat_natCast, raw_length, hlu, lv]
   have hVn : V < 1000000000 ^ (p + 2) := by rw [hP2]; exact hVlt
   obtain ⟨hUlt, _⟩ := hD.mid hVn hV0
   have hlm : ((ul.drop k).take (p + 2 + 1)).length = p + 3 := by rw [List.length_take, List.length_drop]; omega
   have Lm : Limbs ((ul.drop k).take (p + 2 + 1)) := (hD.Lu.drop k).take _
   obtain ⟨t3, ht3⟩ : ∃ t, ul[k + p + 2] = t := ⟨_, rfl⟩
   obtain ⟨t2, ht2⟩ : ∃ t, ul[k + p + 1] = t := ⟨_, rfl⟩
   obtain ⟨t0, ht0⟩ : ∃ t, ul[k + p] = t := ⟨_, rfl⟩
   have ht3B : t3 < 1000000000 := ht3 ▸ hD.Lu.get _
   have ht2B : t2 < 1000000000 := ht2 ▸ hD.Lu.get _
   have ht0B : t0 < 1000000000 := ht0 ▸ hD.Lu.get _
   obtain ⟨U, hU⟩ : ∃ U, val ((ul.drop k).take (p + 2 + 1)) = U := ⟨_, rfl⟩
   rw [hU] at hUlt
   have hUd := val3 (u := (ul.drop k).take (p + 2 + 1)) (p := p)
   rw [List.take_of_length_le (by omega), getD_mid (by omega), getD_mid (by omega), getD_mid (by omega), getD_get (by omega), getD_get (by omega), getD_get (by omega)] at hUd
   simp only [← Nat.add_assoc, ht3, ht2, ht0] at hUd
   rw [hU] at hUd
   have hUlo : val (((ul.drop k).take (p + 2 + 1)).take p) < 1000000000 ^ p := by
    have := val_lt (Lm.take p)
    rw [List.length_take, hlm, Nat.min_eq_left (by omega)] at this
    exact this
   obtain ⟨top, htop⟩ : ∃ top, t3 * 1000000000 + t2 = top := ⟨_, rfl⟩
   have hUd1 : U = (t3 * 1000000000 + t2) * P1 + (t0 * 1000000000 ^ p + val (((ul.drop k).take (p + 2 + 1)).take p)) := by
    rw [hUd, ← hP1, Nat.pow_succ]; grind
   have hUlo1 : t0 * 1000000000 ^ p + val (((ul.drop k).take (p + 2 + 1)).take p) < P1 := by
    have : (t0 + 1) * 1000000000 ^ p ≤ 1000000000 * 1000000000 ^ p := Nat.mul_le_mul_right _ (by omega)
    rw [Nat.add_mul, Nat.one_mul] at this
    rw [← hP1, Nat.pow_succ]
    omega
   obtain ⟨hg1, hg2, hg3⟩ := guess_first hVa hVb hv1h hUd1 hUlo1 ht2B hUlt hV0
   rw [htop] at hg1 hg2 hUd
   have wtop : IntKind.wrap .u64 (IntKind.wrap .u64 (IntKind.wrap .u64 (t3 : Int) * 1000000000) + IntKind.wrap .u64 (t2 : Int)) = (top : Int) := by
    rw [u64w (n := (t3 : Int)) (by omega) (by omega), u64w (n := (t3 : Int) * 1000000000) (by omega) (by omega), u64w (n := (t2 : Int)) (by omega) (by omega), u64w (by omega) (by omega)]
    omega
   have wv1 : IntKind.wrap .u64 (v1 : Int) = (v1 : Int) := u64w (by omega) (by omega)
   have wv2 : IntKind.wrap .u64 (v2 : Int) = (v2 : Int) := u64w (by omega) (by omega)
   have wt0 : IntKind.wrap .u64 (t0 : Int) = (t0 : Int) := u64w (by omega) (by omega)
   have hdm := Nat.div_add_mod top v1
   have hml := Nat.mod_lt top (show 0 < v1 by omega)
   have wdiv0 : Int.tdiv (top : Int) (v1 : Int) = ((top / v1 : Nat) : Int) := by rw [Int.tdiv_eq_ediv_of_nonneg (by omega)]; rfl
   have wmod : Int.tmod (top : Int) (v1 : Int) = ((top % v1 : Nat) : Int) := by rw [Int.tmod_eq_emod_of_nonneg (by omega)]; rfl
   obtain ⟨g0, hg0⟩ : ∃ g0, top / v1 = g0 := ⟨_, rfl⟩
   obtain ⟨r0, hr0⟩ : ∃ r0, top % v1 = r0 := ⟨_, rfl⟩
   rw [hg0] at hg1 hg2 hdm wdiv0
   rw [hr0] at hdm hml wmod
   have wdiv : IntKind.wrap .u64 (Int.tdiv (top : Int) (v1 : Int)) = (g0 : Int) := by
    rw [wdiv0, u64w (by omega) (by omega)]
   have hmv : midV (raw ul) k (p + 2) = U := by rw [midV_raw, hU]
   refine ⟨⟨by omega, by omega⟩, _, cut_raw (by omega), ⟨by omega, by omega⟩, _, cut_raw (by omega), ⟨by omega, by omega, raw_len1 (by omega)⟩, _, cut_raw (by omega), ?_⟩
   rw [ht3, ht2, hv1]
   refine ⟨by rw [wv1]; omega, ⟨by omega, by omega, raw_len1 (by omega)⟩, _, cut_raw (by omega), ?_⟩
   rw [hv1, wtop, wv1, wdiv, wmod]
   refine ⟨by omega, ⟨top, k, raw ul, g0, r0, rfl, rfl, by rw [Nat.mul_comm]; omega, by rw [hmv]; exact hg1, hg2, by omega⟩, ?_⟩
   rintro n_5 n_6 ⟨top', k', es', g, r, he1, he2, hgt, hqg, hgB, hrB⟩
   simp only [List.cons.injEq, D.int.injEq, D.sl.injEq, true_and, and_true] at he1 he2
   obtain ⟨e1, e2, rfl⟩ := he1
   obtain ⟨rfl, rfl⟩ := he2
   obtain rfl : top = top' := by omega
   obtain rfl : k = k' := by omega
   rw [hmv] at hqg
   have haft : ∀ g' r', top = g' * v1 + r' → U / V ≤ g' → g' ≤ 1000000000 → g' * v2 ≤ r' * 1000000000 + t0 → AfterV (I0v (p + 2) m V (A * s)) M0v (raw bl) (raw vl) (raw ul) (raw ql) (k : Int) (g' : Int) := fun g' r' h1 h2 h3 h4 =>
    after_ok (by omega) hn lv Lv vV hD (by omega) hV0 (by rw [hU]; exact h2) h3 (by rw [hU]; exact guess_fits hVd hUd hvlo h1 h4 h3 (by omega))
   have hdn : U / V < g → br (toB (D.bool (decide (IntKind.wrap .u64 ((r : Int) + (v1 : Int)) ≥ 1000000000))))
    (AfterV (I0v (p + 2) m V (A * s)) M0v (raw bl) (raw vl) (raw ul) (raw ql) (k : Int) (IntKind.wrap .u64 ((g : Int) - 1)))
    (I1v (p + 2) v1 V [.int .u64 (top : Int), .int .i64 (k : Int), .sl (raw ul)] [.int .u64 (IntKind.wrap .u64 ((g : Int) - 1)), .int .u64 (IntKind.wrap .u64 ((r : Int) + (v1 : Int)))] ∧
     M1v [.int .u64 (IntKind.wrap .u64 ((g : Int) - 1)), .int .u64 (IntKind.wrap .u64 ((r : Int) + (v1 : Int)))] < M1v [.int .u64 (g : Int), .int .u64 (r : Int)]) := by
    intro hlt
    have hgp : 1 ≤ g := Nat.lt_of_le_of_lt (Nat.zero_le _) hlt
    have wg : IntKind.wrap .u64 ((g : Int) - 1) = ((g - 1 : Nat) : Int) := by rw [u64w (by omega) (by omega)]; omega
    have wr : IntKind.wrap .u64 ((r : Int) + (v1 : Int)) = ((r + v1 : Nat) : Int) := by rw [u64w (by omega) (by omega)]; omega
    have htp : top = (g - 1) * v1 + (r + v1) := by
     have : g * v1 = (g - 1) * v1 + v1 := by
      conv => lhs; rw [show g = (g - 1) + 1 by omega]
      rw [Nat.add_mul, Nat.one_mul]
     omega
    rw [wg, wr]
    refine brd (fun h3 => ?_) (fun h3 => ?_)
    ·refine haft (g - 1) (r + v1) htp (Nat.le_sub_one_of_lt hlt) (by omega) ?_
     have h5 : (g - 1) * v2 ≤ 1000000000 * 1000000000 := Nat.mul_le_mul (by omega) (by omega)
     have h6 : 1000000000 * 1000000000 ≤ (r + v1) * 1000000000 := Nat.mul_le_mul_right _ (by omega)
     omega
    ·exact ⟨⟨top, k, raw ul, g - 1, r + v1, rfl, rfl, htp, by rw [hmv]; exact Nat.le_sub_one_of_lt hlt, by omega, by omega⟩, by simp only [M1v, nth, toI, Int.toNat_natCast]; omega⟩
   have hqB : U / V < 1000000000 := by rw [Nat.div_lt_iff_lt_mul hV0, Nat.mul_comm]; exact hUlt
   refine brd (fun h3 => ?_) (fun h3 => ?_)
   ·refine ⟨⟨by omega, by omega, raw_len1 (by omega)⟩, _, cut_raw (by omega), ?_⟩
    rw [hv1, wv1]
    exact hdn (by omega)
   ·refine ⟨⟨by omega, by omega, raw_len1 (by omega)⟩, _, cut_raw (by omega), ⟨by omega, by omega⟩, _, cut_raw (by omega), ?_⟩
    rw [hv2, ht0, wv2, wt0]
    have hgv : g * v2 ≤ 1000000000 * 1000000000 := Nat.mul_le_mul (by omega) (by omega)
    have wgv : IntKind.wrap .u64 ((g : Int) * (v2 : Int)) = ((g * v2 : Nat) : Int) := by
     have e : (g : Int) * (v2 : Int) = ((g * v2 : Nat) : Int) := (Int.natCast_mul ..).symm
     rw [e, u64w (by omega) (by omega)]
    have wrt : IntKind.wrap .u64 (IntKind.wrap .u64 ((r : Int) * 1000000000) + (t0 : Int)) = ((r * 1000000000 + t0 : Nat) : Int) := by
     rw [u64w (n := (r : Int) * 1000000000) (by omega) (by omega), u64w (by omega) (by omega)]; omega
    rw [wgv, wrt]
    refine brd (fun h4 => ?_) (fun h4 => ?_)
    ·refine ⟨⟨by omega, by omega, raw_len1 (by omega)⟩, _, cut_raw (by omega), ?_⟩
     rw [hv1, wv1]
     exact hdn (guess_more hVd hUd hUlo hgt (by omega) hV0)
    ·exact haft g r hgt hqg (by omega) (by omega)
  ·have hk0 : kk = 0 := by omega
   subst hk0
   have hlt := hD.hlt
   have heq := hD.heq
   simp only [Nat.pow_zero, Nat.mul_one, List.drop_zero] at hlt heq
   have hvu : val ul = A * s % V := by
    rw [heq, Nat.mul_comm, Nat.mul_add_mod, Nat.mod_eq_of_lt hlt]
   have hvq : val ql = A / B := by
    rw [← hdiv, heq, Nat.mul_comm, Nat.mul_add_div hV0, Nat.div_eq_of_lt hlt, Nat.add_zero]
   have htk : val (ul.take (p + 2)) = A % B * s := by
    rw [← hmod, ← hvu]
    have h1 : val ul = val (ul.take (p + 2)) + 1000000000 ^ (p + 2) * val (ul.drop (p + 2)) := by
     conv => lhs; rw [← List.take_append_drop (p + 2) ul]
     rw [val_append, List.length_take, Nat.min_eq_left (by omega)]
    rcases Nat.eq_zero_or_pos (val (ul.drop (p + 2))) with h0 | h0
    ·rw [h0] at h1; omega
    ·exfalso
     have h2 : 1000000000 ^ (p + 2) ≤ 1000000000 ^ (p + 2) * val (ul.drop (p + 2)) := Nat.le_mul_of_pos_right _ h0
     rw [hP2] at h2 h1
     omega
   have hlul : (lim (A % B * s)).length ≤ p + 2 := by
    rw [← hmod]
    refine lim_length_le ?_
    have := Nat.mod_lt (A * s) hV0
    rw [hP2]; omega
   have g1 := up (itrim_ok (hD.Lu.take (p + 2)) (by rw [List.length_take]; omega))
   rw [htk] at g1
   have g2 := up (ibyWord_ok (lim_limbs (A % B * s)) (d := s) (by omega) hsB (by omega))
   rw [lim_val, Nat.mul_div_cancel _ (show 0 < s by omega)] at g2
   simp only [List.drop_zero, raw_take, raw_length, hlu]
   refine ⟨⟨by omega, by omega, by omega, lens_raw _⟩, _, g1, _, _, g2, ?_⟩
   have : ql = pad m (A / B) := by
    refine val_inj hD.Lq (pad_limbs _ _) (by rw [pad_length]; exact hD.lq) ?_
    have h1 := val_lt hD.Lq
    rw [hD.lq, hvq] at h1
    rw [pad_val, Nat.mod_eq_of_lt h1, hvq]
   rw [this]
 ·rw [pad_val, Nat.mod_eq_of_lt]
  rw [← hdiv, Nat.div_lt_iff_lt_mul hV0]
  have h1 := hinit.hlt
  have h2 := hinit.heq
  rw [List.drop_eq_nil_of_le (by simp)] at h2
  simp only [val, Nat.zero_mul, Nat.zero_add] at h2
  rw [← h2] at h1
  rw [Nat.mul_comm (1000000000 ^ m)]
  exact h1
 ·rw [pad_val, Nat.mod_eq_of_lt]
  have h1 := val_lt (lim_limbs (A % B * s))
  rw [lim_val] at h1
  have : A % B * 1 ≤ A % B * s := Nat.mul_le_mul_left _ hs2
  omega
 ·rw [pad_length, ← hmod]
  have : (lim (A * s % V)).length ≤ p + 2 := by
   refine lim_length_le ?_
   have := Nat.mod_lt (A * s) hV0
   rw [hP2]; omega
  omega
theorem divOk : DivOk := by
 intro a b la lb hb0 ra rb
 have ta := up (itrim_ok la (by omega))
 have tb := up (itrim_ok lb (by omega))
 have nA : (lim (val a)).length ≤ a.length := lim_length_le (val_lt la)
 have nB : (lim (val b)).length ≤ b.length := lim_length_le (val_lt lb)
 have hBn : lim (val b) ≠ [] := by rw [ne_eq, lim_nil]; exact hb0
 have hpos : 0 < (lim (val b)).length := List.length_pos_iff.2 hBn
 by_cases h1 : (lim (val b)).length = 1
 ·obtain ⟨d, hd⟩ := List.length_eq_one_iff.1 h1
  have hv : val b = d := by rw [← lim_val (val b), hd]; simp [val]
  rw [hd] at tb
  have hd1 : d < 1000000000 := (lim_limbs (val b)) d (by rw [hd]; simp)
  refine ⟨_, _, div_small ta tb (lim_limbs _) (by omega) (by omega) hd1, pad_limbs _ _, Limbs.cons ?_ Limbs.nil, ?_, ?_, by rw [pad_length]; omega, by simp⟩
  ·have := Nat.mod_lt (val (lim (val a))) (show 0 < d by omega); omega
  ·rw [pad_val, lim_val, hv, Nat.mod_eq_of_lt]
   have h2 := val_lt (lim_limbs (val a))
   rw [lim_val] at h2
   exact Nat.lt_of_le_of_lt (Nat.div_le_self _ _) h2
  ·rw [lim_val, hv]; simp [val]
 ·by_cases h2 : val a < val b
  ·refine ⟨_, _, div_less ta tb (lim_limbs _) (lim_limbs _) (by omega) (by omega) (by omega) (by rw [lim_val, lim_val]; exact h2), Limbs.nil, lim_limbs _, ?_, ?_, by simp, by omega⟩
   ·rw [Nat.div_eq_of_lt h2]; rfl
   ·rw [Nat.mod_eq_of_lt h2, lim_val]
  ·exact div_great (p := (lim (val b)).length - 2) ta tb (lim_limbs _) (lim_limbs _) (by omega) (by omega) (lim_val _) (lim_val _) ((lim_last _).resolve_left hBn) (by omega) (by rw [lim_val, lim_val]; omega)
end Eng
end
