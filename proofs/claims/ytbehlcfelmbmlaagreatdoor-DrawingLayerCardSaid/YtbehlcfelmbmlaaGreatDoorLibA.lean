/- A part of the proof. -/
import Derived.Test.YtbehlcfelmbmlaaGreatDoorEngE
import Derived.Test.YtbehlcfelmbmlaaGreatDoorShfA
import Derived.Shelf.Strings.Builder1
import Derived.Test.YtbehlcfelmbmlaaGreatDoorProg
import Derived.WalkKit
import Derived.KernelRfl
import Derived.LoopTactic
import Derived.IntWalk
import Derived.Lib.ItoaMem
section
namespace Eng
open Go Go.Proofs Go.RowKit
theorem wpList_app {P : Program} {ops : Array Oper} {Q : Exit → Act → World → Prop} {a : Act} {w w' : World} {rest : List Oper} {dst : Option Tmp} {x y : Operand} {ts : Array TypeId} {ty : TypeId} {pos : String} {after : Array Edge} {v' : Value}
 (hr : (Builtin.append_ ts ty #[a.eval x, a.eval y]).run P w = .ok v' w') (h : wpList P ops Q rest (a.put dst v') w') : wpList P ops Q (⟨dst, .call ⟨.builtin .append, #[x, y], ts⟩, ty, pos, after, none⟩ :: rest) a w := by
 refine wpList_plain rfl fun K hK => ?_
 have hrun : (execOp a.eval ⟨dst, .call ⟨.builtin .append, #[x, y], ts⟩, ty, pos, after, none⟩).run P w = .ok (.value v') w' := by
  simp [execOp, resolve, invoke, builtin, hr]
 unfold Oper.wp
 rw [hrun]
 exact hK _ _ h
theorem size50 : (Tryz.prog.info? 76).map (·.size) = some 2 := by kernel_rfl
theorem lies50 : liesAt Tryz.prog Tryz.prog.depth 76 (2 / Tryz.prog.cellsOf 76) 0 76 1 = true := by kernel_rfl
set_option maxHeartbeats 1000000 in
set_option maxRecDepth 100000 in
theorem cc_used {w : World} {b : Nat} (h0 : w.cell? ⟨b, 0, none⟩ = some (.pointer (some ⟨b, 0, none⟩))) :
 Calls Tryz.prog 70 #[.pointer (some ⟨b, 0, none⟩)] w fun e w' => e = .returned (.tuple #[]) ∧ w' = w := by
 obtain ⟨j, hj, _⟩ := Option.map_eq_some_iff.1 size50
 go_enter Tryz.func70, Tryz.ntmps70
 go_wp2
 rw [Lib.run_neq_ptr_same w _ Tryz.underlying73 hj]
 go_wp2
 go_end0
 exact ⟨rfl, rfl⟩
set_option maxHeartbeats 1000000 in
set_option maxRecDepth 100000 in
theorem cc_fresh {w : World} {b : Nat} (h0 : w.cell? ⟨b, 0, none⟩ = some (.pointer none)) (hsh : w.shape? b = some (76, 2)) (hfz : w.frozen? ⟨b, 0, none⟩ = false) :
 Calls Tryz.prog 70 #[.pointer (some ⟨b, 0, none⟩)] w fun e w' => e = .returned (.tuple #[]) ∧ w' = w.setCell ⟨b, 0, none⟩ (.pointer (some ⟨b, 0, none⟩)) := by
 obtain ⟨j, hj, hjs⟩ := Option.map_eq_some_iff.1 size50
 go_enter Tryz.func70, Tryz.ntmps70
 go_wp2
 rw [Lib.run_to_unsafe w ⟨b, 0, none⟩ Tryz.underlying73 Tryz.underlying196 hj (by rw [hjs]; decide) hsh (Nat.zero_lt_succ 1)]
 simp only [Result.andThen]
 rw [Oper.upon_value]
 go_wp2
 rw [run_callFunc_extern Tryz.func130 (by kernel_rfl) (by kernel_rfl) (by kernel_rfl) (e := Extern.AbiNoEscape.same) (by kernel_rfl)]
 rw [Lib.run_noEscape]
 simp only [Result.andThen]
 rw [Oper.upon_value]
 go_wp2
 rw [Lib.run_from_unsafe w ⟨b, 0, none⟩ Tryz.underlying196 Tryz.underlying73 hj hsh lies50]
 simp only [Result.andThen]
 rw [Oper.upon_value]
 go_wp2
 go_end0
 exact ⟨rfl, rfl⟩
theorem cc_ok {w : World} {b : Nat} {p v : Value} (hb : w.heap[b]? = some (.cells #[p, v] 76 (0, 0))) (hp : p = .pointer none ∨ p = .pointer (some ⟨b, 0, none⟩)) :
 Calls Tryz.prog 70 #[.pointer (some ⟨b, 0, none⟩)] w fun e w' => e = .returned (.tuple #[]) ∧ w' = setBlk w b (.cells #[.pointer (some ⟨b, 0, none⟩), v] 76 (0, 0)) := by
 rcases hp with rfl | rfl
 ·have h0 : w.cell? ⟨b, 0, none⟩ = some (.pointer none) := by simp [World.cell?, hb]
  have hsh : w.shape? b = some (76, 2) := by simp [World.shape?, hb]
  have hfz : w.frozen? ⟨b, 0, none⟩ = false := Lib.frozen_of_heap hb 0
  refine (cc_fresh h0 hsh hfz).mono ?_
  rintro e w' ⟨rfl, rfl⟩
  refine ⟨rfl, ?_⟩
  exact setCell_blk hb
 ·have h0 : w.cell? ⟨b, 0, none⟩ = some (.pointer (some ⟨b, 0, none⟩)) := by simp [World.cell?, hb]
  refine (cc_used h0).mono ?_
  rintro e w' ⟨rfl, rfl⟩
  exact ⟨rfl, (setBlk_self hb).symm⟩
theorem info5 : (Tryz.prog.info? 5).map (fun i => (i.zero, i.size, i.bytes)) = some (some (.int .u8 0), 1, 1) := by kernel_rfl
set_option maxHeartbeats 1000000 in
set_option maxRecDepth 100000 in
theorem ws_ok {w : World} {b : Nat} {p v : Value} {own : Option (Nat × Nat)} {bs : List Value} (s : ByteArray) (hb : w.heap[b]? = some (.cells #[p, v] 76 (0, 0))) (hp : p = .pointer none ∨ p = .pointer (some ⟨b, 0, none⟩)) (hv : Buf 5 w b own v bs) (hroom : bs.length + s.size ≤ 1073741824) :
 Calls Tryz.prog 29 #[.pointer (some ⟨b, 0, none⟩), .string s] w fun e w' => e = .returned (.tuple #[.int .i64 s.size, .nilIface]) ∧ Wrote 76 5 w b own (bs ++ byteCells s) w' := by
 have hlt : b < w.heap.size := by
  rcases Nat.lt_or_ge b w.heap.size with h | h
  ·exact h
  ·rw [Array.getElem?_eq_none h] at hb; simp at hb
 have hne : ∀ g, hasBlk own g → g ≠ b := fun g hg => by
  obtain ⟨c, rfl⟩ := hg
  exact hv.2.1
 generalize hw1 : setBlk w b (.cells #[.pointer (some ⟨b, 0, none⟩), v] 76 (0, 0)) = w1 at *
 have hcc : Calls Tryz.prog 70 #[.pointer (some ⟨b, 0, none⟩)] w fun e w' => e = .returned (.tuple #[]) ∧ w' = w1 := by rw [← hw1]; exact cc_ok hb hp
 have hb1 : w1.heap[b]? = some (.cells #[.pointer (some ⟨b, 0, none⟩), v] 76 (0, 0)) := by rw [← hw1]; exact setBlk_at hlt
 have hs1 : w1.heap.size ≤ w.heap.size := by rw [← hw1]; exact Nat.le_of_eq setBlk_size
 have hs2 : w.heap.size ≤ w1.heap.size := by rw [← hw1]; exact Nat.le_of_eq setBlk_size.symm
 have hoth : ∀ k, k ≠ b → w1.heap[k]? = w.heap[k]? := fun k hk => by rw [← hw1]; exact setBlk_ne (Ne.symm hk)
 have hbel : Below 0 w w1 := ⟨by rw [← hw1]; rfl, by rw [← hw1]; rfl, by rw [← hw1]; rfl, by omega, fun k hk => by omega⟩
 have hv1 : Buf 5 w1 b own v bs := by
  cases own with
  | none => exact hv
  | some gc =>
   obtain ⟨g, c⟩ := gc
   obtain ⟨q1, q2, q3, q4, cs, t, q5, q6, q7⟩ := hv
   exact ⟨q1, q2, by omega, q4, cs, t, by rw [hoth g q2]; exact q5, q6, q7⟩
 clear hw1
 obtain ⟨i5, hi5, hi5z, hi5s, hi5b⟩ := info_parts info5
 obtain ⟨v', w2, own', hr, hbuf, hk, hsub⟩ := append_buf (P := Tryz.prog) (t := 74) (tx := 9) (e := 5) (ty := 74) Tryz.underlying74 hi5 hi5z hi5s rfl hi5b hv1 (by omega) (Src.ofString w1 Tryz.underlying9 s) hroom
 have hb2 : w2.heap[b]? = some (.cells #[.pointer (some ⟨b, 0, none⟩), v] 76 (0, 0)) := by rw [hk.block b (by omega) fun hg => hne b hg rfl]; exact hb1
 have c1 : w1.cell? ⟨b, 1, none⟩ = some v := by rw [Lib.cell_of_heap hb1]; rfl
 have f2 : w2.frozen? ⟨b, 1, none⟩ = false := Lib.frozen_of_heap hb2 1
 have d1 : w2.cell? ⟨b, 1, none⟩ = some v := by rw [Lib.cell_of_heap hb2]; rfl
 obtain ⟨ao, n', cap, rfl⟩ : ∃ ao n' cap, v' = .slice ao n' cap := by
  cases own' with
  | none => exact ⟨_, _, _, hbuf.1⟩
  | some gc => exact ⟨_, _, _, hbuf.1⟩
 go_enter Tryz.func29, Tryz.ntmps29
 go_wp2_with (first | (go_at_call 70; refine hcc.mono ?_; rintro e w1' ⟨rfl, rfl⟩) | (at_builtin; refine wpList_app hr ?_))
 go_ret2
 refine ⟨rfl, ?_⟩
 have hlt2 : b < w2.heap.size := Nat.lt_of_lt_of_le (by omega) hk.below.size
 have hset : w2.setCell ⟨b, 1, none⟩ (.slice ao n' cap) = setBlk w2 b (.cells #[.pointer (some ⟨b, 0, none⟩), .slice ao n' cap] 76 (0, 0)) := setCell_blk hb2
 rw [hset]
 have hsub' : ∀ g, hasBlk own' g → g ≠ b := fun g hg => by
  rcases hsub g hg with h | h
  ·exact hne g h
  ·omega
 refine ⟨_, own', setBlk_at hlt2, ?_, ⟨hbel.trans (hk.below.trans ⟨rfl, rfl, rfl, by rw [setBlk_size]; omega, fun k hk => by omega⟩), fun k hkk hn => ?_⟩, fun g hg => (hsub g hg).imp_right fun h => by omega⟩
 ·cases own' with
  | none => exact hbuf
  | some gc =>
   obtain ⟨g, c⟩ := gc
   obtain ⟨q1, q2, q3, q4, cs, t, q5, q6, q7⟩ := hbuf
   exact ⟨q1, q2, by rw [setBlk_size]; exact q3, q4, cs, t, by rw [setBlk_ne (Ne.symm q2)]; exact q5, q6, q7⟩
 ·have h1 : k ≠ b := fun e => hn (.inl e)
  rw [setBlk_ne (Ne.symm h1), hk.block k (by omega) fun h => hn (.inr h), hoth k h1]
set_option maxHeartbeats 1000000 in
set_option maxRecDepth 100000 in
theorem wb_ok {w : World} {b : Nat} {p v : Value} {own : Option (Nat × Nat)} {bs : List Value} (c : Int) (hb : w.heap[b]? = some (.cells #[p, v] 76 (0, 0))) (hp : p = .pointer none ∨ p = .pointer (some ⟨b, 0, none⟩)) (hv : Buf 5 w b own v bs) (hroom : bs.length + 1 ≤ 1073741824) :
 Calls Tryz.prog 158 #[.pointer (some ⟨b, 0, none⟩), .int .u8 c] w fun e w' => e = .returned .nilIface ∧ Wrote 76 5 w b own (bs ++ [.int .u8 c]) w' := by
 have hlt : b < w.heap.size := by
  rcases Nat.lt_or_ge b w.heap.size with h | h
  ·exact h
  ·rw [Array.getElem?_eq_none h] at hb; simp at hb
 have hne : ∀ g, hasBlk own g → g ≠ b := fun g hg => by
  obtain ⟨c, rfl⟩ := hg
  exact hv.2.1
 generalize hw1 : setBlk w b (.cells #[.pointer (some ⟨b, 0, none⟩), v] 76 (0, 0)) = w1 at *
 have hcc : Calls Tryz.prog 70 #[.pointer (some ⟨b, 0, none⟩)] w fun e w' => e = .returned (.tuple #[]) ∧ w' = w1 := by rw [← hw1]; exact cc_ok hb hp
 have hb1 : w1.heap[b]? = some (.cells #[.pointer (some ⟨b, 0, none⟩), v] 76 (0, 0)) := by rw [← hw1]; exact setBlk_at hlt
 have hs1 : w1.heap.size ≤ w.heap.size := by rw [← hw1]; exact Nat.le_of_eq setBlk_size
 have hs2 : w.heap.size ≤ w1.heap.size := by rw [← hw1]; exact Nat.le_of_eq setBlk_size.symm
 have hoth : ∀ k, k ≠ b → w1.heap[k]? = w.heap[k]? := fun k hk => by rw [← hw1]; exact setBlk_ne (Ne.symm hk)
 have hbel : Below 0 w w1 := ⟨by rw [← hw1]; rfl, by rw [← hw1]; rfl, by rw [← hw1]; rfl, by omega, fun k hk => by omega⟩
 have hv1 : Buf 5 w1 b own v bs := by
  cases own with
  | none => exact hv
  | some gc =>
   obtain ⟨g, c⟩ := gc
   obtain ⟨q1, q2, q3, q4, cs, t, q5, q6, q7⟩ := hv
   exact ⟨q1, q2, by omega, q4, cs, t, by rw [hoth g q2]; exact q5, q6, q7⟩
 clear hw1
 obtain ⟨i5, hi5, hi5z, hi5s, hi5b⟩ := info_parts info5
 generalize hwA : w1.alloc (.cells #[.int .u8 c] 5) = wA at *
 have hszA : wA.heap.size ≤ w1.heap.size + 1 := by rw [← hwA, World.size_alloc]; exact Nat.le_refl _
 have hszB : w1.heap.size + 1 ≤ wA.heap.size := by rw [← hwA, World.size_alloc]; exact Nat.le_refl _
 have hothA : ∀ k, k < w1.heap.size → wA.heap[k]? = w1.heap[k]? := fun k hk => by rw [← hwA]; exact Below.heap_alloc _ _ _ hk
 have hbelA : Below 0 w1 wA := by rw [← hwA]; exact (Below.refl 0 w1).alloc (Nat.zero_le _) _
 have hvA : Buf 5 wA b own v bs := by
  cases own with
  | none => exact hv1
  | some gc =>
   obtain ⟨g, c⟩ := gc
   obtain ⟨q1, q2, q3, q4, cs, t, q5, q6, q7⟩ := hv1
   exact ⟨q1, q2, by omega, q4, cs, t, by rw [hothA g q3]; exact q5, q6, q7⟩
 have hsrc : Src Tryz.prog 1 74 (.slice (some ⟨w1.heap.size, 0, none⟩) 1 1) 1 [.int .u8 c] wA := by
  refine Src.ofSlice wA (e' := 5) Tryz.underlying74 _ 1 1 _ rfl (fun j u hj => ?_) (fun u hu => by simp at hu; subst hu; rfl)
  match j, hj with
  | 0, hj =>
   simp at hj; subst hj
   have hbA : wA.heap[w1.heap.size]? = some (.cells #[.int .u8 c] 5 (0, 0)) := by rw [← hwA]; exact Array.getElem?_push_size
   rw [addr_add]
   show wA.cell? ⟨w1.heap.size, 0, none⟩ = _
   rw [cell_blk hbA]
   rfl
 obtain ⟨v', w2, own', hr, hbuf, hk, hsub⟩ := append_buf (P := Tryz.prog) (t := 74) (tx := 74) (e := 5) (ty := 74) Tryz.underlying74 hi5 hi5z hi5s rfl hi5b hvA (by omega) hsrc hroom
 subst hwA
 have hb2 : w2.heap[b]? = some (.cells #[.pointer (some ⟨b, 0, none⟩), v] 76 (0, 0)) := by rw [hk.block b (by omega) fun hg => hne b hg rfl, hothA b (by omega)]; exact hb1
 have c1 : w1.cell? ⟨b, 1, none⟩ = some v := by rw [Lib.cell_of_heap hb1]; rfl
 have f2 : w2.frozen? ⟨b, 1, none⟩ = false := Lib.frozen_of_heap hb2 1
 have d1 : w2.cell? ⟨b, 1, none⟩ = some v := by rw [Lib.cell_of_heap hb2]; rfl
 obtain ⟨ao, n', cap, rfl⟩ : ∃ ao n' cap, v' = .slice ao n' cap := by
  cases own' with
  | none => exact ⟨_, _, _, hbuf.1⟩
  | some gc => exact ⟨_, _, _, hbuf.1⟩
 go_enter Tryz.func158, Tryz.ntmps158
 go_wp2_with (first | (go_at_call 70; refine hcc.mono ?_; rintro e w1' ⟨rfl, rfl⟩) | (at_builtin; refine wpList_app hr ?_))
 go_ret
 refine ⟨rfl, ?_⟩
 have hlt2 : b < w2.heap.size := Nat.lt_of_lt_of_le (by omega) hk.below.size
 have hset : w2.setCell ⟨b, 1, none⟩ (.slice ao n' cap) = setBlk w2 b (.cells #[.pointer (some ⟨b, 0, none⟩), .slice ao n' cap] 76 (0, 0)) := setCell_blk hb2
 rw [hset]
 have hsub' : ∀ g, hasBlk own' g → g ≠ b := fun g hg => by
  rcases hsub g hg with h | h
  ·exact hne g h
  ·omega
 refine ⟨_, own', setBlk_at hlt2, ?_, ⟨hbel.trans (hbelA.trans (hk.below.trans ⟨rfl, rfl, rfl, by rw [setBlk_size]; omega, fun k hk => by omega⟩)), fun k hkk hn => ?_⟩, fun g hg => (hsub g hg).imp_right fun h => by omega⟩
 ·cases own' with
  | none => exact hbuf
  | some gc =>
   obtain ⟨g, c⟩ := gc
   obtain ⟨q1, q2, q3, q4, cs, t, q5, q6, q7⟩ := hbuf
   exact ⟨q1, q2, by rw [setBlk_size]; exact q3, q4, cs, t, by rw [setBlk_ne (Ne.symm q2)]; exact q5, q6, q7⟩
 ·have h1 : k ≠ b := fun e => hn (.inl e)
  rw [setBlk_ne (Ne.symm h1), hk.block k (by omega) fun h => hn (.inr h), hothA k (by omega), hoth k h1]
set_option maxHeartbeats 1000000 in
set_option maxRecDepth 100000 in
theorem st_ok {w : World} {b g c : Nat} {p v : Value} (l : List UInt8) (h0 : l ≠ []) (hb : w.heap[b]? = some (.cells #[p, v] 76 (0, 0))) (hv : Buf 5 w b (some (g, c)) v (l.map fun x => .int .u8 x.toNat)) (hroom : l.length ≤ 1073741824) :
 Calls Tryz.prog 32 #[.pointer (some ⟨b, 0, none⟩)] w fun e w' => e = .returned (.string ⟨l.toArray⟩) ∧ Keeps w w' (fun k => k = g) := by
 obtain ⟨rfl, hgb, hg, hlc, cs, t, hblk, hcs, hcells, rfl⟩ := hv
 rw [List.length_map] at hlc hb
 have hl0 : l.length ≠ 0 := by simpa using h0
 have c1 : w.drew.cell? ⟨b, 1, none⟩ = some (.slice (some ⟨g, 0, none⟩) l.length c) := by
  have : w.drew.heap[b]? = some (.cells #[p, .slice (some ⟨g, 0, none⟩) l.length c] 76 (0, 0)) := hb
  rw [Lib.cell_of_heap this]; rfl
 have hSD : (Builtin.unsafeSliceData_ #[74] 145 #[.slice (some ⟨g, 0, none⟩) l.length c]).run Tryz.prog w.drew = .ok (.pointer (some ⟨g, 0, none⟩)) w.drew :=
  Lib.run_unsafeSliceData_row _ _ _ _ _ _ (by omega)
 have hUS : (Builtin.unsafeString_ #[145, 3] 9 #[.pointer (some ⟨g, 0, none⟩), .int .i64 l.length]).run Tryz.prog w.drew = .ok (.string ⟨l.toArray⟩) (w.drew.freeze ⟨g, 0, none⟩ l.length) := by
  have hg' : w.drew.heap[g]? = some (.cells cs 5 (0, 0)) := hblk
  refine Lib.run_unsafeString_row w.drew 145 3 9 5 Tryz.underlying145 (by kernel_rfl) g cs.size (by simp [World.shape?, hg']) l h0 (by omega) (by omega) ?_
  intro j x hx
  rw [addr_add]
  show w.drew.cell? ⟨g, 0 + j, none⟩ = _
  rw [Nat.zero_add, cell_blk hg']
  exact hcells j _ (by simp [hx])
 have hfin : Keeps w (w.drew.freeze ⟨g, 0, none⟩ l.length) (fun k => k = g) := by
  refine ⟨Lib.below_freeze (Below.drew (Below.refl 0 w)) (p := ⟨g, 0, none⟩) (Nat.zero_le _) _, fun k hk hn => ?_⟩
  have hn : k ≠ g := hn
  unfold World.freeze
  split
  ·rfl
  ·show (w.heap.modify g _)[k]? = _
   rw [Array.getElem?_modify, if_neg (Ne.symm hn)]
 have mixed : Tryz.prog.follows .mixedOrders = true := by kernel_rfl
 go_enter Tryz.func32, Tryz.ntmps32
 go_wp2
 go_region_o
 all_goals (go_wp2; go_ret; exact ⟨rfl, hfin⟩)
set_option maxHeartbeats 1000000 in
set_option maxRecDepth 100000 in
theorem st_nil {w : World} {b : Nat} {p : Value} (hb : w.heap[b]? = some (.cells #[p, .slice none 0 0] 76 (0, 0))) :
 Calls Tryz.prog 32 #[.pointer (some ⟨b, 0, none⟩)] w fun e w' => e = .returned (.string ⟨#[]⟩) ∧ Keeps w w' (fun _ => False) := by
 have c1 : w.drew.cell? ⟨b, 1, none⟩ = some (.slice none 0 0) := by
  have : w.drew.heap[b]? = some (.cells #[p, .slice none 0 0] 76 (0, 0)) := hb
  rw [Lib.cell_of_heap this]; rfl
 have hSD : (Builtin.unsafeSliceData_ #[74] 145 #[.slice none 0 0]).run Tryz.prog w.drew = .ok (.pointer none) w.drew := rfl
 have hUS : (Builtin.unsafeString_ #[145, 3] 9 #[.pointer none, .int .i64 0]).run Tryz.prog w.drew = .ok (.string .empty) w.drew := Lib.run_unsafeString_none w.drew _ _ _ _
 have hfin : Keeps w w.drew (fun _ => False) := ⟨Below.drew (Below.refl 0 w), fun _ _ _ => rfl⟩
 have mixed : Tryz.prog.follows .mixedOrders = true := by kernel_rfl
 go_enter Tryz.func32, Tryz.ntmps32
 go_wp2
 go_region_o
 all_goals (go_wp2; go_ret; exact ⟨rfl, hfin⟩)
theorem bldK : BldK Tryz.prog 76 5 29 158 32 where
 elem := by kernel_rfl
 one := by kernel_rfl
 there f hf := by
  rcases hf with rfl | rfl | rfl
  ·exact ⟨_, Tryz.func29, by simp [Tryz.f29], by decide⟩
  ·exact ⟨_, Tryz.func158, by simp [Tryz.f158], by decide⟩
  ·exact ⟨_, Tryz.func32, by simp [Tryz.f32], by decide⟩
 ws s hb hp hv hr := ws_ok s hb hp hv hr
 wb c hb hp hv hr := wb_ok c hb hp hv hr
 st l h0 hb hv hr := st_ok l h0 hb hv hr
 sn hb := st_nil hb
end Eng
end

section
namespace Eng
open Go Go.Proofs Go.RowKit Go.Sort
theorem drop_cons' {us : List Int} {k : Nat} (h : k < us.length) : us.drop k = us[k] :: us.drop (k + 1) := List.drop_eq_getElem_cons h
theorem set_mid {done r : List Int} {x y : Int} {d : Array Int} (h : d.toList = done ++ x :: r) : (d.setIfInBounds done.length y).toList = (done ++ [y]) ++ r := by
 rw [Array.toList_setIfInBounds, h]
 simp
def SubRel (by_ : Int) (us vs : List Int) (d : Array Int) (k : Nat) (c b : Int) : Prop :=
 ∃ done : List Int, done.length = k ∧ d.toList = done ++ us.drop k ∧ subF by_ us vs 0 0 = (done ++ (subF by_ (us.drop k) (vs.drop k) c b).1, (subF by_ (us.drop k) (vs.drop k) c b).2)
theorem subRel_step {by_ : Int} {us vs : List Int} {d : Array Int} {k : Nat} {c b : Int} (h : SubRel by_ us vs d k c b) (hk : k < us.length) {t z b' : Int}
 (ht : t = subT by_ c (vs.drop k))
 (hz : (IntKind.u64.wrap us[k] < IntKind.u64.wrap (t.tmod 1000000000 + b) ∧ z = IntKind.u32.wrap (IntKind.u64.wrap (IntKind.u64.wrap (IntKind.u64.wrap us[k] + 1000000000) - IntKind.u64.wrap (t.tmod 1000000000 + b))) ∧ b' = 1) ∨
  (¬ IntKind.u64.wrap us[k] < IntKind.u64.wrap (t.tmod 1000000000 + b) ∧ z = IntKind.u32.wrap (IntKind.u64.wrap (IntKind.u64.wrap us[k] - IntKind.u64.wrap (t.tmod 1000000000 + b))) ∧ b' = 0)) :
 SubRel by_ us vs (d.setIfInBounds k z) (k + 1) (IntKind.u64.wrap (t.tdiv 1000000000)) b' := by
 obtain ⟨done, h1, h2, h3⟩ := h
 refine ⟨done ++ [z], by simp [h1], ?_, ?_⟩
 ·rw [drop_cons' hk] at h2
  rw [← h1]
  have := set_mid (y := z) h2
  rw [h1] at this ⊢
  exact this
 ·rw [h3, drop_cons' hk]
  have ht2 : (vs.drop k).tail = vs.drop (k + 1) := by simp
  simp only [subF]
  rw [← ht, ht2]
  rcases hz with ⟨h4, h5, h6⟩ | ⟨h4, h5, h6⟩
  ·have : decide (IntKind.u64.wrap us[k] < IntKind.u64.wrap (t.tmod 1000000000 + b)) = true := by simpa using h4
   rw [this]
   subst h5 h6
   simp
  ·have : decide (IntKind.u64.wrap us[k] < IntKind.u64.wrap (t.tmod 1000000000 + b)) = false := by simpa using h4
   rw [this]
   subst h5 h6
   simp
theorem rel_get {us done : List Int} {d : Array Int} {k : Nat} (h1 : done.length = k) (h2 : d.toList = done ++ us.drop k) (hk : k < us.length) : d[k]! = us[k] := by
 have hsz : d.size = us.length := by
  have := congrArg List.length h2
  simp at this
  omega
 have : d.toList[k]? = some us[k] := by
  rw [h2, List.getElem?_append_right (by omega), h1]
  simp [hk]
 have h3 : d[k]? = some us[k] := by simpa using this
 rw [getElem!_pos d k (by omega)]
 rw [Array.getElem?_eq_getElem (by omega)] at h3
 exact Option.some.inj h3
theorem rel_size {us done : List Int} {d : Array Int} {k : Nat} (h1 : done.length = k) (h2 : d.toList = done ++ us.drop k) (hk : k ≤ us.length) : d.size = us.length := by
 have := congrArg List.length h2
 simp at this
 omega
set_option maxHeartbeats 2000000 in
set_option maxRecDepth 100000 in
theorem sub_ok {w : World} {g off cap bv ov cv : Nat} (us vs : List Int) (by_ : Int) (hu : Holds (Value.int .u32) w g off us.toArray) (hb : bv ≠ g) (hnu : us.length ≤ 1073741824) (hnv2 : vs.length ≤ 1073741824)
 (hv : ∀ j (h : j < vs.length), w.cell? ⟨bv, ov + j, none⟩ = some (.int .u32 vs[j])) :
 Calls Tryz.prog 309 #[.slice (some ⟨g, off, none⟩) us.length cap, .slice (some ⟨bv, ov, none⟩) vs.length cv, .int .u64 by_] w fun e w' =>
  e = .returned (.bool (decide (0 < (subF by_ us vs 0 0).2.2) || decide (0 < (subF by_ us vs 0 0).2.1))) ∧ w' = putRow (Value.int .u32) w g off (subF by_ us vs 0 0).1.toArray := by
 have Hu : Hid (Holds (Value.int .u32) w g off us.toArray) := hu
 have Hv : Hid (∀ j (h : j < vs.length), w.cell? ⟨bv, ov + j, none⟩ = some (.int .u32 vs[j])) := hv
 have hself := putRow_self (Value.int .u32) w g off us.toArray hu
 have Hself : Hid (putRow (Value.int .u32) w g off us.toArray = w) := hself
 clear hu hv hself
 obtain ⟨nu, hnue⟩ : ∃ nu, nu = us.length := ⟨_, rfl⟩
 obtain ⟨nv, hnve⟩ : ∃ nv, nv = vs.length := ⟨_, rfl⟩
 rw [← hnue, ← hnve]
 have Hnu : Hid (nu = us.length) := hnue
 have Hnv : Hid (nv = vs.length) := hnve
 have hnu' : nu ≤ 1073741824 := by omega
 have hnv' : nv ≤ 1073741824 := by omega
 clear hnue hnve hnu hnv2
 go_enter Tryz.func309, Tryz.ntmps309
 go_wp2
 go_loopw [7, 8, 15] (fun c b i wr => ∃ (k : Nat) (cc bb : Int) (d : Array Int), k ≤ nu ∧ i = .int .i64 k ∧ c = .int .u64 cc ∧ b = .int .u64 bb ∧ SubRel by_ us vs d k cc bb ∧ wr = putRow (Value.int .u32) w g off d) (fun _ _ i _ => nu - (RowKit.intOf i).toNat)
 case atStart => exact ⟨0, 0, 0, us.toArray, Nat.zero_le _, rfl, rfl, rfl, ⟨[], rfl, by simp, by simp⟩, Hself.out.symm⟩
 case round =>
  obtain ⟨k, cc, bb, d, hk, rfl, rfl, rfl, hrel', hwr⟩ := hrel
  have Hrel : Hid (SubRel by_ us vs d k cc bb) := hrel'
  have Hwr : Hid (wr = putRow (Value.int .u32) w g off d) := hwr
  clear hrel' hwr
  by_cases hlt : k < nu
  ·have hlt2 : k < us.length := by rw [← Hnu.out]; exact hlt
   obtain ⟨done, h1, h2, _⟩ := Hrel.out
   have hsz := rel_size h1 h2 (Nat.le_of_lt hlt2)
   have hcell : wr.cell? ⟨g, off + k, none⟩ = some (.int .u32 us[k]) := by
    rw [Hwr.out, cell?_putRow (Value.int .u32) w g off us.toArray d Hu.out (by simpa using hsz) k (by omega), rel_get h1 h2 hlt2]
   have hfz : wr.frozen? ⟨g, off + k, none⟩ = false := by
    rw [Hwr.out, frozen?_putRow]
    exact (Hu.out k (by simpa using hlt2)).2
   have hstep : ∀ z, wr.setCell ⟨g, off + k, none⟩ (.int .u32 z) = putRow (Value.int .u32) w g off (d.setIfInBounds k z) := fun z => by
    rw [Hwr.out]
    exact putRow_set (Value.int .u32) w g off d k z (by omega)
   have Hstep : Hid (∀ z, wr.setCell ⟨g, off + k, none⟩ (.int .u32 z) = putRow (Value.int .u32) w g off (d.setIfInBounds k z)) := hstep
   obtain ⟨x, hx⟩ : ∃ x, us[k] = x := ⟨_, rfl⟩
   rw [hx] at hcell
   have Hx : Hid (us[k] = x) := hx
   clear hstep h1 h2 hsz hx
   by_cases hlv : k < nv
   ·have hlv2 : k < vs.length := by rw [← Hnv.out]; exact hlv
    have hcellv : wr.cell? ⟨bv, ov + k, none⟩ = some (.int .u32 vs[k]) := by
     rw [Hwr.out, cell?_putRow_other _ _ _ _ _ _ (.inl hb)]
     exact Hv.out k hlv2
    obtain ⟨y, hy⟩ : ∃ y, vs[k] = y := ⟨_, rfl⟩
    rw [hy] at hcellv
    have Hy : Hid (vs.drop k = y :: vs.drop (k + 1)) := by rw [← hy]; exact drop_cons' hlv2
    clear hy
    go_wp2
    all_goals
     go_roundw
     case rel =>
      refine ⟨k + 1, _, _, _, by omega, by go_num, rfl, rfl, subRel_step Hrel.out hlt2 (t := IntKind.u64.wrap (cc + IntKind.u64.wrap (IntKind.u64.wrap y * by_))) (by rw [Hy.out]; rfl) ?_, Hstep.out _⟩
      first
       | exact .inl ⟨by rw [Hx.out]; assumption, by rw [Hx.out, IntKind.wrap_u32], rfl⟩
       | exact .inr ⟨by rw [Hx.out]; omega, by rw [Hx.out, IntKind.wrap_u32], rfl⟩
     case measure => simp [RowKit.intOf]; omega
   ·have Hy : Hid (vs.drop k = []) := by
     have : vs.length ≤ k := by rw [← Hnv.out]; omega
     exact List.drop_eq_nil_of_le this
    go_wp2
    all_goals
     go_roundw
     case rel =>
      refine ⟨k + 1, _, _, _, by omega, by go_num, rfl, rfl, subRel_step Hrel.out hlt2 (t := cc) (by rw [Hy.out]; rfl) ?_, Hstep.out _⟩
      first
       | exact .inl ⟨by rw [Hx.out]; assumption, by rw [Hx.out, IntKind.wrap_u32], rfl⟩
       | exact .inr ⟨by rw [Hx.out]; omega, by rw [Hx.out, IntKind.wrap_u32], rfl⟩
     case measure => simp [RowKit.intOf]; omega
  ·have hkn : us.length ≤ k := by rw [← Hnu.out]; omega
   have hfin : subF by_ us vs 0 0 = (d.toList, cc, bb) := by
    obtain ⟨done, h1, h2, h3⟩ := Hrel.out
    have : us.drop k = [] := List.drop_eq_nil_of_le hkn
    rw [this] at h2 h3
    rw [h3, h2]
    simp [subF]
   have Hfin : Hid (subF by_ us vs 0 0 = (d.toList, cc, bb)) := hfin
   clear hfin
   by_cases hbb : 0 < bb
   ·go_wp2
    go_ret
    rw [Hfin.out]
    refine ⟨?_, ?_⟩
    ·simp [hbb]
    ·rw [Hwr.out]
   ·have hbb' : decide (0 < bb) = false := by simpa using hbb
    go_wp2
    go_ret
    rw [Hfin.out]
    refine ⟨?_, ?_⟩
    ·simp
     exact fun h => absurd h (by omega)
    ·rw [Hwr.out]
def ResRel (us vs : List Int) (d : Array Int) (k : Nat) (c : Int) : Prop :=
 ∃ done : List Int, done.length = k ∧ d.toList = done ++ us.drop k ∧ resF us vs 0 = done ++ resF (us.drop k) (vs.drop k) c
theorem resRel_step {us vs : List Int} {d : Array Int} {k : Nat} {c : Int} (h : ResRel us vs d k c) (hk : k < us.length) {t z c' : Int}
 (ht : t = resT us[k] c (vs.drop k)) (hz : (1000000000 ≤ t ∧ z = IntKind.u32.wrap (t - 1000000000) ∧ c' = 1) ∨ (¬ 1000000000 ≤ t ∧ z = t ∧ c' = 0)) :
 ResRel us vs (d.setIfInBounds k z) (k + 1) c' := by
 obtain ⟨done, h1, h2, h3⟩ := h
 refine ⟨done ++ [z], by simp [h1], ?_, ?_⟩
 ·rw [drop_cons' hk] at h2
  rw [← h1]
  have := set_mid (y := z) h2
  rw [h1] at this ⊢
  exact this
 ·rw [h3, drop_cons' hk]
  have ht2 : (vs.drop k).tail = vs.drop (k + 1) := by simp
  simp only [resF]
  rw [← ht, ht2]
  rcases hz with ⟨h4, h5, h6⟩ | ⟨h4, h5, h6⟩
  ·have : decide (1000000000 ≤ t) = true := by simpa using h4
   rw [this]
   subst h5 h6
   simp
  ·have : decide (1000000000 ≤ t) = false := by simpa using h4
   rw [this]
   subst h5 h6
   simp
set_option maxHeartbeats 2000000 in
set_option maxRecDepth 100000 in
theorem res_ok {w : World} {g off cap bv ov cv : Nat} (us vs : List Int) (hu : Holds (Value.int .u32) w g off us.toArray) (hb : bv ≠ g) (hnu : us.length ≤ 1073741824) (hnv2 : vs.length ≤ 1073741824)
 (hv : ∀ j (h : j < vs.length), w.cell? ⟨bv, ov + j, none⟩ = some (.int .u32 vs[j])) :
 Calls Tryz.prog 310 #[.slice (some ⟨g, off, none⟩) us.length cap, .slice (some ⟨bv, ov, none⟩) vs.length cv] w fun e w' =>
  e = .returned (.tuple #[]) ∧ w' = putRow (Value.int .u32) w g off (resF us vs 0).toArray := by
 have Hu : Hid (Holds (Value.int .u32) w g off us.toArray) := hu
 have Hv : Hid (∀ j (h : j < vs.length), w.cell? ⟨bv, ov + j, none⟩ = some (.int .u32 vs[j])) := hv
 have hself := putRow_self (Value.int .u32) w g off us.toArray hu
 have Hself : Hid (putRow (Value.int .u32) w g off us.toArray = w) := hself
 clear hu hv hself
 obtain ⟨nu, hnue⟩ : ∃ nu, nu = us.length := ⟨_, rfl⟩
 obtain ⟨nv, hnve⟩ : ∃ nv, nv = vs.length := ⟨_, rfl⟩
 rw [← hnue, ← hnve]
 have Hnu : Hid (nu = us.length) := hnue
 have Hnv : Hid (nv = vs.length) := hnve
 have hnu' : nu ≤ 1073741824 := by omega
 have hnv' : nv ≤ 1073741824 := by omega
 clear hnue hnve hnu hnv2
 go_enter Tryz.func310, Tryz.ntmps310
 go_wp2
 go_loopw [4, 9] (fun c i wr => ∃ (k : Nat) (cc : Int) (d : Array Int), k ≤ nu ∧ i = .int .i64 k ∧ c = .int .u32 cc ∧ ResRel us vs d k cc ∧ wr = putRow (Value.int .u32) w g off d) (fun _ i _ => nu - (RowKit.intOf i).toNat)
 case atStart => exact ⟨0, 0, us.toArray, Nat.zero_le _, rfl, rfl, ⟨[], rfl, by simp, by simp⟩, Hself.out.symm⟩
 case round =>
  obtain ⟨k, cc, d, hk, rfl, rfl, hrel', hwr⟩ := hrel
  have Hrel : Hid (ResRel us vs d k cc) := hrel'
  have Hwr : Hid (wr = putRow (Value.int .u32) w g off d) := hwr
  clear hrel' hwr
  by_cases hlt : k < nu
  ·have hlt2 : k < us.length := by rw [← Hnu.out]; exact hlt
   obtain ⟨done, h1, h2, _⟩ := Hrel.out
   have hsz := rel_size h1 h2 (Nat.le_of_lt hlt2)
   have hcell : wr.cell? ⟨g, off + k, none⟩ = some (.int .u32 us[k]) := by
    rw [Hwr.out, cell?_putRow (Value.int .u32) w g off us.toArray d Hu.out (by simpa using hsz) k (by omega), rel_get h1 h2 hlt2]
   have hfz : wr.frozen? ⟨g, off + k, none⟩ = false := by
    rw [Hwr.out, frozen?_putRow]
    exact (Hu.out k (by simpa using hlt2)).2
   have hstep : ∀ z, wr.setCell ⟨g, off + k, none⟩ (.int .u32 z) = putRow (Value.int .u32) w g off (d.setIfInBounds k z) := fun z => by
    rw [Hwr.out]
    exact putRow_set (Value.int .u32) w g off d k z (by omega)
   have Hstep : Hid (∀ z, wr.setCell ⟨g, off + k, none⟩ (.int .u32 z) = putRow (Value.int .u32) w g off (d.setIfInBounds k z)) := hstep
   obtain ⟨x, hx⟩ : ∃ x, us[k] = x := ⟨_, rfl⟩
   rw [hx] at hcell
   have Hx : Hid (us[k] = x) := hx
   clear hstep h1 h2 hsz hx
   by_cases hlv : k < nv
   ·have hlv2 : k < vs.length := by rw [← Hnv.out]; exact hlv
    have hcellv : wr.cell? ⟨bv, ov + k, none⟩ = some (.int .u32 vs[k]) := by
     rw [Hwr.out, cell?_putRow_other _ _ _ _ _ _ (.inl hb)]
     exact Hv.out k hlv2
    obtain ⟨y, hy⟩ : ∃ y, vs[k] = y := ⟨_, rfl⟩
    rw [hy] at hcellv
    have Hy : Hid (vs.drop k = y :: vs.drop (k + 1)) := by rw [← hy]; exact drop_cons' hlv2
    clear hy
    go_wp2
    all_goals
     go_roundw
     case rel =>
      refine ⟨k + 1, _, _, by omega, by go_num, rfl, resRel_step Hrel.out hlt2 (t := (x + cc + y) % 4294967296) (by rw [Hy.out, Hx.out]; simp only [resT, IntKind.wrap_u32]; omega) ?_, Hstep.out _⟩
      simp only [IntKind.wrap_u32]
      first
       | exact .inl ⟨by omega, by omega, trivial⟩
       | exact .inr ⟨by omega, trivial, trivial⟩
     case measure => simp [RowKit.intOf]; omega
   ·have Hy : Hid (vs.drop k = []) := by
     have : vs.length ≤ k := by rw [← Hnv.out]; omega
     exact List.drop_eq_nil_of_le this
    go_wp2
    all_goals
     go_roundw
     case rel =>
      refine ⟨k + 1, _, _, by omega, by go_num, rfl, resRel_step Hrel.out hlt2 (t := (x + cc) % 4294967296) (by rw [Hy.out, Hx.out]; simp only [resT, IntKind.wrap_u32]) ?_, Hstep.out _⟩
      simp only [IntKind.wrap_u32]
      first
       | exact .inl ⟨by omega, by omega, trivial⟩
       | exact .inr ⟨by omega, trivial, trivial⟩
     case measure => simp [RowKit.intOf]; omega
  ·have hkn : us.length ≤ k := by rw [← Hnu.out]; omega
   have hfin : resF us vs 0 = d.toList := by
    obtain ⟨done, h1, h2, h3⟩ := Hrel.out
    have : us.drop k = [] := List.drop_eq_nil_of_le hkn
    rw [this] at h2 h3
    rw [h3, h2]
    simp [resF]
   have Hfin : Hid (resF us vs 0 = d.toList) := hfin
   clear hfin
   go_wp2
   go_end0
   rw [Hfin.out]
   exact ⟨rfl, by rw [Hwr.out]⟩
theorem subK : SubK Tryz.prog 309 310 where
 there f hf := by
  rcases hf with rfl | rfl
  ·exact ⟨_, Tryz.func309, by simp [Tryz.f309], by decide⟩
  ·exact ⟨_, Tryz.func310, by simp [Tryz.f310], by decide⟩
 sub us vs n h1 h2 h3 h4 h5 := sub_ok us vs n h1 h2 h3 h4 h5
 res us vs h1 h2 h3 h4 h5 := res_ok us vs h1 h2 h3 h4 h5
end Eng
end

section
namespace Eng
open Go Go.Proofs Go.Shelf Go.RowKit Go.Sort Go.Lib
theorem holds_zero0 (w : World) (T : TypeId) (nd : Nat) (hs : nd ≤ 24) : Holds (fun (b : UInt8) => Value.int .u8 (b.toNat : Int)) (w.alloc (.cells zeros24 T)) w.heap.size 0 (Array.replicate nd (0 : UInt8)) := fun j hj => by
  have hj' : j < nd := by simpa using hj
  refine ⟨?_, World.frozen?_alloc_new _ _ _ _⟩
  rw [World.cell?_alloc_new, zeros24_at _ (by omega), getElem!_pos _ j hj]
  simp
theorem below_put0 (w : World) (o : Go.Obj) (dk : Array UInt8) (k : Nat) : Below w.heap.size w ((putRow (fun (b : UInt8) => Value.int .u8 (b.toNat : Int)) (w.alloc o) w.heap.size 0 dk).drewN k) := by
  refine ⟨rfl, rfl, rfl, ?_, fun j hj => ?_⟩
  · show w.heap.size ≤ ((w.alloc o).heap.modify _ _).size
    rw [Array.size_modify]
    show w.heap.size ≤ (w.heap.push o).size
    simp
  · show ((w.alloc o).heap.modify w.heap.size _)[j]? = _
    rw [Array.getElem?_modify, if_neg (by omega)]
    show (w.heap.push o)[j]? = _
    rw [Array.getElem?_push_lt hj, Array.getElem?_eq_getElem hj]
set_option maxHeartbeats 6400000 in
set_option maxRecDepth 100000 in
theorem fu97 (u : Nat) (hu64 : u < 18446744073709551616) (w : World) (htab : Lib.TabIs Tryz.prog w "internal/strconv.uint64pow10" .u64 Lib.pow10Tab) :
    Calls Tryz.prog 131 #[.int .u64 u, .int .i64 10] w fun e w' => e = .returned (.string ⟨(Lib.decDigits u).toArray⟩) ∧ Below w.heap.size w w' := by
  have mixed : Tryz.prog.follows .mixedOrders = true := by kernel_rfl
  by_cases hs : u < 100
  · have hw1 : (u : Int) < 100 := by omega
    go_enter Tryz.func131, Tryz.ntmps131
    go_wp2_with (go_at_call 225; refine (Tryz.internal_strconv_small u hs _).mono ?_; rintro e w' ⟨rfl, rfl⟩)
    go_ret
    exact ⟨rfl, Below.refl _ _⟩
  · have hw1 : ¬ (u : Int) < 100 := by omega
    have hu1 : 1 ≤ u := by omega
    have hnd20 : Lib.nDigits u ≤ 20 := by have := Lib.numDigits_eq u hu1 hu64; split at this <;> omega
    have hal : Tryz.prog.arrayLen 254 = 24 := by kernel_rfl
    have hsl1 : ∀ W, (Instr.sliceAt 254 (.pointer (some ⟨w.heap.size, 0, none⟩)) none (some (.int .i64 (Lib.nDigits u : Int))) none).run Tryz.prog W = .ok (.slice (some ⟨w.heap.size, 0, none⟩) (Lib.nDigits u) 24) W := fun W => by
      rw [run_sliceAt_array_h W 254 ⟨w.heap.size, 0, none⟩ (by simp [Program.arrayLen, Program.elem, Tryz.underlying254]) .i64 (Lib.nDigits u : Int) (by omega) (by rw [hal]; omega)]
      go_simp
    have hH0 := holds_zero0 w 254 (Lib.nDigits u) (by omega)
    have hfmt := Tryz.internal_strconv_formatBase10 w.heap.size 0 24 u (Array.replicate (Lib.nDigits u) 0) (w.alloc (.cells Lib.zeros24 254)) hH0 (by rw [Array.size_replicate]; exact Lib.lt_pow_nDigits u) hu64 (by rw [Array.size_replicate]; omega)
    rw [Array.size_replicate] at hfmt
    have HH0 := Lib.hid hH0
    clear hH0 hal
    go_enter Tryz.func131, Tryz.ntmps131
    go_wp2_with (first
      | (go_at_call 226; refine (Tryz.internal_strconv_numDigits u hu1 hu64 _ (Lib.tabIs_alloc htab _)).mono ?_; rintro e w' ⟨rfl, rfl⟩))
    go_at_call 227
    refine hfmt.mono ?_
    rintro e w' ⟨rfl, k, v', dk, rfl, hF⟩
    have hcv : (convert 74 9 (.slice (some ⟨w.heap.size, 0, none⟩) (Lib.nDigits u) 24)).run Tryz.prog ((putRow (fun (b : UInt8) => Value.int .u8 (b.toNat : Int)) (w.alloc (.cells Lib.zeros24 254)) w.heap.size 0 dk).drewN k) = .ok (.string ⟨(Lib.decDigits u).toArray⟩) ((putRow (fun (b : UInt8) => Value.int .u8 (b.toNat : Int)) (w.alloc (.cells Lib.zeros24 254)) w.heap.size 0 dk).drewN k) := by
      have h := run_convert_bytes_back (P := Tryz.prog) ((putRow (fun (b : UInt8) => Value.int .u8 (b.toNat : Int)) (w.alloc (.cells Lib.zeros24 254)) w.heap.size 0 dk).drewN k) 74 9 5 ⟨w.heap.size, 0, none⟩ 24 (Lib.decDigits u) Tryz.underlying74 Tryz.underlying5 Tryz.underlying9 (fun j hj => by
        rw [Lib.row_is_numeral hF j hj, Lib.add_plain, World.cell?_drewN]
        exact cell?_putRow (fun (b : UInt8) => Value.int .u8 (b.toNat : Int)) _ w.heap.size 0 _ dk HH0.out (by rw [hF.size, Array.size_replicate]) j (by rw [hF.size]; rw [Lib.decDigits_length] at hj; exact hj))
      rw [Lib.decDigits_length] at h
      exact h
    go_wp2
    go_ret
    exact ⟨rfl, below_put0 w _ dk k⟩
set_option maxHeartbeats 1000000 in
theorem fu61 (u : Nat) (hu64 : u < 18446744073709551616) (w : World) (htab : Lib.TabIs Tryz.prog w "internal/strconv.uint64pow10" .u64 Lib.pow10Tab) :
    Calls Tryz.prog 71 #[.int .u64 u, .int .i64 10] w fun e w' => e = .returned (.string ⟨(Lib.decDigits u).toArray⟩) ∧ Below w.heap.size w w' := by
  go_enter Tryz.func71, Tryz.ntmps71
  go_wp2_with (go_at_call 131; refine (fu97 u hu64 _ htab).mono ?_; rintro e w' ⟨rfl, hb⟩)
  go_ret
  exact ⟨rfl, hb⟩
end Eng
end

section
namespace Eng
open Go Go.Proofs Go.RowKit
def argVal : A → Option Value
 | .c (.int k n) => some (.int k n)
 | .c (.bool b) => some (.bool b)
 | .c (.str s) => some (.string ⟨⟨s⟩⟩)
 | _ => none
def argVals : List A → Option (List Value)
 | [] => some []
 | a :: r => match argVal a, argVals r with
  | some v, some vs => some (v :: vs)
  | _, _ => none
theorem argVal_ok {w : World} {F : Nat → Prop} {a : A} {v u : Value} (h : argVal a = some v) (hc : CA w F a u) : u = v := by
 unfold argVal at h
 split at h <;> simp only [Option.some.injEq, reduceCtorEq] at h <;> subst h <;> cases (hc : CD _ _ _ _) <;> rfl
theorem argVals_ok {w : World} {F : Nat → Prop} : ∀ {al : List A} {vs us : List Value}, argVals al = some vs → All2 (CA w F) al us → us = vs
 | [], vs, [], h, _ => by simpa [argVals] using h
 | [], _, _ :: _, _, hc => hc.elim
 | _ :: _, _, [], _, hc => hc.elim
 | a :: al, vs, u :: us, h, hc => by
  unfold argVals at h
  split at h
  ·rename_i v vs' h1 h2
   simp only [Option.some.injEq] at h
   subst h
   rw [argVal_ok h1 hc.1, argVals_ok h2 hc.2]
  ·simp at h
theorem gives_flat {C : Cx} {f : Nat} {al rs : List A} {vs : List Value} {rv : Value} (ha : argVals al = some vs) (hr : ∀ (w : World) (F : Nat → Prop), CRes w F rs rv)
 (hc : ∀ (w : World) (F : Nat → Prop), Inv C F w → Calls C.P f vs.toArray w fun e w' => e = .returned rv ∧ Below w.heap.size w w') : Gives C f al rs := by
 intro w F us _ hi hargs
 rw [argVals_ok ha hargs]
 refine (hc w F hi).mono fun e w' he => ?_
 obtain ⟨rfl, hb⟩ := he
 exact ⟨hb, rv, rfl, hr _ _⟩
def pow10D : List D := [.int .u64 1, .int .u64 10, .int .u64 100, .int .u64 1000, .int .u64 10000, .int .u64 100000, .int .u64 1000000, .int .u64 10000000, .int .u64 100000000, .int .u64 1000000000, .int .u64 10000000000, .int .u64 100000000000, .int .u64 1000000000000, .int .u64 10000000000000, .int .u64 100000000000000, .int .u64 1000000000000000, .int .u64 10000000000000000, .int .u64 100000000000000000, .int .u64 1000000000000000000, .int .u64 10000000000000000000]
def kindsD : List D := [.str [], .str [112, 111, 99, 107, 101, 116], .str [105, 115, 108, 97, 110, 100], .str [104, 111, 108, 101], .str [112, 114, 111, 102, 105, 108, 101]]
def shapesD : List D := [.str [], .int .i64 0, .str [108, 105, 110, 101], .int .i64 2, .str [97, 114, 99], .int .i64 3, .str [99, 105, 114, 99, 108, 101], .int .i64 1]
def gvar (g : Nat) : Option (List D) := match g with
 | 0 => some kindsD
 | 1 => some shapesD
 | 2 => some pow10D
 | 4 => some [.ifc false]
 | 5 => some [.ifc false]
 | _ => none
noncomputable def C0 : Cx := ⟨Tryz.prog, gvar, fun _ => false, fun _ => none, fun _ _ => false, fun _ => false⟩
def noT : Nat → List A → Option (List A) := fun _ _ => none
theorem mixedT : Tryz.prog.follows .mixedOrders = true := by kernel_rfl
instance : EffOk C0 := effOk_all fun f e h => by simp [C0] at h
end Eng
end
