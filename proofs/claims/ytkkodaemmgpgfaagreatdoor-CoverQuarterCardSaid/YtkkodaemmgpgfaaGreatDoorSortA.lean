/- Sorting: slices.SortFunc by the kit's contract, as a call that turns an array in its place. No program is named here. -/
import Derived.Test.YtkkodaemmgpgfaaGreatDoorEngF
import Derived.Test.YtkkodaemmgpgfaaGreatDoorDrawA
import Derived.Shelf.SlSortCmp.NoneTotal
section
namespace Eng
open Go Go.RowKit Go.Shelf
open Go.Sort (SWO PermIn SortedIn HoldsK flatK grow)
open Go.Proofs (ltOf CmpLays sortWorldK SlLaysF0.n6)
section
variable {α : Type} [Inhabited α]
theorem sw_ne {enc : α → List Value} {k : Nat} {w : World} {blk off m b : Nat} {dk : Array α} {os : Array Go.Obj} (hb : b < w.heap.size) (hn : b ≠ blk) : (sortWorldK enc k w blk off m dk os).heap[b]? = w.heap[b]? := by
 unfold Go.Proofs.sortWorldK Go.Sort.grow Go.Sort.putRowK Go.Sort.putRow Go.Sort.mapBlock Go.Sort.ahead
 simp only
 rw [Array.getElem?_append_left (by simpa using hb), Array.getElem?_modify, if_neg (Ne.symm hn)]
theorem sw_at {enc : α → List Value} {k : Nat} {w : World} {blk off m : Nat} {dk : Array α} {os : Array Go.Obj} {cs : Array Value} {t : TypeId} {fr : Nat × Nat} (hb : blk < w.heap.size) (h : w.heap[blk]? = some (Go.Obj.cells cs t fr)) :
 (sortWorldK enc k w blk off m dk os).heap[blk]? = some (Go.Obj.cells (Go.Sort.putCells id off (flatK enc k dk) cs) t fr) := by
 unfold Go.Proofs.sortWorldK Go.Sort.grow Go.Sort.putRowK Go.Sort.putRow Go.Sort.mapBlock Go.Sort.ahead
 simp only
 rw [Array.getElem?_append_left (by simpa using hb), Array.getElem?_modify, if_pos rfl, h]
 rfl
theorem sw_size {enc : α → List Value} {k : Nat} {w : World} {blk off m : Nat} {dk : Array α} {os : Array Go.Obj} : w.heap.size ≤ (sortWorldK enc k w blk off m dk os).heap.size := by
 unfold Go.Proofs.sortWorldK Go.Sort.grow Go.Sort.putRowK Go.Sort.putRow Go.Sort.mapBlock Go.Sort.ahead
 simp
end
theorem grown_of_below {w w' : World} (h : Below w.heap.size w w') (hd : w.drawn ≤ w'.drawn) : ∃ q os', w' = grow (w.drewN q) os' := by
 refine ⟨w'.drawn - w.drawn, w'.heap.extract w.heap.size w'.heap.size, ?_⟩
 unfold Go.Sort.grow World.drewN
 obtain ⟨heap', tape', drawn', os', out'⟩ := w'
 obtain ⟨h1, h2, h3, h4, h5⟩ := h
 simp only at h1 h2 h3 h4 h5 hd ⊢
 subst h1 h2 h3
 congr 1
 ·apply Array.ext_getElem?
  intro i
  by_cases hi : i < w.heap.size
  ·rw [Array.getElem?_append_left hi]; exact h5 i hi
  ·rw [Array.getElem?_append_right (by omega), Array.getElem?_extract]
   split
   ·congr 1; omega
   ·rw [Array.getElem?_eq_none (by omega)]
 ·omega
section
variable {C : Cx} {ρ : Ren}
def Elt (w : World) (F : Nat → Prop) {K : Type} (row : K → List D) (ks : List K) (p : K × List Value) : Prop := p.1 ∈ ks ∧ All2 (CD w F) (row p.1) p.2
theorem put_get {α : Type} [Inhabited α] {enc : α → List Value} {k n c : Nat} {dk : Array α} {cs : Array Value} (hn : dk.size = n) (hs : cs.size = c * k) (hnc : n ≤ c) {j : Nat} (hj : j < n * k) :
 (Go.Sort.putCells id 0 (flatK enc k dk) cs)[j]? = some ((enc dk[j / k]!)[j % k]!) := by
 have hjc : j < cs.size := by
  rw [hs]; exact Nat.lt_of_lt_of_le hj (Nat.mul_le_mul_right k hnc)
 unfold Go.Sort.putCells
 rw [Array.getElem?_mapIdx, Array.getElem?_eq_getElem hjc, Option.map_some, if_pos ⟨by omega, by rw [Go.Sort.size_flatK, hn]; omega⟩, Nat.sub_zero]
 rw [Go.Sort.get_flatK _ _ _ _ (by rw [hn]; exact hj)]
 rfl
theorem sort_rel (L : Go.Proofs.SlLaysF0.n6 C.P ρ) {s : Nat} (hs : 0 < s) (aE : ∀ w, (isAgg (ρ.t 24)).run C.P w = .ok true w) (zE : ∀ w, (Go.sizeOf (ρ.t 24)).run C.P w = .ok s w)
 {K : Type} (row : K → List D) (hrow : ∀ k, (row k).length = s) (cf : K → K → Int) (hO : SWO (ltOf cf)) {g : Nat} (eg : ∀ args w, (callFunc g args).run C.P w = .ok (.enter g args) w)
 {ks : List K} (hne : ks ≠ []) (hcmp : ∀ x ∈ ks, ∀ y ∈ ks, Gives C g [.ag (row x), .ag (row y)] [.c (.int .i64 (cf x y))])
 {w : World} {F : Nat → Prop} {gb c0 : Nat} {cs0 : Array Value} {t0 : TypeId} (hb : ∀ b, F b → b < w.heap.size) (hinv : Inv C F w) (hL : LentOk C.P w F gb c0 cs0 t0 s (ks.map row)) :
 Calls C.P (ρ.f 6) #[.slice (some ⟨gb, 0, none⟩) (ks.map row).length c0, .func (.func g) #[] #[]] w fun e w' =>
  BelowX ⟨w.heap.size, fun b => b = gb⟩ w w' ∧ e = .returned (.tuple #[]) ∧ ∃ (ks' : List K) (cs : Array Value), ks'.Perm ks ∧ ks'.Pairwise (fun a b => ltOf cf b a = false) ∧ (∀ x, F x → x < w'.heap.size) ∧ LentOk C.P w' F gb c0 cs t0 s (ks'.map row) := by
 have hlens : ∀ e ∈ ks.map row, e.length = s := hL.lens
 -- the elements
 have hcell : ∀ i (hi : i < ks.length), ∀ c, c < s → ∃ v, cs0[i * s + c]? = some v ∧ CD w F (nth .undef (row ks[i]) c) v := fun i hi c hc => by
  have hlt : i * s + c < (ks.map row).length * s := by
   rw [List.length_map]
   have := Nat.mul_le_mul_right s (show i + 1 ≤ ks.length from hi)
   rw [Nat.add_mul, Nat.one_mul] at this; omega
  obtain ⟨v, h1, h2⟩ := hL.cd _ hlt
  rw [nth_flatten hlens i c (by simpa using hi) hc, nth_of_lt [] (by simpa using hi), List.getElem_map] at h2
  exact ⟨v, h1, h2⟩
 let α := {p : K × List Value // Elt w F row ks p}
 let mk : (i : Nat) → i < ks.length → α := fun i hi => ⟨(ks[i], (List.range s).map fun c => cs0[i * s + c]!), List.getElem_mem hi, by
  refine all2_of_nth .undef undef (by simp [hrow]) fun c hc => ?_
  rw [hrow] at hc
  obtain ⟨v, h1, h2⟩ := hcell i hi c hc
  rw [nth_of_lt undef (by simpa using hc), List.getElem_map, List.getElem_range, getElem!_def, h1]
  exact h2⟩
 have hpos : 0 < ks.length := List.length_pos_iff.2 hne
 letI : Inhabited α := ⟨mk 0 hpos⟩
 let enc : α → List Value := fun p => p.1.2
 have henc : ∀ x : α, All2 (CD w F) (row x.1.1) (enc x) := fun x => x.2.2
 have hk : ∀ x : α, (enc x).length = s := fun x => by rw [← (henc x).length, hrow]
 have h1 : ∀ x : α, ∀ v ∈ enc x, v.oneCell' = true := fun x v hv => by
  obtain ⟨d, hd⟩ := all2_right (henc x) v hv
  exact hd.one
 let cf' : α → α → Int := fun x y => cf x.1.1 y.1.1
 have hO' : SWO (ltOf cf') := ⟨fun x => hO.irrefl _, fun x y z => hO.trans _ _ _, fun x y z => hO.ntrans _ _ _⟩
 let d : Array α := Array.ofFn (n := ks.length) fun i => mk i.1 i.2
 have hd : d.size = ks.length := by simp [d]
 have hdi : ∀ i (hi : i < ks.length), d[i]! = mk i hi := fun i hi => by
  rw [getElem!_pos d i (by rw [hd]; exact hi)]; simp [d]
 have hgb := hL.lt
 have hnc : ks.length ≤ c0 := by have := hL.lc.1; simpa using this
 have hH : HoldsK enc s w gb 0 d := by
  intro j hj
  rw [Go.Sort.size_flatK, hd] at hj
  rw [Go.Sort.get_flatK _ _ _ _ (by rw [hd]; exact hj)]
  have hq : j / s < ks.length := Nat.div_lt_of_lt_mul (by rw [Nat.mul_comm]; exact hj)
  have hm : j % s < s := Nat.mod_lt _ hs
  have hj2 : j / s * s + j % s = j := Nat.div_add_mod' j s
  obtain ⟨v, h3, _⟩ := hcell _ hq _ hm
  rw [hj2] at h3
  have hv : (enc d[j / s]!)[j % s]! = v := by
   rw [hdi _ hq]
   show ((List.range s).map fun c => cs0[j / s * s + c]!)[j % s]! = v
   rw [getElem!_pos _ _ (by simpa using hm), List.getElem_map, List.getElem_range, hj2, getElem!_def, h3]
  rw [hv]
  constructor
  ·unfold World.cell?
   simp only [Nat.zero_add]
   rw [hL.blk]
   simp only
   rw [h3]; rfl
  ·unfold World.frozen?
   simp only [Nat.zero_add]
   rw [hL.blk]
   simp
 have hFn : ∀ b, F b → b ≠ gb := fun b h e => by subst e; exact hL.nF h
 have hcl : CmpLays C.P g #[] enc s cf' gb 0 d.size w := by
  intro m os dk _ x y
  generalize hW : sortWorldK enc s w gb 0 m dk os = W
  have hFW : ∀ b, F b → W.heap[b]? = w.heap[b]? := fun b h => by rw [← hW]; exact sw_ne (hb b h) (hFn b h)
  have hsz : w.heap.size ≤ W.heap.size := by rw [← hW]; exact sw_size
  have hg := hcmp x.1.1 x.2.1 y.1.1 y.2.1 W F [.agg (enc x).toArray, .agg (enc y).toArray] (fun b h => Nat.lt_of_lt_of_le (hb b h) hsz) (hinv.mono (fun _ h => h) hFW)
   ⟨⟨_, rfl, (henc x).mono fun _ _ h => h.mono (fun _ h => h) hFW⟩, ⟨_, rfl, (henc y).mono fun _ _ h => h.mono (fun _ h => h) hFW⟩, trivial⟩
  have hg2 := calls_drawn hg
  have e0 : (#[.agg (enc x).toArray, .agg (enc y).toArray] ++ #[] : Array Value) = [Value.agg (enc x).toArray, .agg (enc y).toArray].toArray := by simp
  rw [e0]
  refine hg2.mono fun e w' ⟨⟨hbel, v, he, hr⟩, hdr⟩ => ?_
  have hv : v = .int .i64 (cf x.1.1 y.1.1) := by
   have hr : CD _ _ (.int .i64 (cf x.1.1 y.1.1)) v := hr
   cases hr; rfl
  subst he hv
  refine ⟨rfl, grown_of_below hbel ?_⟩
  rcases hdr with h | h
  ·simp at h
  ·exact h
 have hroom : ks.length < 4611686018427387904 := by
  have := hL.room
  rw [List.length_map] at this
  unfold Eng.room at this; omega
 have hS := Go.Proofs.AnyQ.slices_SortFunc L s aE zE enc hk h1 cf' hO' g #[] gb 0 c0 d w eg hcl hH hgb (by rw [hd]; exact hroom)
 rw [hd] at hS
 rw [List.length_map]
 refine hS.mono fun e w' ⟨he, d', n, os, hp, hso, hw'⟩ => ?_
 obtain ⟨hsz, _, hperm⟩ := hp
 rw [hd] at hsz
 have hx1 : d'.extract 0 ks.length = d' := by rw [← hsz]; exact Array.extract_size
 have hx2 : d.extract 0 ks.length = d := by rw [← hd]; exact Array.extract_size
 rw [hx1, hx2] at hperm
 have hks : d.toList.map (fun x : α => x.1.1) = ks := by
  apply List.ext_getElem
  ·simp [hd]
  ·intro i h3 h4
   simp [d, mk]
 have hFW : ∀ b, F b → w'.heap[b]? = w.heap[b]? := fun b h => by rw [hw']; exact sw_ne (hb b h) (hFn b h)
 have hszw : w.heap.size ≤ w'.heap.size := by rw [hw']; exact sw_size
 refine ⟨⟨by rw [hw']; rfl, by rw [hw']; rfl, by rw [hw']; rfl, hszw, fun k hk' hx => by rw [hw']; exact sw_ne hk' hx⟩, he, d'.toList.map (fun x : α => x.1.1), Go.Sort.putCells id 0 (flatK enc s d') cs0, ?_, ?_, fun x hx => Nat.lt_of_lt_of_le (hb x hx) hszw, ?_⟩
 ·have := hperm.map (fun x : α => x.1.1)
  rw [hks] at this
  exact this
 ·rw [List.pairwise_map, List.pairwise_iff_getElem]
  intro i j hi hj hij
  simp only [Array.length_toList] at hi hj
  have := hso i j (by omega) hij (by omega)
  rw [getElem!_pos d' i hi, getElem!_pos d' j hj] at this
  exact this
 ·have hlen : ((d'.toList.map (fun x : α => x.1.1)).map row).length = ks.length := by simp [hsz]
  have hcs : (Go.Sort.putCells id 0 (flatK enc s d') cs0).size = cs0.size := by simp [Go.Sort.putCells]
  have hl' : ∀ e ∈ (d'.toList.map (fun x : α => x.1.1)).map row, e.length = s := fun e he => by
   simp only [List.mem_map] at he
   obtain ⟨k, _, rfl⟩ := he
   exact hrow k
  refine ⟨hL.nF, Nat.lt_of_lt_of_le hgb hszw, by rw [hw']; exact sw_at hgb hL.blk, by rw [hcs]; exact hL.sz, ⟨by rw [hlen]; exact hnc, hL.lc.2⟩, by rw [hlen]; have := hL.room; simpa using this, hs, hl', hL.ct, fun j hj => ?_⟩
  rw [hlen] at hj
  have hq : j / s < ks.length := Nat.div_lt_of_lt_mul (by rw [Nat.mul_comm]; exact hj)
  have hm : j % s < s := Nat.mod_lt _ hs
  have hj2 : j / s * s + j % s = j := Nat.div_add_mod' j s
  refine ⟨_, put_get hsz hL.sz hnc hj, ?_⟩
  have h4 := nth_flatten hl' (j / s) (j % s) (by rw [hlen]; exact hq) hm
  rw [hj2] at h4
  rw [h4, nth_of_lt [] (by rw [hlen]; exact hq), List.getElem_map, List.getElem_map, Array.getElem_toList, getElem!_pos d' (j / s) (by rw [hsz]; exact hq)]
  have h5 := All2.nth .undef undef _ _ (j % s) (henc d'[j / s]) (by rw [hrow]; exact hm)
  rw [nth_of_lt undef (by rw [hk]; exact hm)] at h5
  rw [getElem!_pos _ _ (by rw [hk]; exact hm)]
  exact h5.mono (fun _ h => h) hFW
end
end Eng
end

section
namespace Eng
open Go Go.RowKit Go.Shelf
open Go.Sort (SWO)
open Go.Proofs (ltOf)
section
variable {C : Cx} {ρ : Ren}
def sortK {K : Type} (cf : K → K → Int) (ks : List K) : List K := ks.mergeSort fun x y => !ltOf cf y x
theorem sortK_uniq {K : Type} {cf : K → K → Int} (hO : SWO (ltOf cf)) (hT : ∀ x y, ltOf cf x y = false → ltOf cf y x = false → x = y) {ks ks' : List K} (hp : ks'.Perm ks) (hs : ks'.Pairwise fun a b => ltOf cf b a = false) : ks' = sortK cf ks := by
 unfold sortK
 refine List.Perm.eq_of_pairwise (le := fun x y => (!ltOf cf y x) = true) ?_ ?_ ?_ (hp.trans (List.mergeSort_perm _ _).symm)
 ·intro a b _ _ h1 h2
  simp only [Bool.not_eq_true'] at h1 h2
  exact hT a b h2 h1
 ·exact hs.imp fun h => by simp [h]
 ·refine List.pairwise_mergeSort ?_ ?_ _
  ·intro a b c h1 h2
   simp only [Bool.not_eq_true'] at h1 h2 ⊢
   exact hO.ntrans _ _ _ h2 h1
  ·intro a b
   cases h : ltOf cf b a with
   | false => simp
   | true =>
    have : ltOf cf a b = false := by
     rw [← Bool.not_eq_true]
     intro h2
     have := hO.trans _ _ _ h h2
     rw [hO.irrefl] at this; simp at this
    simp [this]
theorem sort_I (L : Go.Proofs.SlLaysF0.n6 C.P ρ) {s : Nat} (hs : 0 < s) (aE : ∀ w, (isAgg (ρ.t 24)).run C.P w = .ok true w) (zE : ∀ w, (Go.sizeOf (ρ.t 24)).run C.P w = .ok s w)
 {K : Type} (row : K → List D) (hrow : ∀ k, (row k).length = s) (cf : K → K → Int) (hO : SWO (ltOf cf)) (hT : ∀ x y, ltOf cf x y = false → ltOf cf y x = false → x = y) {g : Nat} (eg : ∀ args w, (callFunc g args).run C.P w = .ok (.enter g args) w)
 {ks : List K} (hne : ks ≠ []) (hcmp : ∀ x ∈ ks, ∀ y ∈ ks, Gives C g [.ag (row x), .ag (row y)] [.c (.int .i64 (cf x y))]) :
 GivesI C (ρ.f 6) s (ks.map row) [.c (.fn g)] [] ((sortK cf ks).map row) := by
 intro w F vs2 gb c0 cs0 t0 hb hinv h2 hL
 match vs2, h2 with
 | [v], h2 =>
  have hv : v = .func (.func g) #[] #[] := by
   have h : CD w F (.fn g) v := h2.1
   cases h; rfl
  subst hv
  refine (sort_rel L hs aE zE row hrow cf hO eg hne hcmp hb hinv hL).mono fun e w' ⟨hbel, he, ks', cs, hp, hso, hbd, hL'⟩ => ?_
  have e1 := sortK_uniq hO hT hp hso
  subst e1
  exact ⟨hbel, F, cs, .tuple #[], he, fun _ h => h, fun x hx => ⟨hbd x hx, .inl hx⟩, ⟨#[], rfl, trivial⟩, hL', by simp [hp.length_eq]⟩
 | [], h2 => exact h2.elim
 | _ :: _ :: _, h2 => exact h2.2.elim
end
end Eng
end

section
namespace Eng
open Go Go.RowKit Go.Shelf
open Go.Sort (SWO PermIn SortedIn HoldsK flatK grow)
open Go.Proofs (ltOf CmpLays sortWorldK)
section
variable {C : Cx} {ρ : Ren}
def pdqL {K : Type} [Inhabited K] (cf : K → K → Int) (ks : List K) : List K := (Go.Sort.pdq (ltOf cf) ks.toArray 0 ks.length (Lib.bitLen ks.length) true true).toList
theorem pdqL_ok {K : Type} [Inhabited K] {cf : K → K → Int} (hO : SWO (ltOf cf)) (ks : List K) : (pdqL cf ks).Perm ks ∧ (pdqL cf ks).Pairwise fun a b => ltOf cf b a = false := by
 obtain ⟨⟨hsz, _, hperm⟩, hso⟩ := Go.Sort.pdq_sorts (ltOf cf) hO ks.toArray 0 ks.length (Lib.bitLen ks.length) true true (Nat.zero_le _) (by simp) (Or.inl rfl)
 unfold pdqL
 generalize Go.Sort.pdq (ltOf cf) ks.toArray 0 ks.length (Lib.bitLen ks.length) true true = d' at *
 have hsz : d'.size = ks.length := by simpa using hsz
 have hx1 : d'.extract 0 ks.length = d' := by rw [← hsz]; exact Array.extract_size
 have hx2 : ks.toArray.extract 0 ks.length = ks.toArray := by simp
 rw [hx1, hx2] at hperm
 refine ⟨by simpa using hperm, ?_⟩
 rw [List.pairwise_iff_getElem]
 intro i j hi hj hij
 simp only [Array.length_toList] at hi hj
 have := hso i j (by omega) hij (by omega)
 rw [getElem!_pos d' i hi, getElem!_pos d' j hj] at this
 exact this
theorem sort_plain (L : Go.Proofs.SlLaysF0.n6 C.P ρ) {s : Nat} (hs : 0 < s) (aE : ∀ w, (isAgg (ρ.t 24)).run C.P w = .ok true w) (zE : ∀ w, (Go.sizeOf (ρ.t 24)).run C.P w = .ok s w)
 {K : Type} [Inhabited K] (row : K → List D) (enc : K → List Value) (hrow : ∀ k, (row k).length = s) (hk : ∀ k, (enc k).length = s) (h1 : ∀ k, ∀ v ∈ enc k, v.oneCell' = true)
 (hdet : ∀ k w F vs, All2 (CD w F) (row k) vs → vs = enc k) (hback : ∀ k w F, All2 (CD w F) (row k) (enc k)) (cf : K → K → Int) (hO : SWO (ltOf cf)) {g : Nat} (eg : ∀ args w, (callFunc g args).run C.P w = .ok (.enter g args) w)
 {ks : List K} (hcmp : ∀ x y, Gives C g [.ag (row x), .ag (row y)] [.c (.int .i64 (cf x y))]) :
 GivesI C (ρ.f 6) s (ks.map row) [.c (.fn g)] [] ((pdqL cf ks).map row) := by
 intro w F vs2 gb c0 cs0 t0 hb hinv h2 hL
 match vs2, h2 with
 | [], h2 => exact h2.elim
 | _ :: _ :: _, h2 => exact h2.2.elim
 | [v], h2 =>
 have hv : v = .func (.func g) #[] #[] := by
  have h : CD w F (.fn g) v := h2.1
  cases h; rfl
 subst hv
 have hlens : ∀ e ∈ ks.map row, e.length = s := hL.lens
 have hcell : ∀ i (hi : i < ks.length), ∀ c, c < s → cs0[i * s + c]? = some ((enc ks[i])[c]!) := fun i hi c hc => by
  have key : ∀ c, c < s → ∃ v, cs0[i * s + c]? = some v ∧ CD w F (nth .undef (row ks[i]) c) v := fun c hc => by
   have hlt : i * s + c < (ks.map row).length * s := by
    rw [List.length_map]
    have := Nat.mul_le_mul_right s (show i + 1 ≤ ks.length from hi)
    rw [Nat.add_mul, Nat.one_mul] at this; omega
   obtain ⟨v, h1, h2⟩ := hL.cd _ hlt
   rw [nth_flatten hlens i c (by simpa using hi) hc, nth_of_lt [] (by simpa using hi), List.getElem_map] at h2
   exact ⟨v, h1, h2⟩
  have hall : All2 (CD w F) (row ks[i]) ((List.range s).map fun c => cs0[i * s + c]!) := by
   refine all2_of_nth .undef undef (by simp [hrow]) fun c hc => ?_
   rw [hrow] at hc
   obtain ⟨v, h1, h2⟩ := key c hc
   rw [nth_of_lt undef (by simpa using hc), List.getElem_map, List.getElem_range, getElem!_def, h1]
   exact h2
  have he := hdet _ _ _ _ hall
  obtain ⟨v, h1, _⟩ := key c hc
  rw [← he, getElem!_pos _ _ (by simpa using hc), List.getElem_map, List.getElem_range, getElem!_def, h1]
 have hgb := hL.lt
 have hnc : ks.length ≤ c0 := by have := hL.lc.1; simpa using this
 have hH : HoldsK enc s w gb 0 ks.toArray := by
  intro j hj
  rw [Go.Sort.size_flatK] at hj
  have hj : j < ks.length * s := by simpa using hj
  rw [Go.Sort.get_flatK _ _ _ _ (by simpa using hj)]
  have hq : j / s < ks.length := Nat.div_lt_of_lt_mul (by rw [Nat.mul_comm]; exact hj)
  have hm : j % s < s := Nat.mod_lt _ hs
  have hj2 : j / s * s + j % s = j := Nat.div_add_mod' j s
  have h3 := hcell _ hq _ hm
  rw [hj2] at h3
  rw [getElem!_pos ks.toArray (j / s) (by simpa using hq)]
  simp only [List.getElem_toArray]
  constructor
  ·unfold World.cell?
   simp only [Nat.zero_add]
   rw [hL.blk]
   simp only
   rw [h3]; rfl
  ·unfold World.frozen?
   simp only [Nat.zero_add]
   rw [hL.blk]
   simp
 have hFn : ∀ b, F b → b ≠ gb := fun b h e => by subst e; exact hL.nF h
 have hcl : CmpLays C.P g #[] enc s cf gb 0 ks.toArray.size w := by
  intro m os dk _ x y
  generalize hW : sortWorldK enc s w gb 0 m dk os = W
  have hFW : ∀ b, F b → W.heap[b]? = w.heap[b]? := fun b h => by rw [← hW]; exact sw_ne (hb b h) (hFn b h)
  have hsz : w.heap.size ≤ W.heap.size := by rw [← hW]; exact sw_size
  have hg := hcmp x y W F [.agg (enc x).toArray, .agg (enc y).toArray] (fun b h => Nat.lt_of_lt_of_le (hb b h) hsz) (hinv.mono (fun _ h => h) hFW)
   ⟨⟨_, rfl, hback x W F⟩, ⟨_, rfl, hback y W F⟩, trivial⟩
  have hg2 := calls_drawn hg
  have e0 : (#[.agg (enc x).toArray, .agg (enc y).toArray] ++ #[] : Array Value) = [Value.agg (enc x).toArray, .agg (enc y).toArray].toArray := by simp
  rw [e0]
  refine hg2.mono fun e w' ⟨⟨hbel, v, he, hr⟩, hdr⟩ => ?_
  have hv : v = .int .i64 (cf x y) := by
   have hr : CD _ _ (.int .i64 (cf x y)) v := hr
   cases hr; rfl
  subst he hv
  refine ⟨rfl, grown_of_below hbel ?_⟩
  rcases hdr with h | h
  ·simp at h
  ·exact h
 have hroom : ks.toArray.size < 4611686018427387904 := by
  have := hL.room
  rw [List.length_map] at this
  unfold Eng.room at this
  simp only [List.size_toArray]; omega
 have hS := Go.Proofs.AnyQ.slices_SortFunc_eq L s aE zE enc hk h1 cf hO g #[] gb 0 c0 ks.toArray w eg hcl hH hgb hroom
 have hp := pdqL_ok hO ks
 have hpl := hp.1.length_eq
 have hpe : Go.Sort.pdq (ltOf cf) ks.toArray 0 ks.toArray.size (Lib.bitLen ks.toArray.size) true true = (pdqL cf ks).toArray := by simp [pdqL]
 rw [hpe] at hS
 have hlm : (ks.map row).length = ks.toArray.size := by simp
 rw [hlm]
 refine hS.mono fun e w' ⟨he, n, os, hw'⟩ => ?_
 have hszw : w.heap.size ≤ w'.heap.size := by rw [hw']; exact sw_size
 generalize pdqL cf ks = ks' at *
 have hd' : ks'.toArray.size = ks.length := by simp [hpl]
 have hcs : (Go.Sort.putCells id 0 (flatK enc s ks'.toArray) cs0).size = cs0.size := by simp [Go.Sort.putCells]
 have hlen : (ks'.map row).length = ks.length := by simp [hpl]
 have hl' : ∀ e ∈ ks'.map row, e.length = s := fun e he => by
  simp only [List.mem_map] at he
  obtain ⟨k, _, rfl⟩ := he
  exact hrow k
 refine ⟨⟨by rw [hw']; rfl, by rw [hw']; rfl, by rw [hw']; rfl, hszw, fun k hk' hx => by rw [hw']; exact sw_ne hk' hx⟩, F, Go.Sort.putCells id 0 (flatK enc s ks'.toArray) cs0, .tuple #[], he, fun _ h => h, fun x hx => ⟨Nat.lt_of_lt_of_le (hb x hx) hszw, .inl hx⟩, ⟨#[], rfl, trivial⟩, ?_, by simp [hpl]⟩
 refine ⟨hL.nF, Nat.lt_of_lt_of_le hgb hszw, by rw [hw']; exact sw_at hgb hL.blk, by rw [hcs]; exact hL.sz, ⟨by rw [hlen]; exact hnc, hL.lc.2⟩, by rw [hlen]; have := hL.room; simpa using this, hs, hl', hL.ct, fun j hj => ?_⟩
 rw [hlen] at hj
 have hq : j / s < ks.length := Nat.div_lt_of_lt_mul (by rw [Nat.mul_comm]; exact hj)
 have hm : j % s < s := Nat.mod_lt _ hs
 have hj2 : j / s * s + j % s = j := Nat.div_add_mod' j s
 refine ⟨_, put_get hd' hL.sz hnc hj, ?_⟩
 have h4 := nth_flatten hl' (j / s) (j % s) (by rw [hlen]; exact hq) hm
 rw [hj2] at h4
 rw [h4, nth_of_lt [] (by rw [hlen]; exact hq), List.getElem_map, getElem!_pos ks'.toArray (j / s) (by rw [hd']; exact hq)]
 simp only [List.getElem_toArray]
 have h5 := All2.nth .undef undef _ _ (j % s) (hback ks'[j / s] w' F) (by rw [hrow]; exact hm)
 rw [nth_of_lt undef (by rw [hk]; exact hm)] at h5
 rw [getElem!_pos _ _ (by rw [hk]; exact hm)]
 exact h5
end
end Eng
end
