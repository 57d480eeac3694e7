/- A part of the proof. -/
import Derived.Test.YtlgnobmngljmaaaGreatDoorEngE
import Derived.Test.YtlgnobmngljmaaaGreatDoorShfA
import Derived.Test.YtlgnobmngljmaaaGreatDoorPaA
import Derived.Test.YtlgnobmngljmaaaGreatDoorPaC
import Derived.Lib.ItoaMem
import Derived.WalkKit
import Derived.KernelRfl
section
namespace Eng
open Go Go.Proofs Go.Shelf Go.RowKit Go.Sort Go.Lib
theorem holds_zero0 (w:World) (T:TypeId) (nd:Nat) (hs:nd≤24):Holds (fun(b:UInt8)=>Value.int .u8 (b.toNat:Int)) (w.alloc (.cells zeros24 T)) w.heap.size 0 (Array.replicate nd (0:UInt8)):=fun j hj=>by
 have hj':j<nd:=by simpa using hj
 refine⟨?_,World.frozen?_alloc_new _ _ _ _⟩;rw[World.cell?_alloc_new,zeros24_at _ (by omega),getElem!_pos _ j hj];simp
theorem below_put0 (w:World) (o:Go.Obj) (dk:Array UInt8) (k:Nat):Below w.heap.size w ((putRow (fun(b:UInt8)=>Value.int .u8 (b.toNat:Int)) (w.alloc o) w.heap.size 0 dk).drewN k):=by
 refine⟨rfl,rfl,rfl,?_,fun j hj=>?_⟩
 ·show w.heap.size≤((w.alloc o).heap.modify _ _).size;rw[Array.size_modify];show w.heap.size≤(w.heap.push o).size;simp
 ·show((w.alloc o).heap.modify w.heap.size _)[j]? =_;rw[Array.getElem?_modify,if_neg (by omega)];show(w.heap.push o)[j]? =_;rw[Array.getElem?_push_lt hj,Array.getElem?_eq_getElem hj]
set_option maxHeartbeats 6400000 in
set_option maxRecDepth 100000 in
theorem fu97 (u:Nat) (hu64:u<18446744073709551616) (w:World) (htab:Lib.TabIs Tryz.prog w "internal/strconv.uint64pow10" .u64 Lib.pow10Tab):
 Calls Tryz.prog 200 #[.int .u64 u,.int .i64 10] w fun e w'=>e= .returned (.string ⟨(Lib.decDigits u).toArray⟩)∧Below w.heap.size w w':=by
 have mixed:Tryz.prog.follows .mixedOrders=true:=by kernel_rfl
 by_cases hs:u<100
 ·have hw1:(u:Int)<100:=by omega
  go_enter Tryz.func200,Tryz.ntmps200
  go_wp2_with (go_at_call 275;refine(Tryz.internal_strconv_small u hs _).mono ?_;rintro e w' ⟨rfl,rfl⟩)
  go_ret
  exact⟨rfl,Below.refl _ _⟩
 ·have hw1:¬(u:Int)<100:=by omega
  have hu1:1≤u:=by omega
  have hnd20:Lib.nDigits u≤20:=by have:=Lib.numDigits_eq u hu1 hu64;split at this<;>omega
  have hal:Tryz.prog.arrayLen 299=24:=by kernel_rfl
  have hsl1:∀W,(Instr.sliceAt 299 (.pointer (some ⟨w.heap.size,0,none⟩)) none (some (.int .i64 (Lib.nDigits u:Int))) none).run Tryz.prog W= .ok (.slice (some ⟨w.heap.size,0,none⟩) (Lib.nDigits u) 24) W:=fun W=>by
   rw[run_sliceAt_array_h W 299 ⟨w.heap.size,0,none⟩ (by simp[Program.arrayLen,Program.elem,Tryz.underlying299]) .i64 (Lib.nDigits u:Int) (by omega) (by rw[hal];omega)]
   go_simp
  have hH0:=holds_zero0 w 299 (Lib.nDigits u) (by omega);have hfmt:=Tryz.internal_strconv_formatBase10 w.heap.size 0 24 u (Array.replicate (Lib.nDigits u) 0) (w.alloc (.cells Lib.zeros24 299)) hH0 (by rw[Array.size_replicate];exact Lib.lt_pow_nDigits u) hu64 (by rw[Array.size_replicate];omega);rw[Array.size_replicate]at hfmt;have HH0:=Lib.hid hH0;clear hH0 hal
  go_enter Tryz.func200,Tryz.ntmps200
  go_wp2_with (first
   |(go_at_call 276;refine(Tryz.internal_strconv_numDigits u hu1 hu64 _ (Lib.tabIs_alloc htab _)).mono ?_;rintro e w' ⟨rfl,rfl⟩))
  go_at_call 277
  refine hfmt.mono ?_;rintro e w' ⟨rfl,k,v',dk,rfl,hF⟩;have hcv:(convert 90 9 (.slice (some ⟨w.heap.size,0,none⟩) (Lib.nDigits u) 24)).run Tryz.prog ((putRow (fun(b:UInt8)=>Value.int .u8 (b.toNat:Int)) (w.alloc (.cells Lib.zeros24 299)) w.heap.size 0 dk).drewN k)= .ok (.string ⟨(Lib.decDigits u).toArray⟩) ((putRow (fun(b:UInt8)=>Value.int .u8 (b.toNat:Int)) (w.alloc (.cells Lib.zeros24 299)) w.heap.size 0 dk).drewN k):=by
   have h:=run_convert_bytes_back (P:=Tryz.prog) ((putRow (fun(b:UInt8)=>Value.int .u8 (b.toNat:Int)) (w.alloc (.cells Lib.zeros24 299)) w.heap.size 0 dk).drewN k) 90 9 5 ⟨w.heap.size,0,none⟩ 24 (Lib.decDigits u) Tryz.underlying90 Tryz.underlying5 Tryz.underlying9 (fun j hj=>by
    rw[Lib.row_is_numeral hF j hj,Lib.add_plain,World.cell?_drewN];exact cell?_putRow (fun(b:UInt8)=>Value.int .u8 (b.toNat:Int)) _ w.heap.size 0 _ dk HH0.out (by rw[hF.size,Array.size_replicate]) j (by rw[hF.size];rw[Lib.decDigits_length]at hj;exact hj))
   rw[Lib.decDigits_length]at h;exact h
  go_wp2
  go_ret
  exact⟨rfl,below_put0 w _ dk k⟩
set_option maxHeartbeats 1000000 in
theorem fu61 (u:Nat) (hu64:u<18446744073709551616) (w:World) (htab:Lib.TabIs Tryz.prog w "internal/strconv.uint64pow10" .u64 Lib.pow10Tab):
 Calls Tryz.prog 136 #[.int .u64 u,.int .i64 10] w fun e w'=>e= .returned (.string ⟨(Lib.decDigits u).toArray⟩)∧Below w.heap.size w w':=by
 go_enter Tryz.func136,Tryz.ntmps136
 go_wp2_with (go_at_call 200;refine(fu97 u hu64 _ htab).mono ?_;rintro e w' ⟨rfl,hb⟩)
 go_ret
 exact⟨rfl,hb⟩
end Eng
end

section
namespace Eng
open Go Go.Proofs
set_option maxRecDepth 100000
def pow10D:List D:=[.int .u64 1,.int .u64 10,.int .u64 100,.int .u64 1000,.int .u64 10000,.int .u64 100000,.int .u64 1000000,.int .u64 10000000,.int .u64 100000000,.int .u64 1000000000,.int .u64 10000000000,.int .u64 100000000000,.int .u64 1000000000000,.int .u64 10000000000000,.int .u64 100000000000000,.int .u64 1000000000000000,.int .u64 10000000000000000,.int .u64 100000000000000000,.int .u64 1000000000000000000,.int .u64 10000000000000000000]
def gvar (g:Nat):Option (List D):=match g with
 |0=>some pow10D
 |_=>none
theorem extIdx:ExtK Tryz.prog 286 Extern.BytealgIndexByte.indexByte:=⟨fun args w=>run_callFunc_extern Tryz.func286 (by kernel_rfl) (by kernel_rfl) (by kernel_rfl) (by kernel_rfl) args w⟩
theorem extCnt:ExtK Tryz.prog 284 Extern.BytealgCount.count:=⟨fun args w=>run_callFunc_extern Tryz.func284 (by kernel_rfl) (by kernel_rfl) (by kernel_rfl) (by kernel_rfl) args w⟩
section
variable [Env]
def effStr (f:Nat):Option (Option Nat→List V→List Obj→R):=
 match bldEff 92 39 147 41 f with
 |some e=>some e
 |none=>match Nat.beq f 286 with
  |true=>some effIdx
  |false=>match Nat.beq f 284 with
   |true=>some effCnt
   |false=>effM timesChk timesMk f
noncomputable def CS:Cx:=⟨Tryz.prog,gvar,fun t=>Nat.beq t 92,effStr,keepT,fun _=>false⟩
theorem effStr_ok (f:Nat) (e:Option Nat→List V→List Obj→R) (h:CS.eff f=some e):EffAt CS f e:=by
 replace h:effStr f=some e:=h;unfold effStr at h;split at h
 ·rename_i e' he;simp only[Option.some.injEq]at h;subst h;exact effAt_bld (C:=CS) bldK he
 ·split at h
  ·rename_i hb;obtain rfl:=Nat.eq_of_beq_eq_true hb;simp only[Option.some.injEq]at h;subst h;exact effAt_idx extIdx
  ·split at h
   ·rename_i hb;obtain rfl:=Nat.eq_of_beq_eq_true hb;simp only[Option.some.injEq]at h;subst h;exact effAt_cnt extCnt
   ·unfold effM at h;split at h
    ·rename_i hb;obtain rfl:=Nat.eq_of_beq_eq_true hb;simp only[Option.some.injEq]at h;subst h;exact effAt_sub (C:=CS) subK
    ·split at h
     ·rename_i hb;obtain rfl:=Nat.eq_of_beq_eq_true hb;simp only[Option.some.injEq]at h;subst h;exact effAt_res (C:=CS) subK
     ·split at h
      ·rename_i hb;obtain rfl:=Nat.eq_of_beq_eq_true hb;simp only[Option.some.injEq]at h;subst h;exact effAt_ownC (C:=CS) Tryz.func161 (by simp[Tryz.f161]) (by decide) fun al hc=>by intro w F vs hF hi ha;exact(times_chk al hc) w F vs hF (fun g cs hg=>by cases hg) ha
      ·simp at h
instance:EffOk CS:=effOk_all effStr_ok
theorem upS {f:Nat} {al rs:List A} (h:Gives CC f al rs):Gives CS f al rs:=fun w F vs hF _ ha=>h w F vs hF (fun g cs hg=>by cases hg) ha
def decF:Nat→Nat→List UInt8
 |0,_=>[]
 |n+1,u=>match Nat.blt u 10 with
  |true=>[UInt8.ofNat (48+u)]
  |false=>decF n (u/10)++[UInt8.ofNat (48+u%10)]
omit [Env] in
theorem decF_ok:∀(n u:Nat),0<n→u<10^n→decF n u=Lib.decDigits u
 |n+1,u,_,h=>by
  rw[Lib.decDigits];simp only[decF];by_cases h1:u<10
  ·rw[dif_pos h1];have:Nat.blt u 10=true:=by rw[Nat.blt_eq];exact h1
   rw[this]
  ·rw[dif_neg h1];have:Nat.blt u 10=false:=by rw[Bool.eq_false_iff];intro h2;rw[Nat.blt_eq]at h2;exact h1 h2
   rw[this];simp only;have hn:0<n:=by
    rcases Nat.eq_zero_or_pos n with h0|h0
    ·subst h0;simp at h;omega
    ·exact h0
   rw[decF_ok n (u/10) hn (by rw[Nat.pow_succ]at h;omega)]
theorem tabIs {F:Nat→Prop} {w:World} (h:Inv CS F w):Lib.TabIs Tryz.prog w "internal/strconv.uint64pow10" .u64 Lib.pow10Tab:=by
 obtain⟨_,vs,t,fr,hb,hcs⟩:=h 0 pow10D rfl;have hg:Tryz.prog.globalNamed "internal/strconv.uint64pow10" =some 0:=by kernel_rfl
 unfold Lib.TabIs World.var?;rw[hg];simp only[Option.bind_some,hb];have hv:vs.toList=pow10D.map fun d=>match d with| .int k n=>Value.int k n|_=>undef:=by
  have key:∀(l:List D) (us:List Value),(∀d∈l,∃k n,d= .int k n)→All2 (CD w F) l us→us=l.map fun d=>match d with| .int k n=>Value.int k n|_=>undef:=by
   intro l
   induction l with
   |nil=>intro us _ h;cases us with|nil=>rfl|cons _ _=>exact h.elim
   |cons d l ih=>
    intro us hl h;cases us with
    |nil=>exact h.elim
    |cons u us=>obtain⟨k,n,rfl⟩:=hl d (by simp);rw[ih us (fun d hd=>hl d (by simp[hd])) h.2];cases(h.1:CD _ _ _ _);rfl
  refine key _ _ (fun d hd=>?_) hcs;simp only[pow10D,List.mem_cons,List.not_mem_nil,or_false]at hd;rcases hd with rfl|rfl|rfl|rfl|rfl|rfl|rfl|rfl|rfl|rfl|rfl|rfl|rfl|rfl|rfl|rfl|rfl|rfl|rfl|rfl<;>exact⟨_,_,rfl⟩
 have:vs=(pow10D.map fun d=>match d with| .int k n=>Value.int k n|_=>undef).toArray:=by rw[←hv]
 rw[this];rfl
theorem fmtUint_ok (u:Nat) (hu:u<18446744073709551616):Gives CS 136 [.c (.int .u64 u),.c (.int .i64 10)] [.c (.str (Lib.decDigits u))]:=
 gives_flat rfl (fun _ _=>CD.str _) fun w F hi=>by have:=fu61 u hu w (tabIs hi);exact this
theorem repeat_ok (s:List UInt8) (c:Nat) (hc:s.length*c≤1073741824) (hc2:c≤1073741824):Gives CS 85 [.c (.str s),.c (.int .i64 c)] [.c (.str (Lib.repeatL s c))]:=
 gives_flat rfl (fun _ _=>CD.str _) fun w F _=>by have hs:(⟨⟨s⟩⟩:ByteArray).size=s.length:=rfl;exact Tryz.strings_Repeat ⟨⟨s⟩⟩ c w (by omega) (by rw[hs];omega)
omit [Env] in
theorem ascii_of_all {cs:List UInt8} (h:cs.all (fun b=>decide (b.toNat<128))=true):∀(j:Nat) b,cs[j]? =some b→b.toNat<128:=fun j b hj=>by
 have:=List.all_eq_true.1 h b (List.mem_of_getElem? hj);exact of_decide_eq_true this
theorem trim_ok (s cs:List UInt8) (hs:s.length≤1073741824) (hcs:cs.length≤1073741824) (ha:cs.all (fun b=>decide (b.toNat<128))=true):Gives CS 290 [.c (.str s),.c (.str cs)] [.c (.str (Lib.trimS s cs))]:=
 gives_flat rfl (fun _ _=>CD.str _) fun w F _=>by have h1:(⟨⟨s⟩⟩:ByteArray).size=s.length:=rfl;have h2:(⟨⟨cs⟩⟩:ByteArray).size=cs.length:=rfl;exact Go.Proofs.Any.strings_Trim_laid Tryz.lays160 (by kernel_rfl) ⟨⟨s⟩⟩ ⟨⟨cs⟩⟩ w (by rw[h1];omega) (by rw[h2];omega) (ascii_of_all ha)
def tabS (f:Nat) (al:List A):Option (List A):=
 match Nat.beq f 85 with
 |true=>match al with
  |[.c (.str s),.c (.int .i64 (.ofNat c))]=>match Nat.ble (s.length*c) 1073741824,Nat.ble c 1073741824 with
   |true,true=>some [.c (.str (Lib.repeatL s c))]
   |_,_=>none
  |_=>none
 |false=>match Nat.beq f 136 with
  |true=>match al with
   |[.c (.int .u64 (.ofNat u)),.c (.int .i64 (.ofNat b))]=>match Nat.beq b 10,Nat.blt u 18446744073709551616 with
    |true,true=>some [.c (.str (decF 20 u))]
    |_,_=>none
   |_=>none
  |false=>match Nat.beq f 290 with
   |true=>match al with
    |[.c (.str s),.c (.str cs)]=>match Nat.ble s.length 1073741824,Nat.ble cs.length 1073741824,cs.all (fun b=>decide (b.toNat<128))with
     |true,true,true=>some [.c (.str (Lib.trimS s cs))]
     |_,_,_=>none
    |_=>none
   |false=>tabU f al
theorem tabS_ok (f:Nat) (al rs:List A) (h:tabS f al=some rs):Gives CS f al rs:=by
 unfold tabS at h;split at h
 ·rename_i hb;obtain rfl:=Nat.eq_of_beq_eq_true hb;split at h
  ·rename_i s c;split at h
   ·rename_i h1 h2;simp only[Option.some.injEq]at h;subst h;exact repeat_ok s c (Nat.le_of_ble_eq_true h1) (Nat.le_of_ble_eq_true h2)
   ·simp at h
  ·simp at h
 ·split at h
  ·rename_i hb;obtain rfl:=Nat.eq_of_beq_eq_true hb;split at h
   ·rename_i u b;split at h
    ·rename_i h1 h2;simp only[Option.some.injEq]at h;subst h;obtain rfl:=Nat.eq_of_beq_eq_true h1;rw[Nat.blt_eq]at h2;have hu:=h2;rw[decF_ok 20 u (by omega) (by omega)];exact fmtUint_ok u hu
    ·simp at h
   ·simp at h
  ·split at h
   ·rename_i hb;obtain rfl:=Nat.eq_of_beq_eq_true hb;split at h
    ·rename_i s cs;split at h
     ·rename_i h1 h2 h3;simp only[Option.some.injEq]at h;subst h;exact trim_ok s cs (Nat.le_of_ble_eq_true h1) (Nat.le_of_ble_eq_true h2) h3
     ·simp at h
    ·simp at h
   ·exact upS (tabU_ok f al rs h)
end
end Eng
end

section
open Go Go.Proofs Eng
set_option maxRecDepth 1000000
namespace Eng
theorem vc_lWorld (Gv:Nat→List A→List A→Prop) (x0 y0 x1 y1 th ga sf:Int) (es:List (List D)) (mg:Int) (sx sy su:Int) (Q:List A→Prop):wpF CS Gv an0 Tryz.f3 [.ag [.int .i64 x0,.int .i64 y0,.int .i64 x1,.int .i64 y1,.int .i64 th,.int .i64 ga,.sl es,.int .i64 sf],.c (.int .i64 mg),.ag [.int .i16 sx,.int .i16 sy,.int .u8 su]] Q=(
 ∃b,Gv 4 [] [A.c (D.bool b)]∧br (toB (D.bool !b)) (∃b,Gv 4 [] [A.c (D.bool b)]∧Q [A.c (D.bool b)]) (∃b,Gv 5 [A.ag [D.int .i64 x0,D.int .i64 y0,D.int .i64 x1,D.int .i64 y1,D.int .i64 th,D.int .i64 ga,D.sl es,D.int .i64 sf]] [A.c (D.bool b)]∧br (toB (D.bool !b)) (∃b,Gv 4 [] [A.c (D.bool b)]∧Q [A.c (D.bool b)]) (br (toB (D.bool (decide (mg>10000000)))) (∃b,Gv 4 [] [A.c (D.bool b)]∧Q [A.c (D.bool b)]) (∃x x_1 x2 x3,Gv 6 [A.ag [D.int .i64 x0,D.int .i64 y0,D.int .i64 x1,D.int .i64 y1,D.int .i64 th,D.int .i64 ga,D.sl es,D.int .i64 sf],A.c (D.int .i64 mg)] [A.ag (rk x (rk x_1 (rk x2 (rk x3 []))))]∧∃x4 x5 x6 x7,Gv 7 [A.ag [D.int .i64 x0,D.int .i64 y0,D.int .i64 x1,D.int .i64 y1,D.int .i64 th,D.int .i64 ga,D.sl es,D.int .i64 sf],A.c (D.int .i64 mg)] [A.ag (rk x4 (rk x5 (rk x6 (rk x7 []))))]∧∃e1 i,Gv 8 [A.ag [D.int .i64 x0,D.int .i64 y0,D.int .i64 x1,D.int .i64 y1,D.int .i64 th,D.int .i64 ga,D.sl es,D.int .i64 sf]] [A.ag [D.sl e1],A.c (D.int .i64 i)]∧∃e2 i_1,Gv 9 [A.ag [D.int .i64 x0,D.int .i64 y0,D.int .i64 x1,D.int .i64 y1,D.int .i64 th,D.int .i64 ga,D.sl es,D.int .i64 sf]] [A.ag [D.sl e2],A.c (D.int .i64 i_1)]∧∃b,Gv 10 [A.ag (rk x []),A.ag (rk x4 [])] [A.c (D.bool b)]∧br (toB (D.bool !b)) (Q [A.c (D.bool false)]) (∃b,Gv 10 [A.ag (rk x_1 []),A.ag (rk x5 [])] [A.c (D.bool b)]∧br (toB (D.bool !b)) (Q [A.c (D.bool false)]) (∃b,Gv 10 [A.ag (rk x2 []),A.ag (rk x6 [])] [A.c (D.bool b)]∧br (toB (D.bool !b)) (Q [A.c (D.bool false)]) (∃b,Gv 10 [A.ag (rk x3 []),A.ag (rk x7 [])] [A.c (D.bool b)]∧br (toB (D.bool !b)) (Q [A.c (D.bool false)]) (∃x x8,Gv 12 [A.ag [D.int .i16 sx,D.int .i16 sy,D.int .u8 su]] [A.ag (rk x (rk x8 []))]∧∃x9,Gv 11 [A.ag (rk x (rk x8 []))] [A.ag (pk x9 [])]∧br (toB (D.bool (i==0))) (∃b,Gv 13 [A.ag [D.sl e1]] [A.c (D.bool b)]∧br b (∃b,Gv 14 [A.ag [D.sl e1],A.ag [D.sl e2]] [A.c (D.bool b)]∧br b (∃i,Gv 15 [A.ag [D.sl e1],A.ag (pk x9 [])] [A.c (D.int .i64 i)]∧∃i_2,Gv 15 [A.ag [D.sl e2],A.ag (pk x9 [])] [A.c (D.int .i64 i_2)]∧br (toB (D.bool (i==i_2))) (∃i,Gv 16 [A.ag [D.int .i64 x0,D.int .i64 y0,D.int .i64 x1,D.int .i64 y1,D.int .i64 th,D.int .i64 ga,D.sl es,D.int .i64 sf]] [A.c (D.int .i64 i)]∧∃i_3,Gv 17 [A.ag [D.int .i64 x0,D.int .i64 y0,D.int .i64 x1,D.int .i64 y1,D.int .i64 th,D.int .i64 ga,D.sl es,D.int .i64 sf]] [A.c (D.int .i64 i_3)]∧Q [A.c (D.bool (i==i_3))]) (Q [A.c (D.bool false)])) (Q [A.c (D.bool false)])) (Q [A.c (D.bool false)])) (Q [A.c (D.bool false)]))))))))):=by kernel_rfl
end Eng
end
