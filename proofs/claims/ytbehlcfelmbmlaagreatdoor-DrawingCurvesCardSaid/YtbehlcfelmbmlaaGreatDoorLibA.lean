/- A part of the proof. -/
import Derived.Test.YtbehlcfelmbmlaaGreatDoorEngE
import Derived.Test.YtbehlcfelmbmlaaGreatDoorShfA
import Derived.Shelf.Strings.Builder1
import Derived.Test.YtbehlcfelmbmlaaGreatDoorProg
import Derived.WalkKit
import Derived.KernelRfl
import Derived.LoopTactic
import Derived.IntWalk
import Derived.Lib.ItoaMem
open Array renaming size_replicate→Aa, getElem?_eq_getElem→Ab, getElem?_eq_none→Ac, getElem?_modify→Ad, replicate→Ae
open Go.Builtin renaming unsafeSliceData_→Af, unsafeString_→Ah
open Go.IntKind renaming u64→Ai, wrap_u32→Aj, u32→Ak
open Go.Lib renaming cell_of_heap→Al, nDigits→Am, decDigits→An, frozen_of_heap→Ao, zeros24→Ap, decDigits_length→Aq, pow10Tab→Ar, TabIs→As
open Go.RowKit renaming intOf→At
open Go.Value renaming int→Au
open Go.World renaming size_alloc→Av, shape?→Aw, cell?→Ax
open List renaming drop_eq_nil_of_le→Ay, length→Az
open Nat renaming le_of_eq→A0, zero_le→A1, lt_of_lt_of_le→A2, lt_or_ge→A3, le_of_lt→A4, le_refl→A5
open Ne renaming symm→A6
section
namespace Eng
open Go Go.Proofs Go.RowKit
theorem X2 {P:Program} {ops:Array Oper} {Q:Exit→Act→World→Prop} {a:Act} {w w':World} {rest:List Oper} {dst:Option Tmp} {x y:Operand} {ts:Array TypeId} {ty:TypeId} {pos:String} {after:Array Edge} {v':Value}
 (hr:(Builtin.append_ ts ty #[a.eval x,a.eval y]).run P w= .ok v' w') (h:wpList P ops Q rest (a.put dst v') w'):wpList P ops Q (⟨dst,.call ⟨.builtin .append, #[x,y],ts⟩,ty,pos,after,none⟩::rest) a w:=by
 refine wpList_plain rfl fun K hK=>?_
 have a0:(execOp a.eval ⟨dst,.call ⟨.builtin .append, #[x,y],ts⟩,ty,pos,after,none⟩).run P w= .ok (.value v') w':=by simp[execOp,resolve,invoke,builtin,hr]
 unfold Oper.wp;rw[a0];exact hK _ _ h
theorem NE:(Tryz.prog.info? 76).map (·.size)=some 2:=by kernel_rfl
theorem Sl:liesAt Tryz.prog Tryz.prog.depth 76 (2/Tryz.prog.cellsOf 76) 0 76 1=true:=by kernel_rfl
set_option maxHeartbeats 1000000 in
set_option maxRecDepth 100000 in
theorem Pp {w:World} {b:Nat} (h0:w.cell? ⟨b,0,none⟩=some (.pointer (some ⟨b,0,none⟩))):
 Calls Tryz.prog 70 #[.pointer (some ⟨b,0,none⟩)] w fun e w'=>e= .returned (.tuple #[])∧w'=w:=by
 obtain⟨j,hj,_⟩:=Option.map_eq_some_iff.1 NE
 go_enter Tryz.func70,Tryz.ntmps70
 go_wp2
 rw[Lib.run_neq_ptr_same w _ Tryz.underlying73 hj]
 go_wp2
 go_end0
 exact⟨rfl,rfl⟩
set_option maxHeartbeats 1000000 in
set_option maxRecDepth 100000 in
theorem M8 {w:World} {b:Nat} (h0:w.cell? ⟨b,0,none⟩=some (.pointer none)) (hsh:w.shape? b=some (76,2)) (hfz:w.frozen? ⟨b,0,none⟩=false):
 Calls Tryz.prog 70 #[.pointer (some ⟨b,0,none⟩)] w fun e w'=>e= .returned (.tuple #[])∧w'=w.setCell ⟨b,0,none⟩ (.pointer (some ⟨b,0,none⟩)):=by
 obtain⟨j,hj,hjs⟩:=Option.map_eq_some_iff.1 NE
 go_enter Tryz.func70,Tryz.ntmps70
 go_wp2
 rw[Lib.run_to_unsafe w ⟨b,0,none⟩ Tryz.underlying73 Tryz.underlying196 hj (by rw[hjs];decide) hsh (Nat.zero_lt_succ 1)];simp only[Result.andThen];rw[Oper.upon_value]
 go_wp2
 rw[run_callFunc_extern Tryz.func130 (by kernel_rfl) (by kernel_rfl) (by kernel_rfl) (e:=Extern.AbiNoEscape.same) (by kernel_rfl)];rw[Lib.run_noEscape];simp only[Result.andThen];rw[Oper.upon_value]
 go_wp2
 rw[Lib.run_from_unsafe w ⟨b,0,none⟩ Tryz.underlying196 Tryz.underlying73 hj hsh Sl];simp only[Result.andThen];rw[Oper.upon_value]
 go_wp2
 go_end0
 exact⟨rfl,rfl⟩
theorem Sn {w:World} {b:Nat} {p v:Value} (hb:w.heap[b]? =some (.cells #[p,v] 76 (0,0))) (hp:p= .pointer none∨p= .pointer (some ⟨b,0,none⟩)):
 Calls Tryz.prog 70 #[.pointer (some ⟨b,0,none⟩)] w fun e w'=>e= .returned (.tuple #[])∧w'=setBlk w b (.cells #[.pointer (some ⟨b,0,none⟩),v] 76 (0,0)):=by
 rcases hp with rfl|rfl
 ·have h0:w.cell? ⟨b,0,none⟩=some (.pointer none):=by simp[Ax,hb]
  have hsh:w.shape? b=some (76,2):=by simp[Aw,hb]
  have hfz:w.frozen? ⟨b,0,none⟩=false:=Ao hb 0;refine(M8 h0 hsh hfz).mono ?_;rintro e w' ⟨rfl,rfl⟩;refine⟨rfl,?_⟩;exact jJ hb
 ·have h0:w.cell? ⟨b,0,none⟩=some (.pointer (some ⟨b,0,none⟩)):=by simp[Ax,hb]
  refine(Pp h0).mono ?_;rintro e w' ⟨rfl,rfl⟩;exact⟨rfl,(we hb).symm⟩
theorem So:(Tryz.prog.info? 5).map (fun i=>(i.zero,i.size,i.bytes))=some (some (.int .u8 0),1,1):=by kernel_rfl
set_option maxHeartbeats 1000000 in
set_option maxRecDepth 100000 in
theorem BE {w:World} {b:Nat} {p v:Value} {own:Option (Nat×Nat)} {bs:List Value} (s:ByteArray) (hb:w.heap[b]? =some (.cells #[p,v] 76 (0,0))) (hp:p= .pointer none∨p= .pointer (some ⟨b,0,none⟩)) (hv:Buf 5 w b own v bs) (hroom:bs.length+s.size≤1073741824):
 Calls Tryz.prog 29 #[.pointer (some ⟨b,0,none⟩),.string s] w fun e w'=>e= .returned (.tuple #[.int .i64 s.size,.nilIface])∧YH 76 5 w b own (bs++byteCells s) w':=by
 have hlt:b<w.heap.size:=by
  rcases A3 b w.heap.size with h|h
  ·exact h
  ·rw[Ac h]at hb;simp at hb
 have ad:∀g,zN own g→g≠b:=fun g hg=>by obtain⟨c,rfl⟩:=hg;exact hv.2.1
 generalize hw1:setBlk w b (.cells #[.pointer (some ⟨b,0,none⟩),v] 76 (0,0))=w1 at *;have hcc:Calls Tryz.prog 70 #[.pointer (some ⟨b,0,none⟩)] w fun e w'=>e= .returned (.tuple #[])∧w'=w1:=by rw[←hw1];exact Sn hb hp
 have ac:w1.heap[b]? =some (.cells #[.pointer (some ⟨b,0,none⟩),v] 76 (0,0)):=by rw[←hw1];exact xP hlt
 have hs1:w1.heap.size≤w.heap.size:=by rw[←hw1];exact A0 setBlk_size
 have hs2:w.heap.size≤w1.heap.size:=by rw[←hw1];exact A0 setBlk_size.symm
 have a2:∀k,k≠b→w1.heap[k]? =w.heap[k]? :=fun k hk=>by rw[←hw1];exact xb (A6 hk)
 have a6:Below 0 w w1:=⟨by rw[←hw1];rfl,by rw[←hw1];rfl,by rw[←hw1];rfl,by omega,fun k hk=>by omega⟩;have hv1:Buf 5 w1 b own v bs:=by
  cases own with
  |none=>exact hv
  |some gc=>obtain⟨g,c⟩:=gc;obtain⟨q1,q2,q3,q4,cs,t,q5,q6,q7⟩:=hv;exact⟨q1,q2,by omega,q4,cs,t,by rw[a2 g q2];exact q5,q6,q7⟩
 clear hw1;obtain⟨i5,hi5,a9,a8,a7⟩:=info_parts So;obtain⟨v',w2,a1,hr,a0,hk,a3⟩:=Xp (P:=Tryz.prog) (t:=74) (tx:=9) (e:=5) (ty:=74) Tryz.underlying74 hi5 a9 a8 rfl a7 hv1 (by omega) (Src.ofString w1 Tryz.underlying9 s) hroom;have a5:w2.heap[b]? =some (.cells #[.pointer (some ⟨b,0,none⟩),v] 76 (0,0)):=by rw[hk.block b (by omega) fun hg=>ad b hg rfl];exact ac
 have c1:w1.cell? ⟨b,1,none⟩=some v:=by rw[Al ac];rfl
 have f2:w2.frozen? ⟨b,1,none⟩=false:=Ao a5 1;have d1:w2.cell? ⟨b,1,none⟩=some v:=by rw[Al a5];rfl
 obtain⟨ao,n',a4,rfl⟩:∃ao n' a4,v'= .slice ao n' a4:=by
  cases a1 with
  |none=>exact⟨_,_,_,a0.1⟩
  |some gc=>exact⟨_,_,_,a0.1⟩
 go_enter Tryz.func29,Tryz.ntmps29
 go_wp2_with (first|(go_at_call 70;refine hcc.mono ?_;rintro e w1' ⟨rfl,rfl⟩)|(at_builtin;refine X2 hr ?_))
 go_ret2
 refine⟨rfl,?_⟩;have aa:b<w2.heap.size:=A2 (by omega) hk.below.size;have ab:w2.setCell ⟨b,1,none⟩ (.slice ao n' a4)=setBlk w2 b (.cells #[.pointer (some ⟨b,0,none⟩),.slice ao n' a4] 76 (0,0)):=jJ a5;rw[ab];have ae:∀g,zN a1 g→g≠b:=fun g hg=>by
  rcases a3 g hg with h|h
  ·exact ad g h
  ·omega
 refine⟨_,a1,xP aa,?_,⟨a6.trans (hk.below.trans ⟨rfl,rfl,rfl,by rw[setBlk_size];omega,fun k hk=>by omega⟩),fun k hkk hn=>?_⟩,fun g hg=>(a3 g hg).imp_right fun h=>by omega⟩
 ·cases a1 with
  |none=>exact a0
  |some gc=>obtain⟨g,c⟩:=gc;obtain⟨q1,q2,q3,q4,cs,t,q5,q6,q7⟩:=a0;exact⟨q1,q2,by rw[setBlk_size];exact q3,q4,cs,t,by rw[xb (A6 q2)];exact q5,q6,q7⟩
 ·have h1:k≠b:=fun e=>hn (.inl e)
  rw[xb (A6 h1),hk.block k (by omega) fun h=>hn (.inr h),a2 k h1]
set_option maxHeartbeats 1000000 in
set_option maxRecDepth 100000 in
theorem BF {w:World} {b:Nat} {p v:Value} {own:Option (Nat×Nat)} {bs:List Value} (c:Int) (hb:w.heap[b]? =some (.cells #[p,v] 76 (0,0))) (hp:p= .pointer none∨p= .pointer (some ⟨b,0,none⟩)) (hv:Buf 5 w b own v bs) (hroom:bs.length+1≤1073741824):
 Calls Tryz.prog 158 #[.pointer (some ⟨b,0,none⟩),.int .u8 c] w fun e w'=>e= .returned .nilIface∧YH 76 5 w b own (bs++[.int .u8 c]) w':=by
 have hlt:b<w.heap.size:=by
  rcases A3 b w.heap.size with h|h
  ·exact h
  ·rw[Ac h]at hb;simp at hb
 have ag:∀g,zN own g→g≠b:=fun g hg=>by obtain⟨c,rfl⟩:=hg;exact hv.2.1
 generalize hw1:setBlk w b (.cells #[.pointer (some ⟨b,0,none⟩),v] 76 (0,0))=w1 at *;have hcc:Calls Tryz.prog 70 #[.pointer (some ⟨b,0,none⟩)] w fun e w'=>e= .returned (.tuple #[])∧w'=w1:=by rw[←hw1];exact Sn hb hp
 have af:w1.heap[b]? =some (.cells #[.pointer (some ⟨b,0,none⟩),v] 76 (0,0)):=by rw[←hw1];exact xP hlt
 have hs1:w1.heap.size≤w.heap.size:=by rw[←hw1];exact A0 setBlk_size
 have hs2:w.heap.size≤w1.heap.size:=by rw[←hw1];exact A0 setBlk_size.symm
 have a4:∀k,k≠b→w1.heap[k]? =w.heap[k]? :=fun k hk=>by rw[←hw1];exact xb (A6 hk)
 have a8:Below 0 w w1:=⟨by rw[←hw1];rfl,by rw[←hw1];rfl,by rw[←hw1];rfl,by omega,fun k hk=>by omega⟩;have ai:Buf 5 w1 b own v bs:=by
  cases own with
  |none=>exact hv
  |some gc=>obtain⟨g,c⟩:=gc;obtain⟨q1,q2,q3,q4,cs,t,q5,q6,q7⟩:=hv;exact⟨q1,q2,by omega,q4,cs,t,by rw[a4 g q2];exact q5,q6,q7⟩
 clear hw1;obtain⟨i5,hi5,ab,aa,a9⟩:=info_parts So;generalize hwA:w1.alloc (.cells #[.int .u8 c] 5)=wA at *;have hszA:wA.heap.size≤w1.heap.size+1:=by rw[←hwA,Av];exact A5 _
 have hszB:w1.heap.size+1≤wA.heap.size:=by rw[←hwA,Av];exact A5 _
 have a0:∀k,k<w1.heap.size→wA.heap[k]? =w1.heap[k]? :=fun k hk=>by rw[←hwA];exact Below.heap_alloc _ _ _ hk
 have a3:Below 0 w1 wA:=by rw[←hwA];exact(Below.refl 0 w1).alloc (A1 _) _
 have hvA:Buf 5 wA b own v bs:=by
  cases own with
  |none=>exact ai
  |some gc=>obtain⟨g,c⟩:=gc;obtain⟨q1,q2,q3,q4,cs,t,q5,q6,q7⟩:=ai;exact⟨q1,q2,by omega,q4,cs,t,by rw[a0 g q3];exact q5,q6,q7⟩
 have ae:Src Tryz.prog 1 74 (.slice (some ⟨w1.heap.size,0,none⟩) 1 1) 1 [.int .u8 c] wA:=by
  refine Src.ofSlice wA (e':=5) Tryz.underlying74 _ 1 1 _ rfl (fun j u hj=>?_) (fun u hu=>by simp at hu;subst hu;rfl)
  match j,hj with
  |0,hj=>
   simp at hj;subst hj;have hbA:wA.heap[w1.heap.size]? =some (.cells #[.int .u8 c] 5 (0,0)):=by rw[←hwA];exact Array.getElem?_push_size
   rw[xe];show wA.cell? ⟨w1.heap.size,0,none⟩=_;rw[xU hbA];rfl
 obtain⟨v',w2,a2,hr,a1,hk,a5⟩:=Xp (P:=Tryz.prog) (t:=74) (tx:=74) (e:=5) (ty:=74) Tryz.underlying74 hi5 ab aa rfl a9 hvA (by omega) ae hroom;subst hwA;have a7:w2.heap[b]? =some (.cells #[.pointer (some ⟨b,0,none⟩),v] 76 (0,0)):=by rw[hk.block b (by omega) fun hg=>ag b hg rfl,a0 b (by omega)];exact af
 have c1:w1.cell? ⟨b,1,none⟩=some v:=by rw[Al af];rfl
 have f2:w2.frozen? ⟨b,1,none⟩=false:=Ao a7 1;have d1:w2.cell? ⟨b,1,none⟩=some v:=by rw[Al a7];rfl
 obtain⟨ao,n',a6,rfl⟩:∃ao n' a6,v'= .slice ao n' a6:=by
  cases a2 with
  |none=>exact⟨_,_,_,a1.1⟩
  |some gc=>exact⟨_,_,_,a1.1⟩
 go_enter Tryz.func158,Tryz.ntmps158
 go_wp2_with (first|(go_at_call 70;refine hcc.mono ?_;rintro e w1' ⟨rfl,rfl⟩)|(at_builtin;refine X2 hr ?_))
 go_ret
 refine⟨rfl,?_⟩;have ac:b<w2.heap.size:=A2 (by omega) hk.below.size;have ad:w2.setCell ⟨b,1,none⟩ (.slice ao n' a6)=setBlk w2 b (.cells #[.pointer (some ⟨b,0,none⟩),.slice ao n' a6] 76 (0,0)):=jJ a7;rw[ad];have ah:∀g,zN a2 g→g≠b:=fun g hg=>by
  rcases a5 g hg with h|h
  ·exact ag g h
  ·omega
 refine⟨_,a2,xP ac,?_,⟨a8.trans (a3.trans (hk.below.trans ⟨rfl,rfl,rfl,by rw[setBlk_size];omega,fun k hk=>by omega⟩)),fun k hkk hn=>?_⟩,fun g hg=>(a5 g hg).imp_right fun h=>by omega⟩
 ·cases a2 with
  |none=>exact a1
  |some gc=>obtain⟨g,c⟩:=gc;obtain⟨q1,q2,q3,q4,cs,t,q5,q6,q7⟩:=a1;exact⟨q1,q2,by rw[setBlk_size];exact q3,q4,cs,t,by rw[xb (A6 q2)];exact q5,q6,q7⟩
 ·have h1:k≠b:=fun e=>hn (.inl e)
  rw[xb (A6 h1),hk.block k (by omega) fun h=>hn (.inr h),a0 k (by omega),a4 k h1]
set_option maxHeartbeats 1000000 in
set_option maxRecDepth 100000 in
theorem BG {w:World} {b g c:Nat} {p v:Value} (l:List UInt8) (h0:l≠[]) (hb:w.heap[b]? =some (.cells #[p,v] 76 (0,0))) (hv:Buf 5 w b (some (g,c)) v (l.map fun x=> .int .u8 x.toNat)) (hroom:l.length≤1073741824):
 Calls Tryz.prog 32 #[.pointer (some ⟨b,0,none⟩)] w fun e w'=>e= .returned (.string ⟨l.toArray⟩)∧Keeps w w' (fun k=>k=g):=by
 obtain⟨rfl,hgb,hg,hlc,cs,t,a1,hcs,a0,rfl⟩:=hv;rw[List.length_map]at hlc hb;have hl0:l.length≠0:=by simpa using h0
 have c1:w.drew.cell? ⟨b,1,none⟩=some (.slice (some ⟨g,0,none⟩) l.length c):=by have:w.drew.heap[b]? =some (.cells #[p,.slice (some ⟨g,0,none⟩) l.length c] 76 (0,0)):=hb;rw[Al this];rfl
 have hSD:(Af #[74] 145 #[.slice (some ⟨g,0,none⟩) l.length c]).run Tryz.prog w.drew= .ok (.pointer (some ⟨g,0,none⟩)) w.drew:=
  Lib.run_unsafeSliceData_row _ _ _ _ _ _ (by omega)
 have hUS:(Ah #[145,3] 9 #[.pointer (some ⟨g,0,none⟩),.int .i64 l.length]).run Tryz.prog w.drew= .ok (.string ⟨l.toArray⟩) (w.drew.freeze ⟨g,0,none⟩ l.length):=by have a3:w.drew.heap[g]? =some (.cells cs 5 (0,0)):=a1;refine Lib.run_unsafeString_row w.drew 145 3 9 5 Tryz.underlying145 (by kernel_rfl) g cs.size (by simp[Aw,a3]) l h0 (by omega) (by omega) ?_;intro j x hx;rw[xe];show w.drew.cell? ⟨g,0+j,none⟩=_;rw[Nat.zero_add,xU a3];exact a0 j _ (by simp[hx])
 have a2:Keeps w (w.drew.freeze ⟨g,0,none⟩ l.length) (fun k=>k=g):=by
  refine⟨Lib.below_freeze (Below.drew (Below.refl 0 w)) (p:=⟨g,0,none⟩) (A1 _) _,fun k hk hn=>?_⟩;have hn:k≠g:=hn;unfold World.freeze;split
  ·rfl
  ·show(w.heap.modify g _)[k]? =_;rw[Ad,if_neg (A6 hn)]
 have a4:Tryz.prog.follows .mixedOrders=true:=by kernel_rfl
 go_enter Tryz.func32,Tryz.ntmps32
 go_wp2
 go_region_o
 all_goals (go_wp2;go_ret;exact⟨rfl,a2⟩)
set_option maxHeartbeats 1000000 in
set_option maxRecDepth 100000 in
theorem Sp {w:World} {b:Nat} {p:Value} (hb:w.heap[b]? =some (.cells #[p,.slice none 0 0] 76 (0,0))):
 Calls Tryz.prog 32 #[.pointer (some ⟨b,0,none⟩)] w fun e w'=>e= .returned (.string ⟨#[]⟩)∧Keeps w w' (fun _=>False):=by
 have c1:w.drew.cell? ⟨b,1,none⟩=some (.slice none 0 0):=by have:w.drew.heap[b]? =some (.cells #[p,.slice none 0 0] 76 (0,0)):=hb;rw[Al this];rfl
 have hSD:(Af #[74] 145 #[.slice none 0 0]).run Tryz.prog w.drew= .ok (.pointer none) w.drew:=rfl;have hUS:(Ah #[145,3] 9 #[.pointer none,.int .i64 0]).run Tryz.prog w.drew= .ok (.string .empty) w.drew:=Lib.run_unsafeString_none w.drew _ _ _ _;have a0:Keeps w w.drew (fun _=>False):=⟨Below.drew (Below.refl 0 w),fun _ _ _=>rfl⟩;have a1:Tryz.prog.follows .mixedOrders=true:=by kernel_rfl
 go_enter Tryz.func32,Tryz.ntmps32
 go_wp2
 go_region_o
 all_goals (go_wp2;go_ret;exact⟨rfl,a0⟩)
theorem bldK:BldK Tryz.prog 76 5 29 158 32 where
 elem:=by kernel_rfl
 one:=by kernel_rfl
 there f hf:=by
  rcases hf with rfl|rfl|rfl
  ·exact⟨_,Tryz.func29,by simp[Tryz.f29],by decide⟩
  ·exact⟨_,Tryz.func158,by simp[Tryz.f158],by decide⟩
  ·exact⟨_,Tryz.func32,by simp[Tryz.f32],by decide⟩
 ws s hb hp hv hr:=BE s hb hp hv hr
 wb c hb hp hv hr:=BF c hb hp hv hr
 st l h0 hb hv hr:=BG l h0 hb hv hr
 sn hb:=Sp hb
end Eng
end

section
namespace Eng
open Go Go.Proofs Go.RowKit Go.Sort
theorem zU {us:List Int} {k:Nat} (h:k<us.length):us.drop k=us[k]::us.drop (k+1):=List.drop_eq_getElem_cons h
theorem UN {done r:List Int} {x y:Int} {d:Array Int} (h:d.toList=done++x::r):(d.setIfInBounds done.length y).toList=(done++[y])++r:=by
 rw[Array.toList_setIfInBounds,h];simp
def VM (by_:Int) (us vs:List Int) (d:Array Int) (k:Nat) (c b:Int):Prop:=
 ∃done:List Int,done.length=k∧d.toList=done++us.drop k∧jw by_ us vs 0 0=(done++(jw by_ (us.drop k) (vs.drop k) c b).1,(jw by_ (us.drop k) (vs.drop k) c b).2)
theorem Q8 {by_:Int} {us vs:List Int} {d:Array Int} {k:Nat} {c b:Int} (h:VM by_ us vs d k c b) (hk:k<us.length) {t z b':Int}
 (ht:t=SL by_ c (vs.drop k))
 (hz:(Ai.wrap us[k]<Ai.wrap (t.tmod 1000000000+b)∧z=Ak.wrap (Ai.wrap (Ai.wrap (Ai.wrap us[k]+1000000000)-Ai.wrap (t.tmod 1000000000+b)))∧b'=1)∨
  (¬Ai.wrap us[k]<Ai.wrap (t.tmod 1000000000+b)∧z=Ak.wrap (Ai.wrap (Ai.wrap us[k]-Ai.wrap (t.tmod 1000000000+b)))∧b'=0)):
 VM by_ us vs (d.setIfInBounds k z) (k+1) (Ai.wrap (t.tdiv 1000000000)) b':=by
 obtain⟨done,h1,h2,h3⟩:=h;refine⟨done++[z],by simp[h1],?_,?_⟩
 ·rw[zU hk]at h2;rw[←h1];have:=UN (y:=z) h2;rw[h1]at this ⊢;exact this
 ·rw[h3,zU hk];have ht2:(vs.drop k).tail=vs.drop (k+1):=by simp
  simp only[jw];rw[←ht,ht2];rcases hz with⟨h4,h5,h6⟩|⟨h4,h5,h6⟩
  ·have:decide (Ai.wrap us[k]<Ai.wrap (t.tmod 1000000000+b))=true:=by simpa using h4
   rw[this];subst h5 h6;simp
  ·have:decide (Ai.wrap us[k]<Ai.wrap (t.tmod 1000000000+b))=false:=by simpa using h4
   rw[this];subst h5 h6;simp
theorem UO {us done:List Int} {d:Array Int} {k:Nat} (h1:done.length=k) (h2:d.toList=done++us.drop k) (hk:k<us.length):d[k]! =us[k]:=by
 have hsz:d.size=us.length:=by have:=congrArg Az h2;simp at this;omega
 have:d.toList[k]? =some us[k]:=by rw[h2,List.getElem?_append_right (by omega),h1];simp[hk]
 have h3:d[k]? =some us[k]:=by simpa using this
 rw[getElem!_pos d k (by omega)];rw[Ab (by omega)]at h3;exact Option.some.inj h3
theorem VN {us done:List Int} {d:Array Int} {k:Nat} (h1:done.length=k) (h2:d.toList=done++us.drop k) (hk:k≤us.length):d.size=us.length:=by
 have:=congrArg Az h2;simp at this;omega
set_option maxHeartbeats 2000000 in
set_option maxRecDepth 100000 in
theorem Ss {w:World} {g off cap bv ov cv:Nat} (us vs:List Int) (by_:Int) (hu:Holds (Au .u32) w g off us.toArray) (hb:bv≠g) (hnu:us.length≤1073741824) (hnv2:vs.length≤1073741824)
 (hv:∀j (h:j<vs.length),w.cell? ⟨bv,ov+j,none⟩=some (.int .u32 vs[j])):
 Calls Tryz.prog 309 #[.slice (some ⟨g,off,none⟩) us.length cap,.slice (some ⟨bv,ov,none⟩) vs.length cv,.int .u64 by_] w fun e w'=>
  e= .returned (.bool (decide (0<(jw by_ us vs 0 0).2.2)||decide (0<(jw by_ us vs 0 0).2.1)))∧w'=putRow (Au .u32) w g off (jw by_ us vs 0 0).1.toArray:=by
 have Hu:Hid (Holds (Au .u32) w g off us.toArray):=hu;have Hv:Hid (∀j (h:j<vs.length),w.cell? ⟨bv,ov+j,none⟩=some (.int .u32 vs[j])):=hv;have a4:=putRow_self (Au .u32) w g off us.toArray hu;have ab:Hid (putRow (Au .u32) w g off us.toArray=w):=a4;clear hu hv a4;obtain⟨nu,a7⟩:∃nu,nu=us.length:=⟨_,rfl⟩;obtain⟨nv,a8⟩:∃nv,nv=vs.length:=⟨_,rfl⟩;rw[←a7,←a8];have af:Hid (nu=us.length):=a7;have ag:Hid (nv=vs.length):=a8;have hnu':nu≤1073741824:=by omega
 have hnv':nv≤1073741824:=by omega
 clear a7 a8 hnu hnv2
 go_enter Tryz.func309,Tryz.ntmps309
 go_wp2
 go_loopw [7,8,15] (fun c b i wr=>∃(k:Nat) (cc bb:Int) (d:Array Int),k≤nu∧i= .int .i64 k∧c= .int .u64 cc∧b= .int .u64 bb∧VM by_ us vs d k cc bb∧wr=putRow (Au .u32) w g off d) (fun _ _ i _=>nu-(At i).toNat)
 case atStart=>exact⟨0,0,0,us.toArray,A1 _,rfl,rfl,rfl,⟨[],rfl,by simp,by simp⟩,ab.out.symm⟩
 case round=>
  obtain⟨k,cc,bb,d,hk,rfl,rfl,rfl,a3,ai⟩:=hrel;have a1:Hid (VM by_ us vs d k cc bb):=a3;have a9:Hid (wr=putRow (Au .u32) w g off d):=ai;clear a3 ai;by_cases hlt:k<nu
  ·have a0:k<us.length:=by rw[←af.out];exact hlt
   obtain⟨done,h1,h2,_⟩:=a1.out;have ah:=VN h1 h2 (A4 a0);have ac:wr.cell? ⟨g,off+k,none⟩=some (.int .u32 us[k]):=by rw[a9.out,cell?_putRow (Au .u32) w g off us.toArray d Hu.out (by simpa using ah) k (by omega),UO h1 h2 a0]
   have hfz:wr.frozen? ⟨g,off+k,none⟩=false:=by rw[a9.out,frozen?_putRow];exact(Hu.out k (by simpa using a0)).2
   have a5:∀z,wr.setCell ⟨g,off+k,none⟩ (.int .u32 z)=putRow (Au .u32) w g off (d.setIfInBounds k z):=fun z=>by rw[a9.out];exact putRow_set (Au .u32) w g off d k z (by omega)
   have a2:Hid (∀z,wr.setCell ⟨g,off+k,none⟩ (.int .u32 z)=putRow (Au .u32) w g off (d.setIfInBounds k z)):=a5;obtain⟨x,hx⟩:∃x,us[k]=x:=⟨_,rfl⟩;rw[hx]at ac;have Hx:Hid (us[k]=x):=hx;clear a5 h1 h2 ah hx;by_cases hlv:k<nv
   ·have ae:k<vs.length:=by rw[←ag.out];exact hlv
    have a6:wr.cell? ⟨bv,ov+k,none⟩=some (.int .u32 vs[k]):=by rw[a9.out,cell?_putRow_other _ _ _ _ _ _ (.inl hb)];exact Hv.out k ae
    obtain⟨y,hy⟩:∃y,vs[k]=y:=⟨_,rfl⟩;rw[hy]at a6;have Hy:Hid (vs.drop k=y::vs.drop (k+1)):=by rw[←hy];exact zU ae
    clear hy
    go_wp2
    all_goals
     go_roundw
     case rel=>
      refine⟨k+1,_,_,_,by omega,by go_num,rfl,rfl,Q8 a1.out a0 (t:=Ai.wrap (cc+Ai.wrap (Ai.wrap y*by_))) (by rw[Hy.out];rfl) ?_,a2.out _⟩
      first
       |exact .inl ⟨by rw[Hx.out];assumption,by rw[Hx.out,Aj],rfl⟩
       |exact .inr ⟨by rw[Hx.out];omega,by rw[Hx.out,Aj],rfl⟩
     case measure=>simp[At];omega
   ·have Hy:Hid (vs.drop k=[]):=by
     have:vs.length≤k:=by rw[←ag.out];omega
     exact Ay this
    go_wp2
    all_goals
     go_roundw
     case rel=>
      refine⟨k+1,_,_,_,by omega,by go_num,rfl,rfl,Q8 a1.out a0 (t:=cc) (by rw[Hy.out];rfl) ?_,a2.out _⟩
      first
       |exact .inl ⟨by rw[Hx.out];assumption,by rw[Hx.out,Aj],rfl⟩
       |exact .inr ⟨by rw[Hx.out];omega,by rw[Hx.out,Aj],rfl⟩
     case measure=>simp[At];omega
  ·have hkn:us.length≤k:=by rw[←af.out];omega
   have ad:jw by_ us vs 0 0=(d.toList,cc,bb):=by obtain⟨done,h1,h2,h3⟩:=a1.out;have:us.drop k=[]:=Ay hkn;rw[this]at h2 h3;rw[h3,h2];simp[jw]
   have aa:Hid (jw by_ us vs 0 0=(d.toList,cc,bb)):=ad;clear ad;by_cases hbb:0<bb
   ·go_wp2
    go_ret
    rw[aa.out];refine⟨?_,?_⟩
    ·simp[hbb]
    ·rw[a9.out]
   ·have hbb':decide (0<bb)=false:=by simpa using hbb
    go_wp2
    go_ret
    rw[aa.out];refine⟨?_,?_⟩
    ·simp;exact fun h=>absurd h (by omega)
    ·rw[a9.out]
def VO (us vs:List Int) (d:Array Int) (k:Nat) (c:Int):Prop:=
 ∃done:List Int,done.length=k∧d.toList=done++us.drop k∧QG us vs 0=done++QG (us.drop k) (vs.drop k) c
theorem Q9 {us vs:List Int} {d:Array Int} {k:Nat} {c:Int} (h:VO us vs d k c) (hk:k<us.length) {t z c':Int}
 (ht:t=OB us[k] c (vs.drop k)) (hz:(1000000000≤t∧z=Ak.wrap (t-1000000000)∧c'=1)∨(¬1000000000≤t∧z=t∧c'=0)):
 VO us vs (d.setIfInBounds k z) (k+1) c':=by
 obtain⟨done,h1,h2,h3⟩:=h;refine⟨done++[z],by simp[h1],?_,?_⟩
 ·rw[zU hk]at h2;rw[←h1];have:=UN (y:=z) h2;rw[h1]at this ⊢;exact this
 ·rw[h3,zU hk];have ht2:(vs.drop k).tail=vs.drop (k+1):=by simp
  simp only[QG];rw[←ht,ht2];rcases hz with⟨h4,h5,h6⟩|⟨h4,h5,h6⟩
  ·have:decide (1000000000≤t)=true:=by simpa using h4
   rw[this];subst h5 h6;simp
  ·have:decide (1000000000≤t)=false:=by simpa using h4
   rw[this];subst h5 h6;simp
set_option maxHeartbeats 2000000 in
set_option maxRecDepth 100000 in
theorem Su {w:World} {g off cap bv ov cv:Nat} (us vs:List Int) (hu:Holds (Au .u32) w g off us.toArray) (hb:bv≠g) (hnu:us.length≤1073741824) (hnv2:vs.length≤1073741824)
 (hv:∀j (h:j<vs.length),w.cell? ⟨bv,ov+j,none⟩=some (.int .u32 vs[j])):
 Calls Tryz.prog 310 #[.slice (some ⟨g,off,none⟩) us.length cap,.slice (some ⟨bv,ov,none⟩) vs.length cv] w fun e w'=>
  e= .returned (.tuple #[])∧w'=putRow (Au .u32) w g off (QG us vs 0).toArray:=by
 have Hu:Hid (Holds (Au .u32) w g off us.toArray):=hu;have Hv:Hid (∀j (h:j<vs.length),w.cell? ⟨bv,ov+j,none⟩=some (.int .u32 vs[j])):=hv;have a4:=putRow_self (Au .u32) w g off us.toArray hu;have a9:Hid (putRow (Au .u32) w g off us.toArray=w):=a4;clear hu hv a4;obtain⟨nu,a7⟩:∃nu,nu=us.length:=⟨_,rfl⟩;obtain⟨nv,a8⟩:∃nv,nv=vs.length:=⟨_,rfl⟩;rw[←a7,←a8];have af:Hid (nu=us.length):=a7;have ag:Hid (nv=vs.length):=a8;have hnu':nu≤1073741824:=by omega
 have hnv':nv≤1073741824:=by omega
 clear a7 a8 hnu hnv2
 go_enter Tryz.func310,Tryz.ntmps310
 go_wp2
 go_loopw [4,9] (fun c i wr=>∃(k:Nat) (cc:Int) (d:Array Int),k≤nu∧i= .int .i64 k∧c= .int .u32 cc∧VO us vs d k cc∧wr=putRow (Au .u32) w g off d) (fun _ i _=>nu-(At i).toNat)
 case atStart=>exact⟨0,0,us.toArray,A1 _,rfl,rfl,⟨[],rfl,by simp,by simp⟩,a9.out.symm⟩
 case round=>
  obtain⟨k,cc,d,hk,rfl,rfl,a3,ai⟩:=hrel;have a1:Hid (VO us vs d k cc):=a3;have aa:Hid (wr=putRow (Au .u32) w g off d):=ai;clear a3 ai;by_cases hlt:k<nu
  ·have a0:k<us.length:=by rw[←af.out];exact hlt
   obtain⟨done,h1,h2,_⟩:=a1.out;have ah:=VN h1 h2 (A4 a0);have ab:wr.cell? ⟨g,off+k,none⟩=some (.int .u32 us[k]):=by rw[aa.out,cell?_putRow (Au .u32) w g off us.toArray d Hu.out (by simpa using ah) k (by omega),UO h1 h2 a0]
   have hfz:wr.frozen? ⟨g,off+k,none⟩=false:=by rw[aa.out,frozen?_putRow];exact(Hu.out k (by simpa using a0)).2
   have a5:∀z,wr.setCell ⟨g,off+k,none⟩ (.int .u32 z)=putRow (Au .u32) w g off (d.setIfInBounds k z):=fun z=>by rw[aa.out];exact putRow_set (Au .u32) w g off d k z (by omega)
   have a2:Hid (∀z,wr.setCell ⟨g,off+k,none⟩ (.int .u32 z)=putRow (Au .u32) w g off (d.setIfInBounds k z)):=a5;obtain⟨x,hx⟩:∃x,us[k]=x:=⟨_,rfl⟩;rw[hx]at ab;have Hx:Hid (us[k]=x):=hx;clear a5 h1 h2 ah hx;by_cases hlv:k<nv
   ·have ad:k<vs.length:=by rw[←ag.out];exact hlv
    have a6:wr.cell? ⟨bv,ov+k,none⟩=some (.int .u32 vs[k]):=by rw[aa.out,cell?_putRow_other _ _ _ _ _ _ (.inl hb)];exact Hv.out k ad
    obtain⟨y,hy⟩:∃y,vs[k]=y:=⟨_,rfl⟩;rw[hy]at a6;have Hy:Hid (vs.drop k=y::vs.drop (k+1)):=by rw[←hy];exact zU ad
    clear hy
    go_wp2
    all_goals
     go_roundw
     case rel=>
      refine⟨k+1,_,_,by omega,by go_num,rfl,Q9 a1.out a0 (t:=(x+cc+y)%4294967296) (by rw[Hy.out,Hx.out];simp only[OB,Aj];omega) ?_,a2.out _⟩;simp only[Aj]
      first
       |exact .inl ⟨by omega,by omega,trivial⟩
       |exact .inr ⟨by omega,trivial,trivial⟩
     case measure=>simp[At];omega
   ·have Hy:Hid (vs.drop k=[]):=by
     have:vs.length≤k:=by rw[←ag.out];omega
     exact Ay this
    go_wp2
    all_goals
     go_roundw
     case rel=>
      refine⟨k+1,_,_,by omega,by go_num,rfl,Q9 a1.out a0 (t:=(x+cc)%4294967296) (by rw[Hy.out,Hx.out];simp only[OB,Aj]) ?_,a2.out _⟩;simp only[Aj]
      first
       |exact .inl ⟨by omega,by omega,trivial⟩
       |exact .inr ⟨by omega,trivial,trivial⟩
     case measure=>simp[At];omega
  ·have hkn:us.length≤k:=by rw[←af.out];omega
   have ac:QG us vs 0=d.toList:=by obtain⟨done,h1,h2,h3⟩:=a1.out;have:us.drop k=[]:=Ay hkn;rw[this]at h2 h3;rw[h3,h2];simp[QG]
   have ae:Hid (QG us vs 0=d.toList):=ac;clear ac
   go_wp2
   go_end0
   rw[ae.out];exact⟨rfl,by rw[aa.out]⟩
theorem ST:SubK Tryz.prog 309 310 where
 there f hf:=by
  rcases hf with rfl|rfl
  ·exact⟨_,Tryz.func309,by simp[Tryz.f309],by decide⟩
  ·exact⟨_,Tryz.func310,by simp[Tryz.f310],by decide⟩
 sub us vs n h1 h2 h3 h4 h5:=Ss us vs n h1 h2 h3 h4 h5
 res us vs h1 h2 h3 h4 h5:=Su us vs h1 h2 h3 h4 h5
end Eng
end

section
namespace Eng
open Go Go.Proofs Go.Shelf Go.RowKit Go.Sort Go.Lib
theorem Wv (w:World) (T:TypeId) (nd:Nat) (hs:nd≤24):Holds (fun(b:UInt8)=>Au .u8 (b.toNat:Int)) (w.alloc (.cells zeros24 T)) w.heap.size 0 (Ae nd (0:UInt8)):=fun j hj=>by
 have hj':j<nd:=by simpa using hj
 refine⟨?_,World.frozen?_alloc_new _ _ _ _⟩;rw[World.cell?_alloc_new,zeros24_at _ (by omega),getElem!_pos _ j hj];simp
theorem Gl (w:World) (o:Go.Obj) (dk:Array UInt8) (k:Nat):Below w.heap.size w ((putRow (fun(b:UInt8)=>Au .u8 (b.toNat:Int)) (w.alloc o) w.heap.size 0 dk).drewN k):=by
 refine⟨rfl,rfl,rfl,?_,fun j hj=>?_⟩
 ·show w.heap.size≤((w.alloc o).heap.modify _ _).size;rw[Array.size_modify];show w.heap.size≤(w.heap.push o).size;simp
 ·show((w.alloc o).heap.modify w.heap.size _)[j]? =_;rw[Ad,if_neg (by omega)];show(w.heap.push o)[j]? =_;rw[Array.getElem?_push_lt hj,Ab hj]
set_option maxHeartbeats 6400000 in
set_option maxRecDepth 100000 in
theorem fu97 (u:Nat) (hu64:u<18446744073709551616) (w:World) (htab:As Tryz.prog w "internal/strconv.uint64pow10" .u64 Ar):
 Calls Tryz.prog 131 #[.int .u64 u,.int .i64 10] w fun e w'=>e= .returned (.string ⟨(An u).toArray⟩)∧Below w.heap.size w w':=by
 have a5:Tryz.prog.follows .mixedOrders=true:=by kernel_rfl
 by_cases hs:u<100
 ·have hw1:(u:Int)<100:=by omega
  go_enter Tryz.func131,Tryz.ntmps131
  go_wp2_with (go_at_call 225;refine(Tryz.internal_strconv_small u hs _).mono ?_;rintro e w' ⟨rfl,rfl⟩)
  go_ret
  exact⟨rfl,Below.refl _ _⟩
 ·have hw1:¬(u:Int)<100:=by omega
  have a4:1≤u:=by omega
  have a3:Am u≤20:=by have:=Lib.numDigits_eq u a4 hu64;split at this<;>omega
  have a2:Tryz.prog.arrayLen 254=24:=by kernel_rfl
  have hsl1:∀W,(Instr.sliceAt 254 (.pointer (some ⟨w.heap.size,0,none⟩)) none (some (.int .i64 (Am u:Int))) none).run Tryz.prog W= .ok (.slice (some ⟨w.heap.size,0,none⟩) (Am u) 24) W:=fun W=>by
   rw[run_sliceAt_array_h W 254 ⟨w.heap.size,0,none⟩ (by simp[Program.arrayLen,Program.elem,Tryz.underlying254]) .i64 (Am u:Int) (by omega) (by rw[a2];omega)]
   go_simp
  have a1:=Wv w 254 (Am u) (by omega);have a0:=Tryz.internal_strconv_formatBase10 w.heap.size 0 24 u (Ae (Am u) 0) (w.alloc (.cells Ap 254)) a1 (by rw[Aa];exact Lib.lt_pow_nDigits u) hu64 (by rw[Aa];omega);rw[Aa]at a0;have HH0:=Lib.hid a1;clear a1 a2
  go_enter Tryz.func131,Tryz.ntmps131
  go_wp2_with (first
   |(go_at_call 226;refine(Tryz.internal_strconv_numDigits u a4 hu64 _ (Lib.tabIs_alloc htab _)).mono ?_;rintro e w' ⟨rfl,rfl⟩))
  go_at_call 227
  refine a0.mono ?_;rintro e w' ⟨rfl,k,v',dk,rfl,hF⟩;have hcv:(convert 74 9 (.slice (some ⟨w.heap.size,0,none⟩) (Am u) 24)).run Tryz.prog ((putRow (fun(b:UInt8)=>Au .u8 (b.toNat:Int)) (w.alloc (.cells Ap 254)) w.heap.size 0 dk).drewN k)= .ok (.string ⟨(An u).toArray⟩) ((putRow (fun(b:UInt8)=>Au .u8 (b.toNat:Int)) (w.alloc (.cells Ap 254)) w.heap.size 0 dk).drewN k):=by
   have h:=run_convert_bytes_back (P:=Tryz.prog) ((putRow (fun(b:UInt8)=>Au .u8 (b.toNat:Int)) (w.alloc (.cells Ap 254)) w.heap.size 0 dk).drewN k) 74 9 5 ⟨w.heap.size,0,none⟩ 24 (An u) Tryz.underlying74 Tryz.underlying5 Tryz.underlying9 (fun j hj=>by
    rw[Lib.row_is_numeral hF j hj,Lib.add_plain,World.cell?_drewN];exact cell?_putRow (fun(b:UInt8)=>Au .u8 (b.toNat:Int)) _ w.heap.size 0 _ dk HH0.out (by rw[hF.size,Aa]) j (by rw[hF.size];rw[Aq]at hj;exact hj))
   rw[Aq]at h;exact h
  go_wp2
  go_ret
  exact⟨rfl,Gl w _ dk k⟩
set_option maxHeartbeats 1000000 in
theorem fu61 (u:Nat) (hu64:u<18446744073709551616) (w:World) (htab:As Tryz.prog w "internal/strconv.uint64pow10" .u64 Ar):
 Calls Tryz.prog 71 #[.int .u64 u,.int .i64 10] w fun e w'=>e= .returned (.string ⟨(An u).toArray⟩)∧Below w.heap.size w w':=by
 go_enter Tryz.func71,Tryz.ntmps71
 go_wp2_with (go_at_call 131;refine(fu97 u hu64 _ htab).mono ?_;rintro e w' ⟨rfl,hb⟩)
 go_ret
 exact⟨rfl,hb⟩
end Eng
end

section
namespace Eng
open Go Go.Proofs Go.RowKit
def UP:A→Option Value
 | .c (.int k n)=>some (.int k n)
 | .c (.bool b)=>some (.bool b)
 | .c (.str s)=>some (.string ⟨⟨s⟩⟩)
 |_=>none
def QA:List A→Option (List Value)
 |[]=>some []
 |a::r=>match UP a,QA r with
  |some v,some vs=>some (v::vs)
  |_,_=>none
theorem UQ {w:World} {F:Nat→Prop} {a:A} {v u:Value} (h:UP a=some v) (hc:CA w F a u):u=v:=by
 unfold UP at h;split at h<;>simp only[Option.some.injEq,reduceCtorEq]at h<;>subst h<;>cases(hc:CD _ _ _ _)<;>rfl
theorem X3 {w:World} {F:Nat→Prop}:∀{al:List A} {vs us:List Value},QA al=some vs→All2 (CA w F) al us→us=vs
 |[],vs,[],h,_=>by simpa [QA]using h
 |[],_,_::_,_,hc=>hc.elim
 |_::_,_,[],_,hc=>hc.elim
 |a::al,vs,u::us,h,hc=>by
  unfold QA at h;split at h
  ·rename_i v vs' h1 h2;simp only[Option.some.injEq]at h;subst h;rw[UQ h1 hc.1,X3 h2 hc.2]
  ·simp at h
theorem kJ {C:Cx} {f:Nat} {al rs:List A} {vs:List Value} {rv:Value} (ha:QA al=some vs) (hr:∀(w:World) (F:Nat→Prop),WS w F rs rv)
 (hc:∀(w:World) (F:Nat→Prop),Inv C F w→Calls C.P f vs.toArray w fun e w'=>e= .returned rv∧Below w.heap.size w w'):qe C f al rs:=by
 intro w F us _ hi a0;rw[X3 ha a0];refine(hc w F hi).mono fun e w' he=>?_
 obtain⟨rfl,hb⟩:=he;exact⟨hb,rv,rfl,hr _ _⟩
def pow10D:List D:=[.int .u64 1,.int .u64 10,.int .u64 100,.int .u64 1000,.int .u64 10000,.int .u64 100000,.int .u64 1000000,.int .u64 10000000,.int .u64 100000000,.int .u64 1000000000,.int .u64 10000000000,.int .u64 100000000000,.int .u64 1000000000000,.int .u64 10000000000000,.int .u64 100000000000000,.int .u64 1000000000000000,.int .u64 10000000000000000,.int .u64 100000000000000000,.int .u64 1000000000000000000,.int .u64 10000000000000000000]
def NF:List D:=[.str [],.str [112,111,99,107,101,116],.str [105,115,108,97,110,100],.str [104,111,108,101],.str [112,114,111,102,105,108,101]]
def UR:List D:=[.str [],.int .i64 0,.str [108,105,110,101],.int .i64 2,.str [97,114,99],.int .i64 3,.str [99,105,114,99,108,101],.int .i64 1]
def Sv (g:Nat):Option (List D):=match g with
 |0=>some NF
 |1=>some UR
 |2=>some pow10D
 |4=>some [.ifc false]
 |5=>some [.ifc false]
 |_=>none
noncomputable def C0:Cx:=⟨Tryz.prog,Sv,fun _=>false,fun _=>none,fun _ _=>false,fun _=>false⟩
def noT:Nat→List A→Option (List A):=fun _ _=>none
theorem mixedT:Tryz.prog.follows .mixedOrders=true:=by kernel_rfl
instance:EffOk C0:=j7 fun f e h=>by simp[C0]at h
end Eng
end
