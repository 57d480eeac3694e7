import Derived.Test.YtmfkgpfkpnmdnaaGreatDoorPaC
import Derived.KernelRfl
import Derived.WalkKit
import Derived.Below
import Derived.Maps.StringElems
import Derived.WideKeyElems2
import Derived.MapKept
open Eng.A renaming ag->Aw, c->Bx
open Eng.D renaming int->Dd, sl->F0, str->Hu, bool->Hv
open Go.IntKind renaming wrap->Hx
open Int renaming tmod->Hy
open List renaming mem_map->I0
set_option maxRecDepth 1000000
section
namespace Eng
open Go Go.Proofs
def Uj (a n:Int):Int:=Hx .u8 ((BitVec.ofInt 8 a&&&BitVec.ofInt 8 n).toNat:Int)
theorem Rg (Gv:Nat->List A->List A->Prop) (a0 a1 a2 a3 co h0 h1 h2 fr ha d0 d1 c0 c1 c2 m0 m1 m2 dr to:Int) (Q:List A->Prop):wpF (CX []) Gv an0 Tryz.f5 [.ag (.int .u8 a0:: .int .u8 a1:: .int .u8 a2:: .int .u8 a3:: .int .u8 co:: .int .u8 h0:: .int .u8 h1:: .int .u8 h2:: .int .u8 fr:: .int .u8 ha:: .int .u8 d0:: .int .u8 d1:: .int .u8 c0:: .int .u8 c1:: .int .u8 c2:: .int .u8 m0:: .int .u8 m1:: .int .u8 m2:: .int .u8 dr:: .int .u8 to::[])] Q=(br (toB (Hv (decide (Uj ha 1>(0:Int))))) (∃es,Gv 22 [Aw [Dd .u8 a0,Dd .u8 a1,Dd .u8 a2,Dd .u8 a3,Dd .u8 co,Dd .u8 h0,Dd .u8 h1,Dd .u8 h2,Dd .u8 fr,Dd .u8 ha,Dd .u8 d0,Dd .u8 d1,Dd .u8 c0,Dd .u8 c1,Dd .u8 c2,Dd .u8 m0,Dd .u8 m1,Dd .u8 m2,Dd .u8 dr,Dd .u8 to]] [Bx (F0 es)]/\∃e1,Gv 21 [Bx (F0 es)] [Bx (F0 e1)]/\∃es i,Gv 20 [Bx (F0 e1)] [Aw [F0 es],Bx (Dd .i64 i)]/\(12:Int)≠(0:Int)/\(QK 1/\lens 4 [[Hu [112,111,99,107,101,116],Dd .i64 1,Dd .i64 (Hx .i64 (500*Hx .i64 (1+Hx .i64 (Hy d0 (12:Int))))),F0 es]])/\br (toB (Hv (decide (Uj ha 2>(0:Int))))) ((30:Int)≠(0:Int)/\∃x,Gv 24 [Bx (Dd .i64 (Hx .i64 (1000*Hx .i64 (Hy h0 (30:Int)))))] [Aw (rk x [])]/\(30:Int)≠(0:Int)/\∃x1,Gv 24 [Bx (Dd .i64 (Hx .i64 (1000*Hx .i64 (Hy h1 (30:Int)))))] [Aw (rk x1 [])]/\(5:Int)≠(0:Int)/\(5:Int)≠(0:Int)/\∃x2,Gv 24 [Bx (Dd .i64 (Hx .i64 (Hx .i64 (1000000*Hx .i64 (1+Hx .i64 (Hy h2 (5:Int))))*Hx .i64 (1+Hx .i64 (Hy h2 (5:Int))))))] [Aw (rk x2 [])]/\∃e2 i,Gv 23 [Aw (rk x (rk x1 (rk x2 [])))] [Aw [F0 e2],Bx (Dd .i64 i)]/\(12:Int)≠(0:Int)/\(QK 2/\lens 4 [[Hu [104,111,108,101],Dd .i64 3,Dd .i64 (Hx .i64 (500*Hx .i64 (1+Hx .i64 (Hy d1 (12:Int))))),F0 e2]])/\br (toB (Hv (decide (Uj ha 4>(0:Int))))) ((12:Int)≠(0:Int)/\∃x,Gv 24 [Bx (Dd .i64 (Hx .i64 (500*Hx .i64 (Hy fr (12:Int)))))] [Aw (rk x [])]/\∃x3,Gv 24 [Bx (Dd .i64 (Hx .i64 (500*Hx .i64 (Hy fr (12:Int)))))] [Aw (rk x3 [])]/\∃x4,Gv 24 [Bx (Dd .i64 (Hx .i64 (30000-Hx .i64 (500*Hx .i64 (Hy fr (12:Int))))))] [Aw (rk x4 [])]/\∃x5,Gv 24 [Bx (Dd .i64 (Hx .i64 (30000-Hx .i64 (500*Hx .i64 (Hy fr (12:Int))))))] [Aw (rk x5 [])]/\∃e3 i,Gv 25 [Aw (rk x (rk x3 (rk x4 (rk x5 []))))] [Aw [F0 e3],Bx (Dd .i64 i)]/\(QK 3/\lens 4 [[Hu [111,117,116,108,105,110,101],Dd .i64 4,Dd .i64 6000,F0 e3]])/\Q [Aw [Dd .i64 6000,F0 [[Hu [112,111,99,107,101,116],Dd .i64 1,Dd .i64 (Hx .i64 (500*Hx .i64 (1+Hx .i64 (Hy d0 (12:Int))))),F0 es],[Hu [104,111,108,101],Dd .i64 3,Dd .i64 (Hx .i64 (500*Hx .i64 (1+Hx .i64 (Hy d1 (12:Int))))),F0 e2],[Hu [111,117,116,108,105,110,101],Dd .i64 4,Dd .i64 6000,F0 e3]]]]) (Q [Aw [Dd .i64 6000,F0 [[Hu [112,111,99,107,101,116],Dd .i64 1,Dd .i64 (Hx .i64 (500*Hx .i64 (1+Hx .i64 (Hy d0 (12:Int))))),F0 es],[Hu [104,111,108,101],Dd .i64 3,Dd .i64 (Hx .i64 (500*Hx .i64 (1+Hx .i64 (Hy d1 (12:Int))))),F0 e2]]]])) (br (toB (Hv (decide (Uj ha 4>(0:Int))))) ((12:Int)≠(0:Int)/\∃x,Gv 24 [Bx (Dd .i64 (Hx .i64 (500*Hx .i64 (Hy fr (12:Int)))))] [Aw (rk x [])]/\∃x1,Gv 24 [Bx (Dd .i64 (Hx .i64 (500*Hx .i64 (Hy fr (12:Int)))))] [Aw (rk x1 [])]/\∃x2,Gv 24 [Bx (Dd .i64 (Hx .i64 (30000-Hx .i64 (500*Hx .i64 (Hy fr (12:Int))))))] [Aw (rk x2 [])]/\∃x3,Gv 24 [Bx (Dd .i64 (Hx .i64 (30000-Hx .i64 (500*Hx .i64 (Hy fr (12:Int))))))] [Aw (rk x3 [])]/\∃e2 i,Gv 25 [Aw (rk x (rk x1 (rk x2 (rk x3 []))))] [Aw [F0 e2],Bx (Dd .i64 i)]/\(QK 2/\lens 4 [[Hu [111,117,116,108,105,110,101],Dd .i64 4,Dd .i64 6000,F0 e2]])/\Q [Aw [Dd .i64 6000,F0 [[Hu [112,111,99,107,101,116],Dd .i64 1,Dd .i64 (Hx .i64 (500*Hx .i64 (1+Hx .i64 (Hy d0 (12:Int))))),F0 es],[Hu [111,117,116,108,105,110,101],Dd .i64 4,Dd .i64 6000,F0 e2]]]]) (Q [Aw [Dd .i64 6000,F0 [[Hu [112,111,99,107,101,116],Dd .i64 1,Dd .i64 (Hx .i64 (500*Hx .i64 (1+Hx .i64 (Hy d0 (12:Int))))),F0 es]]]]))) (br (toB (Hv (decide (Uj ha 2>(0:Int))))) ((30:Int)≠(0:Int)/\∃x,Gv 24 [Bx (Dd .i64 (Hx .i64 (1000*Hx .i64 (Hy h0 (30:Int)))))] [Aw (rk x [])]/\(30:Int)≠(0:Int)/\∃x1,Gv 24 [Bx (Dd .i64 (Hx .i64 (1000*Hx .i64 (Hy h1 (30:Int)))))] [Aw (rk x1 [])]/\(5:Int)≠(0:Int)/\(5:Int)≠(0:Int)/\∃x2,Gv 24 [Bx (Dd .i64 (Hx .i64 (Hx .i64 (1000000*Hx .i64 (1+Hx .i64 (Hy h2 (5:Int))))*Hx .i64 (1+Hx .i64 (Hy h2 (5:Int))))))] [Aw (rk x2 [])]/\∃es i,Gv 23 [Aw (rk x (rk x1 (rk x2 [])))] [Aw [F0 es],Bx (Dd .i64 i)]/\(12:Int)≠(0:Int)/\(QK 1/\lens 4 [[Hu [104,111,108,101],Dd .i64 3,Dd .i64 (Hx .i64 (500*Hx .i64 (1+Hx .i64 (Hy d1 (12:Int))))),F0 es]])/\br (toB (Hv (decide (Uj ha 4>(0:Int))))) ((12:Int)≠(0:Int)/\∃x,Gv 24 [Bx (Dd .i64 (Hx .i64 (500*Hx .i64 (Hy fr (12:Int)))))] [Aw (rk x [])]/\∃x3,Gv 24 [Bx (Dd .i64 (Hx .i64 (500*Hx .i64 (Hy fr (12:Int)))))] [Aw (rk x3 [])]/\∃x4,Gv 24 [Bx (Dd .i64 (Hx .i64 (30000-Hx .i64 (500*Hx .i64 (Hy fr (12:Int))))))] [Aw (rk x4 [])]/\∃x5,Gv 24 [Bx (Dd .i64 (Hx .i64 (30000-Hx .i64 (500*Hx .i64 (Hy fr (12:Int))))))] [Aw (rk x5 [])]/\∃e1 i,Gv 25 [Aw (rk x (rk x3 (rk x4 (rk x5 []))))] [Aw [F0 e1],Bx (Dd .i64 i)]/\(QK 2/\lens 4 [[Hu [111,117,116,108,105,110,101],Dd .i64 4,Dd .i64 6000,F0 e1]])/\Q [Aw [Dd .i64 6000,F0 [[Hu [104,111,108,101],Dd .i64 3,Dd .i64 (Hx .i64 (500*Hx .i64 (1+Hx .i64 (Hy d1 (12:Int))))),F0 es],[Hu [111,117,116,108,105,110,101],Dd .i64 4,Dd .i64 6000,F0 e1]]]]) (Q [Aw [Dd .i64 6000,F0 [[Hu [104,111,108,101],Dd .i64 3,Dd .i64 (Hx .i64 (500*Hx .i64 (1+Hx .i64 (Hy d1 (12:Int))))),F0 es]]]])) (br (toB (Hv (decide (Uj ha 4>(0:Int))))) ((12:Int)≠(0:Int)/\∃x,Gv 24 [Bx (Dd .i64 (Hx .i64 (500*Hx .i64 (Hy fr (12:Int)))))] [Aw (rk x [])]/\∃x1,Gv 24 [Bx (Dd .i64 (Hx .i64 (500*Hx .i64 (Hy fr (12:Int)))))] [Aw (rk x1 [])]/\∃x2,Gv 24 [Bx (Dd .i64 (Hx .i64 (30000-Hx .i64 (500*Hx .i64 (Hy fr (12:Int))))))] [Aw (rk x2 [])]/\∃x3,Gv 24 [Bx (Dd .i64 (Hx .i64 (30000-Hx .i64 (500*Hx .i64 (Hy fr (12:Int))))))] [Aw (rk x3 [])]/\∃es i,Gv 25 [Aw (rk x (rk x1 (rk x2 (rk x3 []))))] [Aw [F0 es],Bx (Dd .i64 i)]/\(QK 1/\lens 4 [[Hu [111,117,116,108,105,110,101],Dd .i64 4,Dd .i64 6000,F0 es]])/\Q [Aw [Dd .i64 6000,F0 [[Hu [111,117,116,108,105,110,101],Dd .i64 4,Dd .i64 6000,F0 es]]]]) (Q [Aw [Dd .i64 6000,F0 []]])))):=by kernel_rfl
end Eng
end
section
namespace Eng
open Go Go.Proofs Go.RowKit
@[go_sem high] theorem run_max4 {P:Program} (w:World) (ts:Array TypeId) (t:TypeId) (a b c d:Int):
 (Builtin.max_ ts t #[.int .i64 a,.int .i64 b,.int .i64 c,.int .i64 d]).run P w= .ok (.int .i64 (max (max (max a b) c) d)) w:=by
  have e:∀x y:Int,(if y>x then y else x)=max x y:=λx y=>by rw[Int.max_def];split<;>split<;>omega
  simp[Builtin.max_,Builtin.max2,e]
theorem S4 (w:World) (o o':Go.Obj):Below w.heap.size w ((w.alloc o).alloc o'):=by
 refine((Below.refl _ _).alloc (Nat.le_refl _) o).alloc ?_ o';show w.heap.size<=(w.heap.push o).size;simp
variable [Env]
theorem Dz {C:Cx} (hP:C.P=Tryz.prog) {x1 y1 x2 y2:Int} (h1:0<=x1/\x1<=1000) (h2:0<=y1/\y1<=1000) (h3:0<=x2/\x2<=1000) (h4:0<=y2/\y2<=1000):
 Gives C 51 [.ag [.int .i64 x1,.int .i64 y1],.ag [.int .i64 x2,.int .i64 y2]] [.c (.int .i64 (max (max (max (x1-x2) (x2-x1)) (y1-y2)) (y2-y1)))]:=by
 intro w F vs hb hi ha
 match vs,ha with
 |[u,v],⟨⟨⟨a⟩,h1',ha⟩,⟨⟨b⟩,h2',hb'⟩,_⟩=>
  subst h1' h2'
  match a,b,ha,hb' with
  |[p1,q1],[p2,q2],⟨c1,c2,_⟩,⟨c3,c4,_⟩=>
  cases c1;cases c2;cases c3;cases c4;rw[hP]
  go_enter Tryz.func51,Tryz.ntmps51
  go_wp2
  go_ret
  exact⟨S4 _ _ _,_,rfl,.int _ _⟩
theorem AO {C:Cx} (hP:C.P=Tryz.prog) {x1 y1 x2 y2:Int} (h1:0<=x1/\x1<=1000) (h2:0<=y1/\y1<=1000) (h3:0<=x2/\x2<=1000) (h4:0<=y2/\y2<=1000):
 Gives C 52 [.ag [.int .i64 x1,.int .i64 y1],.ag [.int .i64 x2,.int .i64 y2]] [.c (.int .i64 (max (max (max (x1-x2) (x2-x1)) (y1-y2)) (y2-y1)))]:=by
 intro w F vs hb hi ha
 match vs,ha with
 |[u,v],⟨⟨⟨a⟩,h1',ha⟩,⟨⟨b⟩,h2',hb'⟩,_⟩=>
  subst h1' h2'
  match a,b,ha,hb' with
  |[p1,q1],[p2,q2],⟨c1,c2,_⟩,⟨c3,c4,_⟩=>
  cases c1;cases c2;cases c3;cases c4;rw[hP]
  go_enter Tryz.func52,Tryz.ntmps52
  go_wp2
  go_ret
  exact⟨S4 _ _ _,_,rfl,.int _ _⟩
def smI (x:Int):Bool:=decide (0<=x)&&decide (x<=1000)
def bz (al:List A):Option (List A):=
 match al with
 |[.ag [.int .i64 x1,.int .i64 y1],.ag [.int .i64 x2,.int .i64 y2]]=>match smI x1&&smI y1&&(smI x2&&smI y2)with
  |true=>some [.c (.int .i64 (max (max (max (x1-x2) (x2-x1)) (y1-y2)) (y2-y1)))]
  |false=>none
 |_=>none
def dM (f:Nat) (al:List A):Option (List A):=
 match Nat.beq f 51 with
 |true=>bz al
 |false=>match Nat.beq f 52 with
  |true=>bz al
  |false=>RX f al
theorem Nj {C:Cx} {f:Nat} {al rs:List A} (hd:∀{x1 y1 x2 y2:Int},0<=x1/\x1<=1000->0<=y1/\y1<=1000->0<=x2/\x2<=1000->0<=y2/\y2<=1000->
 Gives C f [.ag [.int .i64 x1,.int .i64 y1],.ag [.int .i64 x2,.int .i64 y2]] [.c (.int .i64 (max (max (max (x1-x2) (x2-x1)) (y1-y2)) (y2-y1)))]) (h:bz al=some rs):Gives C f al rs:=by
 unfold bz at h;split at h
 .split at h
  .rename_i hs;simp only[Bool.and_eq_true,smI,decide_eq_true_eq]at hs;simp only[Option.some.injEq]at h;subst h;exact hd hs.1.1 hs.1.2 hs.2.1 hs.2.2
  .simp at h
 .simp at h
theorem Rh {ex:List (Nat×wq)} (f:Nat) (al rs:List A) (h:dM f al=some rs):Gives (CX ex) f al rs:=by
 unfold dM at h;split at h
 .rename_i hf;obtain rfl:=Nat.eq_of_beq_eq_true hf;exact Nj (Dz rfl) h
 .split at h
  .rename_i hf;obtain rfl:=Nat.eq_of_beq_eq_true hf;exact Nj (AO rfl) h
  .exact Pn f al rs h
end Eng
end
section
namespace Eng
open Go Go.MapKept Go.WideElems Go.Maps
theorem Vp:∀{l:List (Int×List UInt8)} {n:Int} {s:List UInt8},Ob l n=some s->(n,s)∈l
 |(k,s0)::r,n,s,h=>by
  unfold Ob at h;split at h
  .rename_i hk;obtain rfl:k=n:=by simpa using hk
   obtain rfl:=Option.some.inj h;simp
  .exact List.mem_cons_of_mem _ (Vp h)
theorem GS:∀{l:List (Int×List UInt8)} {n:Int} {s:List UInt8},(l.map (·.1)).Nodup->(n,s)∈l->Ob l n=some s
 |(k,s0)::r,n,s,hn,h=>by
  unfold Ob;rw[List.map_cons,List.nodup_cons]at hn;rcases List.mem_cons.1 h with h|h
  .obtain⟨rfl,rfl⟩:=Prod.mk.inj h;simp
  .have hk:k≠n:=λe=>hn.1 (by subst e;exact I0.2 ⟨_,h,rfl⟩)
   simp only[hk,decide_false];exact GS hn.2 h
def litL {H:Type} (l:List (Int×List UInt8)):List (Lit×DataW H):=l.map λx=>(.int .i64 x.1,.lit (.string x.2))
theorem Uk {H:Type} {enc:TypeId×Value->H} {P:Program} {w:World} {base:Nat} {sp:Nat->Bool} {held:Bool} {t k e:TypeId} (ht:P.underlying t=some (.map k e)) (hk:P.underlying k=some (.int .i64)) (he:P.underlying e=some .string)
 {fuel:Nat} {cs:List Value} {p:List MemPlace} {l:List (Int×List UInt8)} (hn:(l.map (·.1)).Nodup) (h:DataW.trod enc P w base sp held fuel t cs=some (.map (litL l),p)):
 ∃b es clock,cs=[.map (some b)]/\w.heap[b]? =some (.map es clock)/\SX es l:=by
 rcases open_map ht h with⟨_,h2⟩|⟨b,es,clock,n,rfl,hcs,hb,_,F,hx⟩
 .cases h2
 .refine⟨b,es,clock,hcs,hb,λm=>?_⟩;have hL:=DataW.map.inj (Prod.mk.inj hx).1;have a4:∀y,y∈es.toList.map (rg P k (elemAt enc P w base sp held n e))↔y∈litL l:=λy=>by rw[hL];exact mem_sorted.symm
  have a1:∀x∈es.toList,∃z,x.key= .int .i64 z:=λx hx=>by obtain⟨y,hy⟩:=F.reads x hx;obtain⟨z,hz,_⟩:=Maps.keyOf_int_inv hk (rd_key hy);exact⟨z,hz⟩
  have a0:∀x∈es.toList,∀z s,rg P k (elemAt enc P w base sp held n e) x=(.int .i64 z,.lit (.string s))->x.key= .int .i64 z/\x.val= .string ⟨⟨s⟩⟩:=λx hx z s hr=>by
   obtain⟨y,hy⟩:=F.reads x hx;rw[rg_of hy]at hr;subst hr;obtain⟨z',hz,e1,_⟩:=Maps.keyOf_int_inv hk (rd_key hy);obtain⟨v,hv,e2⟩:=rd_val hy;obtain⟨s',hs,rfl,_⟩:=WideElems.elemAt_string he hv;cases e1;refine⟨hz,?_⟩;rw[hs];have e3:s=s'.data.toList:=by simpa using e2
   subst e3;rfl
  rcases findNow_spec (d:= .int .i64) (k:= .int .i64 m) (by simp[IsKey]) es.toList 0 (λx hx=>by obtain⟨z,hz⟩:=a1 x hx;rw[hz];simp[IsKey])with⟨h1,h2⟩|⟨j,e',h1,h2,h3⟩
  .cases hm:Ob l m with
   |none=>exact h1
   |some s=>exfalso;obtain⟨x,a3,hx2⟩:=I0.1 ((a4 (.int .i64 m,.lit (.string s))).2 (I0.2 ⟨_,Vp hm,rfl⟩));exact h2 x a3 (a0 x a3 m s hx2).1
  .have a2:=List.mem_of_getElem? h2;obtain⟨⟨z,s⟩,hz,hzs⟩:=I0.1 ((a4 _).1 (I0.2 ⟨e',a2,rfl⟩));obtain⟨k1,v1⟩:=a0 e' a2 z s hzs.symm;rw[h3]at k1;obtain rfl:m=z:=by simpa using k1
   rw[GS hn hz];refine⟨0+j,?_⟩;rw[h1,v1]
end Eng
end
