import Derived.Test.YthpplhmhgcenkaaGreatDoorPaD
import Derived.KernelRfl
import Derived.WalkKit
import Derived.Maps.Keyed
open Bool renaming and_eq_true->Aw, or_true->Bx, eq_false_iff->Dd
open Eng.A renaming ag->F0, c->Hu
open Eng.D renaming sl->Hv, int->Hx, str->Hy, bool->J3, ptr->J4
open Eng.D.int renaming injEq->Lm
open Eng.D.sl renaming injEq->Lr
open Go.IntKind renaming wrap->Ls
open Go.MapKept renaming run_getObj_map->Lv, run_findKey->No
open Int renaming toNat->Pl, ofNat->P1, toNat_natCast->Sz, ofNat_eq_natCast->Tk, le_refl->Ts, natCast_pow->U0
open List renaming length->U3, replicate->V1, getElem_mem->W0, getD_eq_getElem?_getD->W1, getElem?_eq_getElem->W2, length_replicate->ad, drop_eq_getElem_cons->an, drop_eq_nil_of_le->ap, ext_getElem->a6, length_set->a7, mem_iff_getElem->ba, getElem_range->bb, length_cons->bc, getElem_map->bd, getElem_cons_succ->be, length_pos_iff->bh, length_append->bm, getElem?_set->bs, length_take->bv, all_eq_true->bw, range->bx
open List.cons renaming injEq->b3
open Nat renaming le_refl->b4, zero_le->b5, lt_or_ge->b6, le_of_ble_eq_true->b7, ble_eq_true_of_le->b8, blt_eq->b9, blt->bF, ble->cb, min_eq_left->cc
open Option.some renaming inj->cg
set_option maxRecDepth 1000000
section
namespace Eng
open Go Go.Proofs
section
variable (Gv:Nat->List A->List A->Prop) (I0:List D->List D->Prop) (M0:List D->Nat) (I1:List D->List D->Prop) (M1:List D->Nat) (I2:List D->List D->Prop) (M2:List D->Nat) (I3:List D->List D->Prop) (M3:List D->Nat) (Q:List A->Prop)
theorem Ei (i0:Int) (i1:Int):wpF CC Gv an0 Tryz.f102 [.c (.int .i64 i0),.c (.int .i64 i1)] Q=(∃b,Gv 190 [aI i0] [aB b]/\∃b1,Gv 190 [aI i1] [aB b1]/\br b (br b1 (Q [aI (0:Int)]) (Q [aI (-1:Int)])) (br b1 (Q [aI (1:Int)]) (bB (decide (i0<i1)) (Q [aI (-1:Int)]) (bB (decide (i0>i1)) (Q [aI (1:Int)]) (Q [aI (0:Int)]))))):=by kernel_rfl
theorem Ej (i0:Int):wpF CC Gv an0 Tryz.f190 [.c (.int .i64 i0)] Q=(Q [aB (i0 !=i0)]):=by kernel_rfl
theorem YC (l0:List (List D)) (l1:List (List D)):wpF CC Gv (λ_=>⟨[.slot 11 (.int .i64 0)],[],I0,M0⟩) Tryz.f54 [.c (.sl l0),.c (.sl l1)] Q=(I0 [] [dI (0:Int)]/\∀(i:Int),I0 [] [dI i]->bB (decide (i<(P1 l0.length))) ((0<=i/\i<(P1 l0.length)/\U3 (nth [] l0 (Pl i))=1)/\∃i_1,cut (nth [] l0 (Pl i)) 0 1 [dI i_1]/\bB (decide (i>=(P1 l1.length))) (Q [aI (1:Int)]) ((0<=i/\i<(P1 l1.length)/\U3 (nth [] l1 (Pl i))=1)/\∃i_2,cut (nth [] l1 (Pl i)) 0 1 [dI i_2]/\∃i_3,Gv 102 [aI i_1,aI i_2] [aI i_3]/\bB (i_3 !=0) (Q [aI i_3]) (I0 [] [dI (Ls .i64 (i+1))]/\M0 [dI (Ls .i64 (i+1))]<M0 [dI i]))) (bB (decide ((P1 l0.length)<(P1 l1.length))) (Q [aI (-1:Int)]) (Q [aI (0:Int)]))):=by kernel_rfl
theorem MO (l0:List (List D)) (b0:Bool):wpF CC Gv (λ_=>⟨[.slot 8 (.int .i64 0)],[],I0,M0⟩) Tryz.f40 [.c (.sl l0),.c (.bool b0)] Q=(I0 [] [dI (0:Int)]/\∀(i:Int),I0 [] [dI i]->bB (decide (i<(P1 l0.length))) ((0<=i/\i<(P1 l0.length)/\U3 (nth [] l0 (Pl i))=1)/\∃b,cut (nth [] l0 (Pl i)) 0 1 [J3 b]/\bB (b0==b) (Q [aI i]) (I0 [] [dI (Ls .i64 (i+1))]/\M0 [dI (Ls .i64 (i+1))]<M0 [dI i])) (Q [aI (-1:Int)])):=by kernel_rfl
theorem Vt (l0:List (List D)) (b0:Bool):wpF CC Gv an0 Tryz.f10 [.c (.sl l0),.c (.bool b0)] Q=(∃i,Gv 40 [aL l0,aB b0] [aI i]/\Q [aB (decide (i>=0))]):=by kernel_rfl
end
end Eng
end
section
open Go Go.Proofs Eng
namespace Eng
section
variable (Gv:Nat->List A->List A->Prop) (I0:List D->List D->Prop) (M0:List D->Nat) (I1:List D->List D->Prop) (M1:List D->Nat) (I2:List D->List D->Prop) (M2:List D->Nat) (I3:List D->List D->Prop) (M3:List D->Nat) (Q:List A->Prop)
theorem ax (l0:List (List D)) (m:Int):wpF CC Gv (λ_=>⟨[.slot 8 (.int .i64 0)],[],I0,M0⟩) Tryz.f276 [.c (.sl l0),.c (.clo 201 [.ptr [.int .i64 m]])] Q=(I0 [] [dI (0:Int)]/\∀(i:Int),I0 [] [dI i]->bB (decide (i<(P1 l0.length))) ((0<=i/\i<(P1 l0.length)/\U3 (nth [] l0 (Pl i))=1)/\∃es,cut (nth [] l0 (Pl i)) 0 1 [Hv es]/\∃b,Gv 201 [aL es,Hu (J4 [dI m])] [aB b]/\br b (Q [aI i]) (I0 [] [dI (Ls .i64 (i+1))]/\M0 [dI (Ls .i64 (i+1))]<M0 [dI i])) (Q [aI (-1:Int)])):=by kernel_rfl
theorem ay (l0:List (List D)) (m:Int):wpF CC Gv an0 Tryz.f200 [.c (.sl l0),.c (.clo 201 [.ptr [.int .i64 m]])] Q=(∃i,Gv 276 [aL l0,Hu (D.clo 201 [J4 [dI m]])] [aI i]/\Q [aB (decide (i>=0))]):=by kernel_rfl
end
end Eng
end
section
namespace Eng
open Go Go.Proofs
def iR (l:List Int):List (List D):=l.map λn=>[.int .i64 n]
theorem kB (l:List Int):(iR l).length=l.length:=by simp[iR]
theorem Qp {l:List Int} {i:Nat} (h:i<l.length):nth [] (iR l) i=[.int .i64 l[i]]:=by rw[qu];simp[iR,h]
def eP (a b:Int):Int:=match decide (a<b)with
 |true=> -1
 |false=>match decide (a>b)with
  |true=>1
  |false=>0
def Ek:List Int->List Int->Int
 |[],[]=>0
 |[],_::_=> -1
 |_::_,[]=>1
 |a::x,b::y=>match eP a b !=0 with
  |true=>eP a b
  |false=>Ek x y
def R2 (b:Bool):List Bool->Nat->Int
 |[],_=> -1
 |x::l,k=>match b==x with
  |true=>(k:Int)
  |false=>R2 b l (k+1)
theorem Hm (b:Bool):∀(l:List Bool) (k:Nat),decide (R2 b l k>=0)=l.contains b
 |[],_=>by simp[R2]
 |x::l,k=>by
  unfold R2;rw[List.contains_cons];cases h:b==x with
  |true=>simp
  |false=>rw[Bool.false_or];exact Hm b l (k+1)
section
variable [Env]
theorem El (a b:Int):Gives CC 102 [.c (.int .i64 a),.c (.int .i64 b)] [.c (.int .i64 (eP a b))]:=by
 have n:∀x:Int,Gives CC 190 [.c (.int .i64 x)] [.c (.bool false)]:=λx=>by refine qj (C:=CC) (anns:=an0) mixedT Tryz.func190 ?_;rw[Ej,bne_self_eq_false]
 refine qj (C:=CC) (anns:=an0) mixedT Tryz.func102 ?_;rw[Ei];refine⟨_,n a,_,n b,js (λh=>by cases h) λ_=>js (λh=>by cases h) λ_=>?_⟩;unfold eP;refine brd (λh=>by rw[decide_eq_true h]) (λh=>?_);rw[decide_eq_false h];exact brd (λh=>by rw[decide_eq_true h]) (λh=>by rw[decide_eq_false h])
theorem UB {a b:List Int} (ha:a.length<=1000000):Gives CC 54 [.c (.sl (iR a)),.c (.sl (iR b))] [.c (.int .i64 (Ek a b))]:=by
 refine qj (C:=CC) (anns:=λ_=>⟨[.slot 11 (.int .i64 0)],[],λ_ ds=>∃k:Nat,k<=a.length/\k<=b.length/\Ek a b=Ek (a.drop k) (b.drop k)/\ds=[.int .i64 (k:Int)],λds=>(a.length-toI (nth .undef ds 0)).toNat⟩) mixedT Tryz.func54 ?_;rw[YC];refine⟨⟨0,by omega,by omega,rfl,rfl⟩,?_⟩;rintro i ⟨k,h1,h2,he,e⟩;simp only[b3,Lm,true_and,and_true]at e;subst e;simp only[Tk,kB,Sz];refine brd (λh=>?_) (λh=>?_)
 .have ka:k<a.length:=by omega
  rw[Qp ka];refine⟨⟨by omega,by omega,rfl⟩,_,⟨rfl,b4 1⟩,brd (λh3=>?_) (λh3=>?_)⟩
  .have hb:b.drop k=[]:=ap (by omega);rw[he,hb,an ka];rfl
  .have kb:k<b.length:=by omega
   rw[Qp kb];rw[an ka,an kb]at he;refine⟨⟨by omega,by omega,rfl⟩,_,⟨rfl,b4 1⟩,_,El _ _,brb (λh4=>?_) (λh4=>?_)⟩
   .rw[he];unfold Ek;rw[h4]
   .have hw:Ls .i64 ((k:Int)+1)=((k+1:Nat):Int):=by rw[qR (by omega) (by omega)];omega
    rw[hw];refine⟨⟨k+1,by omega,by omega,?_,rfl⟩,by simp only[nth,toI];omega⟩;rw[he]
    conv=>lhs;unfold Ek
    rw[h4]
 .obtain rfl:k=a.length:=by omega
  rw[ap (b4 _)]at he;refine brd (λh3=>?_) (λh3=>?_)
  .have kb:a.length<b.length:=by omega
   rw[he,an kb];rfl
  .rw[he,ap (by omega)];rfl
theorem ZB {l:List Bool} (b:Bool) (hl:l.length<=1000000):Gives CC 10 [.c (.sl (bR l)),.c (.bool b)] [.c (.bool (l.contains b))]:=by
 have hi:Gives CC 40 [.c (.sl (bR l)),.c (.bool b)] [.c (.int .i64 (R2 b l 0))]:=by
  refine qj (C:=CC) (anns:=λ_=>⟨[.slot 8 (.int .i64 0)],[],λ_ ds=>∃k:Nat,k<=l.length/\R2 b l 0=R2 b (l.drop k) k/\ds=[.int .i64 (k:Int)],λds=>(l.length-toI (nth .undef ds 0)).toNat⟩) mixedT Tryz.func40 ?_;rw[MO];refine⟨⟨0,by omega,rfl,rfl⟩,?_⟩;rintro i ⟨k,h1,he,e⟩;simp only[b3,Lm,true_and,and_true]at e;subst e;simp only[Tk,ws,Sz];refine brd (λh=>?_) (λh=>?_)
  .have ka:k<l.length:=by omega
   rw[ve ka];rw[an ka]at he;refine⟨⟨by omega,by omega,rfl⟩,_,⟨rfl,b4 1⟩,brb (λh3=>?_) (λh3=>?_)⟩
   .rw[he];unfold R2;rw[h3]
   .have hw:Ls .i64 ((k:Int)+1)=((k+1:Nat):Int):=by rw[qR (by omega) (by omega)];omega
    rw[hw];refine⟨⟨k+1,by omega,?_,rfl⟩,by simp only[nth,toI];omega⟩;rw[he];conv=>lhs;unfold R2
    rw[h3]
  .rw[he,ap (by omega)];rfl
 refine qj (C:=CC) (anns:=an0) mixedT Tryz.func10 ?_;rw[Vt];exact⟨_,hi,by rw[Hm]⟩
theorem R3 {T:List (List Bool)} {n a m:Nat} (hT:∀r∈T,r.length=n) (hl:T.length<=a) (hn:n<=m) (ha:a<=1000):Gives CC 117 [.c (.sl (tR T)),.c (.int .i64 (a:Int)),.c (.int .i64 (m:Int))] [.c (.bool false)]:=by
 have h1:∀r∈T,Gives CC 201 [.c (.sl (bR r)),.c (.ptr [.int .i64 (m:Int)])] [.c (.bool false)]:=λr hr=>by refine qj (C:=CC) (anns:=an0) mixedT Tryz.func201 ?_;rw[UA];refine⟨_,⟨rfl,b4 1⟩,?_⟩;rw[ws,hT r hr,decide_eq_false (by simp only[Tk];omega)]
 have h2:Gives CC 276 [.c (.sl (tR T)),.c (.clo 201 [.ptr [.int .i64 (m:Int)]])] [.c (.int .i64 (-1))]:=by
  refine qj (C:=CC) (anns:=λ_=>⟨[.slot 8 (.int .i64 0)],[],λ_ ds=>∃k:Nat,k<=T.length/\ds=[.int .i64 (k:Int)],λds=>(T.length-toI (nth .undef ds 0)).toNat⟩) mixedT Tryz.func276 ?_;rw[ax];refine⟨⟨0,by omega,rfl⟩,?_⟩;rintro i ⟨k,hk,e⟩;simp only[b3,Lm,true_and,and_true]at e;subst e;simp only[Tk,Xa,Sz];refine brd (λh=>?_) (λh=>by trivial);have ka:k<T.length:=by omega
  rw[Qo ka];have hw:Ls .i64 ((k:Int)+1)=((k+1:Nat):Int):=by rw[qR (by omega) (by omega)];omega
  rw[hw];exact⟨⟨by omega,by omega,rfl⟩,_,⟨rfl,b4 1⟩,_,h1 _ (W0 ka),js (λh=>by cases h) λ_=>⟨⟨k+1,by omega,rfl⟩,by simp only[nth,toI];omega⟩⟩
 have h3:Gives CC 200 [.c (.sl (tR T)),.c (.clo 201 [.ptr [.int .i64 (m:Int)]])] [.c (.bool false)]:=by refine qj (C:=CC) (anns:=an0) mixedT Tryz.func200 ?_;rw[ay];exact⟨_,h2,rfl⟩
 refine qj (C:=CC) (anns:=an0) mixedT Tryz.func117 ?_;rw[MJ];refine brd (λh=>?_) (λ_=>⟨_,h3,rfl⟩);rw[Xa]at h;simp only[Tk]at h;omega
def y6 (k:Nat):List (List D):=iR (V1 k 1)
theorem Hn {T:List (List Bool)} {n a m:Nat} (hT:∀r∈T,r.length=n) (hl:T.length<=a) (hn:n<=m) (ha:a<=1000):Gives CC 52 [.c (.sl (tR T)),.c (.sl (y6 T.length)),.c (.int .i64 (a:Int)),.c (.int .i64 (m:Int))] [.c (.int .i64 0)]:=by
 refine qj (C:=CC) (anns:=λ_=>⟨[.slot 22 (.int .i64 0)],[],λ_ ds=>∃k:Nat,k<=T.length/\ds=[.int .i64 (k:Int)],λds=>(T.length-toI (nth .undef ds 0)).toNat⟩) mixedT Tryz.func52 ?_;rw[MH];have lo:(y6 T.length).length=T.length:=by unfold y6;rw[kB,ad]
 refine⟨_,R3 hT hl hn ha,js (λh=>by cases h) λ_=>?_⟩;rw[Xa,lo];refine brb (λh=>by simp at h) λ_=>⟨⟨0,by omega,rfl⟩,?_⟩
 rintro i ⟨k,hk,e⟩;simp only[b3,Lm,true_and,and_true]at e;subst e;simp only[Tk,Sz];refine brd (λh=>?_) (λh=>by trivial);have ka:k<T.length:=by omega
 have k0:0<T.length:=by omega
 rw[Qo ka,Qo k0];have hw:Ls .i64 ((k:Int)+1)=((k+1:Nat):Int):=by rw[qR (by omega) (by omega)];omega
 have hc:nth [] (y6 T.length) k=[.int .i64 1]:=by unfold y6;rw[Qp (by simpa using ka)];simp
 rw[hc,hw];refine⟨⟨by omega,by omega,rfl⟩,_,⟨rfl,b4 1⟩,⟨by omega,by omega,rfl⟩,_,⟨rfl,b4 1⟩,brb (λh2=>?_) λ_=>?_⟩
 .rw[ws,ws,hT _ (W0 ka),hT _ (W0 k0)]at h2;simp at h2
 refine⟨⟨by omega,by omega,rfl⟩,_,⟨rfl,b4 1⟩,brd (λh2=>by omega) λ_=>⟨⟨by omega,by omega,rfl⟩,_,⟨rfl,b4 1⟩,brd (λh2=>by omega) λ_=>⟨⟨k+1,by omega,rfl⟩,by simp only[nth,toI];omega⟩⟩⟩
def yy:List Bool->Nat
 |[]=>0
 |b::l=>(match b with|true=>1|false=>0)+2*yy l
theorem MP (l:List Bool) (h:l.length<=3):Gives CC 53 [.c (.sl (bR l))] [.c (.int .u64 (yy l))]:=by
 have go:y5 U2 CC 1000 40 53 [.c (.sl (bR l))]=some [.c (.int .u64 (yy l))]:=by
  rcases l with _|⟨a,_|⟨b,_|⟨c,_|⟨d,l⟩⟩⟩⟩
  .kernel_rfl
  .cases a
   .kernel_rfl
   .kernel_rfl
  .cases a<;>cases b<;>kernel_rfl
  .cases a<;>cases b<;>cases c<;>kernel_rfl
  .simp at h
 exact z2 (C:=CC) (tab:=U2) (lim:=1000) mixedT (λf al rs h=>yw f al rs h) 40 _ _ _ go
omit [Env] in
theorem Em (a b:List Bool) (h:a.length=b.length) (h3:a.length<=3):bits .or .u64 (yy a) (yy b)=(yy (orL a b):Int):=by
 match a,b,h,h3 with
 |[],[],_,_=>rfl
 |[a],[x],_,_=>cases a<;>cases x<;>rfl
 |[a,b],[x,y],_,_=>cases a<;>cases b<;>cases x<;>cases y<;>rfl
 |[a,b,c],[x,y,z],_,_=>cases a<;>cases b<;>cases c<;>cases x<;>cases y<;>cases z<;>rfl
omit [Env] in
theorem R5 (a b:List Bool) (h:a.length=b.length) (e:yy a=yy b):a=b:=by
 induction a generalizing b with
 |nil=>cases b with
  |nil=>rfl
  |cons=>simp at h
 |cons x a ih=>
  cases b with
  |nil=>simp at h
  |cons y b=>
   unfold yy at e;have hxy:x=y:=by cases x<;>cases y<;>first|rfl|(simp only at e;omega)
   subst hxy;rw[ih b (by simpa using h) (by cases x<;>simp only at e<;>omega)]
end
end Eng
end
section
namespace Eng
open Go Go.Proofs
def YD (s t:Nat):Bool:=bits .and .i64 (Int.fdiv (s:Int) ((2:Int)^min t 64)) 1==1
def Xh (s:Nat):Nat->List Int
 |0=>[]
 |k+1=>match YD s k with
  |true=>Xh s k++[(k:Int)]
  |false=>Xh s k
def Qx (n:Nat) (T:List (List Bool)) (s:Nat):Nat->List Bool
 |0=>V1 n false
 |k+1=>match YD s k with
  |true=>orL (Qx n T s k) (T.getD k [])
  |false=>Qx n T s k
theorem B6 {s k:Nat} (h:YD s k=true):Xh s (k+1)=Xh s k++[(k:Int)]:=by
 show(match YD s k with|true=>Xh s k++[(k:Int)]|false=>Xh s k)=_;rw[h]
theorem B7 {s k:Nat} (h:YD s k=false):Xh s (k+1)=Xh s k:=by
 show(match YD s k with|true=>Xh s k++[(k:Int)]|false=>Xh s k)=_;rw[h]
theorem Ho {n:Nat} {T:List (List Bool)} {s k:Nat} (h:YD s k=true):Qx n T s (k+1)=orL (Qx n T s k) (T.getD k []):=by
 show(match YD s k with|true=>orL (Qx n T s k) (T.getD k [])|false=>Qx n T s k)=_;rw[h]
theorem MQ {n:Nat} {T:List (List Bool)} {s k:Nat} (h:YD s k=false):Qx n T s (k+1)=Qx n T s k:=by
 show(match YD s k with|true=>orL (Qx n T s k) (T.getD k [])|false=>Qx n T s k)=_;rw[h]
theorem MR:∀n,yy (V1 n false)=0
 |0=>rfl
 |n+1=>by show 0+2*yy (V1 n false)=0;rw[MR n]
theorem KW (s:Nat):∀k,(Xh s k).length<=k
 |0=>b4 _
 |k+1=>by
  have:=KW s k;unfold Xh;split
  .simp;omega
  .omega
theorem j8 {n:Nat} {T:List (List Bool)} (hT:∀r∈T,r.length=n) {k:Nat} (hk:k<T.length):T.getD k []=T[k]/\(T.getD k []).length=n:=by
 have:T.getD k []=T[k]:=by rw[W1,W2 hk];rfl
 exact⟨this,by rw[this];exact hT _ (W0 hk)⟩
theorem vE {n:Nat} {T:List (List Bool)} (hT:∀r∈T,r.length=n) (s:Nat):∀k,k<=T.length->(Qx n T s k).length=n
 |0,_=>by simp[Qx]
 |k+1,h=>by
  have ih:=vE hT s k (by omega);have hg:=(j8 hT (k:=k) (by omega)).2;unfold Qx;split
  .rw[vf (by omega),ih]
  .exact ih
def QD (m s:Nat):Int:=((Xh s m).length:Int)
def Jf (n:Nat) (T:List (List Bool)) (m s:Nat) (st:List Int×Int):List Int×Int:=
 match decide (yy (Qx n T s m)=yy (wi n T m))with
 |true=>match decide (st.2<0)with
  |true=>(Xh s m,QD m s)
  |false=>match decide (QD m s<st.2)with
   |true=>(Xh s m,QD m s)
   |false=>match QD m s==st.2 with
    |true=>match decide (Ek (Xh s m) st.1<0)with
     |true=>(Xh s m,QD m s)
     |false=>st
    |false=>st
 |false=>st
def zw (n:Nat) (T:List (List Bool)) (m:Nat):Nat->List Int×Int
 |0=>([], -1)
 |s+1=>Jf n T m s (zw n T m s)
def Hp (n:Nat) (T:List (List Bool)) (m s:Nat) (st:List Int×Int):Prop:=
 st.1.length<=m/\((st.2= -1/\∀s'<s,yy (Qx n T s' m)≠yy (wi n T m))\/
  ∃s0<s,yy (Qx n T s0 m)=yy (wi n T m)/\st.2=QD m s0/\∀s'<s,yy (Qx n T s' m)=yy (wi n T m)->QD m s0<=QD m s')
theorem KX (n:Nat) (T:List (List Bool)) (m:Nat):∀s,Hp n T m s (zw n T m s)
 |0=>⟨b5 _,.inl ⟨rfl,λ_ h=>by omega⟩⟩
 |s+1=>by
  obtain⟨hl,ih⟩:=KX n T m s;show Hp n T m (s+1) (Jf n T m s (zw n T m s));generalize zw n T m s=st at *;have hc:(0:Int)<=QD m s:=by unfold QD;omega
  have hll:=KW s m;unfold Jf;split
  .rename_i h1;have h1:=of_decide_eq_true h1;have a0:(∀s'<s,yy (Qx n T s' m)=yy (wi n T m)->QD m s<=QD m s')->Hp n T m (s+1) (Xh s m,QD m s):=λh=>by
    refine⟨hll,.inr ⟨s,by omega,h1,rfl,λs' hs he=>?_⟩⟩;rcases b6 s' s with k|k
    .exact h s' k he
    .obtain rfl:s'=s:=by omega
     exact Ts _
   have a1:(∃s0<s,yy (Qx n T s0 m)=yy (wi n T m)/\st.2=QD m s0/\∀s'<s,yy (Qx n T s' m)=yy (wi n T m)->QD m s0<=QD m s')->st.2<=QD m s->Hp n T m (s+1) st:=λ⟨s0,a,b,c,d⟩ hle=>by
    refine⟨hl,.inr ⟨s0,by omega,b,c,λs' hs he=>?_⟩⟩;rcases b6 s' s with k|k
    .exact d s' k he
    .obtain rfl:s'=s:=by omega
     omega
   split
   .rename_i h2;have h2:=of_decide_eq_true h2;rcases ih with⟨_,ih⟩|⟨s0,_,_,c,_⟩
    .exact a0 λs' k he=>absurd he (ih s' k)
    .unfold QD at c;omega
   .rename_i h2;have h2:=of_decide_eq_false h2;rcases ih with⟨e,_⟩|ih
    .omega
    .have a2:=ih;obtain⟨s0,a,b,c,d⟩:=ih;split
     .rename_i h3;have h3:=of_decide_eq_true h3;exact a0 λs' k he=>by have:=d s' k he;omega
     .rename_i h3;have h3:=of_decide_eq_false h3;split
      .rename_i h4;have h4:=eq_of_beq h4;split
       .exact a0 λs' k he=>by have:=d s' k he;omega
       .exact a1 a2 (by omega)
      .exact a1 a2 (by omega)
  .rename_i h1;have h1:=of_decide_eq_false h1;refine⟨hl,?_⟩;rcases ih with⟨e,ih⟩|⟨s0,a,b,c,d⟩
   .refine .inl ⟨e,λs' hs=>?_⟩;rcases b6 s' s with k|k
    .exact ih s' k
    .obtain rfl:s'=s:=by omega
     exact h1
   .refine .inr ⟨s0,by omega,b,c,λs' hs he=>?_⟩;rcases b6 s' s with k|k
    .exact d s' k he
    .obtain rfl:s'=s:=by omega
     exact absurd he h1
section
variable [Env]
theorem B8 {n:Nat} {T:List (List Bool)} (hT:∀r∈T,r.length=n) (hn:n<=3) (hl2:T.length<=12) (gc:Gives CC 11 [.c (.sl (tR T))] [.c (.sl (bR (wi n T T.length)))]):
 Gives CC 15 [.c (.sl (tR T)),.c (.sl (y6 T.length))] [.c (.sl (iR (zw n T T.length (2^T.length)).1)),.c (.int .i64 (zw n T T.length (2^T.length)).2),.c (.int .i64 0)]:=by
 have lo:(y6 T.length).length=T.length:=by unfold y6;rw[kB,ad]
 generalize hm:T.length=m at *;have hp:2^m<=4096:=by have:(2:Nat)^m<=2^12:=Nat.pow_le_pow_right (by omega) hl2;omega
 have hv:=Ry (Gives CC) (λ_ ds=>∃s:Nat,s<=2^m/\ds=[.sl (iR (zw n T m s).1),.int .i64 (zw n T m s).2,.int .i64 (s:Int)]) (λds=>(2^m-toI (nth .undef ds 2)).toNat)
  (λgs ds=>∃s k:Nat,s<2^m/\k<=m/\nth .undef gs 0= .int .i64 (s:Int)/\ds=[.sl (iR (Xh s k)),.int .u64 (yy (Qx n T s k)),.int .i64 ((Xh s k).length:Nat),.int .i64 (k:Int)]) (λds=>(m-toI (nth .undef ds 3)).toNat)
  (tR T) (y6 m) (· =[.c (.sl (iR (zw n T m (2^m)).1)),.c (.int .i64 (zw n T m (2^m)).2),.c (.int .i64 0)])
 refine qj (C:=CC) mixedT Tryz.func15 (hv.mpr ?_);clear hv;have gv:=Hn (a:=12) (m:=64) hT (by omega) (by omega) (by omega);rw[hm]at gv;have lc:=jp hT m (by omega);have gm:=MP (wi n T m) (by omega);refine⟨_,gv,brb (λh=>by cases h) λ_=>⟨_,gc,_,gm,?_⟩⟩;simp only[Tk,Xa,hm,Sz,lo];refine⟨by omega,⟨0,b5 _,rfl⟩,?_⟩;rintro es i i2 ⟨s,hs,e⟩;simp only[b3,Lr,Lm,true_and,and_true]at e;obtain⟨rfl,rfl,rfl⟩:=e;have hpw:Ls .i64 ((1:Int)*(2:Int)^min m 64)=((2^m:Nat):Int):=by
  rw[cc (by omega),Int.one_mul];have:((2:Int)^m)=((2^m:Nat):Int):=by rw[U0];rfl
  rw[this];exact qR (by omega) (by omega)
 rw[hpw];have hlen:=(KX n T m s).1;refine brd (λh=>?_) (λh=>?_)
 .have hsl:s<2^m:=by omega
  refine⟨⟨s,0,hsl,by omega,rfl,?_⟩,?_⟩
  .show _=[Hv (iR []),.int .u64 (yy (V1 n false)),.int .i64 0,.int .i64 0];rw[MR];rfl
  rintro es3 i3 i4 i5 ⟨s',k,a2,hk,e1,e⟩;simp only[nth,Lm,true_and]at e1;obtain rfl:s'=s:=by omega
  simp only[b3,Lr,Lm,true_and,and_true]at e;obtain⟨rfl,rfl,rfl,rfl⟩:=e;have hsz:=KW s' k;have hw1:Ls .i64 ((s':Int)+1)=((s'+1:Nat):Int):=by rw[qR (by omega) (by omega)];omega
  simp only[Sz];refine brd (λh2=>?_) (λh2=>?_)
  .have hkm:k<m:=by omega
   have hw:Ls .i64 ((k:Int)+1)=((k+1:Nat):Int):=by rw[qR (by omega) (by omega)];omega
   have hc:nth [] (y6 m) k=[.int .i64 1]:=by unfold y6;rw[Qp (by simpa using hkm)];simp
   rw[hc,hw];refine⟨⟨by omega,by omega,rfl⟩,_,⟨rfl,b4 1⟩,by omega,?_⟩;have hg:=j8 hT (k:=k) (by omega);have la:=vE hT s' k (by omega);rw[Qo (by omega)];show br (toB (J3 (YD s' k))) _ _;refine brb (λh3=>?_) (λh3=>?_)
   .have gk:=MP T[k] (by rw[<-hg.1];omega);refine⟨⟨by rw[kB];unfold room;omega,by intro e he;simp at he;subst he;rfl⟩,⟨by omega,by omega,rfl⟩,_,⟨rfl,b4 1⟩,_,gk,⟨s',k+1,a2,by omega,rfl,?_⟩,by simp only[nth,toI];omega⟩;have hor:=Em (Qx n T s' k) T[k] (by rw[<-hg.1];omega) (by omega);have hw2:Ls .i64 ((((Xh s' k).length:Nat):Int)+1)=(((Xh s' k).length+1:Nat):Int):=by rw[qR (by omega) (by omega)];omega
    rw[hor,hw2];have e1:=B6 h3;have e2:=Ho (n:=n) (T:=T) h3;rw[hg.1]at e2;rw[e1,e2];simp[iR]
   .refine⟨⟨s',k+1,a2,by omega,rfl,?_⟩,by simp only[nth,toI];omega⟩;have e1:=B7 h3;have e2:=MQ (n:=n) (T:=T) h3;rw[e1,e2]
  .obtain rfl:k=m:=by omega
   rw[hw1];have a0:zw n T k (s'+1)=Jf n T k s' (zw n T k s'):=rfl;have a1:∀st:List Int×Int,st=zw n T k (s'+1)->(∃s:Nat,s<=2^k/\[Hv (iR st.1),Hx .i64 st.2,Hx .i64 ((s'+1:Nat):Int)]=[.sl (iR (zw n T k s).1),.int .i64 (zw n T k s).2,.int .i64 (s:Int)])/\
    (2^k-toI (nth .undef [Hv (iR st.1),Hx .i64 st.2,Hx .i64 ((s'+1:Nat):Int)] 2)).toNat<(2^k-toI (nth .undef [Hv (iR (zw n T k s').1),Hx .i64 (zw n T k s').2,Hx .i64 (s':Int)] 2)).toNat:=λst hst=>by
    refine⟨⟨s'+1,by omega,by rw[hst]⟩,?_⟩;simp only[nth,toI];have:((2:Int)^k)=((2^k:Nat):Int):=by rw[U0];rfl
    omega
   have f1:=a1 (Xh s' k,QD k s');have f2:=a1 (zw n T k s');refine brb (λh3=>?_) (λh3=>?_)
   .have h3:yy (Qx n T s' k)=yy (wi n T k):=Int.ofNat_inj.1 (eq_of_beq h3);refine brd (λh4=>?_) (λh4=>brd (λh5=>?_) (λh5=>brb (λh6=>?_) (λh6=>?_)))
    .exact f1 (by rw[a0];unfold Jf;rw[decide_eq_true h3,decide_eq_true h4])
    .exact f1 (by rw[a0];unfold Jf;rw[decide_eq_true h3,decide_eq_false h4,show decide (QD k s'<(zw n T k s').2)=true from decide_eq_true h5])
    .refine⟨_,UB (by omega),brd (λh7=>?_) (λh7=>?_)⟩
     .exact f1 (by rw[a0];unfold Jf;rw[decide_eq_true h3,decide_eq_false h4,show decide (QD k s'<(zw n T k s').2)=false from decide_eq_false h5,show(QD k s'==(zw n T k s').2)=true from h6,decide_eq_true h7])
     .exact f2 (by rw[a0];unfold Jf;rw[decide_eq_true h3,decide_eq_false h4,show decide (QD k s'<(zw n T k s').2)=false from decide_eq_false h5,show(QD k s'==(zw n T k s').2)=true from h6,decide_eq_false h7])
    .exact f2 (by rw[a0];unfold Jf;rw[decide_eq_true h3,decide_eq_false h4,show decide (QD k s'<(zw n T k s').2)=false from decide_eq_false h5,show(QD k s'==(zw n T k s').2)=false from h6])
   .have h3:yy (Qx n T s' k)≠yy (wi n T k):=λe=>by rw[e,beq_self_eq_true]at h3;cases h3
    exact f2 (by rw[a0];unfold Jf;rw[decide_eq_false h3])
 .obtain rfl:s=2^m:=by omega
  rfl
theorem En {n:Nat} {T:List (List Bool)} (hT:∀r∈T,r.length=n) (h0:0<n) (hn:n<=3) (hl:T≠[]) (hl2:T.length<=12):
 Gives CC 15 [.c (.sl (tR T)),.c (.sl (y6 T.length))] [.c (.sl (iR (zw n T T.length (2^T.length)).1)),.c (.int .i64 (zw n T T.length (2^T.length)).2),.c (.int .i64 0)]:=B8 hT hn hl2 (MN hT h0 (by omega) hl (by omega))
end
end Eng
end
section
open Go Go.Proofs Eng
namespace Eng
section
variable (Gv:Nat->List A->List A->Prop) (I0:List D->List D->Prop) (M0:List D->Nat) (I1:List D->List D->Prop) (M1:List D->Nat) (I2:List D->List D->Prop) (M2:List D->Nat) (I3:List D->List D->Prop) (M3:List D->Nat) (Q:List A->Prop)
theorem UC (chk:List A->Bool) (mk:List A->List (List D)) (l0:List (List D)) (l1:List (List D)) (Q:List A->Prop):wpF (CX [(11,ki chk 1 mk)]) Gv (Kt ⟨[.own 5 11 1,.slot 14 (.int .i64 0)],[],I0,M0⟩ ⟨[.own 5 11 1,.slot 31 (.int .i64 0)],[.slot 14 (.int .i64 0),.slot 29 (.slice none 0 0),.own 5 11 1],I1,M1⟩) Tryz.f18 [.c (.sl l0),.c (.sl l1)] Q=(chk [Hu (Hv l0)]=true/\I0 [] [Hv (mk [Hu (Hv l0)]),dI (0:Int)]/\∀(es:List (List D)) (i:Int),I0 [] [Hv es,dI i]->bB (decide (i<(P1 l1.length))) ((0<=i/\i<(P1 l1.length)/\U3 (nth [] l1 (Pl i))=1)/\∃i_1,cut (nth [] l1 (Pl i)) 0 1 [dI i_1]/\bB (decide (i_1<0)) (Q [aB false]) (bB (decide (i_1>=(P1 l0.length))) (Q [aB false]) ((0<=i_1/\i_1<(P1 l0.length)/\U3 (nth [] l0 (Pl i_1))=1)/\∃e1,cut (nth [] l0 (Pl i_1)) 0 1 [Hv e1]/\I1 [dI i,Hv e1,Hv es] [Hv es,dI (0:Int)]/\∀(e2:List (List D)) (i_2:Int),I1 [dI i,Hv e1,Hv es] [Hv e2,dI i_2]->bB (decide (i_2<(P1 e1.length))) ((0<=i_2/\i_2<(P1 e1.length)/\U3 (nth [] e1 (Pl i_2))=1)/\∃b,cut (nth [] e1 (Pl i_2)) 0 1 [J3 b]/\(0<=i_2/\i_2<(P1 e2.length))/\∃b1,cut (nth [] e2 (Pl i_2)) 0 1 [J3 b1]/\br b1 ((0<=i_2/\i_2<(P1 e2.length))/\0<1/\I1 [dI i,Hv e1,Hv es] [Hv (upd e2 (Pl i_2) (upd (nth [] e2 (Pl i_2)) 0 (J3 !b))),dI (Ls .i64 (i_2+1))]/\M1 [Hv (upd e2 (Pl i_2) (upd (nth [] e2 (Pl i_2)) 0 (J3 !b))),dI (Ls .i64 (i_2+1))]<M1 [Hv e2,dI i_2]) ((0<=i_2/\i_2<(P1 e2.length))/\0<1/\I1 [dI i,Hv e1,Hv es] [Hv (upd e2 (Pl i_2) (upd (nth [] e2 (Pl i_2)) 0 (J3 false))),dI (Ls .i64 (i_2+1))]/\M1 [Hv (upd e2 (Pl i_2) (upd (nth [] e2 (Pl i_2)) 0 (J3 false))),dI (Ls .i64 (i_2+1))]<M1 [Hv e2,dI i_2])) (I0 [] [Hv e2,dI (Ls .i64 (i+1))]/\M0 [Hv e2,dI (Ls .i64 (i+1))]<M0 [Hv es,dI i])))) (∃b,Gv 10 [aL es,aB true] [aB b]/\Q [aB (!b)])):=by kernel_rfl
end
end Eng
end
section
namespace Eng
open Go Go.Proofs
def rdB:List (List D)->Option (List Bool)
 |[]=>some []
 |[.bool b]::r=>match rdB r with
  |some l=>some (b::l)
  |none=>none
 |_=>none
theorem B9:∀{es:List (List D)} {l:List Bool},rdB es=some l->es=bR l
 |[],l,h=>by obtain rfl:=cg h;rfl
 |e::r,l,h=>by
  unfold rdB at h;split at h
  .rename_i he;cases he
  .rename_i b r1 he;cases he;split at h
   .rename_i l1 h1;obtain rfl:=cg h;rw[B9 h1];rfl
   .cases h
  .cases h
theorem BA:∀l:List Bool,rdB (bR l)=some l
 |[]=>rfl
 |b::l=>by show(match rdB (bR l)with|some l=>some (b::l)|none=>none)=_;rw[BA l]
def rdT:List (List D)->Option (List (List Bool))
 |[]=>some []
 |[.sl es]::r=>match rdB es,rdT r with
  |some l,some T=>some (l::T)
  |_,_=>none
 |_=>none
theorem BB:∀{es:List (List D)} {T:List (List Bool)},rdT es=some T->es=tR T
 |[],T,h=>by obtain rfl:=cg h;rfl
 |e::r,T,h=>by
  unfold rdT at h;split at h
  .rename_i he;cases he
  .rename_i es r1 he;cases he;split at h
   .rename_i l T1 h1 h2;obtain rfl:=cg h;rw[B9 h1,BB h2];rfl
   .cases h
  .cases h
theorem MS:∀T:List (List Bool),rdT (tR T)=some T
 |[]=>rfl
 |l::T=>by show(match rdB (bR l),rdT (tR T)with|some l,some T=>some (l::T)|_,_=>none)=_;rw[BA,MS T]
def Eo:List (List Bool)->Bool
 |[]=>false
 |r::T=>bF 0 r.length&&(cb r.length 1000&&(cb T.length 999&&T.all λx=>Nat.beq x.length r.length))
def Hq (al:List A):Bool:=match al with
 |[.c (.sl es)]=>match rdT es with
  |some T=>Eo T
  |none=>false
 |_=>false
def Ep (al:List A):List (List D):=match al with
 |[.c (.sl es)]=>match rdT es with
  |some T=>bR (wi (pcs T) T T.length)
  |none=>[]
 |_=>[]
def UW (f:Bool->Bool->Bool):List Bool->List Bool->List Bool
 |a::x,b::y=>f a b::UW f x y
 |_,_=>[]
theorem wk {f:Bool->Bool->Bool}:∀{a b:List Bool},a.length=b.length->(UW f a b).length=a.length
 |[],[],_=>rfl
 |_::a,_::b,h=>by simp only[UW,bc];rw[wk (by simpa using h)]
theorem KY {f:Bool->Bool->Bool}:∀{a b:List Bool} {i:Nat} (h:i<(UW f a b).length) (ha:i<a.length) (hb:i<b.length),(UW f a b)[i]=f a[i] b[i]
 |_::_,_::_,0,_,_,_=>rfl
 |_::a,_::b,i+1,h,ha,hb=>by simp only[UW,be];exact KY _ _ _
def UX (f:Bool->Bool->Bool) (a b:List Bool) (j:Nat):List Bool:=(UW f a b).take j++a.drop j
theorem Hr {f:Bool->Bool->Bool} {a b:List Bool} (h:a.length=b.length) {j:Nat} (hj:j<=a.length):(UX f a b j).length=a.length:=by
 unfold UX;rw[bm,bv,List.length_drop,wk h];omega
theorem MT {f:Bool->Bool->Bool} {a b:List Bool} (h:a.length=b.length) (j i:Nat) (hj:j<=a.length):(UX f a b j)[i]? =if i<j then(UW f a b)[i]? else a[i]? :=by
 unfold UX;rw[List.getElem?_append,bv,wk h,cc hj];split
 .rename_i e;rw[List.getElem?_take_of_lt e]
 .rename_i e;rw[List.getElem?_drop];congr 1;omega
theorem R6 {f:Bool->Bool->Bool} {a b:List Bool} (h:a.length=b.length) {j:Nat} (hj:j<a.length) (h':j<(UX f a b j).length):(UX f a b j)[j]=a[j]:=by
 have:=MT (f:=f) h j j (by omega);rw[if_neg (by omega),W2 h',W2 hj]at this;exact cg this
theorem R7 {f:Bool->Bool->Bool} {a b:List Bool} (h:a.length=b.length) {j:Nat} (hj:j<a.length) (hb:j<b.length):(UX f a b j).set j (f a[j] b[j])=UX f a b (j+1):=by
 have ho:=wk (f:=f) h;apply List.ext_getElem?;intro i;rw[bs,MT h j i (by omega),MT h (j+1) i (by omega),Hr h (by omega)];by_cases e:j=i
 .subst e;rw[if_pos rfl,if_pos hj,if_pos (by omega),W2 (by omega),KY (by omega) (by omega) (by omega)]
 .rw[if_neg e];by_cases hi:i<j
  .rw[if_pos hi,if_pos (by omega)]
  .rw[if_neg hi,if_neg (by omega)]
theorem MU {f:Bool->Bool->Bool} {a b:List Bool} (h:a.length=b.length):UX f a b a.length=UW f a b:=by
 unfold UX;rw[ap (b4 _),List.append_nil,List.take_of_length_le (by rw[wk h];omega)]
def BC (a b:Bool):Bool:=match a with
 |true=>!b
 |false=>false
def VA (n:Nat) (T:List (List Bool)) (ts:List Nat):Nat->List Bool
 |0=>wi n T T.length
 |k+1=>UW BC (VA n T ts k) (T.getD (ts.getD k 0) [])
theorem Xw {n:Nat} {T:List (List Bool)} (hT:∀r∈T,r.length=n) {ts:List Nat} (ht:∀t∈ts,t<T.length):∀k,k<=ts.length->(VA n T ts k).length=n
 |0,_=>jp hT _ (b4 _)
 |k+1,h=>by
  have ih:=Xw hT ht k (by omega);have hk:ts.getD k 0<T.length:=by rw[W1,W2 (by omega)];exact ht _ (W0 _)
  have:=(j8 hT hk).2;unfold VA;rw[wk (by omega),ih]
def nR (ts:List Nat):List (List D):=iR (ts.map P1)
theorem az (ts:List Nat):(nR ts).length=ts.length:=by simp[nR,iR]
theorem a8 {ts:List Nat} {i:Nat} (h:i<ts.length):nth [] (nR ts) i=[.int .i64 (ts[i]:Int)]:=by
 unfold nR;rw[Qp (by simpa using h)];simp
section
variable [Env]
abbrev Er:List (Nat×k9):=[(11,ki Hq 1 Ep)]
omit [Env] in
theorem MV (T:List (List Bool)):Ep [.c (.sl (tR T))]=bR (wi (pcs T) T T.length):=by
 show(match rdT (tR T)with|some T=>bR (wi (pcs T) T T.length)|none=>[])=_;rw[MS]
instance:EffOk (CX Er):=qV (zh ⟨v7 (C:=CX Er) Tryz.func11 (by simp[Tryz.f11]) (by decide) (λal hc=>by
 unfold Hq at hc;split at hc
 .rename_i es;split at hc
  .rename_i T hT;obtain rfl:=BB hT;rw[MV];cases T with
   |nil=>cases hc
   |cons r T=>
    simp only[Eo,Aw,b9,bw]at hc;obtain⟨h1,h2,h3,h4⟩:=hc;have h2:=b7 h2;have h3:=b7 h3;exact kU (C:=CC) (C':=CX Er) rfl rfl (MM (n:=r.length) (λx hx=>by
     rcases List.mem_cons.1 hx with rfl|hx
     .rfl
     .exact Nat.eq_of_beq_eq_true (h4 x hx)) h1 h2 (by simp) (by simp;omega))
  .cases hc
 .cases hc),trivial⟩)
theorem MW {n:Nat} {T:List (List Bool)} (hT:∀r∈T,r.length=n) (h0:0<n) (hn:n<=1000) (hl:T≠[]) (hl2:T.length<=1000) {ts:List Nat} (ht:∀t∈ts,t<T.length) (hts:ts.length<=1000):
 Gives CC 18 [.c (.sl (tR T)),.c (.sl (nR ts))] [.c (.bool (!(VA n T ts ts.length).contains true))]:=by
 have hpc:pcs T=n:=by
  cases T with
  |nil=>exact absurd rfl hl
  |cons r T=>exact hT r (by simp)
 refine qL (C:=CX Er) rfl rfl ?_;have hv:=UC (Gives (CX Er)) (λ_ ds=>∃k:Nat,k<=ts.length/\ds=[.sl (bR (VA n T ts k)),.int .i64 (k:Int)]) (λds=>(ts.length-toI (nth .undef ds 1)).toNat)
  (λgs ds=>∃k j:Nat,k<ts.length/\j<=n/\nth .undef gs 0= .int .i64 (k:Int)/\ds=[.sl (bR (UX BC (VA n T ts k) (T.getD (ts.getD k 0) []) j)),.int .i64 (j:Int)]) (λds=>(n-toI (nth .undef ds 1)).toNat)
  Hq Ep (tR T) (nR ts) (· =[.c (.bool (!(VA n T ts ts.length).contains true))])
 refine qj (C:=CX Er) mixedT Tryz.func18 (hv.mpr ?_);clear hv;have hmk:=MV T;refine⟨?_,⟨0,b5 _,by rw[hmk,hpc];rfl⟩,?_⟩
 .unfold Hq;simp only[MS];cases T with
  |nil=>exact absurd rfl hl
  |cons r T=>simp only[Eo,Aw,b9,bw];have hr:=hT r (by simp);refine⟨by omega,b8 (by omega),b8 (by simp at hl2;omega),λx hx=>?_⟩;rw[hr,hT x (by simp[hx])];exact Nat.beq_refl _
 rintro es i ⟨k,hk,he⟩;simp only[b3,Lr,Lm,true_and,and_true]at he;obtain⟨rfl,rfl⟩:=he;simp only[Tk,Xa,az,Sz];have lo:=Xw hT ht k hk;refine brd (λh=>?_) (λh=>?_)
 .have a1:k<ts.length:=by omega
  have a4:ts[k]<T.length:=ht _ (W0 a1);have hg:ts.getD k 0=ts[k]:=by rw[W1,W2 a1];rfl
  have hr:=j8 hT a4;rw[a8 a1];refine⟨⟨by omega,by omega,rfl⟩,_,⟨rfl,b4 1⟩,brd (λh2=>by omega) λ_=>brd (λh2=>by omega) λ_=>?_⟩;simp only[Sz];rw[Qo a4];refine⟨⟨by omega,by omega,rfl⟩,_,⟨rfl,b4 1⟩,⟨k,0,a1,b5 _,rfl,by simp[UX]⟩,?_⟩;have a0:T.getD (ts.getD k 0) []=T[ts[k]]:=by rw[hg];exact hr.1
  have lr:T[ts[k]].length=n:=by rw[<-hr.1];exact hr.2
  have a2:(VA n T ts k).length=T[ts[k]].length:=by omega
  rintro es2 i2 ⟨k2,j,a3,hj,he2,he⟩;simp only[nth,Lm,true_and]at he2;obtain rfl:k2=k:=by omega
  simp only[b3,Lr,Lm,true_and,and_true]at he;obtain⟨rfl,rfl⟩:=he;rw[a0];simp only[ws,Sz];refine brd (λh2=>?_) (λh2=>?_)
  .have hjn:j<n:=by omega
   have hw:Ls .i64 ((j:Int)+1)=((j+1:Nat):Int):=by rw[qR (by omega) (by omega)];omega
   have lm:=Hr (f:=BC) a2 (j:=j) (by omega);rw[ve (by omega),ve (by omega),hw];refine⟨⟨by omega,by omega,rfl⟩,_,⟨rfl,b4 1⟩,⟨by omega,by rw[lm];omega⟩,_,⟨rfl,b4 1⟩,?_⟩;have hm:=R6 (f:=BC) a2 (j:=j) (by omega) (by omega);have hs:=R7 (f:=BC) a2 (j:=j) (by omega) (by omega);refine js (λh3=>?_) (λh3=>?_)
   .refine⟨⟨by omega,by rw[lm];omega⟩,by omega,⟨k2,j+1,a3,by omega,rfl,?_⟩,by simp only[nth,toI];omega⟩;show [Hv (upd _ j [J3 (!_)]),_]=_;rw[Hk,a0,<-hs];rw[hm]at h3;rw[h3];rfl
   .refine⟨⟨by omega,by rw[lm];omega⟩,by omega,⟨k2,j+1,a3,by omega,rfl,?_⟩,by simp only[nth,toI];omega⟩;show [Hv (upd _ j [J3 false]),_]=_;rw[Hk,a0,<-hs];rw[hm]at h3;rw[h3];rfl
  .obtain rfl:j=n:=by omega
   have hw:Ls .i64 ((k2:Int)+1)=((k2+1:Nat):Int):=by rw[qR (by omega) (by omega)];omega
   rw[hw];refine⟨⟨k2+1,by omega,?_⟩,by simp only[nth,toI];omega⟩;have hf:=MU (f:=BC) a2;rw[lo]at hf;rw[hf];show _=[Hv (bR (UW BC (VA j T ts k2) (T.getD (ts.getD k2 0) []))),_];rw[a0]
 .obtain rfl:k=ts.length:=by omega
  exact⟨_,qL (C:=CC) (C':=CX Er) rfl rfl (ZB true (by omega)),rfl⟩
end
end Eng
end
section
namespace Eng
open Go Go.Proofs
def VB (os:List Int):Nat->Int
 |0=>0
 |k+1=>VB os k+os.getD k 0
def zS (r:List Bool) (os:List Int):Nat->Int
 |0=>0
 |j+1=>zS r os j+(match r.getD j false with
  |true=>os.getD j 0
  |false=>0)
def JH (os:List Int):Prop:=∀i,0<=os.getD i 0/\os.getD i 0<=1
theorem BD {os:List Int} (h:JH os):∀k,0<=VB os k/\VB os k<=k
 |0=>⟨Ts _,Ts _⟩
 |k+1=>by have ih:=BD h k;have hk:=h k;simp only[VB];omega
theorem KZ {r:List Bool} {os:List Int} (h:JH os):∀k,0<=zS r os k/\zS r os k<=k
 |0=>⟨Ts _,Ts _⟩
 |k+1=>by
  have ih:=KZ (r:=r) h k;have hk:=h k;simp only[zS];cases r.getD k false
  .simp only;omega
  .simp only;omega
theorem ZC {r:List Bool} {os:List Int} {j:Nat} (h:r.getD j false=true):zS r os (j+1)=zS r os j+os.getD j 0:=by simp only[zS,h]
theorem ZD {r:List Bool} {os:List Int} {j:Nat} (h:r.getD j false=false):zS r os (j+1)=zS r os j:=by simp only[zS,h];omega
theorem xh {α:Type} {l:List α} {i:Nat} {d:α} (h:i<l.length):l.getD i d=l[i]:=by rw[W1,W2 h];rfl
theorem Vu {α:Type} {l:List α} {i:Nat} {d:α} (h:l.length<=i):l.getD i d=d:=by rw[W1,List.getElem?_eq_none h];rfl
theorem Qq {a b:List Bool} (h:a.length=b.length) (i:Nat):(orL a b).getD i false=(a.getD i false||b.getD i false):=by
 have ho:=vf h;rcases b6 i a.length with k|k
 .rw[xh (by omega),xh k,xh (by omega),YB]
 .rw[Vu (by omega),Vu k,Vu (by omega)];rfl
theorem Hs {a b:List Bool} {os:List Int} (h:JH os) (hl:a.length=b.length):∀j,zS (orL a b) os j<=zS a os j+zS b os j
 |0=>Ts _
 |j+1=>by have ih:=Hs h hl j;have hj:=h j;simp only[zS,Qq hl];cases a.getD j false<;>cases b.getD j false<;>simp only[Bx,Bool.or_false]<;>omega
theorem Vv {os:List Int} (n:Nat):∀j,zS (V1 n false) os j=0
 |0=>rfl
 |j+1=>by
  have:(V1 n false).getD j false=false:=by
   rcases b6 j n with k|k
   .rw[xh (by simpa using k)];simp
   .rw[Vu (by simpa using k)]
  rw[ZD this,Vv n j]
theorem Vw {n:Nat} {T:List (List Bool)} (hT:∀r∈T,r.length=n) {os:List Int} (h:JH os) (hp:∀r∈T,zS r os n<=1) (s:Nat):∀k,k<=T.length->zS (Qx n T s k) os n<=((Xh s k).length:Int)
 |0,_=>by show zS (V1 n false) os n<=0;rw[Vv];exact Ts _
 |k+1,hk=>by
  have ih:=Vw hT h hp s k (by omega);have hg:=j8 hT (k:=k) (by omega);have la:=vE hT s k (by omega);cases e:YD s k with
  |true=>rw[Ho e,B6 e];have h1:=Hs (os:=os) h (a:=Qx n T s k) (b:=T.getD k []) (by omega) n;have h2:=hp _ (W0 (show k<T.length by omega));rw[<-hg.1]at h2;simp only[bm,bc,List.length_nil];omega
  |false=>rw[MQ e,B7 e];exact ih
theorem Vx {r:List Bool} {os:List Int}:∀j,(∀i<j,r.getD i false=true)->zS r os j=VB os j
 |0,_=>rfl
 |j+1,h=>by rw[ZC (h j (by omega)),Vx j λi hi=>h i (by omega)];rfl
theorem ZE {os:List Int} {i:Nat} (h:i<os.length):nth [] (iR os) i=[.int .i64 (os.getD i 0)]:=by rw[Qp h,xh h]
section
variable [Env]
theorem MX {n:Nat} {T:List (List Bool)} (hT:∀r∈T,r.length=n) (h0:0<n) (hn:n<=1000) (hl:T≠[]) (hl2:T.length<=1000) {os:List Int} (ho:os.length=n) (hf:JH os) (hc:∀i<n,os.getD i 0=0\/(wi n T T.length).getD i false=true) (hp:∀r∈T,zS r os n<=1):
 Gives CC 17 [.c (.sl (tR T)),.c (.sl (y6 T.length)),.c (.sl (iR os))] [.c (.int .i64 (VB os n)),.c (.bool true)]:=by
 have lo:(y6 T.length).length=T.length:=by unfold y6;rw[kB,ad]
 have hpc:pcs T=n:=by
  cases T with
  |nil=>exact absurd rfl hl
  |cons r T=>exact hT r (by simp)
 have hv:=U9 (Gives CC) (λ_ ds=>∃k:Nat,k<=n/\ds=[.int .i64 (VB os k),.int .i64 (k:Int)]) (λds=>(n-toI (nth .undef ds 1)).toNat)
  (λ_ ds=>∃k:Nat,k<=T.length/\ds=[.int .i64 (k:Int)]) (λds=>(T.length-toI (nth .undef ds 0)).toNat)
  (λgs ds=>∃(k j:Nat) (hk:k<T.length),j<=n/\gs=[.int .i64 (k:Int),.sl (bR T[k])]/\ds=[.int .i64 (zS T[k] os j),.int .i64 (j:Int)]) (λds=>(n-toI (nth .undef ds 1)).toNat)
  (tR T) (y6 T.length) (iR os) (· =[.c (.int .i64 (VB os n)),.c (.bool true)])
 refine qj (C:=CC) mixedT Tryz.func17 (hv.mpr ?_);clear hv;have lc:=jp hT T.length (b4 _);refine⟨_,ZA T,?_⟩;simp only[Tk,Xa,kB,lo,ho,hpc];refine brb (λh=>by simp at h) λ_=>⟨_,MN hT h0 hn hl hl2,⟨0,b5 _,rfl⟩,?_⟩
 rintro i i1 ⟨k,hk,e⟩;simp only[b3,Lm,true_and,and_true]at e;obtain⟨rfl,rfl⟩:=e;have hb:=BD hf k;refine brd (λh=>?_) (λh=>?_)
 .have hkn:k<n:=by omega
  have hfk:=hf k;simp only[Sz,ws,lc];rw[ZE (by omega),ve (by omega)];have hw:Ls .i64 ((k:Int)+1)=((k+1:Nat):Int):=by rw[qR (by omega) (by omega)];omega
  have a2:Ls .i64 (VB os k+os.getD k 0)=VB os (k+1):=by rw[qR (by omega) (by omega)];rfl
  rw[hw];have nx:(∃k':Nat,k'<=n/\[Hx .i64 (Ls .i64 (VB os k+os.getD k 0)),.int .i64 ((k+1:Nat):Int)]=[.int .i64 (VB os k'),.int .i64 (k':Int)])/\
   (n-toI (nth .undef [Hx .i64 (Ls .i64 (VB os k+os.getD k 0)),.int .i64 ((k+1:Nat):Int)] 1)).toNat<(n-toI (nth .undef [Hx .i64 (VB os k),.int .i64 (k:Int)] 1)).toNat:=
   ⟨⟨k+1,by omega,by rw[a2]⟩,by simp only[nth,toI];omega⟩
  refine⟨⟨by omega,by omega,rfl⟩,_,⟨rfl,b4 1⟩,brd (λh2=>by omega) λ_=>brd (λh2=>by omega) λ_=>brd (λh2=>?_) (λ_=>nx)⟩;refine⟨⟨by omega,by omega,rfl⟩,_,⟨rfl,b4 1⟩,brb (λh3=>?_) (λ_=>nx)⟩;rcases hc k hkn with h4|h4
  .omega
  .rw[xh (by omega)]at h4;rw[h4]at h3;cases h3
 .obtain rfl:k=n:=by omega
  refine⟨⟨0,b5 _,rfl⟩,?_⟩;rintro i2 ⟨t,ht,e⟩;simp only[b3,Lm,true_and,and_true]at e;subst e;refine brd (λh2=>?_) (λ_=>rfl);have a0:t<T.length:=by omega
  simp only[Sz];rw[Qo a0];have lr:=hT _ (W0 a0);refine⟨⟨by omega,by omega,rfl⟩,_,⟨rfl,b4 1⟩,⟨t,0,a0,b5 _,rfl,rfl⟩,?_⟩;rintro i i3 ⟨t',j,a3,hj,e1,e⟩;simp only[b3,Lm,true_and,and_true]at e1;obtain rfl:t'=t:=by have:=e1.1;omega
  simp only[b3,Lm,true_and,and_true]at e;obtain⟨rfl,rfl⟩:=e;have hb2:=KZ (r:=T[t']) hf j;simp only[ws,lr];have a1:nth [] (y6 T.length) t'=[.int .i64 1]:=by unfold y6;rw[Qp (by simpa using a0)];simp
  refine brd (λh3=>?_) (λh3=>?_)
  .have hjn:j<k:=by omega
   have hfj:=hf j;simp only[Sz];rw[ve (by omega),ZE (by omega)];have hw:Ls .i64 ((j:Int)+1)=((j+1:Nat):Int):=by rw[qR (by omega) (by omega)];omega
   rw[hw];refine⟨⟨by omega,by omega,rfl⟩,_,⟨rfl,b4 1⟩,js (λh4=>?_) (λh4=>?_)⟩
   .have a2:Ls .i64 (zS T[t'] os j+os.getD j 0)=zS T[t'] os (j+1):=by rw[ZC (by rw[xh (by omega)];exact h4)];exact qR (by omega) (by omega)
    exact⟨⟨by omega,by omega,rfl⟩,_,⟨rfl,b4 1⟩,⟨t',j+1,a3,by omega,rfl,by rw[a2]⟩,by simp only[nth,toI];omega⟩
   .have e2:=ZD (r:=T[t']) (os:=os) (j:=j) (by rw[xh (by omega)];exact h4);refine⟨⟨t',j+1,a3,by omega,rfl,by rw[e2]⟩,by simp only[nth,toI];omega⟩
  .obtain rfl:j=k:=by omega
   have hpt:=hp _ (W0 a0);rw[a1];have hw:Ls .i64 ((t':Int)+1)=((t'+1:Nat):Int):=by rw[qR (by omega) (by omega)];omega
   rw[hw];exact⟨⟨by omega,by omega,rfl⟩,_,⟨rfl,b4 1⟩,brd (λh4=>by omega) λ_=>⟨⟨t'+1,by omega,rfl⟩,by simp only[nth,toI];omega⟩⟩
end
end Eng
end
section
open Go Go.Proofs Eng
namespace Eng
section
variable (Gv:Nat->List A->List A->Prop) (I0:List D->List D->Prop) (M0:List D->Nat) (I1:List D->List D->Prop) (M1:List D->Nat) (I2:List D->List D->Prop) (M2:List D->Nat) (I3:List D->List D->Prop) (M3:List D->Nat) (Q:List A->Prop)
theorem MY (chk:List A->Bool) (mk:List A->List (List D)) (l0:List (List D)) (l1:List (List D)) (Q:List A->Prop):wpF (CX [(56,ki chk 1 mk)]) Gv (Pn ⟨[.own 7 22 1,.own 8 25 1,.slot 28 (.int .i64 0)],[],I0,M0⟩ ⟨[.slot 10 (.int .i64 0),.slot 33 (.int .i64 0)],[.own 7 22 1,.slot 28 (.int .i64 0)],I1,M1⟩ ⟨[.own 7 22 1,.slot 66 (.int .i64 0)],[.own 7 22 1,.own 8 25 1,.slot 28 (.int .i64 0)],I2,M2⟩) Tryz.f16 [.c (.sl l0),.c (.sl l1)] Q=(∃i,Gv 55 [aL l0,aL l1] [aI i]/\bB (i !=0) (Q [aL [],aI i]) (chk [Hu (Hv l1)]=true/\∃i,Gv 41 [aL l0] [aI i]/\(0<=i/\i<=i/\room (Pl i))/\I0 [] [Hv (mk [Hu (Hv l1)]),Hv (V1 (Pl i) [dI (0:Int)]),dI (0:Int)]/\∀(es e1:List (List D)) (i_1:Int),I0 [] [Hv es,Hv e1,dI i_1]->bB (decide (i_1<(P1 (U3 (V1 (Pl i) [dI (0:Int)]))))) (I1 [Hv es,dI i_1] [dI (-1:Int),dI (0:Int)]/\∀(i i_2:Int),I1 [Hv es,dI i_1] [dI i,dI i_2]->bB (decide (i_2<(P1 l0.length))) ((0<=i_2/\i_2<(P1 l0.length)/\U3 (nth [] l0 (Pl i_2))=1)/\∃e2,cut (nth [] l0 (Pl i_2)) 0 1 [Hv e2]/\(0<=i_1/\i_1<(P1 e2.length)/\U3 (nth [] e2 (Pl i_1))=1)/\∃b,cut (nth [] e2 (Pl i_1)) 0 1 [J3 b]/\br b (bB (decide (i<0)) ((0<=i_2/\i_2<(P1 es.length))/\∃i_3,cut (nth [] es (Pl i_2)) 0 1 [dI i_3]/\I1 [Hv es,dI i_1] [dI i_3,dI (Ls .i64 (i_2+1))]/\M1 [dI i_3,dI (Ls .i64 (i_2+1))]<M1 [dI i,dI i_2]) ((0<=i_2/\i_2<(P1 es.length))/\∃i_3,cut (nth [] es (Pl i_2)) 0 1 [dI i_3]/\bB (decide (i_3<i)) ((0<=i_2/\i_2<(P1 es.length))/\∃i_4,cut (nth [] es (Pl i_2)) 0 1 [dI i_4]/\I1 [Hv es,dI i_1] [dI i_4,dI (Ls .i64 (i_2+1))]/\M1 [dI i_4,dI (Ls .i64 (i_2+1))]<M1 [dI i,dI i_2]) (I1 [Hv es,dI i_1] [dI i,dI (Ls .i64 (i_2+1))]/\M1 [dI i,dI (Ls .i64 (i_2+1))]<M1 [dI i,dI i_2]))) (I1 [Hv es,dI i_1] [dI i,dI (Ls .i64 (i_2+1))]/\M1 [dI i,dI (Ls .i64 (i_2+1))]<M1 [dI i,dI i_2])) ((0<=i_1/\i_1<(P1 e1.length))/\0<1/\I2 [Hv es,Hv (upd e1 (Pl i_1) (upd (nth [] e1 (Pl i_1)) 0 (dI (match decide (0<i)with|true=>i|false=>(0:Int))))),dI i_1] [Hv es,dI (0:Int)]/\∀(e2:List (List D)) (i_3:Int),I2 [Hv es,Hv (upd e1 (Pl i_1) (upd (nth [] e1 (Pl i_1)) 0 (dI (match decide (0<i)with|true=>i|false=>(0:Int))))),dI i_1] [Hv e2,dI i_3]->bB (decide (i_3<(P1 l0.length))) ((0<=i_3/\i_3<(P1 l0.length)/\U3 (nth [] l0 (Pl i_3))=1)/\∃e3,cut (nth [] l0 (Pl i_3)) 0 1 [Hv e3]/\(0<=i_1/\i_1<(P1 e3.length)/\U3 (nth [] e3 (Pl i_1))=1)/\∃b,cut (nth [] e3 (Pl i_1)) 0 1 [J3 b]/\br b ((0<=i_3/\i_3<(P1 e2.length))/\∃i_4,cut (nth [] e2 (Pl i_3)) 0 1 [dI i_4]/\(0<=i_1/\i_1<(P1 (U3 (upd e1 (Pl i_1) (upd (nth [] e1 (Pl i_1)) 0 (dI (match decide (0<i)with|true=>i|false=>(0:Int))))))))/\∃i_5,cut (nth [] (upd e1 (Pl i_1) (upd (nth [] e1 (Pl i_1)) 0 (dI (match decide (0<i)with|true=>i|false=>(0:Int))))) (Pl i_1)) 0 1 [dI i_5]/\(0<=i_3/\i_3<(P1 e2.length))/\0<1/\I2 [Hv es,Hv (upd e1 (Pl i_1) (upd (nth [] e1 (Pl i_1)) 0 (dI (match decide (0<i)with|true=>i|false=>(0:Int))))),dI i_1] [Hv (upd e2 (Pl i_3) (upd (nth [] e2 (Pl i_3)) 0 (dI (Ls .i64 (i_4-i_5))))),dI (Ls .i64 (i_3+1))]/\M2 [Hv (upd e2 (Pl i_3) (upd (nth [] e2 (Pl i_3)) 0 (dI (Ls .i64 (i_4-i_5))))),dI (Ls .i64 (i_3+1))]<M2 [Hv e2,dI i_3]) (I2 [Hv es,Hv (upd e1 (Pl i_1) (upd (nth [] e1 (Pl i_1)) 0 (dI (match decide (0<i)with|true=>i|false=>(0:Int))))),dI i_1] [Hv e2,dI (Ls .i64 (i_3+1))]/\M2 [Hv e2,dI (Ls .i64 (i_3+1))]<M2 [Hv e2,dI i_3])) (I0 [] [Hv e2,Hv (upd e1 (Pl i_1) (upd (nth [] e1 (Pl i_1)) 0 (dI (match decide (0<i)with|true=>i|false=>(0:Int))))),dI (Ls .i64 (i_1+1))]/\M0 [Hv e2,Hv (upd e1 (Pl i_1) (upd (nth [] e1 (Pl i_1)) 0 (dI (match decide (0<i)with|true=>i|false=>(0:Int))))),dI (Ls .i64 (i_1+1))]<M0 [Hv es,Hv e1,dI i_1]))) (Q [aL e1,aI (0:Int)]))):=by kernel_rfl
end
end Eng
end
section
open Go Go.Proofs Eng
namespace Eng
theorem MZ (Gv:Nat->List A->List A->Prop) (l0:List (List D)) (Q:Nat->List (List D)->Prop):In CC Gv an0 Tryz.f56 [.c (.sl l0)] Q=(
 0<l0.length/\(room (0+l0.length)/\lens 1 l0)/\(l0≠[]/\z9 l0=true)/\Q 1 l0):=by kernel_rfl
end Eng
end
section
namespace Eng
open Go Go.Proofs
def vK (T:List (List Bool)) (t p:Nat):Bool:=(T.getD t []).getD p false
def Ht (x s:Int):Int:=match decide (s<0)with
 |true=>x
 |false=>match decide (x<s)with
  |true=>x
  |false=>s
def qY (T:List (List Bool)) (rs:List Int) (p:Nat):Nat->Int
 |0=> -1
 |t+1=>match vK T t p with
  |true=>Ht (rs.getD t 0) (qY T rs p t)
  |false=>qY T rs p t
def JI (T:List (List Bool)) (rs:List Int) (p:Nat) (o:Int):Nat->List Int
 |0=>rs
 |t+1=>match vK T t p with
  |true=>(JI T rs p o t).set t ((JI T rs p o t).getD t 0-o)
  |false=>JI T rs p o t
def Hw (x:Int):Int:=match decide ((0:Int)<x)with
 |true=>x
 |false=>0
def qS (T:List (List Bool)) (n:Nat):Nat->List Int×List Int
 |0=>(V1 T.length 1,V1 n 0)
 |p+1=>let st:=qS T n p
  let o:=Hw (qY T st.1 p T.length)
  (JI T st.1 p o T.length,st.2.set p o)
structure RInv (T:List (List Bool)) (n k:Nat) (st:List Int×List Int):Prop where
 l1:st.1.length=T.length
 l2:st.2.length=n
 fair:JH st.2
 zero:∀i,k<=i->st.2.getD i 0=0
 cov:∀i,st.2.getD i 0=0\/∃t<T.length,vK T t i=true
 bal:∀t<T.length,0<=st.1.getD t 0/\st.1.getD t 0+zS (T.getD t []) st.2 n=1
theorem Qr {l:List Int} {i j:Nat} {x:Int} (h:i<l.length):(l.set i x).getD j 0=if i=j then x else l.getD j 0:=by
 rw[W1,bs,W1];split
 .simp
 .rfl
theorem H0 (n:Nat) (x:Int) (i:Nat):(V1 n x).getD i 0=if i<n then x else 0:=by
 split
 .rename_i h;rw[xh (by simpa using h)];simp
 .rename_i h;exact Vu (by simp;omega)
theorem H1 {T:List (List Bool)} {rs:List Int} {p m:Nat} (h:∀t<m,0<=rs.getD t 0/\rs.getD t 0<=1):∀t,t<=m->(qY T rs p t= -1\/0<=qY T rs p t/\qY T rs p t<=1/\∃t'<t,vK T t' p=true)/\∀t'<t,vK T t' p=true->0<=qY T rs p t/\qY T rs p t<=rs.getD t' 0
 |0,_=>⟨.inl rfl,λ_ h=>by omega⟩
 |t+1,ht=>by
  obtain⟨i1,i2⟩:=H1 h t (by omega);have h1:=h t (by omega);unfold qY;cases e:vK T t p with
  |false=>
   refine⟨?_,λt' h' e'=>?_⟩
   .rcases i1 with i1|⟨a,b,t',c,d⟩
    .exact .inl i1
    .exact .inr ⟨a,b,t',by omega,d⟩
   .have:t'≠t:=λq=>by subst q;rw[e]at e';cases e'
    exact i2 t' (by omega) e'
  |true=>
   show(Ht _ _= -1\/_)/\_;have hm:Ht (rs.getD t 0) (qY T rs p t)=rs.getD t 0/\(qY T rs p t<0\/rs.getD t 0<qY T rs p t)\/Ht (rs.getD t 0) (qY T rs p t)=qY T rs p t/\0<=qY T rs p t/\qY T rs p t<=rs.getD t 0:=by
    unfold Ht;by_cases q:qY T rs p t<0
    .rw[decide_eq_true q];exact .inl ⟨rfl,.inl q⟩
    .rw[decide_eq_false q];by_cases q2:rs.getD t 0<qY T rs p t
     .rw[decide_eq_true q2];exact .inl ⟨rfl,.inr q2⟩
     .rw[decide_eq_false q2];exact .inr ⟨rfl,by omega,by omega⟩
   show(Ht (rs.getD t 0) (qY T rs p t)= -1\/0<=Ht (rs.getD t 0) (qY T rs p t)/\Ht (rs.getD t 0) (qY T rs p t)<=1/\∃t'<t+1,vK T t' p=true)/\∀t'<t+1,vK T t' p=true->0<=Ht (rs.getD t 0) (qY T rs p t)/\Ht (rs.getD t 0) (qY T rs p t)<=rs.getD t' 0;refine⟨.inr ⟨by omega,by omega,t,by omega,e⟩,λt' h' e'=>?_⟩;rcases b6 t' t with q|q
   .have:=i2 t' q e';omega
   .obtain rfl:t'=t:=by omega
    omega
theorem Qs {T:List (List Bool)} {rs:List Int} {p:Nat} {o:Int}:∀t,(JI T rs p o t).length=rs.length
 |0=>rfl
 |t+1=>by
  unfold JI;cases vK T t p
  .exact Qs t
  .show(List.set _ _ _).length=_;rw[a7,Qs t]
theorem Wa {T:List (List Bool)} {rs:List Int} {p:Nat} {o:Int}:∀t,t<=rs.length->∀i,(JI T rs p o t).getD i 0=if i<t/\vK T i p=true then rs.getD i 0-o else rs.getD i 0
 |0,_,i=>by rw[if_neg (by omega)];rfl
 |t+1,ht,i=>by
  have ih:=Wa (T:=T) (rs:=rs) (p:=p) (o:=o) t (by omega);unfold JI;cases e:vK T t p with
  |false=>
   show(JI T rs p o t).getD i 0=_;rw[ih];by_cases q:i=t
   .subst q;rw[if_neg (by omega),if_neg (by rw[e];simp)]
   .by_cases q2:i<t/\vK T i p=true
    .rw[if_pos q2,if_pos ⟨by omega,q2.2⟩]
    .rw[if_neg q2,if_neg (λh=>q2 ⟨by omega,h.2⟩)]
  |true=>
   show((JI T rs p o t).set t ((JI T rs p o t).getD t 0-o)).getD i 0=_;rw[Qr (by rw[Qs];omega),ih,ih];by_cases q:t=i
   .subst q;rw[if_pos rfl,if_neg (by omega),if_pos ⟨by omega,e⟩]
   .rw[if_neg q];by_cases q2:i<t/\vK T i p=true
    .rw[if_pos q2,if_pos ⟨by omega,q2.2⟩]
    .rw[if_neg q2,if_neg (λh=>q2 ⟨by omega,h.2⟩)]
theorem Vy {r:List Bool} {os:List Int} {k:Nat} {o:Int} (hk:k<os.length) (hz:os.getD k 0=0):∀j,zS r (os.set k o) j=zS r os j+(if k<j/\r.getD k false=true then o else 0)
 |0=>by rw[if_neg (by omega)];rfl
 |j+1=>by
  have ih:=Vy (r:=r) (o:=o) hk hz j;have hs:=Qr (j:=j) (x:=o) hk;cases e:r.getD j false with
  |false=>
   rw[ZD e,ZD e,ih];by_cases q:k=j
   .subst q;rw[if_neg (by omega),if_neg (by rw[e];simp)]
   .by_cases q2:k<j/\r.getD k false=true
    .rw[if_pos q2,if_pos ⟨by omega,q2.2⟩]
    .rw[if_neg q2,if_neg (λh=>q2 ⟨by omega,h.2⟩)]
  |true=>
   rw[ZC e,ZC e,ih,hs];by_cases q:k=j
   .subst q;rw[if_neg (by omega),if_pos rfl,if_pos ⟨by omega,e⟩,hz]
   .rw[if_neg q];by_cases q2:k<j/\r.getD k false=true
    .rw[if_pos q2,if_pos ⟨by omega,q2.2⟩];omega
    .rw[if_neg q2,if_neg (λh=>q2 ⟨by omega,h.2⟩)];omega
theorem YE {r:List Bool} {n:Nat}:∀j,zS r (V1 n 0) j=0
 |0=>rfl
 |j+1=>by
  have h:(V1 n (0:Int)).getD j 0=0:=by rw[H0];split<;>rfl
  cases e:r.getD j false with
  |false=>rw[ZD e,YE j]
  |true=>rw[ZC e,YE j,h];rfl
theorem vg (T:List (List Bool)) (n:Nat):∀k,k<=n->RInv T n k (qS T n k)
 |0,_=>by
  refine⟨by simp[qS],by simp[qS],λi=>?_,λi _=>?_,λi=> .inl ?_,λt ht=>?_⟩<;>simp only[qS,H0]
  .split<;>omega
  .split<;>rfl
  .split<;>rfl
  .rw[if_pos ht,YE];omega
 |k+1,hk=>by
  have ih:=vg T n k (by omega);unfold qS;generalize qS T n k=st at ih ⊢;obtain⟨rs,os⟩:=st;obtain⟨l1,l2,fair,zero,cov,bal⟩:=ih;simp only at l1 l2 fair zero cov bal ⊢;have hb:∀t<T.length,0<=rs.getD t 0/\rs.getD t 0<=1:=λt ht=>by have:=bal t ht;have:=(KZ (r:=T.getD t []) fair n).1;omega
  obtain⟨i1,i2⟩:=H1 (p:=k) hb T.length (b4 _);have hm:Hw (qY T rs k T.length)=0/\(∀t<T.length,vK T t k=true->0<=rs.getD t 0)\/0<=Hw (qY T rs k T.length)/\Hw (qY T rs k T.length)<=1/\(∃t<T.length,vK T t k=true)/\∀t<T.length,vK T t k=true->Hw (qY T rs k T.length)<=rs.getD t 0:=by
   rcases i1 with i1|⟨a,b,c⟩
   .rw[i1];exact .inl ⟨rfl,λt ht _=>(hb t ht).1⟩
   .have:Hw (qY T rs k T.length)=qY T rs k T.length:=by
     unfold Hw;by_cases q:(0:Int)<qY T rs k T.length
     .rw[decide_eq_true q]
     .rw[decide_eq_false q];simp only;omega
    rw[this];exact .inr ⟨a,b,c,λt ht h=>(i2 t ht h).2⟩
  generalize Hw (qY T rs k T.length)=o at hm ⊢;have ho:0<=o/\o<=1:=by rcases hm with⟨a,_⟩|⟨a,b,_⟩<;>omega
  have hz:=zero k (b4 _);have gs:∀i,(os.set k o).getD i 0=if k=i then o else os.getD i 0:=λi=>Qr (by omega)
  refine⟨by rw[Qs];exact l1,by rw[a7];exact l2,λi=>?_,λi hi=>?_,λi=>?_,λt ht=>?_⟩<;>simp only
  .rw[gs];split
   .exact ho
   .exact fair i
  .rw[gs,if_neg (by omega)];exact zero i (by omega)
  .rw[gs];split
   .rename_i q;subst q;rcases hm with⟨a,_⟩|⟨_,_,c,_⟩
    .exact .inl a
    .exact .inr c
   .exact cov i
  .rw[Wa _ (by omega),Vy (by omega) hz];have b:=bal t ht;by_cases q:vK T t k=true
   .rw[if_pos ⟨ht,q⟩,if_pos ⟨by omega,q⟩];rcases hm with⟨a,_⟩|⟨_,_,_,d⟩
    .omega
    .have:=d t ht q;omega
   .rw[if_neg (λh=>q h.2),if_neg (λh=>q h.2)];omega
end Eng
end
section
namespace Eng
open Go Go.Proofs
theorem Na {l:List Int} {i:Nat} {x:Int} (h:i<l.length):upd (iR l) i (upd (nth [] (iR l) i) 0 (.int .i64 x))=iR (l.set i x):=by
 rw[Qp h];show upd (iR l) i [.int .i64 x]=_;clear h
 induction l generalizing i with
 |nil=>rfl
 |cons a l ih=>
  cases i with
  |zero=>rfl
  |succ i=>show [Hx .i64 a]::upd (iR l) i [.int .i64 x]=[Hx .i64 a]::iR (l.set i x);rw[ih]
theorem Es {l:List Int} {k:Nat} {x:Int} (h:k<l.length):upd (iR l) k (upd (nth [] (iR l) k) 0 (.int .i64 (match decide ((0:Int)<x)with
 |true=>x
 |false=>(0:Int))))=iR (l.set k (Hw x)):=Na h
theorem Et (l:List Int):JS 1 (iR l)=true:=by
 induction l with
 |nil=>rfl
 |cons a l ih=>show(Nat.beq 1 1&&JS 1 (iR l))=true;rw[ih];rfl
theorem Eu (l:List Int):z9 (iR l)=true:=by
 induction l with
 |nil=>rfl
 |cons a l ih=>show(_&&z9 (iR l))=true;rw[ih];rfl
section
variable [Env]
def Nb (al:List A):Bool:=match al with
 |[.c (.sl (e::es))]=>cb es.length 1000&&(JS 1 (e::es)&&z9 (e::es))
 |_=>false
def a9 (al:List A):List (List D):=match al with
 |[.c (.sl es)]=>es
 |_=>[]
theorem Ev {es:List (List D)} (h:es≠[]) (hl:es.length<=1001) (h1:JS 1 es=true) (h2:z9 es=true):jn CC 56 [.c (.sl es)] 1 es:=by
 refine Yj mixedT Tryz.func56 ((MZ (Gives CC) es (λk r=>k=1/\r=es)).mpr ?_);refine⟨bh.2 h,⟨by unfold room;omega,(X2 1 es).1 h1⟩,⟨h,h2⟩,rfl,rfl⟩
abbrev BE:List (Nat×k9):=[(56,ki Nb 1 a9)]
instance:EffOk (CX BE):=qV (zh ⟨v7 (C:=CX BE) Tryz.func56 (by simp[Tryz.f56]) (by decide) (λal hc=>by
 unfold Nb at hc;split at hc
 .rename_i e es;simp only[Aw]at hc;obtain⟨h1,h2,h3⟩:=hc;have h1:=b7 h1;exact kU (C:=CC) (C':=CX BE) rfl rfl (Ev (es:=e::es) (by simp) (by simp;omega) h2 h3)
 .cases hc),trivial⟩)
theorem R8 {T:List (List Bool)} {n:Nat} (hT:∀r∈T,r.length=n) (hl:T.length<=200) (hn:n<=200):Gives CC 55 [.c (.sl (tR T)),.c (.sl (y6 T.length))] [.c (.int .i64 0)]:=by
 refine qj (C:=CC) (anns:=an0) mixedT Tryz.func55 ?_;rw[MI];exact⟨_,Hn (a:=200) (m:=200) hT hl hn (by omega),rfl⟩
theorem R9 {n:Nat} {T:List (List Bool)} (hT:∀r∈T,r.length=n) (h0:0<n) (hn:n<=200) (hl:T≠[]) (hl2:T.length<=200):
 Gives CC 16 [.c (.sl (tR T)),.c (.sl (y6 T.length))] [.c (.sl (iR (qS T n n).2)),.c (.int .i64 0)]:=by
 have lo:(y6 T.length).length=T.length:=by unfold y6;rw[kB,ad]
 have hpc:pcs T=n:=by
  cases T with
  |nil=>exact absurd rfl hl
  |cons r T=>exact hT r (by simp)
 have hTp:0<T.length:=bh.2 hl;refine qL (C:=CX BE) rfl rfl ?_;have hv:=MY (Gives (CX BE))
  (λ_ ds=>∃k:Nat,k<=n/\ds=[.sl (iR (qS T n k).1),.sl (iR (qS T n k).2),.int .i64 (k:Int)]) (λds=>(n-toI (nth .undef ds 2)).toNat)
  (λgs ds=>∃k t:Nat,k<n/\t<=T.length/\gs=[.sl (iR (qS T n k).1),.int .i64 (k:Int)]/\ds=[.int .i64 (qY T (qS T n k).1 k t),.int .i64 (t:Int)]) (λds=>(T.length-toI (nth .undef ds 1)).toNat)
  (λgs ds=>∃k t:Nat,k<n/\t<=T.length/\gs=[.sl (iR (qS T n k).1),.sl (iR ((qS T n k).2.set k (Hw (qY T (qS T n k).1 k T.length)))),.int .i64 (k:Int)]/\ds=[.sl (iR (JI T (qS T n k).1 k (Hw (qY T (qS T n k).1 k T.length)) t)),.int .i64 (t:Int)]) (λds=>(T.length-toI (nth .undef ds 1)).toNat)
  Nb a9 (tR T) (y6 T.length) (· =[.c (.sl (iR (qS T n n).2)),.c (.int .i64 0)])
 refine qj (C:=CX BE) mixedT Tryz.func16 (hv.mpr ?_);clear hv;have a1:∀k,V1 k [Hx .i64 0]=iR (V1 k 0):=λk=>by simp[iR]
 have inj:∀{a b:List Int},iR a=iR b->a=b:=λ{a b} h=>by
  have:=congrArg (List.map λr=>match r with
   |[Hx .i64 x]=>x
   |_=>0) h
  simpa [iR,List.map_map,Function.comp_def]using this
 refine⟨_,qL (C:=CC) (C':=CX BE) rfl rfl (R8 hT hl2 hn),brb (λh=>by cases h) λ_=>⟨?_,_,qL (C:=CC) (C':=CX BE) rfl rfl (ZA T),?_⟩⟩
 .have h1:=Et (V1 T.length 1);have h2:=Eu (V1 T.length 1);unfold y6 at lo ⊢;revert h1 h2 lo;cases iR (V1 T.length 1)with
  |nil=>intro lo;simp at lo;omega
  |cons e es=>intro lo h1 h2;show(cb es.length 1000&&(JS 1 (e::es)&&z9 (e::es)))=true;simp only[Aw];exact⟨b8 (by simp at lo;omega),h1,h2⟩
 rw[hpc,Sz,a1];refine⟨⟨by omega,by omega,by unfold room;omega⟩,⟨0,b5 _,rfl⟩,?_⟩;rintro es es1 i ⟨k,hk,e⟩;simp only[b3,Lr,Lm,true_and,and_true]at e;obtain⟨rfl,rfl,rfl⟩:=e;have ri:=vg T n k hk;have l1:=ri.l1;have l2:=ri.l2;simp only[Tk,Xa,kB,ad,Sz];refine brd (λh=>?_) (λh=>?_)
 .have hkn:k<n:=by omega
  have hb:∀t<T.length,0<=(qS T n k).1.getD t 0/\(qS T n k).1.getD t 0<=1:=λt ht=>by have:=ri.bal t ht;have:=(KZ (r:=T.getD t []) ri.fair n).1;omega
  refine⟨⟨k,0,hkn,b5 _,rfl,rfl⟩,?_⟩;rintro i i2 ⟨k',t,a2,ht,e1,e⟩;simp only[b3,Lr,Lm,true_and,and_true]at e1;obtain rfl:k'=k:=by have:=e1.2;omega
  clear e1;simp only[b3,Lm,true_and,and_true]at e;obtain⟨rfl,rfl⟩:=e;simp only[Sz];refine brd (λh2=>?_) (λh2=>?_)
  .have a0:t<T.length:=by omega
   have lr:=hT _ (W0 a0);have hh:vK T t k'=(T[t])[k']:=by unfold vK;rw[xh a0,xh (by omega)]
   have hw:Ls .i64 ((t:Int)+1)=((t+1:Nat):Int):=by rw[qR (by omega) (by omega)];omega
   rw[Qo a0,ZE (by omega),hw];refine⟨⟨by omega,by omega,rfl⟩,_,⟨rfl,b4 1⟩,⟨by omega,by rw[ws];omega,by rw[ve (by omega)];rfl⟩,?_⟩;rw[ve (by omega)];have nx:∀x,x=qY T (qS T n k').1 k' (t+1)->(∃a b:Nat,a<n/\b<=T.length/\[Hv (iR (qS T n k').1),.int .i64 (k':Int)]=[.sl (iR (qS T n a).1),.int .i64 (a:Int)]/\[Hx .i64 x,.int .i64 ((t+1:Nat):Int)]=[.int .i64 (qY T (qS T n a).1 a b),.int .i64 (b:Int)])/\
    (T.length-toI (nth .undef [Hx .i64 x,.int .i64 ((t+1:Nat):Int)] 1)).toNat<(T.length-toI (nth .undef [Hx .i64 (qY T (qS T n k').1 k' t),.int .i64 (t:Int)] 1)).toNat:=λx hx=>
    ⟨⟨k',t+1,a2,by omega,rfl,by rw[hx]⟩,by simp only[nth,toI];omega⟩
   refine⟨_,⟨rfl,b4 1⟩,js (λh3=>?_) (λh3=>?_)⟩
   .have e0:qY T (qS T n k').1 k' (t+1)=Ht ((qS T n k').1.getD t 0) (qY T (qS T n k').1 k' t):=by simp only[qY,hh,h3]
    refine brd (λh4=>?_) (λh4=>?_)
    .exact⟨⟨by omega,by omega⟩,_,⟨rfl,b4 1⟩,nx _ (by rw[e0];simp only[Ht,decide_eq_true h4])⟩
    .refine⟨⟨by omega,by omega⟩,_,⟨rfl,b4 1⟩,brd (λh5=>?_) (λh5=>?_)⟩
     .exact⟨⟨by omega,by omega⟩,_,⟨rfl,b4 1⟩,nx _ (by rw[e0];simp only[Ht,decide_eq_false h4,decide_eq_true h5])⟩
     .exact nx _ (by rw[e0];simp only[Ht,decide_eq_false h4,decide_eq_false h5])
   .exact nx _ (by simp only[qY,hh,h3])
  .obtain rfl:t=T.length:=by omega
   erw[Es (by omega)];have ob:0<=Hw (qY T (qS T n k').1 k' T.length)/\Hw (qY T (qS T n k').1 k' T.length)<=1:=by have:=(vg T n (k'+1) (by omega)).fair k';simp only[qS]at this;rw[Qr (by omega),if_pos rfl]at this;exact this
   generalize ho:Hw (qY T (qS T n k').1 k' T.length)=o at ob ⊢;refine⟨⟨by omega,by omega⟩,by omega,⟨k',0,a2,b5 _,by rw[ho],rfl⟩,?_⟩;rintro es2 i3 ⟨k2,t,a3,ht,e1,e⟩;simp only[b3,Lr,Lm,true_and,and_true]at e1;obtain rfl:k2=k':=by have:=e1.2.2;omega
   clear e1;simp only[b3,Lr,Lm,true_and,and_true]at e;obtain⟨rfl,rfl⟩:=e;rw[ho];have lp:=Qs (T:=T) (rs:=(qS T n k2).1) (p:=k2) (o:=o) t;have gp:=Wa (T:=T) (rs:=(qS T n k2).1) (p:=k2) (o:=o) t (by omega);simp only[Sz,kB,lp,a7];refine brd (λh3=>?_) (λh3=>?_)
   .have a0:t<T.length:=by omega
    have lr:=hT _ (W0 a0);have hh:vK T t k2=(T[t])[k2]:=by unfold vK;rw[xh a0,xh (by omega)]
    have hw:Ls .i64 ((t:Int)+1)=((t+1:Nat):Int):=by rw[qR (by omega) (by omega)];omega
    have hbt:=hb t a0;rw[Qo a0,hw];refine⟨⟨by omega,by omega,rfl⟩,_,⟨rfl,b4 1⟩,⟨by omega,by rw[ws];omega,by rw[ve (by omega)];rfl⟩,?_⟩;rw[ve (by omega)];refine⟨_,⟨rfl,b4 1⟩,js (λh4=>?_) (λh4=>?_)⟩
    .have ge:(JI T (qS T n k2).1 k2 o t).getD t 0=(qS T n k2).1.getD t 0:=by rw[gp,if_neg (by omega)]
     have gs:((qS T n k2).2.set k2 o).getD k2 0=o:=by rw[Qr (by omega),if_pos rfl]
     refine⟨⟨by omega,by omega⟩,_,by rw[ZE (by omega)];exact⟨rfl,b4 1⟩,⟨by omega,by omega⟩,_,by rw[ZE (by rw[a7];omega),gs];exact⟨rfl,b4 1⟩,⟨by omega,by omega⟩,by omega,?_⟩;rw[qR (by omega) (by omega),Na (by omega)];have e0:JI T (qS T n k2).1 k2 o (t+1)=(JI T (qS T n k2).1 k2 o t).set t ((JI T (qS T n k2).1 k2 o t).getD t 0-o):=by
      conv=>lhs;unfold JI
      simp only[hh,h4]
     refine⟨⟨k2,t+1,a3,by omega,by rw[ho],by rw[ho,e0]⟩,by simp only[nth,toI];omega⟩
    .have e0:JI T (qS T n k2).1 k2 o (t+1)=JI T (qS T n k2).1 k2 o t:=by
      conv=>lhs;unfold JI
      simp only[hh,h4]
     refine⟨⟨k2,t+1,a3,by omega,by rw[ho],by rw[ho,e0]⟩,by simp only[nth,toI];omega⟩
   .obtain rfl:t=T.length:=by omega
    have hw:Ls .i64 ((k2:Int)+1)=((k2+1:Nat):Int):=by rw[qR (by omega) (by omega)];omega
    rw[hw];refine⟨⟨k2+1,by omega,?_⟩,by simp only[nth,toI];omega⟩;simp only[qS,ho]
 .obtain rfl:k=n:=by omega
  rfl
end
end Eng
end
section
namespace Eng
open Go Go.Proofs
theorem Nc {n:Nat} {T:List (List Bool)} (hT:∀r∈T,r.length=n) {t i:Nat} (h:vK T t i=true):∀k,k<=T.length->t<k->(wi n T k).getD i false=true
 |0,_,ht=>by omega
 |k+1,hk,ht=>by
  have hg:=j8 hT (k:=k) (by omega);have la:=jp hT k (by omega);unfold wi;rw[Qq (by omega)];rcases b6 t k with q|q
  .rw[Nc hT h k (by omega) q];rfl
  .obtain rfl:t=k:=by omega
   have h:(T.getD t []).getD i false=true:=h;rw[h,Bx]
theorem BF {n:Nat} {T:List (List Bool)} (hT:∀r∈T,r.length=n) {s t i:Nat} (h:vK T t i=true) (hs:YD s t=true):∀k,k<=T.length->t<k->(Qx n T s k).getD i false=true
 |0,_,ht=>by omega
 |k+1,hk,ht=>by
  have hg:=j8 hT (k:=k) (by omega);have la:=vE hT s k (by omega);rcases b6 t k with q|q
  .have ih:=BF hT h hs k (by omega) q;cases e:YD s k with
   |true=>rw[Ho e,Qq (by omega),ih];rfl
   |false=>rw[MQ e];exact ih
  .obtain rfl:t=k:=by omega
   have h:(T.getD t []).getD i false=true:=h;rw[Ho hs,Qq (by omega),h,Bx]
theorem Nd {f:Bool->Bool->Bool} {a b:List Bool} (hl:a.length=b.length) {i:Nat} (h:i<a.length):(UW f a b).getD i false=f (a.getD i false) (b.getD i false):=by
 have:=wk (f:=f) hl;rw[xh (by omega),xh h,xh (by omega),KY]
theorem aA {n:Nat} {T:List (List Bool)} (hT:∀r∈T,r.length=n) {ts:List Nat} (ht:∀t∈ts,t<T.length) {i:Nat} (hi:i<n) (hc:(wi n T T.length).getD i false=true):∀k,k<=ts.length->((VA n T ts k).getD i false=false↔∃j<k,vK T (ts.getD j 0) i=true):=by
 intro k
 induction k with
 |zero=>intro _;simp only[VA,hc];simp
 |succ k ih=>
  intro hk;have ih:=ih (by omega);have lo:=Xw hT ht k (by omega);have hm:ts.getD k 0<T.length:=by rw[xh (by omega)];exact ht _ (W0 _)
  have lr:=(j8 hT hm).2;simp only[VA];rw[Nd (by omega) (by omega)];unfold BC;constructor
  .intro h;cases e:(VA n T ts k).getD i false with
   |false=>obtain⟨j,hj,h2⟩:=ih.1 e;exact⟨j,by omega,h2⟩
   |true=>rw[e]at h;exact⟨k,by omega,by simpa [vK]using h⟩
  .rintro⟨j,hj,h2⟩;rcases b6 j k with q|q
   .rw[ih.2 ⟨j,q,h2⟩]
   .obtain rfl:j=k:=by omega
    have h2:(T.getD (ts.getD j 0) []).getD i false=true:=h2;rw[h2];cases(VA n T ts j).getD i false<;>rfl
theorem aD {a b:List Bool} {n:Nat} (ha:a.length=n) (hb:b.length=n) (h1:∀i<n,a.getD i false=true) (h2:∀i<n,b.getD i false=true):a=b:=by
 apply a6 (by omega);intro i h3 h4;have e1:=h1 i (by omega);have e2:=h2 i (by omega);rw[xh h3]at e1;rw[xh h4]at e2;rw[e1,e2]
def sOf (p:Nat->Bool):Nat:=(bif p 0 then 1 else 0)+(bif p 1 then 2 else 0)+(bif p 2 then 4 else 0)+(bif p 3 then 8 else 0)+(bif p 4 then 16 else 0)
def nmd (p:Nat->Bool):List Nat:=[0,1,2,3,4].filter p
theorem aE (p:Nat->Bool):sOf p<32/\(∀t∈nmd p,YD (sOf p) t=true)/\(Xh (sOf p) 5).length=(nmd p).length:=by
 unfold sOf nmd;simp only[List.filter_cons,List.filter_nil];cases p 0<;>cases p 1<;>cases p 2<;>cases p 3<;>cases p 4<;>decide
theorem Nf {p:Nat->Bool} {t:Nat} (h:t∈nmd p):t<5:=by
 have:=(List.mem_filter.1 h).1;simp at this;omega
theorem aF {n:Nat} {T:List (List Bool)} (hT:∀r∈T,r.length=n) (h5:T.length=5) (hall:∀i<n,∃t<5,vK T t i=true) (p:Nat->Bool) (hp:∀i<n,∃t∈nmd p,vK T t i=true):
 (VA n T (nmd p) (nmd p).length).contains true=false/\VB (qS T n n).2 n<=(zw n T 5 32).2/\(zw n T 5 32).2<=((nmd p).length:Int):=by
 have lc:=jp hT T.length (b4 _);have hc:∀i<n,(wi n T T.length).getD i false=true:=λi hi=>by obtain⟨t,ht,h⟩:=hall i hi;exact Nc hT h _ (b4 _) (by omega)
 have hm:∀t∈nmd p,t<T.length:=λt ht=>by have:=Nf ht;omega
 have lo:=Xw hT hm _ (b4 _);obtain⟨s1,s2,s3⟩:=aE p;have ri:=vg T n n (b4 _);have a1:∀r∈T,zS r (qS T n n).2 n<=1:=λr hr=>by obtain⟨t,ht,rfl⟩:=ba.1 hr;have:=ri.bal t ht;rw[xh ht]at this;omega
 have ls:=vE hT (sOf p) T.length (b4 _);have a0:Qx n T (sOf p) 5=wi n T 5:=by rw[<-h5];refine aD ls lc (λi hi=>?_) hc;obtain⟨t,ht,h⟩:=hp i hi;exact BF hT h (s2 t ht) _ (b4 _) (hm t ht)
 refine⟨?_,?_⟩
 .rw[Dd];intro h;obtain⟨i,hi,h⟩:=ba.1 (List.contains_iff_mem.1 h);obtain⟨t,ht,h2⟩:=hp i (by omega);obtain⟨j,hj,rfl⟩:=ba.1 ht;have:=(aA hT hm (by omega) (hc i (by omega)) _ (b4 _)).2 ⟨j,hj,by rw[xh hj];exact h2⟩;rw[xh hi,h]at this;cases this
 .obtain⟨_,hb⟩:=KX n T 5 32;rcases hb with⟨_,h⟩|⟨s0,h0,e0,e1,h⟩
  .exact absurd (by rw[a0]) (h _ s1)
  .have h2:=h _ s1 (by rw[a0]);have e2:=R5 _ _ (by rw[vE hT s0 5 (by omega),<-h5,lc]) e0;have h3:=Vw hT ri.fair a1 s0 5 (by omega);rw[e2,<-h5,Vx n hc]at h3;rw[e1];unfold QD at *;rw[h5]at h3;rw[s3]at h2;exact⟨h3,h2⟩
end Eng
end
section
open Go Go.Proofs Eng
namespace Eng
section
variable (Gv:Nat->List A->List A->Prop) (I0:List D->List D->Prop) (M0:List D->Nat) (I1:List D->List D->Prop) (M1:List D->Nat) (I2:List D->List D->Prop) (M2:List D->Nat) (I3:List D->List D->Prop) (M3:List D->Nat) (Q:List A->Prop)
theorem aG (i0:Int) (i1:Int):wpF CC Gv an0 Tryz.f77 [.c (.int .i64 i0),.c (.int .i64 i1)] Q=(i1≠0/\Q [aI (Ls .i64 (Int.tdiv (Ls .i64 (Ls .i64 (i0+i1)-1)) i1))]):=by kernel_rfl
theorem RA (i0:Int) (i1:Int) (Q:List A->Prop):wpF CC Gv (λ_=>⟨[.own 7 46 1,.slot 32 (.int .i64 0)],[],I0,M0⟩) Tryz.f33 [.c (.int .i64 i0),.c (.int .i64 i1)] Q=(bB (decide (i0<1)) (Q [aL [],aI (1:Int)]) (bB (decide (i0>10000000)) (Q [aL [],aI (1:Int)]) (bB (decide (i1<1)) (Q [aL [],aI (1:Int)]) (bB (decide (i1>10000000)) (Q [aL [],aI (1:Int)]) (∃i,Gv 77 [aI i0,aI i1] [aI i]/\bB (decide (i>1000)) (Q [aL [],aI (3:Int)]) ((0<=i/\i<=i/\room (Pl i))/\I0 [] [Hv (V1 (Pl i) [dI (0:Int)]),dI (0:Int)]/\∀(es:List (List D)) (i_1:Int),I0 [] [Hv es,dI i_1]->bB (decide (i_1<(P1 (U3 (V1 (Pl i) [dI (0:Int)]))))) (∃i_2,Gv 77 [aI (Ls .i64 (Ls .i64 (i_1+1)*i0)),aI i] [aI i_2]/\(0<=i_1/\i_1<(P1 es.length))/\0<1/\I0 [] [Hv (upd es (Pl i_1) (upd (nth [] es (Pl i_1)) 0 (dI i_2))),dI (Ls .i64 (i_1+1))]/\M0 [Hv (upd es (Pl i_1) (upd (nth [] es (Pl i_1)) 0 (dI i_2))),dI (Ls .i64 (i_1+1))]<M0 [Hv es,dI i_1]) (Q [aL es,aI (0:Int)]))))))):=by kernel_rfl
theorem RB (l0:List (List D)) (i0:Int) (i1:Int) (Q:List A->Prop):wpF CC Gv (λ_=>⟨[.slot 7 (.int .i64 0),.slot 12 (.int .i64 0)],[],I0,M0⟩) Tryz.f78 [.c (.sl l0),.c (.int .i64 i0),.c (.int .i64 i1)] Q=(I0 [] [dI (0:Int),dI (0:Int)]/\∀(i i_1:Int),I0 [] [dI i,dI i_1]->bB (decide (i_1<(P1 l0.length))) ((0<=i_1/\i_1<(P1 l0.length)/\U3 (nth [] l0 (Pl i_1))=1)/\∃i_2,cut (nth [] l0 (Pl i_1)) 0 1 [dI i_2]/\bB (decide (i_2<=i)) (Q [aB false]) (bB (decide (Ls .i64 (i_2-i)>i1)) (Q [aB false]) (I0 [] [dI i_2,dI (Ls .i64 (i_1+1))]/\M0 [dI i_2,dI (Ls .i64 (i_1+1))]<M0 [dI i,dI i_1]))) (bB (decide ((P1 l0.length)>0)) (Q [aB (i==i0)]) (Q [aB false]))):=by kernel_rfl
theorem Ng (i0:Int) (i1:Int) (i2:Int):wpF CC Gv an0 Tryz.f79 [.c (.int .i64 i0),.c (.int .i64 i1),.c (.int .i64 i2)] Q=(bB (i0==1) (bB (i1==1) (Q [aB (i2==1)]) (bB (i1==3) (Q [aB (i2==1)]) (Q [aB false]))) (bB (i0==2) (bB (i1==1) (Q [aB (i2==1)]) (Q [aB false])) (bB (i0==3) (bB (i1==3) (Q [aB (i2==2)]) (Q [aB false])) (bB (i0==4) (bB (i1==1) (Q [aB (i2==3)]) (bB (i1==3) (Q [aB (i2==3)]) (Q [aB false]))) (bB (i0==5) (bB (i1==4) (Q [aB (i2==1)]) (Q [aB false])) (Q [aB false])))))):=by kernel_rfl
theorem RC (fn:List UInt8) (fk fd:Int) (fe:List (List D)) (i0:Int) (i1:Int) (i2:Int) (i3:Int) (i4:Int) (i5:Int) (i6:Int) (i7:Int):wpF CC Gv an0 Tryz.f35 [.ag [.str fn,.int .i64 fk,.int .i64 fd,.sl fe],.ag (.int .i64 i0::(.int .i64 i1::(.int .i64 i2::(.int .i64 i3::(.int .i64 i4::(.int .i64 i5::(.int .i64 i6::(.int .i64 i7::[]))))))))] Q=(bB (fk==4) (Q [aI (5:Int)]) (bB (fk==3) (bB (i1==2) (Q [aI (3:Int)]) (Q [aI (1:Int)])) (Q [aI (1:Int)]))):=by kernel_rfl
theorem Nh (i0:Int) (i1:Int) (i2:Int) (i3:Int) (i4:Int) (i5:Int) (i6:Int) (i7:Int) (i8:Int):wpF CC Gv an0 Tryz.f96 [.ag (.int .i64 i0::(.int .i64 i1::(.int .i64 i2::(.int .i64 i3::(.int .i64 i4::(.int .i64 i5::(.int .i64 i6::(.int .i64 i7::[])))))))),.c (.int .i64 i8)] Q=(bB (i1==1) (bB (decide (i2<i8)) (Q [aB (decide (Ls .i64 (i8-i2)<=i2))]) (Q [aB false])) (Q [aB false])):=by kernel_rfl
theorem Ni (l0:List (List D)) (i0:Int) (i1:Int):wpF CC Gv (λ_=>⟨[.slot 9 (.int .i64 0),.slot 20 (.int .i64 0)],[],I0,M0⟩) Tryz.f44 [.c (.sl l0),.c (.int .i64 i0),.c (.int .i64 i1)] Q=(bB (decide (i0<1)) (Q [aI (0:Int),aB false,aI (1:Int)]) (bB (decide (i1<1)) (Q [aI (0:Int),aB false,aI (1:Int)]) (I0 [] [dI (-1:Int),dI (0:Int)]/\∀(i i_1:Int),I0 [] [dI i,dI i_1]->bB (decide (i_1<(P1 l0.length))) ((0<=i_1/\i_1<(P1 l0.length)/\U3 (nth [] l0 (Pl i_1))=8)/\∃i_2 i_3 i_4 i_5 i_6 i_7 i_8 i_9,cut (nth [] l0 (Pl i_1)) 0 8 [dI i_2,dI i_3,dI i_4,dI i_5,dI i_6,dI i_7,dI i_8,dI i_9]/\bB (decide (i_5<i1)) (I0 [] [dI i,dI (Ls .i64 (i_1+1))]/\M0 [dI i,dI (Ls .i64 (i_1+1))]<M0 [dI i,dI i_1]) (bB (i_3==2) (bB (i_4==i0) (Q [aI i_1,aB true,aI (0:Int)]) (∃b,Gv 96 [F0 [dI i_2,dI i_3,dI i_4,dI i_5,dI i_6,dI i_7,dI i_8,dI i_9],aI i0] [aB b]/\br b (bB (decide (i<0)) (I0 [] [dI i_1,dI (Ls .i64 (i_1+1))]/\M0 [dI i_1,dI (Ls .i64 (i_1+1))]<M0 [dI i,dI i_1]) ((0<=i/\i<(P1 l0.length)/\U3 (nth [] l0 (Pl i))=8)/\∃i_10,cut (nth [] l0 (Pl i)) 2 1 [dI i_10]/\bB (decide (i_4>i_10)) (I0 [] [dI i_1,dI (Ls .i64 (i_1+1))]/\M0 [dI i_1,dI (Ls .i64 (i_1+1))]<M0 [dI i,dI i_1]) (I0 [] [dI i,dI (Ls .i64 (i_1+1))]/\M0 [dI i,dI (Ls .i64 (i_1+1))]<M0 [dI i,dI i_1]))) (I0 [] [dI i,dI (Ls .i64 (i_1+1))]/\M0 [dI i,dI (Ls .i64 (i_1+1))]<M0 [dI i,dI i_1]))) (∃b,Gv 96 [F0 [dI i_2,dI i_3,dI i_4,dI i_5,dI i_6,dI i_7,dI i_8,dI i_9],aI i0] [aB b]/\br b (bB (decide (i<0)) (I0 [] [dI i_1,dI (Ls .i64 (i_1+1))]/\M0 [dI i_1,dI (Ls .i64 (i_1+1))]<M0 [dI i,dI i_1]) ((0<=i/\i<(P1 l0.length)/\U3 (nth [] l0 (Pl i))=8)/\∃i_10,cut (nth [] l0 (Pl i)) 2 1 [dI i_10]/\bB (decide (i_4>i_10)) (I0 [] [dI i_1,dI (Ls .i64 (i_1+1))]/\M0 [dI i_1,dI (Ls .i64 (i_1+1))]<M0 [dI i,dI i_1]) (I0 [] [dI i,dI (Ls .i64 (i_1+1))]/\M0 [dI i,dI (Ls .i64 (i_1+1))]<M0 [dI i,dI i_1]))) (I0 [] [dI i,dI (Ls .i64 (i_1+1))]/\M0 [dI i,dI (Ls .i64 (i_1+1))]<M0 [dI i,dI i_1])))) (bB (decide (i<0)) (Q [aI (0:Int),aB false,aI (16:Int)]) (Q [aI i,aB false,aI (0:Int)]))))):=by kernel_rfl
theorem RD (l0:List (List D)) (i0:Int) (r0:R4) (b0:Bool):wpF CC Gv (λ_=>⟨[.slot 9 (.int .i64 0),.slot 14 (.int .i64 0)],[],I0,M0⟩) Tryz.f45 [.c (.sl l0),.c (.int .i64 i0),.ag (rk r0 []),.c (.bool b0)] Q=(I0 [] [dI (-1:Int),dI (0:Int)]/\∀(i i_1:Int),I0 [] [dI i,dI i_1]->bB (decide (i_1<(P1 l0.length))) ((0<=i_1/\i_1<(P1 l0.length)/\U3 (nth [] l0 (Pl i_1))=8)/\∃i_2 i_3 i_4 i_5 i_6 i_7 i_8 i_9,cut (nth [] l0 (Pl i_1)) 0 8 [dI i_2,dI i_3,dI i_4,dI i_5,dI i_6,dI i_7,dI i_8,dI i_9]/\bB (i_3 !=1) (I0 [] [dI i,dI (Ls .i64 (i_1+1))]/\M0 [dI i,dI (Ls .i64 (i_1+1))]<M0 [dI i,dI i_1]) (bB (decide (i_5<i0)) (I0 [] [dI i,dI (Ls .i64 (i_1+1))]/\M0 [dI i,dI (Ls .i64 (i_1+1))]<M0 [dI i,dI i_1]) (∃x,Gv 46 [aI (Ls .i64 (2*i_4))] [aR x]/\∃i_10,Gv 49 [aR x,aR r0] [aI i_10]/\bB (decide (i_10>0)) (I0 [] [dI i,dI (Ls .i64 (i_1+1))]/\M0 [dI i,dI (Ls .i64 (i_1+1))]<M0 [dI i,dI i_1]) (bB (decide (i<0)) (I0 [] [dI i_1,dI (Ls .i64 (i_1+1))]/\M0 [dI i_1,dI (Ls .i64 (i_1+1))]<M0 [dI i,dI i_1]) (br b0 ((0<=i/\i<(P1 l0.length)/\U3 (nth [] l0 (Pl i))=8)/\∃i_11,cut (nth [] l0 (Pl i)) 2 1 [dI i_11]/\bB (decide (i_4>i_11)) (I0 [] [dI i_1,dI (Ls .i64 (i_1+1))]/\M0 [dI i_1,dI (Ls .i64 (i_1+1))]<M0 [dI i,dI i_1]) (bB (!b0) ((0<=i/\i<(P1 l0.length)/\U3 (nth [] l0 (Pl i))=8)/\∃i_12,cut (nth [] l0 (Pl i)) 2 1 [dI i_12]/\bB (decide (i_4<i_12)) (I0 [] [dI i_1,dI (Ls .i64 (i_1+1))]/\M0 [dI i_1,dI (Ls .i64 (i_1+1))]<M0 [dI i,dI i_1]) (I0 [] [dI i,dI (Ls .i64 (i_1+1))]/\M0 [dI i,dI (Ls .i64 (i_1+1))]<M0 [dI i,dI i_1])) (I0 [] [dI i,dI (Ls .i64 (i_1+1))]/\M0 [dI i,dI (Ls .i64 (i_1+1))]<M0 [dI i,dI i_1]))) (bB (!b0) ((0<=i/\i<(P1 l0.length)/\U3 (nth [] l0 (Pl i))=8)/\∃i_11,cut (nth [] l0 (Pl i)) 2 1 [dI i_11]/\bB (decide (i_4<i_11)) (I0 [] [dI i_1,dI (Ls .i64 (i_1+1))]/\M0 [dI i_1,dI (Ls .i64 (i_1+1))]<M0 [dI i,dI i_1]) (I0 [] [dI i,dI (Ls .i64 (i_1+1))]/\M0 [dI i,dI (Ls .i64 (i_1+1))]<M0 [dI i,dI i_1])) (I0 [] [dI i,dI (Ls .i64 (i_1+1))]/\M0 [dI i,dI (Ls .i64 (i_1+1))]<M0 [dI i,dI i_1]))))))) (Q [aI i])):=by kernel_rfl
theorem RE (i0:Int) (i1:Int) (i2:Int) (i3:Int) (i4:Int) (i5:Int) (i6:Int) (i7:Int):wpF CC Gv an0 Tryz.f75 [.ag (.int .i64 i0::(.int .i64 i1::(.int .i64 i2::(.int .i64 i3::(.int .i64 i4::(.int .i64 i5::(.int .i64 i6::(.int .i64 i7::[]))))))))] Q=(bB (decide (i0>=1)) (bB (decide (i0<=9999)) (bB (decide (i1>=1)) (bB (decide (i1<=4)) (∃b,Gv 145 [aI i2] [aB b]/\br b (∃b,Gv 145 [aI i3] [aB b]/\br b (∃b,Gv 145 [aI i5] [aB b]/\br b (∃b,Gv 145 [aI i6] [aB b]/\br b (∃b,Gv 145 [aI i7] [aB b]/\br b (bB (decide (i4>=i2)) (bB (decide (i4<=10000000)) (Q [aB (decide (i5<=i3))]) (Q [aB false])) (Q [aB false])) (Q [aB false])) (Q [aB false])) (Q [aB false])) (Q [aB false])) (Q [aB false])) (Q [aB false])) (Q [aB false])) (Q [aB false])) (Q [aB false])):=by kernel_rfl
theorem Ew (i0:Int):wpF CC Gv an0 Tryz.f145 [.c (.int .i64 i0)] Q=(bB (decide (i0>=1)) (Q [aB (decide (i0<=10000000))]) (Q [aB false])):=by kernel_rfl
theorem RF (l0:List (List D)) (i0:Int):wpF CC Gv (λ_=>⟨[.slot 6 (.int .i64 0)],[],I0,M0⟩) Tryz.f76 [.c (.sl l0),.c (.int .i64 i0)] Q=(I0 [] [dI (0:Int)]/\∀(i:Int),I0 [] [dI i]->bB (decide (i<(P1 l0.length))) ((0<=i/\i<(P1 l0.length)/\U3 (nth [] l0 (Pl i))=8)/\∃i_1,cut (nth [] l0 (Pl i)) 0 1 [dI i_1]/\bB (i_1==i0) (Q [aI i,aI (0:Int)]) (I0 [] [dI (Ls .i64 (i+1))]/\M0 [dI (Ls .i64 (i+1))]<M0 [dI i])) (Q [aI (0:Int),aI (4:Int)])):=by kernel_rfl
theorem Ex (l0:List (List D)) (Q:List A->Prop):wpF CC Gv (Kt ⟨[.slot 3 (.int .i64 0)],[],I0,M0⟩ ⟨[.slot 4 (.int .i64 0)],[],I1,M1⟩) Tryz.f32 [.c (.sl l0)] Q=(bB (decide ((P1 l0.length)>200)) (Q [aI (3:Int)]) (I0 [] [dI (0:Int)]/\∀(i:Int),I0 [] [dI i]->bB (decide (i<(P1 l0.length))) ((0<=i/\i<(P1 l0.length)/\U3 (nth [] l0 (Pl i))=8)/\∃i_1 i_2 i_3 i_4 i_5 i_6 i_7 i_8,cut (nth [] l0 (Pl i)) 0 8 [dI i_1,dI i_2,dI i_3,dI i_4,dI i_5,dI i_6,dI i_7,dI i_8]/\∃b,Gv 75 [F0 [dI i_1,dI i_2,dI i_3,dI i_4,dI i_5,dI i_6,dI i_7,dI i_8]] [aB b]/\bB (!b) (Q [aI (1:Int)]) (I0 [] [dI (Ls .i64 (i+1))]/\M0 [dI (Ls .i64 (i+1))]<M0 [dI i])) (I1 [] [dI (0:Int)]/\∀(i:Int),I1 [] [dI i]->bB (decide (i<(P1 l0.length))) ((0<=i/\i<(P1 l0.length)/\U3 (nth [] l0 (Pl i))=8)/\∃i_1,cut (nth [] l0 (Pl i)) 0 1 [dI i_1]/\∃i_2 i_3,Gv 76 [aL l0,aI i_1] [aI i_2,aI i_3]/\bB (decide (i_2<i)) (Q [aI (5:Int)]) (I1 [] [dI (Ls .i64 (i+1))]/\M1 [dI (Ls .i64 (i+1))]<M1 [dI i])) (Q [aI (0:Int)])))):=by kernel_rfl
theorem Ey (i0:Int):wpF CC Gv an0 Tryz.f248 [.c (.int .i64 i0)] Q=(bB (decide (i0>=1)) (Q [aB (decide (i0<=10000000))]) (Q [aB false])):=by kernel_rfl
theorem RG (l0:List (List D)) (i0:Int):wpF CC Gv an0 Tryz.f169 [.c (.sl l0),.c (.int .i64 i0)] Q=(∃i,Gv 249 [aL l0,Hu (D.clo 250 [J4 [dI i0]])] [aI i]/\bB (decide (i<0)) (Q [aI (0:Int),aI (4:Int)]) (Q [aI i,aI (0:Int)])):=by kernel_rfl
theorem Nj (i0:Int) (i1:Int) (i2:Int) (i3:Int) (i4:Int) (i5:Int) (i6:Int) (i7:Int) (m:Int):wpF CC Gv an0 Tryz.f250 [.ag (.int .i64 i0::(.int .i64 i1::(.int .i64 i2::(.int .i64 i3::(.int .i64 i4::(.int .i64 i5::(.int .i64 i6::(.int .i64 i7::[])))))))),.c (.ptr [.int .i64 m])] Q=(∃i,cut [dI m] 0 1 [dI i]/\Q [aB (i0==i)]):=by kernel_rfl
end
end Eng
end
section
namespace Eng
open Go Go.Proofs
theorem eQ {i k:Nat} (h:i<k):bF i k=true:=by rw[b9];exact h
theorem ik {i k:Nat} (h:¬i<k):bF i k=false:=by rw[Dd,ne_eq,b9];exact h
def VD (a b:Int):Int:=(a+b-1)/b
def psF (d:Int) (n:Nat) (i:Nat):Int:=VD (((i:Int)+1)*d) n
def psM (d:Int) (n k:Nat):List Int:=(bx n).map λi=>match bF i k with
 |true=>psF d n i
 |false=>0
def psL (d:Int) (n:Nat):List Int:=(bx n).map (psF d n)
theorem Nk (d:Int) (n k:Nat):(psM d n k).length=n:=by simp[psM]
theorem il (d:Int) (n:Nat):psM d n 0=V1 n 0:=by
 apply a6 (by simp[psM]);intro i h1 h2;simp only[psM,bd,bb,List.getElem_replicate];rw[ik (by omega)]
theorem io (d:Int) (n:Nat):psM d n n=psL d n:=by
 apply a6 (by simp[psM,psL]);intro i h1 h2;simp only[psM,psL,bd,bb];rw[eQ (by simpa [psM]using h1)]
theorem Ez (d:Int) (n k:Nat):(psM d n k).set k (psF d n k)=psM d n (k+1):=by
 apply a6 (by simp[psM]);intro i h1 h2;rw[List.getElem_set];simp only[psM,bd,bb];by_cases e:k=i
 .subst e;rw[if_pos rfl,eQ (Nat.lt_succ_self k)]
 .rw[if_neg e];by_cases q:i<k
  .rw[eQ q,eQ (by omega)]
  .rw[ik q,ik (by omega)]
def nPs (d s:Int):Nat:=(VD d s).toNat
def BG (s:Int):Prop:=s=2000\/s=1500
theorem BH {d s:Int} (h1:1<=d) (h2:d<=6000) (hs:BG s):VD d s=nPs d s/\(nPs d s=1\/nPs d s=2\/nPs d s=3\/nPs d s=4)/\d<=nPs d s*s/\(nPs d s:Int)<=d:=by
 unfold nPs VD;rcases hs with rfl|rfl<;>omega
theorem ip {d:Int} {n i:Nat} (h1:1<=d) (h2:d<=6000) (hn:n=1\/n=2\/n=3\/n=4) (hi:i<n):0<psF d n i/\psF d n i<=d:=by
 unfold psF VD;have hi4:i=0\/i=1\/i=2\/i=3:=by omega
 rcases hn with rfl|rfl|rfl|rfl<;>rcases hi4 with rfl|rfl|rfl|rfl<;>simp<;>omega
section
variable [Env]
theorem aH {a b:Int} (h1:0<=a) (h2:1<=b) (h3:a+b<=1000000000000):Gives CC 77 [.c (.int .i64 a),.c (.int .i64 b)] [.c (.int .i64 (VD a b))]:=by
 refine qj (C:=CC) (anns:=an0) mixedT Tryz.func77 ?_;rw[aG,qR (n:=a+b) (by omega) (by omega),qR (n:=a+b-1) (by omega) (by omega),Int.tdiv_eq_ediv_of_nonneg (by omega)];refine⟨by omega,?_⟩;have e:(a+b-1)/b<=a+b-1:=Int.ediv_le_self _ (by omega);have e2:0<=(a+b-1)/b:=Int.ediv_nonneg (by omega) (by omega);rw[qR (by omega) (by omega)];rfl
theorem Nl {d s:Int} (h1:1<=d) (h2:d<=6000) (hs:BG s):Gives CC 33 [.c (.int .i64 d),.c (.int .i64 s)] [.c (.sl (iR (psL d (nPs d s)))),.c (.int .i64 0)]:=by
 obtain⟨n1,n2,n3,n4⟩:=BH h1 h2 hs;have hv:=RA (Gives CC) (λ_ ds=>∃k:Nat,k<=nPs d s/\ds=[.sl (iR (psM d (nPs d s) k)),.int .i64 (k:Int)]) (λds=>(nPs d s-toI (nth .undef ds 1)).toNat) d s (· =[.c (.sl (iR (psL d (nPs d s)))),.c (.int .i64 0)]);refine qj (C:=CC) mixedT Tryz.func33 (hv.mpr ?_);clear hv;have hs2:1<=s/\s<=2000:=by rcases hs with rfl|rfl<;>omega
 have gu:=aH (a:=d) (b:=s) (by omega) (by omega) (by omega);rw[n1]at gu;refine brd (λh=>by omega) λ_=>brd (λh=>by omega) λ_=>brd (λh=>by omega) λ_=>brd (λh=>by omega) λ_=>⟨_,gu,brd (λh=>by omega) λ_=>⟨⟨by omega,by omega,by unfold room;omega⟩,⟨0,b5 _,?_⟩,?_⟩⟩
 .rw[Sz,il];simp[iR]
 rintro es i ⟨k,hk,e⟩;simp only[b3,Lr,Lm,true_and,and_true]at e;obtain⟨rfl,rfl⟩:=e;simp only[Tk,ad,Sz,kB,Nk];refine brd (λh=>?_) (λh=>?_)
 .have hb:=ip (i:=k) h1 h2 n2 (by omega);have hw:Ls .i64 ((k:Int)+1)=((k+1:Nat):Int):=by rw[qR (by omega) (by omega)];omega
  have hm:0<=((k:Int)+1)*d/\((k:Int)+1)*d<=30000:=by
   have hk4:k=0\/k=1\/k=2\/k=3:=by omega
   rcases hk4 with rfl|rfl|rfl|rfl<;>simp<;>omega
  have hw2:Ls .i64 (((k+1:Nat):Int)*d)=((k:Int)+1)*d:=by
   have:((k+1:Nat):Int)=(k:Int)+1:=by omega
   rw[this];exact qR (by omega) (by omega)
  have g2:=aH (a:=((k:Int)+1)*d) (b:=(nPs d s:Nat)) (by omega) (by omega) (by omega);rw[hw,hw2];refine⟨_,g2,⟨by omega,by omega⟩,by omega,⟨k+1,by omega,?_⟩,by simp only[nth,toI];omega⟩;rw[Na (by rw[Nk];omega)];show [Hv (iR ((psM d (nPs d s) k).set k (psF d (nPs d s) k))),_]=_;rw[Ez]
 .obtain rfl:k=nPs d s:=by omega
  rw[io]
theorem Nm {d s:Int} (h1:1<=d) (h2:d<=6000) (hs:BG s):Gives CC 78 [.c (.sl (iR (psL d (nPs d s)))),.c (.int .i64 d),.c (.int .i64 s)] [.c (.bool true)]:=by
 obtain⟨n1,n2,n3,n4⟩:=BH h1 h2 hs;generalize nPs d s=n at *;have hv:=RB (Gives CC) (λ_ ds=>∃k:Nat,k<=n/\ds=[.int .i64 (VD ((k:Int)*d) n),.int .i64 (k:Int)]) (λds=>(n-toI (nth .undef ds 1)).toNat) (iR (psL d n)) d s (· =[.c (.bool true)]);refine qj (C:=CC) mixedT Tryz.func78 (hv.mpr ?_);clear hv;have ln:(psL d n).length=n:=by simp[psL]
 refine⟨⟨0,b5 _,?_⟩,?_⟩
 .have:VD (((0:Nat):Int)*d) n=0:=by unfold VD;rcases n2 with rfl|rfl|rfl|rfl<;>simp
  rw[this];rfl
 rintro i i1 ⟨k,hk,e⟩;simp only[b3,Lm,true_and,and_true]at e;obtain⟨rfl,rfl⟩:=e;simp only[Tk,kB,ln,Sz];refine brd (λh=>?_) (λh=>?_)
 .have hw:Ls .i64 ((k:Int)+1)=((k+1:Nat):Int):=by rw[qR (by omega) (by omega)];omega
  have e:nth [] (iR (psL d n)) k=[.int .i64 (psF d n k)]:=by rw[Qp (by omega)];simp[psL]
  have hst:VD ((k:Int)*d) n<psF d n k/\psF d n k-VD ((k:Int)*d) n<=s/\0<=VD ((k:Int)*d) n/\psF d n k<=6000/\psF d n k=VD (((k+1:Nat):Int)*d) n:=by
   have hk4:k=0\/k=1\/k=2\/k=3:=by omega
   unfold psF VD;rcases n2 with rfl|rfl|rfl|rfl<;>rcases hk4 with rfl|rfl|rfl|rfl<;>simp<;>omega
  rw[e,hw];refine⟨⟨by omega,by omega,rfl⟩,_,⟨rfl,b4 1⟩,brd (λh3=>by omega) λ_=>?_⟩;rw[qR (by omega) (by omega)];exact brd (λh3=>by omega) λ_=>⟨⟨k+1,by omega,by rw[hst.2.2.2.2]⟩,by simp only[nth,toI];omega⟩
 .obtain rfl:k=n:=by omega
  have hl:VD ((k:Int)*d) k=d:=by unfold VD;rcases n2 with rfl|rfl|rfl|rfl<;>simp<;>omega
  rw[hl];exact brd (λ_=>by simp) λh=>by omega
end
end Eng
end
section
open Go Go.Proofs Eng
namespace Eng
section
variable (Gv:Nat->List A->List A->Prop) (I0:List D->List D->Prop) (M0:List D->Nat) (I1:List D->List D->Prop) (M1:List D->Nat) (I2:List D->List D->Prop) (M2:List D->Nat) (I3:List D->List D->Prop) (M3:List D->Nat) (Q:List A->Prop)
theorem E0 (l0:List (List D)) (m:Int):wpF CC Gv (λ_=>⟨[.slot 8 (.int .i64 0)],[],I0,M0⟩) Tryz.f249 [.c (.sl l0),.c (.clo 250 [.ptr [.int .i64 m]])] Q=(I0 [] [dI (0:Int)]/\∀(i:Int),I0 [] [dI i]->bB (decide (i<(P1 l0.length))) ((0<=i/\i<(P1 l0.length)/\U3 (nth [] l0 (Pl i))=8)/\∃i_1 i_2 i_3 i_4 i_5 i_6 i_7 i_8,cut (nth [] l0 (Pl i)) 0 8 [dI i_1,dI i_2,dI i_3,dI i_4,dI i_5,dI i_6,dI i_7,dI i_8]/\∃b,Gv 250 [F0 [dI i_1,dI i_2,dI i_3,dI i_4,dI i_5,dI i_6,dI i_7,dI i_8],Hu (J4 [dI m])] [aB b]/\br b (Q [aI i]) (I0 [] [dI (Ls .i64 (i+1))]/\M0 [dI (Ls .i64 (i+1))]<M0 [dI i])) (Q [aI (-1:Int)])):=by kernel_rfl
theorem E1 (l0:List (List D)) (m:List UInt8):wpF CC Gv (λ_=>⟨[.slot 8 (.int .i64 0)],[],I0,M0⟩) Tryz.f245 [.c (.sl l0),.c (.clo 246 [.ptr [.str m]])] Q=(I0 [] [dI (0:Int)]/\∀(i:Int),I0 [] [dI i]->bB (decide (i<(P1 l0.length))) ((0<=i/\i<(P1 l0.length)/\U3 (nth [] l0 (Pl i))=4)/\∃s i_1 i_2 es,cut (nth [] l0 (Pl i)) 0 4 [Hy s,dI i_1,dI i_2,Hv es]/\∃b,Gv 246 [F0 [Hy s,dI i_1,dI i_2,Hv es],Hu (J4 [Hy m])] [aB b]/\br b (Q [aI i]) (I0 [] [dI (Ls .i64 (i+1))]/\M0 [dI (Ls .i64 (i+1))]<M0 [dI i])) (Q [aI (-1:Int)])):=by kernel_rfl
theorem Nn (fn:List UInt8) (fk fd:Int) (fe:List (List D)) (m:List UInt8):wpF CC Gv an0 Tryz.f246 [.ag [.str fn,.int .i64 fk,.int .i64 fd,.sl fe],.c (.ptr [.str m])] Q=(∃s,cut [Hy m] 0 1 [Hy s]/\Q [aB (fn==s)]):=by kernel_rfl
theorem RH (th:Int) (fs:List (List D)) (s0:List UInt8):wpF CC Gv an0 Tryz.f164 [.ag [.int .i64 th,.sl fs],.c (.str s0)] Q=(∃i,Gv 245 [aL fs,Hu (D.clo 246 [J4 [Hy s0]])] [aI i]/\Q [aI i]):=by kernel_rfl
theorem Np (fn:List UInt8) (fk fd:Int) (fe:List (List D)) (i0:Int):wpF CC Gv an0 Tryz.f163 [.ag [.str fn,.int .i64 fk,.int .i64 fd,.sl fe],.c (.int .i64 i0)] Q=(∃b,Gv 242 [Hu (Hy fn)] [aB b]/\bB (!b) (Q [aB false]) (bB ((P1 fe.length)==0) (Q [aB false]) (∃b,Gv 243 [F0 [Hv fe]] [aB b]/\bB (!b) (Q [aB false]) (bB (decide (fd<1)) (Q [aB false]) (bB (decide (fd>i0)) (Q [aB false]) (bB (fk==1) (Q [aB true]) (bB (fk==3) (∃b,Gv 244 [F0 [Hv fe]] [aB b]/\Q [aB b]) (bB (fk==4) (Q [aB (fd==i0)]) (Q [aB false]))))))))):=by kernel_rfl
theorem Nq (th:Int) (fs:List (List D)) (Q:List A->Prop):wpF CC Gv (Kt ⟨[.slot 3 (.int .i64 0),.slot 23 (.int .i64 0)],[],I0,M0⟩ ⟨[.slot 45 (.int .i64 0)],[],I1,M1⟩) Tryz.f89 [.ag [.int .i64 th,.sl fs]] Q=(bB (decide ((P1 fs.length)>40)) (Q [aI (3:Int)]) (bB (decide (th<1)) (Q [aI (1:Int)]) (bB (decide (th>10000000)) (Q [aI (1:Int)]) (I0 [] [dI (0:Int),dI (0:Int)]/\∀(i i_1:Int),I0 [] [dI i,dI i_1]->bB (decide (i_1<(P1 fs.length))) ((0<=i_1/\i_1<(P1 fs.length)/\U3 (nth [] fs (Pl i_1))=4)/\∃s i_2 i_3 es,cut (nth [] fs (Pl i_1)) 0 4 [Hy s,dI i_2,dI i_3,Hv es]/\bB (i_2==4) (bB (decide (Ls .i64 (i+1)>1)) (Q [aI (1:Int)]) (∃b,Gv 163 [F0 [Hy s,dI i_2,dI i_3,Hv es],aI th] [aB b]/\bB (!b) (Q [aI (1:Int)]) (I0 [] [dI (Ls .i64 (i+1)),dI (Ls .i64 (i_1+1))]/\M0 [dI (Ls .i64 (i+1)),dI (Ls .i64 (i_1+1))]<M0 [dI i,dI i_1]))) (bB (decide (i>1)) (Q [aI (1:Int)]) (∃b,Gv 163 [F0 [Hy s,dI i_2,dI i_3,Hv es],aI th] [aB b]/\bB (!b) (Q [aI (1:Int)]) (I0 [] [dI i,dI (Ls .i64 (i_1+1))]/\M0 [dI i,dI (Ls .i64 (i_1+1))]<M0 [dI i,dI i_1])))) (I1 [] [dI (0:Int)]/\∀(i:Int),I1 [] [dI i]->bB (decide (i<(P1 fs.length))) ((0<=i/\i<(P1 fs.length)/\U3 (nth [] fs (Pl i))=4)/\∃s i_2 i_3 es,cut (nth [] fs (Pl i)) 0 4 [Hy s,dI i_2,dI i_3,Hv es]/\∃i_4,Gv 164 [F0 [dI th,Hv fs],Hu (Hy s)] [aI i_4]/\bB (decide (i_4<i)) (Q [aI (5:Int)]) (I1 [] [dI (Ls .i64 (i+1))]/\M1 [dI (Ls .i64 (i+1))]<M1 [dI i])) (Q [aI (0:Int)])))))):=by kernel_rfl
theorem Nr (fn:List UInt8) (fk fd:Int) (fe:List (List D)) (i0:Int):wpF CC Gv an0 Tryz.f72 [.ag [.str fn,.int .i64 fk,.int .i64 fd,.sl fe],.c (.int .i64 i0)] Q=(∃b,Gv 142 [Hu (Hy fn)] [aB b]/\bB (!b) (Q [aB false]) (∃b,Gv 143 [F0 [Hv fe]] [aB b]/\bB (!b) (Q [aB false]) (bB ((P1 fe.length)==0) (Q [aB false]) (bB (decide (fd<1)) (Q [aB false]) (bB (decide (fd>i0)) (Q [aB false]) (bB (fk==1) (Q [aB true]) (bB (fk==3) (∃b,Gv 144 [F0 [Hv fe]] [aB b]/\Q [aB b]) (bB (fk==4) (Q [aB (fd==i0)]) (Q [aB false]))))))))):=by kernel_rfl
theorem Ns (th:Int) (fs:List (List D)) (Q:List A->Prop):wpF CC Gv (Pn ⟨[.slot 3 (.int .i64 0),.slot 4 (.int .i64 0)],[],I0,M0⟩ ⟨[.slot 5 (.int .i64 0)],[],I1,M1⟩ ⟨[.slot 6 (.int .i64 0)],[.slot 5 (.int .i64 0)],I2,M2⟩) Tryz.f30 [.ag [.int .i64 th,.sl fs]] Q=(bB (decide ((P1 fs.length)>40)) (Q [aI (3:Int)]) (bB (decide (th<1)) (Q [aI (1:Int)]) (bB (decide (th>10000000)) (Q [aI (1:Int)]) (I0 [] [dI (0:Int),dI (0:Int)]/\∀(i i_1:Int),I0 [] [dI i,dI i_1]->bB (decide (i_1<(P1 fs.length))) ((0<=i_1/\i_1<(P1 fs.length)/\U3 (nth [] fs (Pl i_1))=4)/\∃s i_2 i_3 es,cut (nth [] fs (Pl i_1)) 0 4 [Hy s,dI i_2,dI i_3,Hv es]/\∃b,Gv 72 [F0 [Hy s,dI i_2,dI i_3,Hv es],aI th] [aB b]/\bB (!b) (Q [aI (1:Int)]) ((0<=i_1/\i_1<(P1 fs.length)/\U3 (nth [] fs (Pl i_1))=4)/\∃i_4,cut (nth [] fs (Pl i_1)) 1 1 [dI i_4]/\bB (i_4==4) (I0 [] [dI (Ls .i64 (i+1)),dI (Ls .i64 (i_1+1))]/\M0 [dI (Ls .i64 (i+1)),dI (Ls .i64 (i_1+1))]<M0 [dI i,dI i_1]) (I0 [] [dI i,dI (Ls .i64 (i_1+1))]/\M0 [dI i,dI (Ls .i64 (i_1+1))]<M0 [dI i,dI i_1]))) (bB (decide (i>1)) (Q [aI (1:Int)]) (I1 [] [dI (0:Int)]/\∀(i:Int),I1 [] [dI i]->bB (decide (i<(P1 fs.length))) (I2 [dI i] [dI (0:Int)]/\∀(i_2:Int),I2 [dI i] [dI i_2]->bB (decide (i_2<i)) ((0<=i/\i<(P1 fs.length)/\U3 (nth [] fs (Pl i))=4)/\∃s,cut (nth [] fs (Pl i)) 0 1 [Hy s]/\(0<=i_2/\i_2<(P1 fs.length)/\U3 (nth [] fs (Pl i_2))=4)/\∃s1,cut (nth [] fs (Pl i_2)) 0 1 [Hy s1]/\bB (s==s1) (Q [aI (5:Int)]) (I2 [dI i] [dI (Ls .i64 (i_2+1))]/\M2 [dI (Ls .i64 (i_2+1))]<M2 [dI i_2])) (I1 [] [dI (Ls .i64 (i+1))]/\M1 [dI (Ls .i64 (i+1))]<M1 [dI i])) (Q [aI (0:Int)]))))))):=by kernel_rfl
theorem RI (i0:Int) (i1:Int) (i2:Int) (i3:Int):wpF CC Gv an0 Tryz.f165 [.c (.int .i64 i0),.c (.int .i64 i1),.c (.int .i64 i2),.c (.int .i64 i3)] Q=(bB (decide (i0<i2)) (bB (decide (i1<i3)) (bB (decide (i0>=(-10000000:Int))) (bB (decide (i1>=(-10000000:Int))) (bB (decide (i2<=10000000)) (Q [aB (decide (i3<=10000000))]) (Q [aB false])) (Q [aB false])) (Q [aB false])) (Q [aB false])) (Q [aB false])):=by kernel_rfl
theorem UD (i0:Int) (i1:Int):wpF CC Gv an0 Tryz.f166 [.c (.int .i64 i0),.c (.int .i64 i1)] Q=(bB (decide (i0>=i1)) (Q [aB (decide (i0<=10000000))]) (Q [aB false])):=by kernel_rfl
theorem Nt (x0 y0 x1 y1 st gp:Int) (cl:List (List D)) (sf:Int):wpF CC Gv an0 Tryz.f167 [.ag [.int .i64 x0,.int .i64 y0,.int .i64 x1,.int .i64 y1,.int .i64 st,.int .i64 gp,.sl cl,.int .i64 sf]] Q=(Q [aI (Ls .i64 (Ls .i64 (0-st)-gp))]):=by kernel_rfl
theorem Nu (x0 y0 x1 y1 st gp:Int) (cl:List (List D)) (sf:Int):wpF CC Gv (λ_=>⟨[.slot 42 (.int .i64 0)],[],I0,M0⟩) Tryz.f90 [.ag [.int .i64 x0,.int .i64 y0,.int .i64 x1,.int .i64 y1,.int .i64 st,.int .i64 gp,.sl cl,.int .i64 sf]] Q=(∃b,Gv 165 [aI x0,aI y0,aI x1,aI y1] [aB b]/\bB (!b) (Q [aI (1:Int)]) (∃b,Gv 166 [aI st,aI (1:Int)] [aB b]/\bB (!b) (Q [aI (1:Int)]) (∃b,Gv 166 [aI gp,aI (0:Int)] [aB b]/\bB (!b) (Q [aI (1:Int)]) (∃b,Gv 166 [aI sf,aI (1:Int)] [aB b]/\bB (!b) (Q [aI (1:Int)]) (bB (decide ((P1 cl.length)>50)) (Q [aI (1:Int)]) (I0 [] [dI (0:Int)]/\∀(i:Int),I0 [] [dI i]->bB (decide (i<(P1 cl.length))) ((0<=i/\i<(P1 cl.length)/\U3 (nth [] cl (Pl i))=5)/\∃i_1 i_2 i_3 i_4 i_5,cut (nth [] cl (Pl i)) 0 5 [dI i_1,dI i_2,dI i_3,dI i_4,dI i_5]/\∃b,Gv 165 [aI i_1,aI i_2,aI i_3,aI i_4] [aB b]/\bB (!b) (Q [aI (1:Int)]) (∃i_6,Gv 167 [F0 [dI x0,dI y0,dI x1,dI y1,dI st,dI gp,Hv cl,dI sf]] [aI i_6]/\∃b,Gv 166 [aI i_5,aI i_6] [aB b]/\bB (!b) (Q [aI (1:Int)]) (bB (decide (i_5>=sf)) (Q [aI (1:Int)]) (I0 [] [dI (Ls .i64 (i+1))]/\M0 [dI (Ls .i64 (i+1))]<M0 [dI i])))) (Q [aI (0:Int)]))))))):=by kernel_rfl
theorem UE (th:Int) (fs:List (List D)) (x0 y0 x1 y1 st gp:Int) (cl:List (List D)) (sf:Int) (l0:List (List D)):wpF CC Gv an0 Tryz.f8 [.ag [.int .i64 th,.sl fs],.ag [.int .i64 x0,.int .i64 y0,.int .i64 x1,.int .i64 y1,.int .i64 st,.int .i64 gp,.sl cl,.int .i64 sf],.c (.sl l0)] Q=(∃i,Gv 30 [F0 [dI th,Hv fs]] [aI i]/\bB (i !=0) (Q [aI i]) (∃i,Gv 31 [F0 [dI x0,dI y0,dI x1,dI y1,dI st,dI gp,Hv cl,dI sf]] [aI i]/\bB (i !=0) (Q [aI i]) (∃i,Gv 32 [aL l0] [aI i]/\bB (i !=0) (Q [aI i]) (bB (th !=st) (Q [aI (1:Int)]) (Q [aI (0:Int)]))))):=by kernel_rfl
end
end Eng
end
section
namespace Eng
open Go Go.Proofs
structure TL where
 (n k r f h s d p:Int)
def tlD (t:TL):List D:=[.int .i64 t.n,.int .i64 t.k,.int .i64 t.r,.int .i64 t.f,.int .i64 t.h,.int .i64 t.s,.int .i64 t.d,.int .i64 t.p]
def mgD (ts:List TL):List (List D):=ts.map tlD
theorem vh (ts:List TL):(mgD ts).length=ts.length:=by simp[mgD]
theorem wt {ts:List TL} {i:Nat} (h:i<ts.length):nth [] (mgD ts) i=tlD ts[i]:=by rw[qu];simp[mgD,h]
def lnI (x:Int):Prop:=1<=x/\x<=10000000
structure TL.Ok (t:TL):Prop where
 n:1<=t.n/\t.n<=9999
 k:1<=t.k/\t.k<=4
 r:lnI t.r
 f:lnI t.f
 s:lnI t.s
 d:lnI t.d
 p:lnI t.p
 h:t.r<=t.h/\t.h<=10000000
 sf:t.s<=t.f
structure MagOk (ts:List TL):Prop where
 ok:∀t∈ts,t.Ok
 len:ts.length<=200
 dis:∀i j (hi:i<ts.length) (hj:j<ts.length),ts[i].n=ts[j].n->i=j
section
variable [Env]
theorem ZF {x:Int} (h:lnI x):Gives CC 145 [.c (.int .i64 x)] [.c (.bool true)]:=by
 refine qj (C:=CC) (anns:=an0) mixedT Tryz.func145 ?_;rw[Ew];exact brd (λ_=>by rw[decide_eq_true h.2]) λh2=>absurd h.1 h2
theorem E2 {x:Int} (h:lnI x):Gives CC 248 [.c (.int .i64 x)] [.c (.bool true)]:=by
 refine qj (C:=CC) (anns:=an0) mixedT Tryz.func248 ?_;rw[Ey];exact brd (λ_=>by rw[decide_eq_true h.2]) λh2=>absurd h.1 h2
theorem RJ {t:TL} (h:t.Ok):Gives CC 75 [.ag (tlD t)] [.c (.bool true)]:=by
 refine qj (C:=CC) (anns:=an0) mixedT Tryz.func75 ?_;unfold tlD;rw[RE];refine brd (λ_=>?_) λh2=>absurd h.n.1 h2
 refine brd (λ_=>?_) λh2=>absurd h.n.2 h2
 refine brd (λ_=>?_) λh2=>absurd h.k.1 h2
 refine brd (λ_=>?_) λh2=>absurd h.k.2 h2
 refine⟨_,ZF h.r,js (λ_=>?_) λh2=>by cases h2⟩;refine⟨_,ZF h.f,js (λ_=>?_) λh2=>by cases h2⟩;refine⟨_,ZF h.s,js (λ_=>?_) λh2=>by cases h2⟩;refine⟨_,ZF h.d,js (λ_=>?_) λh2=>by cases h2⟩;refine⟨_,ZF h.p,js (λ_=>?_) λh2=>by cases h2⟩;refine brd (λ_=>?_) λh2=>absurd h.h.1 h2
 exact brd (λ_=>by rw[decide_eq_true h.sf]) λh2=>absurd h.h.2 h2
theorem RK {ts:List TL} (h:MagOk ts) {i:Nat} (hi:i<ts.length):Gives CC 76 [.c (.sl (mgD ts)),.c (.int .i64 ts[i].n)] [.c (.int .i64 (i:Int)),.c (.int .i64 0)]:=by
 have hl:=h.len;refine qj (C:=CC) (anns:=λ_=>⟨[.slot 6 (.int .i64 0)],[],λ_ ds=>∃k:Nat,k<=i/\ds=[.int .i64 (k:Int)],λds=>(i-toI (nth .undef ds 0)).toNat⟩) mixedT Tryz.func76 ?_;rw[RF];refine⟨⟨0,b5 _,rfl⟩,?_⟩;rintro _ ⟨k,hk,e⟩;simp only[b3,Lm,true_and,and_true]at e;subst e;simp only[Tk,vh,Sz];refine brd (λ_=>?_) λh2=>by omega
 have a0:k<ts.length:=by omega
 rw[wt a0];refine⟨⟨by omega,by omega,rfl⟩,_,⟨rfl,by show 0+1<=8;omega⟩,brb (λh3=>?_) λh3=>?_⟩
 .have:=h.dis k i a0 hi (by simpa using h3);subst this;rfl
 .have hki:k≠i:=λe=>by subst e;simp at h3
  have hw:Ls .i64 ((k:Int)+1)=((k+1:Nat):Int):=by rw[qR (by omega) (by omega)];omega
  rw[hw];exact⟨⟨k+1,by omega,rfl⟩,by simp only[nth,toI];omega⟩
theorem E3 {ts:List TL} (h:MagOk ts):Gives CC 32 [.c (.sl (mgD ts))] [.c (.int .i64 0)]:=by
 have hl:=h.len;have hv:=Ex (Gives CC) (λ_ ds=>∃k:Nat,k<=ts.length/\ds=[.int .i64 (k:Int)]) (λds=>(ts.length-toI (nth .undef ds 0)).toNat) (λ_ ds=>∃k:Nat,k<=ts.length/\ds=[.int .i64 (k:Int)]) (λds=>(ts.length-toI (nth .undef ds 0)).toNat) (mgD ts) (· =[.c (.int .i64 0)]);refine qj (C:=CC) mixedT Tryz.func32 (hv.mpr ?_);clear hv;simp only[Tk,vh];refine brd (λh2=>by omega) λ_=>⟨⟨0,b5 _,rfl⟩,?_⟩
 rintro _ ⟨k,hk,e⟩;simp only[b3,Lm,true_and,and_true]at e;subst e;simp only[Sz];refine brd (λh2=>?_) λh2=>⟨⟨0,b5 _,rfl⟩,?_⟩
 .have a0:k<ts.length:=by omega
  have hw:Ls .i64 ((k:Int)+1)=((k+1:Nat):Int):=by rw[qR (by omega) (by omega)];omega
  rw[wt a0,hw];exact⟨⟨by omega,by omega,rfl⟩,_,_,_,_,_,_,_,_,⟨rfl,b4 8⟩,_,RJ (h.ok _ (W0 a0)),brb (λh3=>by cases h3) λ_=>⟨⟨k+1,by omega,rfl⟩,by simp only[nth,toI];omega⟩⟩
 .rintro _ ⟨k,hk,e⟩;simp only[b3,Lm,true_and,and_true]at e;subst e;simp only[Sz];refine brd (λh2=>?_) λh2=>by trivial
  have a0:k<ts.length:=by omega
  have hw:Ls .i64 ((k:Int)+1)=((k+1:Nat):Int):=by rw[qR (by omega) (by omega)];omega
  rw[wt a0,hw];exact⟨⟨by omega,by omega,rfl⟩,_,⟨rfl,by show 0+1<=8;omega⟩,_,_,RK h a0,brd (λh3=>by omega) λ_=>⟨⟨k+1,by omega,rfl⟩,by simp only[nth,toI];omega⟩⟩
theorem RL {ts:List TL} (h:MagOk ts) {i:Nat} (hi:i<ts.length):Gives CC 169 [.c (.sl (mgD ts)),.c (.int .i64 ts[i].n)] [.c (.int .i64 (i:Int)),.c (.int .i64 0)]:=by
 have hl:=h.len;have h1:∀(t:TL) (m:Int),Gives CC 250 [.ag (tlD t),.c (.ptr [.int .i64 m])] [.c (.bool (t.n==m))]:=λt m=>by refine qj (C:=CC) (anns:=an0) mixedT Tryz.func250 ?_;unfold tlD;rw[Nj];exact⟨_,⟨rfl,b4 1⟩,rfl⟩
 have h2:Gives CC 249 [.c (.sl (mgD ts)),.c (.clo 250 [.ptr [.int .i64 ts[i].n]])] [.c (.int .i64 (i:Int))]:=by
  refine qj (C:=CC) (anns:=λ_=>⟨[.slot 8 (.int .i64 0)],[],λ_ ds=>∃k:Nat,k<=i/\ds=[.int .i64 (k:Int)],λds=>(i-toI (nth .undef ds 0)).toNat⟩) mixedT Tryz.func249 ?_;rw[E0];refine⟨⟨0,b5 _,rfl⟩,?_⟩;rintro _ ⟨k,hk,e⟩;simp only[b3,Lm,true_and,and_true]at e;subst e;simp only[Tk,vh,Sz];refine brd (λ_=>?_) λh2=>by omega
  have a0:k<ts.length:=by omega
  rw[wt a0];have hw:Ls .i64 ((k:Int)+1)=((k+1:Nat):Int):=by rw[qR (by omega) (by omega)];omega
  rw[hw];refine⟨⟨by omega,by omega,rfl⟩,_,_,_,_,_,_,_,_,⟨rfl,b4 8⟩,_,h1 _ _,js (λh3=>?_) λh3=>?_⟩
  .have:=h.dis k i a0 hi (by simpa using h3);subst this;rfl
  .have hki:k≠i:=λe=>by subst e;simp at h3
   exact⟨⟨k+1,by omega,rfl⟩,by simp only[nth,toI];omega⟩
 refine qj (C:=CC) (anns:=an0) mixedT Tryz.func169 ?_;rw[RG];exact⟨_,h2,brd (λh3=>by omega) λ_=>rfl⟩
end
end Eng
end
section
namespace Eng
open Go Go.Proofs Go.Maps
theorem keyedI:Keyed Tryz.prog 3:=int_keyed (q:= .i64) (by kernel_rfl)
def Nv (l:List (Int×List UInt8)) (k:Int):List UInt8:=match OP l k with
 |some s=>s
 |none=>[]
theorem E4 {w:World} {r:Nat} {es:Array MapEntry} {cl:Nat} {l:List (Int×List UInt8)} (hb:w.heap[r]? =some (.map es cl)) (hm:Cq es l) {k:Int} (hk:(Lit.int .i64 k).wf=true):
 (Instr.lookup 317 (.map (some r)) (.int .i64 k) false).run Tryz.prog w= .ok (.string ⟨⟨Nv l k⟩⟩) w:=by
 have ht:Tryz.prog.underlying 317=some (.map 3 9):=by kernel_rfl
 have h3:Tryz.prog.underlying 3=some (.int .i64):=by kernel_rfl
 have hz:(zeroValue 9).run Tryz.prog w= .ok (.string ⟨⟨[]⟩⟩) w:=by kernel_rfl
 have hc:=keyedI.check w es.isEmpty (keyOf_int_mk h3 hk);have h:=hm k;unfold Nv;cases e:OP l k with
 |none=>rw[e]at h;have hf:=No (w:=w) h3 h;simp[Instr.lookup,run_underlying ht,Lv hb,hc,hf,hz,Result.andThen]
 |some s=>rw[e]at h;obtain⟨i,h⟩:=h;have hf:=No (w:=w) h3 h;simp[Instr.lookup,run_underlying ht,Lv hb,hc,hf,Result.andThen]
end Eng
end
section
namespace Eng
open Go Go.Proofs Go.Maps Go.RowKit
variable [Env]
theorem E5 {C:Cx} (hP:C.P=Tryz.prog) {l:List (Int×List UInt8)} (hG:C.G 0=some [.map l]) {k:Int} (hk:(Lit.int .i64 k).wf=true):Gives C 247 [.c (.int .i64 k)] [.c (.str (Nv l k))]:=by
 intro w F vs hb hi ha;obtain⟨h0,cs,t,fr,hc,a0⟩:=hi 0 _ hG;obtain⟨cs⟩:=cs
 match cs,a0 with
 |[v],⟨hv,_⟩=>
  cases hv with
  |map _ r es cl hF hbk hm=>
   have hrun:=E4 (k:=k) hbk hm hk;have a1:w.cell? ⟨0,0,none⟩=some (.map (some r)):=by simp[World.cell?,hc]
   match vs,ha with
   |[x],⟨h1,_⟩=>
    have h1:=Ll (a:= .c (.int .i64 k)) rfl h1;subst h1;rw[hP]
    go_enter Tryz.func247,Tryz.ntmps247
    go_wp2
    go_ret
    exact⟨Below.refl _ _,_,rfl,.str _⟩
end Eng
end
section
namespace Eng
open Go Go.Proofs
def Nw:List (Int×List UInt8):=[(1,[109,105,108,108]),(2,[100,114,105,108,108]),(3,[99,104,97,109,102,101,114]),(4,[112,114,111,98,101])]
def gvN (g:Nat):Option (List D):=match g with
 |0=>some [.map Nw]
 |_=>none
section
variable [Env]
noncomputable def CN (ex:List (Nat×k9)):Cx:=⟨Tryz.prog,gvN,λ_=>false,λf=>U4 f ex,IR,λ_=>false⟩
theorem YF {ex:List (Nat×k9)} (ha:eF (CN ex) ex) (f:Nat) (e:k9) (h:(CN ex).eff f=some e):EffAt (CN ex) f e:=KN ha h
instance:EffOk (CN []):=qV (YF trivial)
theorem upN {ex:List (Nat×k9)} {f:Nat} {al rs:List A} (h:Gives CC f al rs):Gives (CN ex) f al rs:=λw F vs hF _ ha=>h w F vs hF (λg cs hg=>by cases hg) ha
theorem aJ {ex:List (Nat×k9)} {k:Int} (h1:1<=k) (h2:k<=4):∃s:List UInt8,(s==[])=false/\Gives (CN ex) 247 [.c (.int .i64 k)] [.c (.str s)]:=by
 have hk:k=1\/k=2\/k=3\/k=4:=by omega
 rcases hk with rfl|rfl|rfl|rfl
 all_goals exact⟨_,by rfl,E5 (C:=CN ex) rfl (l:=Nw) rfl (by decide)⟩
end
end Eng
end
section
open Go Go.Proofs Eng
namespace Eng
section
variable (Gv:Nat->List A->List A->Prop) (I0:List D->List D->Prop) (M0:List D->Nat) (I1:List D->List D->Prop) (M1:List D->Nat) (I2:List D->List D->Prop) (M2:List D->Nat) (I3:List D->List D->Prop) (M3:List D->Nat) (Q:List A->Prop)
theorem Nx (i0:Int) (i1:Int) (i2:Int) (i3:Int) (i4:Int) (i5:Int) (i6:Int) (i7:Int):wpF (CN []) Gv (λ_=>⟨[.slot 33 (.int .i64 0)],[],I0,M0⟩) Tryz.f168 [.ag (.int .i64 i0::(.int .i64 i1::(.int .i64 i2::(.int .i64 i3::(.int .i64 i4::(.int .i64 i5::(.int .i64 i6::(.int .i64 i7::[]))))))))] Q=(bB (decide (i0<1)) (Q [aI (1:Int)]) (bB (decide (i0>9999)) (Q [aI (1:Int)]) (∃s,Gv 247 [aI i1] [Hu (Hy s)]/\bB (s==[]) (Q [aI (1:Int)]) (I0 [] [dI (0:Int)]/\∀(i:Int),I0 [] [dI i]->bB (decide (i<6)) ((0<=i/\i<6)/\∃i_1,cut (nth [] [[dI i2],[dI i3],[dI i4],[dI i5],[dI i6],[dI i7]] (Pl i)) 0 1 [dI i_1]/\∃b,Gv 248 [aI i_1] [aB b]/\bB (!b) (Q [aI (1:Int)]) (I0 [] [dI (Ls .i64 (i+1))]/\M0 [dI (Ls .i64 (i+1))]<M0 [dI i])) (bB (decide (i4<i2)) (Q [aI (1:Int)]) (bB (decide (i5>i3)) (Q [aI (1:Int)]) (Q [aI (0:Int)]))))))):=by kernel_rfl
theorem E6 (l0:List (List D)) (Q:List A->Prop):wpF (CN []) Gv (Kt ⟨[.slot 15 (.int .i64 0)],[],I0,M0⟩ ⟨[.slot 27 (.int .i64 0)],[],I1,M1⟩) Tryz.f91 [.c (.sl l0)] Q=(bB (decide ((P1 l0.length)>200)) (Q [aI (3:Int)]) (I0 [] [dI (0:Int)]/\∀(i:Int),I0 [] [dI i]->bB (decide (i<(P1 l0.length))) ((0<=i/\i<(P1 l0.length)/\U3 (nth [] l0 (Pl i))=8)/\∃i_1 i_2 i_3 i_4 i_5 i_6 i_7 i_8,cut (nth [] l0 (Pl i)) 0 8 [dI i_1,dI i_2,dI i_3,dI i_4,dI i_5,dI i_6,dI i_7,dI i_8]/\∃i_9,Gv 168 [F0 [dI i_1,dI i_2,dI i_3,dI i_4,dI i_5,dI i_6,dI i_7,dI i_8]] [aI i_9]/\bB (i_9 !=0) (Q [aI i_9]) (I0 [] [dI (Ls .i64 (i+1))]/\M0 [dI (Ls .i64 (i+1))]<M0 [dI i])) (I1 [] [dI (0:Int)]/\∀(i:Int),I1 [] [dI i]->bB (decide (i<(P1 l0.length))) ((0<=i/\i<(P1 l0.length)/\U3 (nth [] l0 (Pl i))=8)/\∃i_1 i_2 i_3 i_4 i_5 i_6 i_7 i_8,cut (nth [] l0 (Pl i)) 0 8 [dI i_1,dI i_2,dI i_3,dI i_4,dI i_5,dI i_6,dI i_7,dI i_8]/\∃i_9 i_10,Gv 169 [aL l0,aI i_1] [aI i_9,aI i_10]/\bB (decide (i_9<i)) (Q [aI (5:Int)]) (I1 [] [dI (Ls .i64 (i+1))]/\M1 [dI (Ls .i64 (i+1))]<M1 [dI i])) (Q [aI (0:Int)])))):=by kernel_rfl
theorem UF (th:Int) (fs:List (List D)) (x0 y0 x1 y1 st gp:Int) (cl:List (List D)) (sf:Int) (l0:List (List D)):wpF (CN []) Gv an0 Tryz.f42 [.ag [.int .i64 th,.sl fs],.ag [.int .i64 x0,.int .i64 y0,.int .i64 x1,.int .i64 y1,.int .i64 st,.int .i64 gp,.sl cl,.int .i64 sf],.c (.sl l0)] Q=(∃i,Gv 89 [F0 [dI th,Hv fs]] [aI i]/\bB (i !=0) (Q [aI i]) (∃i,Gv 90 [F0 [dI x0,dI y0,dI x1,dI y1,dI st,dI gp,Hv cl,dI sf]] [aI i]/\bB (i !=0) (Q [aI i]) (∃i,Gv 91 [aL l0] [aI i]/\bB (i !=0) (Q [aI i]) (bB (th !=st) (Q [aI (1:Int)]) (Q [aI (0:Int)]))))):=by kernel_rfl
theorem UG (th:Int) (fs:List (List D)) (x0 y0 x1 y1 st gp:Int) (cl:List (List D)) (sf:Int) (l0:List (List D)):wpF (CN []) Gv (λ_=>⟨[.own 9 110 2,.slot 31 (.int .i64 0)],[],I0,M0⟩) Tryz.f12 [.ag [.int .i64 th,.sl fs],.ag [.int .i64 x0,.int .i64 y0,.int .i64 x1,.int .i64 y1,.int .i64 st,.int .i64 gp,.sl cl,.int .i64 sf],.c (.sl l0)] Q=(∃i,Gv 42 [F0 [dI th,Hv fs],F0 [dI x0,dI y0,dI x1,dI y1,dI st,dI gp,Hv cl,dI sf],aL l0] [aI i]/\bB (i !=0) (Q [aL [],aI i]) (I0 [] [Hv [],dI (0:Int)]/\∀(es:List (List D)) (i:Int),I0 [] [Hv es,dI i]->bB (decide (i<(P1 fs.length))) ((0<=i/\i<(P1 fs.length)/\U3 (nth [] fs (Pl i))=4)/\∃s i_1 i_2 e1,cut (nth [] fs (Pl i)) 0 4 [Hy s,dI i_1,dI i_2,Hv e1]/\bB (i_1==3) (∃i_3 i_4 i_5 i_6,Gv 43 [F0 [Hy s,dI i_1,dI i_2,Hv e1]] [F0 [dI i_3,dI i_4],aI i_5,aI i_6]/\bB (i_6 !=0) (Q [aL [],aI i_6]) (∃i_7 b i_8,Gv 44 [aL l0,aI i_5,aI i_2] [aI i_7,aB b,aI i_8]/\bB (i_8 !=0) (Q [aL [],aI i_8]) (bB (decide (i_7<0)) (Q [aL [],aI (16:Int)]) ((room (es.length+1)/\lens 2 [[dI i_7,dI i_7]])/\I0 [] [Hv (es++[[dI i_7,dI i_7]]),dI (Ls .i64 (i+1))]/\M0 [Hv (es++[[dI i_7,dI i_7]]),dI (Ls .i64 (i+1))]<M0 [Hv es,dI i])))) (bB (i_1==4) (∃x,Gv 46 [aI (20000000:Int)] [aR x]/\∃i_3,Gv 45 [aL l0,aI i_2,aR x,aB false] [aI i_3]/\bB (decide (i_3<0)) (Q [aL [],aI (16:Int)]) ((room (es.length+1)/\lens 2 [[dI i_3,dI i_3]])/\I0 [] [Hv (es++[[dI i_3,dI i_3]]),dI (Ls .i64 (i+1))]/\M0 [Hv (es++[[dI i_3,dI i_3]]),dI (Ls .i64 (i+1))]<M0 [Hv es,dI i])) (∃x x_1 x2 x3 b,Gv 47 [F0 [Hv e1]] [F0 (rk x (rk x_1 (rk x2 (rk x3 [])))),aB b]/\∃x4,Gv 48 [aR x2,aR x] [aR x4]/\∃x,Gv 48 [aR x3,aR x_1] [aR x]/\∃i_3,Gv 49 [aR x,aR x4] [aI i_3]/\bB (decide (i_3<0)) (∃i_4,Gv 45 [aL l0,aI i_2,aR x,aB true] [aI i_4]/\∃i_5,Gv 45 [aL l0,aI i_2,aR x,aB false] [aI i_5]/\bB (decide (i_4<0)) (Q [aL [],aI (16:Int)]) ((room (es.length+1)/\lens 2 [[dI i_4,dI i_5]])/\I0 [] [Hv (es++[[dI i_4,dI i_5]]),dI (Ls .i64 (i+1))]/\M0 [Hv (es++[[dI i_4,dI i_5]]),dI (Ls .i64 (i+1))]<M0 [Hv es,dI i])) (∃i_4,Gv 45 [aL l0,aI i_2,aR x4,aB true] [aI i_4]/\∃i_5,Gv 45 [aL l0,aI i_2,aR x4,aB false] [aI i_5]/\bB (decide (i_4<0)) (Q [aL [],aI (16:Int)]) ((room (es.length+1)/\lens 2 [[dI i_4,dI i_5]])/\I0 [] [Hv (es++[[dI i_4,dI i_5]]),dI (Ls .i64 (i+1))]/\M0 [Hv (es++[[dI i_4,dI i_5]]),dI (Ls .i64 (i+1))]<M0 [Hv es,dI i]))))) (Q [aL es,aI (0:Int)]))):=by kernel_rfl
end
end Eng
end
section
namespace Eng
open Go Go.Proofs
section
variable [Env]
theorem UH {t:TL} (h:t.Ok):Gives (CN []) 168 [.ag (tlD t)] [.c (.int .i64 0)]:=by
 refine qj (C:=CN []) (anns:=λ_=>⟨[.slot 33 (.int .i64 0)],[],λ_ ds=>∃k:Nat,k<=6/\ds=[.int .i64 (k:Int)],λds=>(6-toI (nth .undef ds 0)).toNat⟩) mixedT Tryz.func168 ?_;unfold tlD;rw[Nx];refine brd (λh2=>absurd h.n.1 (by omega)) λ_=>brd (λh2=>absurd h.n.2 (by omega)) λ_=>?_
 obtain⟨s,hs,hk⟩:=aJ (ex:=[]) h.k.1 h.k.2;refine⟨s,hk,brb (λh2=>by rw[hs]at h2;cases h2) λ_=>⟨⟨0,b5 _,rfl⟩,?_⟩⟩;rintro _ ⟨k,hk6,e⟩;simp only[b3,Lm,true_and,and_true]at e;subst e;refine brd (λh2=>?_) λh2=>brd (λh3=>absurd h.h.1 (by omega)) λ_=>brd (λh3=>absurd h.sf (by omega)) λ_=>rfl
 have hw:Ls .i64 ((k:Int)+1)=((k+1:Nat):Int):=by rw[qR (by omega) (by omega)];omega
 rw[hw];simp only[Sz];have nx:(∃k':Nat,k'<=6/\[Hx .i64 ((k+1:Nat):Int)]=[.int .i64 (k':Int)])/\(6-toI (nth .undef [Hx .i64 ((k+1:Nat):Int)] 0)).toNat<(6-toI (nth .undef [Hx .i64 (k:Int)] 0)).toNat:=⟨⟨k+1,by omega,rfl⟩,by simp only[nth,toI];omega⟩;have a0:∀x,lnI x->nth [] [[Hx .i64 t.r],[Hx .i64 t.f],[Hx .i64 t.h],[Hx .i64 t.s],[Hx .i64 t.d],[Hx .i64 t.p]] k=[.int .i64 x]->∃i_1,cut (nth [] [[Hx .i64 t.r],[Hx .i64 t.f],[Hx .i64 t.h],[Hx .i64 t.s],[Hx .i64 t.d],[Hx .i64 t.p]] k) 0 1 [Hx .i64 i_1]/\∃b,Gives (CN []) 248 [.c (.int .i64 i_1)] [.c (.bool b)]/\br (toB (J3 !b)) ([Hu (.int .i64 1)]=[Hu (.int .i64 0)]) ((∃k':Nat,k'<=6/\[Hx .i64 ((k+1:Nat):Int)]=[.int .i64 (k':Int)])/\(6-toI (nth .undef [Hx .i64 ((k+1:Nat):Int)] 0)).toNat<(6-toI (nth .undef [Hx .i64 (k:Int)] 0)).toNat):=λx hx e=>by rw[e];exact⟨_,⟨rfl,b4 1⟩,_,upN (E2 hx),brb (λh3=>by cases h3) λ_=>nx⟩
 have hh:lnI t.h:=⟨by have:=h.h.1;have:=h.r.1;omega,h.h.2⟩;refine⟨⟨by omega,by omega⟩,?_⟩;have hk:k=0\/k=1\/k=2\/k=3\/k=4\/k=5:=by omega
 rcases hk with rfl|rfl|rfl|rfl|rfl|rfl
 .exact a0 _ h.r rfl
 .exact a0 _ h.f rfl
 .exact a0 _ hh rfl
 .exact a0 _ h.s rfl
 .exact a0 _ h.d rfl
 .exact a0 _ h.p rfl
theorem E7 {ts:List TL} (h:MagOk ts):Gives (CN []) 91 [.c (.sl (mgD ts))] [.c (.int .i64 0)]:=by
 have hl:=h.len;have hv:=E6 (Gives (CN [])) (λ_ ds=>∃k:Nat,k<=ts.length/\ds=[.int .i64 (k:Int)]) (λds=>(ts.length-toI (nth .undef ds 0)).toNat) (λ_ ds=>∃k:Nat,k<=ts.length/\ds=[.int .i64 (k:Int)]) (λds=>(ts.length-toI (nth .undef ds 0)).toNat) (mgD ts) (· =[.c (.int .i64 0)]);refine qj (C:=CN []) mixedT Tryz.func91 (hv.mpr ?_);clear hv;simp only[Tk,vh];refine brd (λh2=>by omega) λ_=>⟨⟨0,b5 _,rfl⟩,?_⟩
 rintro _ ⟨k,hk,e⟩;simp only[b3,Lm,true_and,and_true]at e;subst e;simp only[Sz];refine brd (λh2=>?_) λh2=>⟨⟨0,b5 _,rfl⟩,?_⟩
 .have a0:k<ts.length:=by omega
  have hw:Ls .i64 ((k:Int)+1)=((k+1:Nat):Int):=by rw[qR (by omega) (by omega)];omega
  rw[wt a0,hw];exact⟨⟨by omega,by omega,rfl⟩,_,_,_,_,_,_,_,_,⟨rfl,b4 8⟩,_,UH (h.ok _ (W0 a0)),brb (λh3=>by cases h3) λ_=>⟨⟨k+1,by omega,rfl⟩,by simp only[nth,toI];omega⟩⟩
 .rintro _ ⟨k,hk,e⟩;simp only[b3,Lm,true_and,and_true]at e;subst e;simp only[Sz];refine brd (λh2=>?_) λh2=>by trivial
  have a0:k<ts.length:=by omega
  have hw:Ls .i64 ((k:Int)+1)=((k+1:Nat):Int):=by rw[qR (by omega) (by omega)];omega
  rw[wt a0,hw];exact⟨⟨by omega,by omega,rfl⟩,_,_,_,_,_,_,_,_,⟨rfl,b4 8⟩,_,_,upN (RL h a0),brd (λh3=>by omega) λ_=>⟨⟨k+1,by omega,rfl⟩,by simp only[nth,toI];omega⟩⟩
end
structure FT where
 nm:List UInt8
 k:Int
 d:Int
 es:List (List D)
def ftD (f:FT):List D:=[.str f.nm,.int .i64 f.k,.int .i64 f.d,.sl f.es]
def wu (fs:List FT):List (List D):=fs.map ftD
theorem vF (fs:List FT):(wu fs).length=fs.length:=by simp[wu]
theorem ZG {fs:List FT} {i:Nat} (h:i<fs.length):nth [] (wu fs) i=ftD fs[i]:=by rw[qu];simp[wu,h]
def pfN:List FT->Nat->Nat
 |_,0=>0
 |[],_=>0
 |f::fs,k+1=>(match f.k==4 with
  |true=>1
  |false=>0)+pfN fs k
theorem E8:∀{fs:List FT} {k:Nat} (h:k<fs.length),pfN fs (k+1)=pfN fs k+(match fs[k].k==4 with
 |true=>1
 |false=>0)
 |f::fs,0,_=>by cases fs<;>simp[pfN]
 |f::fs,k+1,h=>by have:=E8 (fs:=fs) (k:=k) (by simpa using h);simp only[pfN,be]at this ⊢;omega
theorem RM:∀{fs:List FT} {k:Nat},pfN fs k<=pfN fs fs.length
 |[],0=>b4 _
 |[],k+1=>b4 _
 |f::fs,0=>b5 _
 |f::fs,k+1=>by have:=RM (fs:=fs) (k:=k);simp only[pfN,bc];omega
section
variable [Env]
structure FOk (f:FT):Prop where
 nR:Gives CC 142 [.c (.str f.nm)] [.c (.bool true)]
 nP:Gives CC 242 [.c (.str f.nm)] [.c (.bool true)]
 vR:Gives CC 143 [.ag [.sl f.es]] [.c (.bool true)]
 vP:Gives CC 243 [.ag [.sl f.es]] [.c (.bool true)]
 ne:0<f.es.length
 d:1<=f.d/\f.d<=6000
 k:f.k=1\/(f.k=3/\Gives CC 144 [.ag [.sl f.es]] [.c (.bool true)]/\Gives CC 244 [.ag [.sl f.es]] [.c (.bool true)])\/(f.k=4/\f.d=6000)
structure POk (fs:List FT):Prop where
 ok:∀f∈fs,FOk f
 len:fs.length<=40
 one:pfN fs fs.length<=1
 dis:∀i j (hi:i<fs.length) (hj:j<fs.length),fs[i].nm=fs[j].nm->i=j
theorem Ny {f:FT} (h:FOk f):Gives CC 72 [.ag (ftD f),.c (.int .i64 6000)] [.c (.bool true)]:=by
 refine qj (C:=CC) (anns:=an0) mixedT Tryz.func72 ?_;unfold ftD;rw[Nr];refine⟨_,h.nR,brb (λh2=>by cases h2) λ_=>⟨_,h.vR,brb (λh2=>by cases h2) λ_=>brb (λh2=>?_) λ_=>?_⟩⟩
 .have:=h.ne;simp only[Tk,beq_iff_eq]at h2;omega
 refine brd (λh2=>absurd h.d.1 (by omega)) λ_=>brd (λh2=>absurd h.d.2 (by omega)) λ_=>?_
 rcases h.k with e|⟨e,g,_⟩|⟨e,g⟩<;>rw[e]
 .exact brb (λ_=>rfl) λh2=>by cases h2
 .exact brb (λh2=>by cases h2) λ_=>brb (λ_=>⟨_,g,rfl⟩) λh2=>by cases h2
 .exact brb (λh2=>by cases h2) λ_=>brb (λh2=>by cases h2) λ_=>brb (λ_=>by rw[g];rfl) λh2=>by cases h2
theorem Vz {f:FT} (h:FOk f):Gives CC 163 [.ag (ftD f),.c (.int .i64 6000)] [.c (.bool true)]:=by
 refine qj (C:=CC) (anns:=an0) mixedT Tryz.func163 ?_;unfold ftD;rw[Np];refine⟨_,h.nP,brb (λh2=>by cases h2) λ_=>brb (λh2=>?_) λ_=>⟨_,h.vP,brb (λh2=>by cases h2) λ_=>?_⟩⟩
 .have:=h.ne;simp only[Tk,beq_iff_eq]at h2;omega
 refine brd (λh2=>absurd h.d.1 (by omega)) λ_=>brd (λh2=>absurd h.d.2 (by omega)) λ_=>?_
 rcases h.k with e|⟨e,_,g⟩|⟨e,g⟩<;>rw[e]
 .exact brb (λ_=>rfl) λh2=>by cases h2
 .exact brb (λh2=>by cases h2) λ_=>brb (λ_=>⟨_,g,rfl⟩) λh2=>by cases h2
 .exact brb (λh2=>by cases h2) λ_=>brb (λh2=>by cases h2) λ_=>brb (λ_=>by rw[g];rfl) λh2=>by cases h2
theorem YG {fs:List FT} (h:POk fs):Gives CC 30 [.ag [.int .i64 6000,.sl (wu fs)]] [.c (.int .i64 0)]:=by
 have hl:=h.len;have hv:=Ns (Gives CC) (λ_ ds=>∃k:Nat,k<=fs.length/\ds=[.int .i64 (pfN fs k:Int),.int .i64 (k:Int)]) (λds=>(fs.length-toI (nth .undef ds 1)).toNat)
  (λ_ ds=>∃k:Nat,k<=fs.length/\ds=[.int .i64 (k:Int)]) (λds=>(fs.length-toI (nth .undef ds 0)).toNat)
  (λgs ds=>∃k j:Nat,k<fs.length/\j<=k/\gs=[.int .i64 (k:Int)]/\ds=[.int .i64 (j:Int)]) (λds=>(fs.length-toI (nth .undef ds 0)).toNat) 6000 (wu fs) (· =[.c (.int .i64 0)])
 refine qj (C:=CC) mixedT Tryz.func30 (hv.mpr ?_);clear hv;simp only[Tk,vF];refine brd (λh2=>by omega) λ_=>brd (λh2=>by omega) λ_=>brd (λh2=>by omega) λ_=>⟨⟨0,b5 _,by cases fs<;>rfl⟩,?_⟩
 rintro _ _ ⟨k,hk,e⟩;simp only[b3,Lm,true_and,and_true]at e;obtain⟨rfl,rfl⟩:=e;have hm:=RM (fs:=fs) (k:=k);have h1:=h.one;simp only[Sz];refine brd (λh2=>?_) λh2=>brd (λh3=>by omega) λ_=>⟨⟨0,b5 _,rfl⟩,?_⟩
 .have a0:k<fs.length:=by omega
  have hw:Ls .i64 ((k:Int)+1)=((k+1:Nat):Int):=by rw[qR (by omega) (by omega)];omega
  have a1:Ls .i64 ((pfN fs k:Int)+1)=((pfN fs k+1:Nat):Int):=by rw[qR (by omega) (by omega)];omega
  have hs:=E8 a0;rw[ZG a0,hw,a1];refine⟨⟨by omega,by omega,rfl⟩,_,_,_,_,⟨rfl,b4 4⟩,_,Ny (h.ok _ (W0 a0)),brb (λh3=>by cases h3) λ_=>⟨⟨by omega,by omega,rfl⟩,_,⟨rfl,by show 1+1<=4;omega⟩,brb (λh3=>?_) λh3=>?_⟩⟩
  .rw[h3]at hs;exact⟨⟨k+1,by omega,by rw[hs]⟩,by simp only[nth,toI];omega⟩
  .rw[h3]at hs;exact⟨⟨k+1,by omega,by rw[hs];rfl⟩,by simp only[nth,toI];omega⟩
 .rintro _ ⟨k,hk,e⟩;simp only[b3,Lm,true_and,and_true]at e;subst e;simp only[Sz];refine brd (λh2=>?_) λh2=>by trivial
  have a0:k<fs.length:=by omega
  refine⟨⟨k,0,a0,b5 _,rfl,rfl⟩,?_⟩;rintro _ ⟨k',j,hk',hj,e1,e⟩;simp only[b3,Lm,true_and,and_true]at e1 e;obtain rfl:k'=k:=by omega
  subst e;simp only[Sz];have hw:Ls .i64 ((j:Int)+1)=((j+1:Nat):Int):=by rw[qR (by omega) (by omega)];omega
  have a1:Ls .i64 ((k':Int)+1)=((k'+1:Nat):Int):=by rw[qR (by omega) (by omega)];omega
  rw[hw,a1];refine brd (λh3=>?_) λh3=>⟨⟨k'+1,by omega,rfl⟩,by simp only[nth,toI];omega⟩
  have a2:j<fs.length:=by omega
  rw[ZG a0,ZG a2];refine⟨⟨by omega,by omega,rfl⟩,_,⟨rfl,by show 0+1<=4;omega⟩,⟨by omega,by omega,rfl⟩,_,⟨rfl,by show 0+1<=4;omega⟩,brb (λh4=>?_) λ_=>⟨⟨k',j+1,hk',by omega,rfl,rfl⟩,by simp only[nth,toI];omega⟩⟩;have:=h.dis k' j a0 a2 (by simpa using h4);omega
theorem RN {fs:List FT} (h:POk fs) {i:Nat} (hi:i<fs.length):Gives CC 164 [.ag [.int .i64 6000,.sl (wu fs)],.c (.str fs[i].nm)] [.c (.int .i64 (i:Int))]:=by
 have hl:=h.len;have h1:∀(f:FT) (m:List UInt8),Gives CC 246 [.ag (ftD f),.c (.ptr [.str m])] [.c (.bool (f.nm==m))]:=λf m=>by refine qj (C:=CC) (anns:=an0) mixedT Tryz.func246 ?_;unfold ftD;rw[Nn];exact⟨_,⟨rfl,b4 1⟩,rfl⟩
 have h2:Gives CC 245 [.c (.sl (wu fs)),.c (.clo 246 [.ptr [.str fs[i].nm]])] [.c (.int .i64 (i:Int))]:=by
  refine qj (C:=CC) (anns:=λ_=>⟨[.slot 8 (.int .i64 0)],[],λ_ ds=>∃k:Nat,k<=i/\ds=[.int .i64 (k:Int)],λds=>(i-toI (nth .undef ds 0)).toNat⟩) mixedT Tryz.func245 ?_;rw[E1];refine⟨⟨0,b5 _,rfl⟩,?_⟩;rintro _ ⟨k,hk,e⟩;simp only[b3,Lm,true_and,and_true]at e;subst e;simp only[Tk,vF,Sz];refine brd (λ_=>?_) λh2=>by omega
  have a0:k<fs.length:=by omega
  rw[ZG a0];have hw:Ls .i64 ((k:Int)+1)=((k+1:Nat):Int):=by rw[qR (by omega) (by omega)];omega
  rw[hw];refine⟨⟨by omega,by omega,rfl⟩,_,_,_,_,⟨rfl,b4 4⟩,_,h1 _ _,js (λh3=>?_) λh3=>?_⟩
  .have:=h.dis k i a0 hi (by simpa using h3);subst this;rfl
  .have hki:k≠i:=λe=>by subst e;simp at h3
   exact⟨⟨k+1,by omega,rfl⟩,by simp only[nth,toI];omega⟩
 refine qj (C:=CC) (anns:=an0) mixedT Tryz.func164 ?_;rw[RH];exact⟨_,h2,rfl⟩
theorem Nz {fs:List FT} (h:POk fs):Gives CC 89 [.ag [.int .i64 6000,.sl (wu fs)]] [.c (.int .i64 0)]:=by
 have hl:=h.len;have hv:=Nq (Gives CC) (λ_ ds=>∃k:Nat,k<=fs.length/\ds=[.int .i64 (pfN fs k:Int),.int .i64 (k:Int)]) (λds=>(fs.length-toI (nth .undef ds 1)).toNat)
  (λ_ ds=>∃k:Nat,k<=fs.length/\ds=[.int .i64 (k:Int)]) (λds=>(fs.length-toI (nth .undef ds 0)).toNat) 6000 (wu fs) (· =[.c (.int .i64 0)])
 refine qj (C:=CC) mixedT Tryz.func89 (hv.mpr ?_);clear hv;simp only[Tk,vF];refine brd (λh2=>by omega) λ_=>brd (λh2=>by omega) λ_=>brd (λh2=>by omega) λ_=>⟨⟨0,b5 _,by cases fs<;>rfl⟩,?_⟩
 rintro _ _ ⟨k,hk,e⟩;simp only[b3,Lm,true_and,and_true]at e;obtain⟨rfl,rfl⟩:=e;have hm:=RM (fs:=fs) (k:=k);have hm1:=RM (fs:=fs) (k:=k+1);have h1:=h.one;simp only[Sz];refine brd (λh2=>?_) λh2=>⟨⟨0,b5 _,rfl⟩,?_⟩
 .have a0:k<fs.length:=by omega
  have hw:Ls .i64 ((k:Int)+1)=((k+1:Nat):Int):=by rw[qR (by omega) (by omega)];omega
  have a1:Ls .i64 ((pfN fs k:Int)+1)=((pfN fs k+1:Nat):Int):=by rw[qR (by omega) (by omega)];omega
  have hs:=E8 a0;rw[ZG a0,hw,a1];refine⟨⟨by omega,by omega,rfl⟩,_,_,_,_,⟨rfl,b4 4⟩,brb (λh3=>?_) λh3=>?_⟩
  .rw[h3]at hs;replace hs:pfN fs (k+1)=pfN fs k+1:=hs;refine brd (λh4=>by omega) λ_=>⟨_,Vz (h.ok _ (W0 a0)),brb (λh5=>by cases h5) λ_=>⟨⟨k+1,by omega,by rw[hs]⟩,by simp only[nth,toI];omega⟩⟩
  .rw[h3]at hs;refine brd (λh4=>by omega) λ_=>⟨_,Vz (h.ok _ (W0 a0)),brb (λh5=>by cases h5) λ_=>⟨⟨k+1,by omega,by rw[hs];rfl⟩,by simp only[nth,toI];omega⟩⟩
 .rintro _ ⟨k,hk,e⟩;simp only[b3,Lm,true_and,and_true]at e;subst e;simp only[Sz];refine brd (λh2=>?_) λh2=>by trivial
  have a0:k<fs.length:=by omega
  have a1:Ls .i64 ((k:Int)+1)=((k+1:Nat):Int):=by rw[qR (by omega) (by omega)];omega
  rw[ZG a0,a1];exact⟨⟨by omega,by omega,rfl⟩,_,_,_,_,⟨rfl,b4 4⟩,_,RN h a0,brd (λh3=>by omega) λ_=>⟨⟨k+1,by omega,rfl⟩,by simp only[nth,toI];omega⟩⟩
end
end Eng
end
section
open Go Go.Proofs Eng
namespace Eng
section
variable (Gv:Nat->List A->List A->Prop) (I0:List D->List D->Prop) (M0:List D->Nat) (I1:List D->List D->Prop) (M1:List D->Nat) (I2:List D->List D->Prop) (M2:List D->Nat) (I3:List D->List D->Prop) (M3:List D->Nat) (Q:List A->Prop)
theorem RO (i0:Int) (i1:Int) (i2:Int) (i3:Int) (i4:Int) (i5:Int) (i6:Int) (i7:Int) (r0:R4):wpF CC Gv an0 Tryz.f80 [.ag (.int .i64 i0::(.int .i64 i1::(.int .i64 i2::(.int .i64 i3::(.int .i64 i4::(.int .i64 i5::(.int .i64 i6::(.int .i64 i7::[])))))))),.ag (rk r0 [])] Q=(∃x,Gv 97 [aI i2] [aR x]/\∃x1,Gv 146 [aR x,aR x] [aR x1]/\∃i,Gv 49 [aR x1,aR r0] [aI i]/\bB (i1==2) (Q [aB (i==0)]) (bB (i1 !=1) (Q [aB true]) (bB (decide (i<0)) (∃x,Gv 97 [aI (4:Int)] [aR x]/\∃x2,Gv 146 [aR x,aR x1] [aR x2]/\∃i,Gv 49 [aR r0,aR x2] [aI i]/\Q [aB (decide (i<=0))]) (Q [aB false])))):=by kernel_rfl
theorem N0 (ok of ot:Int) (od:List (List D)) (ol:Int) (th:Int) (fs:List (List D)) (l0:List (List D)):wpF CC Gv an0 Tryz.f34 [.ag [.int .i64 ok,.int .i64 of,.int .i64 ot,.sl od,.int .i64 ol],.ag [.int .i64 th,.sl fs],.c (.sl l0)] Q=(bB (decide (of<0)) (Q [aI (1:Int)]) (bB (decide (of>=(P1 fs.length))) (Q [aI (1:Int)]) (bB (decide (ot<0)) (Q [aI (1:Int)]) (bB (decide (ot>=(P1 l0.length))) (Q [aI (1:Int)]) (bB (decide (ol<0)) (Q [aI (1:Int)]) (bB (decide (ol>10000000)) (Q [aI (1:Int)]) ((0<=of/\of<(P1 fs.length)/\U3 (nth [] fs (Pl of))=4)/\∃s i i_1 es,cut (nth [] fs (Pl of)) 0 4 [Hy s,dI i,dI i_1,Hv es]/\(0<=ot/\ot<(P1 l0.length)/\U3 (nth [] l0 (Pl ot))=8)/\∃i_2 i_3 i_4 i_5 i_6 i_7 i_8 i_9,cut (nth [] l0 (Pl ot)) 0 8 [dI i_2,dI i_3,dI i_4,dI i_5,dI i_6,dI i_7,dI i_8,dI i_9]/\bB (ok !=4) (∃b,Gv 78 [aL od,aI i_1,aI i_7] [aB b]/\∃b1,Gv 79 [aI ok,aI i,aI i_3] [aB b1]/\bB (!b1) (Q [aI (1:Int)]) (bB (!b) (Q [aI (1:Int)]) (bB (ok !=4) (bB (decide (i_5<i_1)) (Q [aI (16:Int)]) (bB (i==3) (bB (decide ((P1 es.length)>0)) (((0:Int)<=(0:Int)/\0<(P1 es.length)/\U3 (nth [] es 0)=66)/\∃x,cut (nth [] es 0) 21 4 (rk x [])/\∃b,Gv 80 [F0 [dI i_2,dI i_3,dI i_4,dI i_5,dI i_6,dI i_7,dI i_8,dI i_9],aR x] [aB b]/\bB (!b) (Q [aI (16:Int)]) (Q [aI (0:Int)])) (Q [aI (0:Int)])) (Q [aI (0:Int)]))) (bB (i==3) (bB (decide ((P1 es.length)>0)) (((0:Int)<=(0:Int)/\0<(P1 es.length)/\U3 (nth [] es 0)=66)/\∃x,cut (nth [] es 0) 21 4 (rk x [])/\∃b,Gv 80 [F0 [dI i_2,dI i_3,dI i_4,dI i_5,dI i_6,dI i_7,dI i_8,dI i_9],aR x] [aB b]/\bB (!b) (Q [aI (16:Int)]) (Q [aI (0:Int)])) (Q [aI (0:Int)])) (Q [aI (0:Int)]))))) (∃b,Gv 79 [aI ok,aI i,aI i_3] [aB b]/\bB (!b) (Q [aI (1:Int)]) (bB (!(P1 od.length)==0) (Q [aI (1:Int)]) (bB (ok !=4) (bB (decide (i_5<i_1)) (Q [aI (16:Int)]) (bB (i==3) (bB (decide ((P1 es.length)>0)) (((0:Int)<=(0:Int)/\0<(P1 es.length)/\U3 (nth [] es 0)=66)/\∃x,cut (nth [] es 0) 21 4 (rk x [])/\∃b,Gv 80 [F0 [dI i_2,dI i_3,dI i_4,dI i_5,dI i_6,dI i_7,dI i_8,dI i_9],aR x] [aB b]/\bB (!b) (Q [aI (16:Int)]) (Q [aI (0:Int)])) (Q [aI (0:Int)])) (Q [aI (0:Int)]))) (bB (i==3) (bB (decide ((P1 es.length)>0)) (((0:Int)<=(0:Int)/\0<(P1 es.length)/\U3 (nth [] es 0)=66)/\∃x,cut (nth [] es 0) 21 4 (rk x [])/\∃b,Gv 80 [F0 [dI i_2,dI i_3,dI i_4,dI i_5,dI i_6,dI i_7,dI i_8,dI i_9],aR x] [aB b]/\bB (!b) (Q [aI (16:Int)]) (Q [aI (0:Int)])) (Q [aI (0:Int)])) (Q [aI (0:Int)])))))))))))):=by kernel_rfl
theorem N1 (th:Int) (fs:List (List D)) (l0:List (List D)) (i0:Int) (i1:Int):wpF CC Gv an0 Tryz.f9 [.ag [.int .i64 th,.sl fs],.c (.sl l0),.c (.int .i64 i0),.c (.int .i64 i1)] Q=((0<=i0/\i0<(P1 fs.length)/\U3 (nth [] fs (Pl i0))=4)/\∃s i i_1 es,cut (nth [] fs (Pl i0)) 0 4 [Hy s,dI i,dI i_1,Hv es]/\(0<=i1/\i1<(P1 l0.length)/\U3 (nth [] l0 (Pl i1))=8)/\∃i_2 i_3 i_4 i_5 i_6 i_7 i_8 i_9,cut (nth [] l0 (Pl i1)) 0 8 [dI i_2,dI i_3,dI i_4,dI i_5,dI i_6,dI i_7,dI i_8,dI i_9]/\∃e1 i_10,Gv 33 [aI i_1,aI i_7] [aL e1,aI i_10]/\bB (i_10 !=0) (Q [aB false]) (∃i_11,Gv 35 [F0 [Hy s,dI i,dI i_1,Hv es],F0 [dI i_2,dI i_3,dI i_4,dI i_5,dI i_6,dI i_7,dI i_8,dI i_9]] [aI i_11]/\∃i_12,Gv 34 [F0 [dI i_11,dI i0,dI i1,Hv e1,dI (0:Int)],F0 [dI th,Hv fs],aL l0] [aI i_12]/\bB (i_12 !=0) (Q [aB false]) (∃x x1 x2 x3 b,Gv 36 [F0 [Hv es]] [F0 (rk x (rk x1 (rk x2 (rk x3 [])))),aB b]/\∃x4,Gv 37 [aR x2,aR x] [aR x4]/\∃x,Gv 37 [aR x3,aR x1] [aR x]/\∃x5,Gv 38 [aI (Ls .i64 (2*i_4))] [aR x5]/\bB (i !=1) (Q [aB true]) (∃i,Gv 39 [aR x5,aR x4] [aI i]/\bB (decide (i<=0)) (∃i,Gv 39 [aR x5,aR x] [aI i]/\Q [aB (decide (i<=0))]) (Q [aB false]))))):=by kernel_rfl
theorem N2 (r0:R4):wpF CC Gv an0 Tryz.f92 [.ag (rk r0 [])] Q=(∃i b,Gv 170 [aZ (R4.b r0) (R4.l r0)] [aI i,aB b]/\br b (∃x,Gv 97 [aI i] [aR x]/\∃i_1,Gv 49 [aR r0,aR x] [aI i_1]/\bB (i_1==0) (∃b,Gv 171 [aI i] [aB b]/\Q [aI i,aB b]) (Q [aI i,aB false])) (Q [aI i,aB false])):=by kernel_rfl
theorem aK (i0:Int):wpF CC Gv an0 Tryz.f171 [.c (.int .i64 i0)] Q=(bB (decide (i0>=(-10000000:Int))) (Q [aB (decide (i0<=10000000))]) (Q [aB false])):=by kernel_rfl
theorem UI (fn:List UInt8) (fk fd:Int) (fe:List (List D)):wpF CC Gv an0 Tryz.f43 [.ag [.str fn,.int .i64 fk,.int .i64 fd,.sl fe]] Q=(bB (fk !=3) (Q [F0 [dI (0:Int),dI (0:Int)],aI (0:Int),aI (1:Int)]) (bB ((P1 fe.length) !=2) (Q [F0 [dI (0:Int),dI (0:Int)],aI (0:Int),aI (1:Int)]) (((0:Int)<=(0:Int)/\0<(P1 fe.length)/\U3 (nth [] fe 0)=66)/\∃b,cut (nth [] fe 0) 0 1 [J3 b]/\bB (!b) (Q [F0 [dI (0:Int),dI (0:Int)],aI (0:Int),aI (1:Int)]) (((0:Int)<=(0:Int)/\0<(P1 fe.length)/\U3 (nth [] fe 0)=66)/\∃x x1 x2,cut (nth [] fe 0) 13 12 (rk x (rk x1 (rk x2 [])))/\∃i b,Gv 92 [aR x] [aI i,aB b]/\∃i_1 b1,Gv 92 [aR x1] [aI i_1,aB b1]/\∃x3 b2,Gv 93 [aR x2] [aR x3,aB b2]/\bB (!b) (Q [F0 [dI (0:Int),dI (0:Int)],aI (0:Int),aI (1:Int)]) (bB (!b1) (Q [F0 [dI (0:Int),dI (0:Int)],aI (0:Int),aI (1:Int)]) (bB (!b2) (Q [F0 [dI (0:Int),dI (0:Int)],aI (0:Int),aI (1:Int)]) (∃i_2 b,Gv 92 [aR x3] [aI i_2,aB b]/\∃es i_3,Gv 94 [aT x x1 x2] [F0 [Hv es],aI i_3]/\bB (!b) (Q [F0 [dI (0:Int),dI (0:Int)],aI (0:Int),aI (1:Int)]) (bB (decide (i_2<1)) (Q [F0 [dI (0:Int),dI (0:Int)],aI (0:Int),aI (1:Int)]) (bB (i_3 !=0) (Q [F0 [dI (0:Int),dI (0:Int)],aI (0:Int),aI (1:Int)]) (∃b,Gv 95 [F0 [Hv fe],F0 [Hv es]] [aB b]/\bB (!b) (Q [F0 [dI (0:Int),dI (0:Int)],aI (0:Int),aI (1:Int)]) (Q [F0 [dI i,dI i_1],aI i_2,aI (0:Int)]))))))))))):=by kernel_rfl
theorem E9 (i0:Int):wpF CC Gv an0 Tryz.f46 [.c (.int .i64 i0)] Q=(∃x,Gv 97 [aI i0] [aR x]/\Q [aR x]):=by kernel_rfl
end
end Eng
end
