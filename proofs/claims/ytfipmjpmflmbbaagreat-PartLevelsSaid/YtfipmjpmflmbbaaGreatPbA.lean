/- The verification conditions of functions, printed by a program (vcg5.py) and checked by the kernel. -/
import Derived.Test.YtfipmjpmflmbbaaGreatPaA
import Derived.Test.YtfipmjpmflmbbaaGreatPaF
import Derived.Test.YtfipmjpmflmbbaaGreatPaG
import Derived.Test.YtfipmjpmflmbbaaGreatShfA
import Derived.Test.YtfipmjpmflmbbaaGreatEngA
import Derived.Test.YtfipmjpmflmbbaaGreatEngB
import Derived.KernelRfl
import Derived.Deep.Slices
import Derived.OpenShut
import Derived.ChangeSame
import Derived.Carry
import Derived.RowKit
open Array renaming getElem?_append_left→Aw, getElem?_eq_getElem→Bx, getElem?_modify→F0
open Bool renaming and_eq_true→F2
open Eng.A renaming ag→Hu, c→Hv
open Eng.D renaming sl→Hx, str→Hy, int→J3
open Eng.D.int renaming injEq→J4
open Eng.D.sl renaming injEq→J7
open Eng.Ft renaming dp→J8
open Go.DataW renaming TrodAll→J9, Whole→Lm, trod→Lr, Trod→Ls
open Go.IntKind renaming wrap→Lv
open Go.Sort renaming putCells→No, mapBlock→P1, putRow→U0, ahead→U3
open Go.Value renaming okWide→V1, int→W0
open Int renaming toNat→W1, ofNat→W2, ofNat_eq_natCast→ba, toNat_natCast→bb
open List renaming take→bc, getElem?_eq_getElem→bd, drop→be, mem_cons→bh, take_succ_eq_append_getElem→bm, length→bs, append_nil→bv, drop_eq_getElem_cons→bw, pairwise_cons→bx, map_eq_nil_iff→b4, length_map→b5, take_of_length_le→b6, length_take→b7, take_length→b8, length_drop→b9, range→ca, replicate→cb, drop_drop→cc, mem_map→cg, append_assoc→cp, length_cons→cv, map_append→c3, length_eq_one_iff→c4, drop_of_length_le→c5, mem_cons_of_mem→c9, getElem_toArray→cH, mem_singleton→cL, length_append→dc, getElem?_drop→dk, getElem?_map→dn, flatten_cons→ea, mem_append→eb, length_set→ed, mem_range→el, drop_zero→en, take_add→ey, map_take→ez, all_cons→e5, map_map→e7
open List.cons renaming injEq→eH
open Nat renaming eq_of_beq_eq_true→fg, le_refl→ft, zero_le→fx, beq→fz, zero_add→fR, one_mul→fS, add_mul→ga, lt_of_lt_of_le→gb, add_sub_cancel→gm, zero_mul→gp, add_zero→gq
open Option renaming map_some→gr, getD_some→gz
open Option.some renaming injEq→g0, inj→g3
set_option maxRecDepth 1000000
section
namespace Eng
open Go Go.Proofs
section
variable (Gv:Nat→List A→List A→Prop) (I0:List D→List D→Prop) (M0:List D→Nat) (I1:List D→List D→Prop) (M1:List D→Nat) (I2:List D→List D→Prop) (M2:List D→Nat) (I3:List D→List D→Prop) (M3:List D→Nat) (Q:List A→Prop)
theorem UN (t0:Int) (l0:List (List D)) (Q:List A→Prop):wpF CC Gv (Vd ⟨[.slot 4 (.int .i64 0),.own 3 57 1],[],I0,M0⟩ ⟨[.slot 6 (.int .i64 0)],[.slot 4 (.int .i64 0),.slot 5 (.int .i64 0),.own 3 57 1],I1,M1⟩) Tryz.f10 [.ag [.int .i64 t0,.sl l0]] Q=(I0 [] [dI (0:Int),Hx []]∧∀(i:Int) (es:List (List D)),I0 [] [dI i,Hx es]→bB (decide (i<(W2 l0.length))) (rO l0 i 4∧∃i_1,cU l0 i 2 1 [dI i_1]∧I1 [dI i,dI i_1,Hx es] [dI (0:Int)]∧∀(i_2:Int),I1 [dI i,dI i_1,Hx es] [dI i_2]→bB (decide (i_2<(W2 es.length))) ((0≤i_2∧i_2<(W2 es.length))∧∃i_3,cU es i_2 0 1 [dI i_3]∧bB (decide (i_3<i_1)) (I1 [dI i,dI i_1,Hx es] [dI (Lv .i64 (i_2+1))]∧M1 [dI (Lv .i64 (i_2+1))]<M1 [dI i_2]) (bB (i_2==(W2 es.length)) ((0≤i_2∧i_2≤(W2 es.length))∧(0≤i_2∧i_2≤(W2 es.length)∧(W2 es.length)≤(W2 es.length))∧(room (1+bs (bc (W1 (W2 es.length)-W1 i_2) (be (W1 i_2) es)))∧lens 1 (bc (W1 (W2 es.length)-W1 i_2) (be (W1 i_2) es)))∧(room (bs (bc (W1 i_2) es)+bs ([dI i_1]::(([])++(bc (W1 (W2 es.length)-W1 i_2) (be (W1 i_2) es)))))∧lens 1 ([dI i_1]::(([])++(bc (W1 (W2 es.length)-W1 i_2) (be (W1 i_2) es)))))∧I0 [] [dI (Lv .i64 (i+1)),Hx (bc (W1 i_2) es++[dI i_1]::(([])++(bc (W1 (W2 es.length)-W1 i_2) (be (W1 i_2) es))))]∧M0 [dI (Lv .i64 (i+1)),Hx (bc (W1 i_2) es++[dI i_1]::(([])++(bc (W1 (W2 es.length)-W1 i_2) (be (W1 i_2) es))))]<M0 [dI i,Hx es]) ((0≤i_2∧i_2<(W2 es.length))∧∃i_4,cU es i_2 0 1 [dI i_4]∧bB (i_4 !=i_1) ((0≤i_2∧i_2≤(W2 es.length))∧(0≤i_2∧i_2≤(W2 es.length)∧(W2 es.length)≤(W2 es.length))∧(room (1+bs (bc (W1 (W2 es.length)-W1 i_2) (be (W1 i_2) es)))∧lens 1 (bc (W1 (W2 es.length)-W1 i_2) (be (W1 i_2) es)))∧(room (bs (bc (W1 i_2) es)+bs ([dI i_1]::(([])++(bc (W1 (W2 es.length)-W1 i_2) (be (W1 i_2) es)))))∧lens 1 ([dI i_1]::(([])++(bc (W1 (W2 es.length)-W1 i_2) (be (W1 i_2) es)))))∧I0 [] [dI (Lv .i64 (i+1)),Hx (bc (W1 i_2) es++[dI i_1]::(([])++(bc (W1 (W2 es.length)-W1 i_2) (be (W1 i_2) es))))]∧M0 [dI (Lv .i64 (i+1)),Hx (bc (W1 i_2) es++[dI i_1]::(([])++(bc (W1 (W2 es.length)-W1 i_2) (be (W1 i_2) es))))]<M0 [dI i,Hx es]) (I0 [] [dI (Lv .i64 (i+1)),Hx es]∧M0 [dI (Lv .i64 (i+1)),Hx es]<M0 [dI i,Hx es])))) (bB (i_2==(W2 es.length)) ((0≤i_2∧i_2≤(W2 es.length))∧(0≤i_2∧i_2≤(W2 es.length)∧(W2 es.length)≤(W2 es.length))∧(room (1+bs (bc (W1 (W2 es.length)-W1 i_2) (be (W1 i_2) es)))∧lens 1 (bc (W1 (W2 es.length)-W1 i_2) (be (W1 i_2) es)))∧(room (bs (bc (W1 i_2) es)+bs ([dI i_1]::(([])++(bc (W1 (W2 es.length)-W1 i_2) (be (W1 i_2) es)))))∧lens 1 ([dI i_1]::(([])++(bc (W1 (W2 es.length)-W1 i_2) (be (W1 i_2) es)))))∧I0 [] [dI (Lv .i64 (i+1)),Hx (bc (W1 i_2) es++[dI i_1]::(([])++(bc (W1 (W2 es.length)-W1 i_2) (be (W1 i_2) es))))]∧M0 [dI (Lv .i64 (i+1)),Hx (bc (W1 i_2) es++[dI i_1]::(([])++(bc (W1 (W2 es.length)-W1 i_2) (be (W1 i_2) es))))]<M0 [dI i,Hx es]) ((0≤i_2∧i_2<(W2 es.length))∧∃i_3,cU es i_2 0 1 [dI i_3]∧bB (i_3 !=i_1) ((0≤i_2∧i_2≤(W2 es.length))∧(0≤i_2∧i_2≤(W2 es.length)∧(W2 es.length)≤(W2 es.length))∧(room (1+bs (bc (W1 (W2 es.length)-W1 i_2) (be (W1 i_2) es)))∧lens 1 (bc (W1 (W2 es.length)-W1 i_2) (be (W1 i_2) es)))∧(room (bs (bc (W1 i_2) es)+bs ([dI i_1]::(([])++(bc (W1 (W2 es.length)-W1 i_2) (be (W1 i_2) es)))))∧lens 1 ([dI i_1]::(([])++(bc (W1 (W2 es.length)-W1 i_2) (be (W1 i_2) es)))))∧I0 [] [dI (Lv .i64 (i+1)),Hx (bc (W1 i_2) es++[dI i_1]::(([])++(bc (W1 (W2 es.length)-W1 i_2) (be (W1 i_2) es))))]∧M0 [dI (Lv .i64 (i+1)),Hx (bc (W1 i_2) es++[dI i_1]::(([])++(bc (W1 (W2 es.length)-W1 i_2) (be (W1 i_2) es))))]<M0 [dI i,Hx es]) (I0 [] [dI (Lv .i64 (i+1)),Hx es]∧M0 [dI (Lv .i64 (i+1)),Hx es]<M0 [dI i,Hx es])))) (Q [aL es])):=by kernel_rfl
theorem Mm (t0:Int) (l0:List (List D)) (t1:Int) (l1:List (List D)):wpF CC Gv (fun _=>⟨[.slot 5 (.int .i64 0)],[],I0,M0⟩) Tryz.f14 [.ag [.int .i64 t0,.sl l0],.ag [.int .i64 t1,.sl l1]] Q=(bB (t0 !=t1) (Q [aB false]) (bB ((W2 l0.length) !=(W2 l1.length)) (Q [aB false]) (I0 [] [dI (0:Int)]∧∀(i:Int),I0 [] [dI i]→bB (decide (i<(W2 l0.length))) (rO l0 i 4∧∃s i_1 i_2 es,cU l0 i 0 4 [Hy s,dI i_1,dI i_2,Hx es]∧rO l1 i 4∧∃s1 i_3 i_4 e1,cU l1 i 0 4 [Hy s1,dI i_3,dI i_4,Hx e1]∧bB (!s==s1) (Q [aB false]) (bB (i_1 !=i_3) (Q [aB false]) (bB (i_2 !=i_4) (Q [aB false]) (∃b,Gv 33 [Hu [Hx es],Hu [Hx e1]] [aB b]∧bB (!b) (Q [aB false]) (I0 [] [dI (Lv .i64 (i+1))]∧M0 [dI (Lv .i64 (i+1))]<M0 [dI i]))))) (Q [aB true])))):=by kernel_rfl
theorem Ab (t0:Int) (l0:List (List D)) (s0:List UInt8) (Q:List A→Prop):wpF CC Gv an0 Tryz.f11 [.ag [.int .i64 t0,.sl l0],.c (.str s0)] Q=(∃i,Gv 29 [Hu [dI t0,Hx l0],Hv (Hy s0)] [aI i]∧bB (decide (i≥0)) (Q [aI i,aI (0:Int)]) (Q [aI (0:Int),aI (4:Int)])):=by kernel_rfl
theorem Ac (t0:Int) (l0:List (List D)) (s0:List UInt8) (Q:List A→Prop):wpF CC Gv an0 Tryz.f29 [.ag [.int .i64 t0,.sl l0],.c (.str s0)] Q=(∃i,Gv 54 [aL l0,Hv (D.clo 55 [D.ptr [Hy s0]])] [aI i]∧Q [aI i]):=by kernel_rfl
theorem CN (t0:Int) (l0:List (List D)) (t1:Int) (l1:List (List D)):wpF CC Gv an0 Tryz.f13 [.ag [.int .i64 t0,.sl l0],.ag [.int .i64 t1,.sl l1]] Q=(bB (t0==t1) (∃b,Gv 30 [aL l0,aL l1,Hv (D.fn 31)] [aB b]∧Q [aB b]) (Q [aB false])):=by kernel_rfl
end
end Eng
end
section
namespace Eng
open Go Go.Proofs Rl
set_option maxRecDepth 100000
def ZZ (n:Int):List Int→List Int
 |[]=>[n]
 |q::r=>if q<n then q::ZZ n r else if q=n then q::r else n::q::r
def kI (z:Int):List D:=[.int .i64 z]
theorem CP (z:Int):(kI z).length=1:=rfl
def Mn (l:List Int):List Int:=l.foldl (fun v n=>ZZ n v) []
def Ox (l:List Int) (k:Nat):List Int:=Mn (l.take k)
theorem UO {l:List Int} {k:Nat} (h:k<l.length):Ox l (k+1)=ZZ l[k] (Ox l k):=by
 unfold Ox Mn;rw[bm h,List.foldl_append];rfl
theorem Oy (n:Int):∀v:List Int,(ZZ n v).length≤v.length+1
 |[]=>by simp[ZZ]
 |q::r=>by
  have:=Oy n r;unfold ZZ;split
  ·simp only[cv];omega
  ·split<;>simp
theorem G0 (l:List Int):∀k,k≤l.length→(Ox l k).length≤k
 |0,_=>by simp[Ox,Mn]
 |k+1,h=>by rw[UO (by omega)];have:=G0 l k (by omega);have:=Oy l[k] (Ox l k);omega
def inL (n:Int) (v:List Int) (j:Nat):Prop:=j≤v.length∧ZZ n v=v.take j++ZZ n (v.drop j)
theorem Ad {n:Int} {v:List Int} {j:Nat} (h:inL n v j) (hj:j<v.length) (ho:v[j]<n):inL n v (j+1):=by
 refine⟨hj,?_⟩;rw[h.2,bw hj,ZZ,if_pos ho,bm hj,cp];rfl
theorem CR {n:Int} {v:List Int} {j:Nat} (h:inL n v j) (ho:j=v.length∨∃hj:j<v.length,¬v[j]<n∧¬v[j]=n):ZZ n v=v.take j++n::v.drop j:=by
 rw[h.2];rcases ho with rfl|⟨hj,h1,h2⟩
 ·rw[List.drop_length];rfl
 ·rw[bw hj,ZZ,if_neg h1,if_neg h2]
theorem dx {n:Int} {v:List Int} {j:Nat} (h:inL n v j) (hj:j<v.length) (h1:v[j]=n):ZZ n v=v:=by
 rw[h.2,bw hj,ZZ,if_neg (by omega),if_pos h1,←bw hj,List.take_append_drop]
def ox (l:List Int) (_ ds:List D):Prop:=∃k:Nat,k≤l.length∧ds=[.int .i64 (k:Int),.sl ((Ox l k).map kI)]
def lvI1 (l:List Int) (gs ds:List D):Prop:=∃j:Nat,ds=[.int .i64 (j:Int)]∧∀n,l[gK gs]? =some n→inL n (Ox l (gK gs)) j
theorem UP {t:Int} {fs:List Ft} (hn:fs.length≤1000000):qe CC 10 [ftA t fs] [.c (.sl ((Mn (fs.map J8)).map kI))]:=by
 have hv:=UN (qe CC) (ox (fs.map J8)) (zP 10000000) (lvI1 (fs.map J8)) (zP 10000000) t (fs.map kFt) (· =[.c (.sl ((Mn (fs.map J8)).map kI))]);refine gOk Tryz.func10 hv ?_;clear hv;obtain⟨l,hl⟩:∃l,fs.map J8=l:=⟨_,rfl⟩;have hll:l.length=fs.length:=by rw[←hl,b5]
 rw[hl];refine⟨⟨0,fx _,rfl⟩,?_⟩;rintro _ _ ⟨k,hk,he⟩;simp only[eH,J4,J7,and_true,true_and]at he;obtain⟨rfl,rfl⟩:=he;have hkk:k≤fs.length:=by omega
 have a7:=G0 l k hk;rw[qY];refine brd (fun h=>?_) (fun h=>?_)
 ·have a6:k<fs.length:=by simp only[ba]at h;omega
  have a4:k<l.length:=by omega
  have a9:l[k]? =some l[k]:=bd a4;have hdp:fs[k].dp=l[k]:=by simp only[←hl,List.getElem_map]
  have ok:=vW zk a6;have ad:=lZ a6;rw[hdp]at ad;refine⟨ok,_,ad,⟨0,rfl,fun n hn=>⟨fx _,rfl⟩⟩,?_⟩;rintro _ ⟨j,he,hj⟩;simp only[eH,J4,and_true,true_and]at he;subst he;have hj:inL l[k] (Ox l k) j:=hj _ a9;obtain⟨v,hv⟩:∃v,Ox l k=v:=⟨_,rfl⟩;have ls:=UO a4;rw[hv]at hj a7 ls ⊢;have hjv:=hj.1;have nx:∀w,w=ZZ l[k] v→ox l [] [.int .i64 (Lv .i64 ((k:Int)+1)),.sl (w.map kI)]:=by intro w hw;exact⟨k+1,a4,by rw[wI,ls,hw];rfl⟩
  simp only[ba,bb,List.nil_append,qY];have dl:bc (v.length-j) (be j (v.map kI))=(v.drop j).map kI:=by rw[b6 (by rw[b9,qY];omega),List.map_drop]
  rw[dl,←ez];have a3:∀w:List Int,lens 1 (w.map kI):=Cm CP;have a8:ZZ l[k] v=v.take j++l[k]::v.drop j→((0:Int)≤(j:Int)∧(j:Int)≤(v.length:Int))∧((0:Int)≤(j:Int)∧(j:Int)≤(v.length:Int)∧(v.length:Int)≤(v.length:Int))∧
   (Eng.room (1+((v.drop j).map kI).length)∧lens 1 ((v.drop j).map kI))∧(Eng.room (((v.take j).map kI).length+([J3 .i64 l[k]]::(v.drop j).map kI).length)∧lens 1 ([J3 .i64 l[k]]::(v.drop j).map kI))∧
   ox l [] [.int .i64 (Lv .i64 ((k:Int)+1)),.sl ((v.take j).map kI++[J3 .i64 l[k]]::(v.drop j).map kI)]∧
   zP 10000000 [.int .i64 (Lv .i64 ((k:Int)+1)),.sl ((v.take j).map kI++[J3 .i64 l[k]]::(v.drop j).map kI)]<zP 10000000 [.int .i64 (k:Int),.sl (v.map kI)]:=by
   intro hi;have e:(v.take j).map kI++[J3 .i64 l[k]]::(v.drop j).map kI=(ZZ l[k] v).map kI:=by rw[hi,c3];rfl
   rw[e];refine⟨⟨by omega,by omega⟩,⟨by omega,by omega,by omega⟩,⟨by unfold Eng.room;rw[qY,b9];omega,a3 _⟩,⟨?_,a3 (l[k]::v.drop j)⟩,nx _ rfl,qt⟩;unfold Eng.room;rw[qY,b7,cv,qY,b9];omega
  have old:ZZ l[k] v=v→ox l [] [.int .i64 (Lv .i64 ((k:Int)+1)),.sl (v.map kI)]∧zP 10000000 [.int .i64 (Lv .i64 ((k:Int)+1)),.sl (v.map kI)]<zP 10000000 [.int .i64 (k:Int),.sl (v.map kI)]:=
   fun hi=>⟨nx _ hi.symm,qt⟩
  refine brd (fun h1=>?_) (fun h1=>?_)
  ·have a5:j<v.length:=by omega
   have hc:cut (nth [] (v.map kI) j) 0 1 [.int .i64 v[j]]:=by rw[y7 kI a5];exact⟨rfl,by show 0+1≤1;omega⟩
   refine⟨⟨by omega,by omega⟩,_,hc,brd (fun h2=>?_) (fun h2=>?_)⟩
   ·refine⟨⟨j+1,by rw[wI];rfl,fun n hn=>?_⟩,qt⟩;have hn:l[k]? =some n:=hn;rw[a9]at hn;obtain rfl:=g3 hn;show inL l[k] (Ox l k) (j+1);rw[hv];exact Ad hj a5 h2
   ·refine brb (fun h3=>?_) (fun h3=>?_)
    ·have:j=v.length:=by simp only[beq_iff_eq]at h3;omega
     omega
    ·refine⟨⟨by omega,by omega⟩,_,hc,brb (fun h4=>?_) (fun h4=>?_)⟩
     ·exact a8 (CR hj (.inr ⟨a5,h2,by simpa using h4⟩))
     ·exact old (dx hj a5 (by simpa using h4))
  ·refine brb (fun h3=>?_) (fun h3=>?_)
   ·exact a8 (CR hj (.inl (by omega)))
   ·exfalso;simp only[beq_eq_false_iff_ne,ne_eq]at h3;omega
 ·have a6:k=l.length:=by simp only[ba]at h;omega
  show [Hv (.sl ((Ox l k).map kI))]=[Hv (.sl ((Mn l).map kI))];unfold Ox;rw[a6,b8]
def Ae (l:List Int):Prop:=l.Pairwise (· < ·)
theorem G1 {n x:Int}:∀{v:List Int},x∈ZZ n v↔x=n∨x∈v
 |[]=>by simp[ZZ]
 |q::r=>by
  unfold ZZ;split
  ·rw[bh,G1,bh];constructor
   ·rintro(h|h|h)
    ·exact .inr (.inl h)
    ·exact .inl h
    ·exact .inr (.inr h)
   ·rintro(h|h|h)
    ·exact .inr (.inl h)
    ·exact .inl h
    ·exact .inr (.inr h)
  ·split
   ·rename_i e;rw[bh];constructor
    ·exact .inr
    ·rintro(h|h)
     ·exact .inl (by omega)
     ·exact h
   ·rw[bh]
theorem Oz {n:Int}:∀{v:List Int},Ae v→Ae (ZZ n v)
 |[],_=>by simp[ZZ,Ae]
 |q::r,h=>by
  obtain⟨h1,h2⟩:=bx.1 h;unfold ZZ;split
  ·rename_i e;refine bx.2 ⟨fun x hx=>?_,Oz h2⟩;rcases G1.1 hx with rfl|hx
   ·exact e
   ·exact h1 x hx
  ·split
   ·exact h
   ·refine bx.2 ⟨fun x hx=>?_,h⟩;rcases bh.1 hx with rfl|hx
    ·omega
    ·have:=h1 x hx;omega
theorem Af (l:List Int):Ae (Mn l):=by
 have key:∀(l v:List Int),Ae v→Ae (l.foldl (fun v n=>ZZ n v) v):=by
  intro l
  induction l with
  |nil=>exact fun v h=>h
  |cons n r ih=>exact fun v h=>ih _ (Oz h)
 exact key l [] List.Pairwise.nil
theorem Ah {l:List Int} {x:Int}:x∈Mn l↔x∈l:=by
 have key:∀(l v:List Int),x∈l.foldl (fun v n=>ZZ n v) v↔x∈v∨x∈l:=by
  intro l
  induction l with
  |nil=>intro v;simp
  |cons n r ih=>
   intro v;rw[List.foldl_cons,ih,G1,bh];constructor
   ·rintro((h|h)|h)
    ·exact .inr (.inl h)
    ·exact .inl h
    ·exact .inr (.inr h)
   ·rintro(h|h|h)
    ·exact .inl (.inr h)
    ·exact .inl (.inl h)
    ·exact .inr h
 unfold Mn;have:=key l []
 simpa using this
theorem I9:∀{l m:List Int},Ae l→Ae m→(∀x,x∈l↔x∈m)→l=m
 |[],[],_,_,_=>rfl
 |[],b::s,_,_,h=>absurd ((h b).2 (by simp)) (by simp)
 |a::r,[],_,_,h=>absurd ((h a).1 (by simp)) (by simp)
 |a::r,b::s,h1,h2,h=>by
  obtain⟨p1,p2⟩:=bx.1 h1;obtain⟨q1,q2⟩:=bx.1 h2;have e:a=b:=by
   rcases bh.1 ((h a).1 (by simp))with e|ha
   ·exact e
   ·rcases bh.1 ((h b).2 (by simp))with e|hb
    ·exact e.symm
    ·have:=q1 a ha;have:=p1 b hb;omega
  subst e;rw[I9 p2 q2 fun x=>?_];constructor
  ·intro hx;rcases bh.1 ((h x).1 (c9 _ hx))with e|a3
   ·have:=p1 x hx;omega
   ·exact a3
  ·intro hx;rcases bh.1 ((h x).2 (c9 _ hx))with e|a3
   ·have:=q1 x hx;omega
   ·exact a3
end Eng
end
section
namespace Eng
open Go Go.Proofs
abbrev Ck2:=List (List D)→List A→Bool
abbrev Mk2:=List (List D)→List A→List (List D)
noncomputable def CL (k1:Ck2) (m1:Mk2) (k2:Ck2) (m2:Mk2) (k3:Ck2) (m3:Mk2) (k4:Ck2) (m4:Mk2):Cx:=
 CX [(92,Ho 1 k1 m1 (fun _ _=>[])),(52,Ho 1 k2 m2 (fun _ _=>[])),(27,Ho 1 k3 m3 (fun _ _=>[])),(28,OY 1 k4 m4)]
end Eng
end
section
namespace Eng
open Go Go.Proofs Go.RowKit Rl
open Go.Sort (Holds grow)
set_option maxRecDepth 100000
def XH (zs:List Int):List Int:=zs.mergeSort fun x y=>decide (x≤y)
theorem UQ (zs:List Int):(XH zs).length=zs.length:=List.length_mergeSort _
theorem CS {zs:List Int} {x:Int}:x∈XH zs↔x∈zs:=List.mem_mergeSort
theorem CU (zs:List Int):(XH zs).Pairwise (· ≤ ·):=by
 have:=List.pairwise_mergeSort (le:=fun x y:Int=>decide (x≤y)) (by intro a b c h1 h2;simp only[decide_eq_true_eq]at *;omega) (by intro a b;simp only[Bool.or_eq_true,decide_eq_true_eq];omega) zs;exact this.imp fun h=>by simpa using h
theorem mj (zs:List Int):(zs.map kI).flatten=zs.map (J3 .i64):=by
 induction zs with
 |nil=>rfl
 |cons a r ih=>simp only[List.map_cons,ea,ih];rfl
theorem dy (zs:List Int):Vf CC 27 1 (zs.map kI) [] [] ((XH zs).map kI):=by
 intro w F vs2 g c0 a3 t0 hb hinv h2 hL;cases vs2 with
 |cons _ _=>exact h2.elim
 |nil=>
 have hle:zs.length≤c0:=by have:=hL.lc.1;rw[qY]at this;exact this
 have hsz:a3.size=c0:=by have:=hL.sz;omega
 have a5:∀j,∀hj:j<zs.length,a3[j]? =some (.int .i64 zs[j]):=by
  intro j hj;obtain⟨v,h1,h3⟩:=hL.cd j (by rw[qY];omega);rw[mj,qF]at h3;simp only[dn,bd hj,gr,gz]at h3;have:v= .int .i64 zs[j]:=by cases h3;rfl
  rw[h1,this]
 have hH:Holds (W0 .i64) w g 0 zs.toArray:=by
  intro j hj;have hj:j<zs.length:=by simpa using hj
  rw[getElem!_pos zs.toArray j (by simpa using hj),cH];constructor
  ·unfold World.cell?;simp only[fR];rw[hL.blk];exact a5 j hj
  ·unfold World.frozen?;simp only[fR];rw[hL.blk];simp
 have hr:=hL.room;rw[qY]at hr;have hS:=AnyG.slices_Sort_int Tryz.sortI64 g 0 c0 zs w hH hL.lt (by have:=hr.max;omega);rw[qY];refine hS.mono fun e w' ⟨he,n,os,hw'⟩=>?_
 have hat:w'.heap[g]? =some (Go.Obj.cells (No (W0 .i64) 0 (XH zs).toArray a3) t0 (0,0)):=by rw[hw'];unfold Go.Sort.grow U0 P1 U3;simp only;rw[Aw (by simpa using hL.lt),F0,if_pos rfl,hL.blk];rfl
 have hne:∀b,b<w.heap.size→¬b=g→w'.heap[b]? =w.heap[b]? :=by intro b hb hn;rw[hw'];unfold Go.Sort.grow U0 P1 U3;simp only;rw[Aw (by simpa using hb),F0,if_neg (Ne.symm hn)]
 have a4:w.heap.size≤w'.heap.size:=by rw[hw'];unfold Go.Sort.grow U0 P1 U3;simp
 have hps:(No (W0 .i64) 0 (XH zs).toArray a3).size=a3.size:=by simp[No]
 have a6:=UQ zs;refine⟨⟨by rw[hw'];rfl,by rw[hw'];rfl,by rw[hw'];rfl,a4,hne⟩,F,No (W0 .i64) 0 (XH zs).toArray a3,.tuple #[],he,fun _ h=>h,fun x hx=>⟨gb (hb x hx) a4,.inl hx⟩,⟨#[],rfl,trivial⟩,?_,by rw[qY,a6]⟩;refine⟨hL.nF,gb hL.lt a4,hat,by rw[hps];exact hL.sz,⟨by rw[qY,a6];exact hle,hL.lc.2⟩,by rw[qY,a6];exact hr,hL.s0,Cm CP _,hL.ct,fun j hj=>?_⟩;rw[qY,a6,Nat.mul_one]at hj;have a7:j<(XH zs).length:=by omega
 refine⟨.int .i64 (XH zs)[j],?_,?_⟩
 ·unfold No;have hjs:j<a3.size:=by omega
  rw[Array.getElem?_mapIdx,Bx hjs];simp only[gr,List.size_toArray,Nat.sub_zero];rw[if_pos ⟨by omega,by omega⟩,getElem!_pos (XH zs).toArray j (by simpa using a7),cH]
 ·rw[mj,qF];simp only[dn,bd a7,gr,gz];exact CD.int _ _
theorem Re:qe CC 27 [.c (.sl [])] []:=by
 intro w F vs hb hi h
 match vs,h with
 |[v],⟨h,_⟩=>obtain⟨ad,c,rfl,_⟩:=CD.slice_inv (show CD w F (.sl []) v from h);refine(AnyG.slices_Sort_int_none Tryz.sortI64 ad c w).mono ?_;rintro e w' ⟨rfl,rfl⟩;exact⟨Below.refl _ _,_,rfl,⟨#[],rfl,trivial⟩⟩
end Eng
end
section
open Go Go.Proofs Eng
namespace Eng
theorem Rf (Gv:Nat→List A→List A→Prop) (I0:List D→List D→Prop) (M0:List D→Nat) (I1:List D→List D→Prop) (M1:List D→Nat) (k1:Ck2) (m1:Mk2) (k2:Ck2) (m2:Mk2) (k3:Ck2) (m3:Mk2) (k4:Ck2) (m4:Mk2) (es:List (List D)) (Q:Nat→List (List D)→Prop):tE (CL k1 m1 k2 m2 k3 m3 k4 m4) Gv (Vd ⟨[.slot 3 (.int .i64 0),.own 0 68 1],[],I0,M0⟩ ⟨[.slot 5 (.int .i64 0),.slot 3 (.int .i64 0),.own 0 68 1],[.slot 3 (.int .i64 0)],I1,M1⟩) Tryz.f28 [] (some (1,es)) [] Q=(bB (decide ((W2 es.length)<2)) (es≠[]∧Q 1 es) (I0 [] [dI (1:Int),Hx es]∧∀(i:Int) (es:List (List D)),I0 [] [dI i,Hx es]→bB (decide (i<(W2 es.length))) ((0≤i∧i<(W2 es.length))∧∃i_1,cU es i 0 1 [dI i_1]∧(0≤Lv .i64 (i-1)∧Lv .i64 (i-1)<(W2 es.length))∧∃i_2,cut (nth [] es (W1 (Lv .i64 (i-1)))) 0 1 [dI i_2]∧bB (i_1==i_2) ((0≤i∧i≤(W2 es.length)∧(W2 es.length)≤(W2 es.length))∧I1 [dI i] [dI (1:Int),dI i,Hx es]∧∀(i_3 i_4:Int) (e1:List (List D)),I1 [dI i] [dI i_3,dI i_4,Hx e1]→bB (decide (i_3<(W2 (W1 (W2 es.length)-W1 i)))) ((0≤i_3∧i_3<(W2 (W1 (W2 es.length)-W1 i)))∧∃i_5,cut (nth [] e1 (W1 i+W1 i_3)) 0 1 [dI i_5]∧(0≤Lv .i64 (i_3-1)∧Lv .i64 (i_3-1)<(W2 (W1 (W2 es.length)-W1 i)))∧∃i_6,cut (nth [] e1 (W1 i+W1 (Lv .i64 (i_3-1)))) 0 1 [dI i_6]∧bB (i_5 !=i_6) ((0≤i_3∧i_3<(W2 (W1 (W2 es.length)-W1 i)))∧∃i_7,cut (nth [] e1 (W1 i+W1 i_3)) 0 1 [dI i_7]∧(0≤i_4∧i_4<(W2 e1.length))∧0<1∧I1 [dI i] [dI (Lv .i64 (i_3+1)),dI (Lv .i64 (i_4+1)),Hx (upd e1 (W1 i_4) (upd (nth [] e1 (W1 i_4)) 0 (dI i_7)))]∧M1 [dI (Lv .i64 (i_3+1)),dI (Lv .i64 (i_4+1)),Hx (upd e1 (W1 i_4) (upd (nth [] e1 (W1 i_4)) 0 (dI i_7)))]<M1 [dI i_3,dI i_4,Hx e1]) (I1 [dI i] [dI (Lv .i64 (i_3+1)),dI i_4,Hx e1]∧M1 [dI (Lv .i64 (i_3+1)),dI i_4,Hx e1]<M1 [dI i_3,dI i_4,Hx e1])) ((0≤i_4∧i_4≤(W2 e1.length)∧(W2 e1.length)≤(W2 e1.length))∧0<W1 (W2 e1.length)-W1 i_4∧(0≤i_4∧i_4≤(W2 (bs (bc (W1 i_4) e1++(cb (W1 (W2 e1.length)-W1 i_4) [dI (0:Int)]++be (W1 i_4+(W1 (W2 e1.length)-W1 i_4)) e1)))))∧bc (W1 i_4) (bc (W1 i_4) e1++(cb (W1 (W2 e1.length)-W1 i_4) [dI (0:Int)]++be (W1 i_4+(W1 (W2 e1.length)-W1 i_4)) e1))≠[]∧Q 1 (bc (W1 i_4) (bc (W1 i_4) e1++(cb (W1 (W2 e1.length)-W1 i_4) [dI (0:Int)]++be (W1 i_4+(W1 (W2 e1.length)-W1 i_4)) e1))))) (I0 [] [dI (Lv .i64 (i+1)),Hx es]∧M0 [dI (Lv .i64 (i+1)),Hx es]<M0 [dI i,Hx es])) (es≠[]∧Q 1 es))):=by kernel_rfl
section
variable (Gv:Nat→List A→List A→Prop) (I0:List D→List D→Prop) (M0:List D→Nat) (I1:List D→List D→Prop) (M1:List D→Nat) (I2:List D→List D→Prop) (M2:List D→Nat) (I3:List D→List D→Prop) (M3:List D→Nat) (Q:List A→Prop)
theorem CW (k1:Ck2) (m1:Mk2) (k2:Ck2) (m2:Mk2) (k3:Ck2) (m3:Mk2) (k4:Ck2) (m4:Mk2) (t:Int) (es:List (List D)):wpF (CL k1 m1 k2 m2 k3 m3 k4 m4) Gv (fun _=>⟨[.slot 9 (.int .i64 0),.own 3 23 1],[],I0,M0⟩) Tryz.f9 [.ag [.int .i64 t,.sl es]] Q=(I0 [] [dI (0:Int),Hx []]∧∀(i:Int) (e1:List (List D)),I0 [] [dI i,Hx e1]→bB (decide (i<(W2 es.length))) (rO es i 4∧∃s i_1 i_2 e2,cU es i 0 4 [Hy s,dI i_1,dI i_2,Hx e2]∧(room (e1.length+1)∧lens 1 [[dI i_2]])∧I0 [] [dI (Lv .i64 (i+1)),Hx (e1++[[dI i_2]])]∧M0 [dI (Lv .i64 (i+1)),Hx (e1++[[dI i_2]])]<M0 [dI i,Hx e1]) (k3 e1 []=true∧k4 (m3 e1 []) []=true∧Q [aL (m4 (m3 e1 []) [])])):=by kernel_rfl
end
end Eng
end
section
open Go Go.Proofs Eng
namespace Eng
section
variable (Gv:Nat→List A→List A→Prop) (I0:List D→List D→Prop) (M0:List D→Nat) (I1:List D→List D→Prop) (M1:List D→Nat) (I2:List D→List D→Prop) (M2:List D→Nat) (I3:List D→List D→Prop) (M3:List D→Nat) (Q:List A→Prop)
theorem Rg (t:Int) (Q:List A→Prop):wpF CC Gv (fun _=>⟨[.slot 9 (.int .i64 0),.slot 3 (.slice none 0 0)],[],I0,M0⟩) Tryz.f9 [.ag [.int .i64 t,.sl []]] Q=(I0 [] [dI (0:Int),Hx []]∧∀(i:Int) (es:List (List D)),I0 [] [dI i,Hx es]→bB (decide (i<0)) ((0≤i∧i<0∧0=4)∧∃s i i_1 es,cut [] 0 4 [Hy s,dI i,dI i_1,Hx es]∧False) (Gv 27 [Hv (Hx es)] []∧∃e1,Gv 28 [aL es] [aL e1]∧Q [aL e1])):=by kernel_rfl
theorem Mp (_:List (List D)) (Q:List A→Prop):wpF CC Gv an0 Tryz.f28 [.c (.sl [])] Q=(Q [aL []]):=by kernel_rfl
end
end Eng
end
section
namespace Eng
open Go Go.Proofs Rl
set_option maxRecDepth 100000
def G2 (a:Int):List Int→List Int
 |[]=>[]
 |b::r=>if b=a then G2 b r else b::G2 b r
def Rh:List Int→List Int
 |[]=>[]
 |a::r=>a::G2 a r
theorem O0 {x:Int}:∀{r:List Int} {a:Int},(x=a∨x∈G2 a r)↔(x=a∨x∈r)
 |[],a=>by simp[G2]
 |b::r,a=>by
  unfold G2;have ih:=O0 (x:=x) (r:=r) (a:=b);split
  ·rename_i e;subst e;rw[ih,bh];constructor
   ·rintro(h|h)
    ·exact .inl h
    ·exact .inr (.inr h)
   ·rintro(h|h|h)
    ·exact .inl h
    ·exact .inl h
    ·exact .inr h
  ·rw[bh,bh,ih]
theorem Ai {l:List Int} {x:Int}:x∈Rh l↔x∈l:=by
 cases l with
 |nil=>rfl
 |cons a r=>unfold Rh;rw[bh,bh];exact O0
theorem O1:∀{r:List Int} {a:Int},(a::r).Pairwise (· ≤ ·)→(a::G2 a r).Pairwise (· < ·)
 |[],a,_=>by simp[G2]
 |b::r,a,h=>by
  obtain⟨h1,h2⟩:=bx.1 h;have ih:=O1 h2;obtain⟨i1,i2⟩:=bx.1 ih;have hab:=h1 b (by simp);unfold G2;split
  ·rename_i e;subst e;exact ih
  ·rename_i e;refine bx.2 ⟨fun x hx=>?_,ih⟩;rcases bh.1 hx with rfl|hx
   ·omega
   ·have:=i1 x hx;omega
theorem Aj {l:List Int} (h:l.Pairwise (· ≤ ·)):Ae (Rh l):=by
 cases l with
 |nil=>exact List.Pairwise.nil
 |cons a r=>exact O1 h
theorem mn (l:List Int):Rh (XH l)=Mn l:=I9 (Aj (CU l)) (Af l) fun x=>by rw[Ai,CS,Ah]
theorem dz {l:List Int} (h:l≠[]):Rh l≠[]:=by
 cases l with
 |nil=>exact absurd rfl h
 |cons a r=>simp[Rh]
def noK:Ck2:=fun _ _=>false
def nmK:Mk2:=fun _ _=>[]
def IA (es:List (List D)):List Int:=es.map fun e=>toI (nth .undef e 0)
def oy:List D→Bool
 |[.int .i64 _]=>true
 |_=>false
def oA (es:List (List D)):Bool:=es.all oy&&Nat.ble es.length 1000000
theorem Wm (l:List Int):IA (l.map kI)=l:=by
 unfold IA;rw[e7];have:((fun e=>toI (nth .undef e 0))∘kI)=id:=by funext z;rfl
 rw[this,List.map_id]
theorem dA {e:List D} (h:oy e=true):e=kI (toI (nth .undef e 0)):=by
 unfold oy at h;split at h
 ·rfl
 ·cases h
theorem CY:∀{es:List (List D)},es.all oy=true→es=(IA es).map kI
 |[],_=>rfl
 |e::es,h=>by simp only[e5,F2]at h;have h2:=CY h.2;show e::es=kI (toI (nth .undef e 0))::(IA es).map kI;rw[←dA h.1,←h2]
theorem dB {l:List Int} (h:l.length≤1000000):oA (l.map kI)=true:=by
 unfold oA;rw[qY,F2];refine⟨List.all_eq_true.2 fun e he=>?_,Nat.ble_eq_true_of_le h⟩;obtain⟨z,_,rfl⟩:=cg.1 he;rfl
theorem IB {k3 k4:Ck2} {m3 m4:Mk2} (h3:∀es al,k3 es al=true→es≠[]∧Vf CC 27 1 es al [] (m3 es al)) (h4:∀es al,k4 es al=true→es≠[]∧m4 es al≠[]∧Xd CC 28 [] (some (1,es)) al 1 (m4 es al)):
 EffOk (CL noK nmK noK nmK k3 m3 k4 m4):=
 xI (jR ⟨Jf Tryz.func92 (by simp[Tryz.f92]) (by decide) fun es al h=>by simp[noK]at h,
  Jf Tryz.func52 (by simp[Tryz.f52]) (by decide) fun es al h=>by simp[noK]at h,
  Jf Tryz.func27 (by simp[Tryz.f27]) (by decide) fun es al h=>⟨(h3 es al h).1,Hr (C:=CC) rfl rfl (h3 es al h).2⟩,
  MO Tryz.func28 (by simp[Tryz.f28]) (by decide) fun es al h=>⟨(h4 es al h).1,(h4 es al h).2.1,Xf (C:=CC) rfl rfl (h4 es al h).2.2⟩,
  trivial⟩)
noncomputable abbrev CL0:Cx:=CL noK nmK noK nmK noK nmK noK nmK
instance:EffOk CL0:=IB (fun _ _ h=>by simp[noK]at h) (fun _ _ h=>by simp[noK]at h)
def cpI0 (l:List Int) (_ ds:List D):Prop:=∃k:Nat,1≤k∧k≤l.length∧ds=[.int .i64 (k:Int),.sl (l.map kI)]∧∀a,l[k-1]? =some a→Rh l=l.take k++G2 a (l.drop k)
def cpI1 (l:List Int) (gs ds:List D):Prop:=∃j w:Nat,∃E:List Int,ds=[.int .i64 (j:Int),.int .i64 (w:Int),.sl (E.map kI)]∧1≤j∧gK gs+j≤l.length∧gK gs≤w∧w+1≤gK gs+j∧E.length=l.length∧
 E.drop (gK gs+j-1)=l.drop (gK gs+j-1)∧∀a,l[gK gs+j-1]? =some a→Rh l=E.take w++G2 a (l.drop (gK gs+j))
theorem VM {l:List Int} {k:Nat} (h:k<l.length):cut (nth [] (l.map kI) k) 0 1 [.int .i64 l[k]]:=by
 rw[y7 kI h];exact⟨rfl,by show 0+1≤1;omega⟩
theorem mo {l:List Int} {k:Nat} (h:k<l.length) (z:Int):upd (l.map kI) k (upd (nth [] (l.map kI) k) 0 (.int .i64 z))=(l.set k z).map kI:=by
 rw[y7 kI h,xm,List.map_set];rfl
theorem CZ {l:List Int} (hne:l≠[]) (hn:l.length≤1000000):Xd CC 28 [] (some (1,l.map kI)) [] 1 ((Rh l).map kI):=by
 refine Xf (C:=CL0) rfl rfl (aE (C:=CL0) mixedT Tryz.func28 ((Rf (qe CL0) (cpI0 l) (zP 10000000) (cpI1 l) (zP 10000000) ..).mpr ?_));have hl0:0<l.length:=List.length_pos_iff.2 hne;have al:∀m:List Int,m≠[]→m.map kI≠[]:=fun m h e=>h (b4.1 e)
 rw[qY];refine brd (fun h=>?_) (fun h=>?_)
 ·have:l.length=1:=by simp only[ba]at h;omega
  obtain⟨a,rfl⟩:=c4.1 this;exact⟨al _ hne,rfl,rfl⟩
 ·have h2:2≤l.length:=by simp only[ba]at h;omega
  refine⟨⟨1,ft _,by omega,rfl,fun a ha=>?_⟩,?_⟩
  ·cases l with
   |nil=>simp at hl0
   |cons b r=>have ha:(b::r)[0]? =some a:=ha;simp only[List.getElem?_cons_zero,g0]at ha;subst ha;rfl
  rintro _ _ ⟨k,hk1,hk,he,a4⟩;simp only[eH,J4,J7,and_true,true_and]at he;obtain⟨rfl,rfl⟩:=he;rw[qY];have a7:k-1<l.length:=by omega
  have a4:=a4 _ (bd a7);refine brd (fun h3=>?_) (fun h3=>?_)
  ·have a5:k<l.length:=by simp only[ba]at h3;omega
   have w1:Lv .i64 ((k:Int)-1)=((k-1:Nat):Int):=by rw[wI];omega
   rw[w1];simp only[ba,bb];refine⟨⟨by omega,by omega⟩,_,VM a5,⟨by omega,by omega⟩,_,VM a7,?_⟩;rw[bw a5]at a4;refine brb (fun h4=>?_) (fun h4=>?_)
   ·have h4:l[k]=l[k-1]:=by simpa using h4
    rw[G2,if_pos h4]at a4;refine⟨⟨by omega,by omega,by omega⟩,⟨1,k,l,rfl,ft _,by show k+1≤_;omega,ft _,ft _,rfl,rfl,fun a ha=>?_⟩,?_⟩
    ·have ha:l[k+1-1]? =some a:=ha;rw[gm,bd a5]at ha;obtain rfl:=g3 ha;exact a4
    rintro _ _ _ ⟨j,w,E,he,hj1,b1,ag,b3,ap,ad,a3⟩;simp only[eH,J4,J7,and_true,true_and]at he;obtain⟨rfl,rfl,rfl⟩:=he;have b1:k+j≤l.length:=b1;have ag:k≤w:=ag;have b3:w+1≤k+j:=b3;have ad:E.drop (k+j-1)=l.drop (k+j-1):=ad;have hq:k+j-1<l.length:=by omega
    have a3:Rh l=E.take w++G2 l[k+j-1] (l.drop (k+j)):=a3 _ (bd hq);have a9:∀i,∀hi:i<l.length,k+j-1≤i→E[i]'(by omega)=l[i]:=by
     intro i hi hle;have h1:(E.drop (k+j-1))[i-(k+j-1)]? =(l.drop (k+j-1))[i-(k+j-1)]? :=by rw[ad]
     rw[dk,dk,show k+j-1+(i-(k+j-1))=i by omega,bd hi,bd (by omega:i<E.length)]at h1;exact g3 h1
    have wj1:Lv .i64 ((j:Int)-1)=((j-1:Nat):Int):=by rw[wI];omega
    rw[wj1];simp only[bb,qY];refine brd (fun h5=>?_) (fun h5=>?_)
    ·have a8:k+j<l.length:=by omega
     have c1:=VM (l:=E) (k:=k+j) (by omega);have c2:=VM (l:=E) (k:=k+(j-1)) (by omega);have e1:E[k+j]'(by omega)=l[k+j]:=a9 _ a8 (by omega);have e2:E[k+(j-1)]'(by omega)=l[k+j-1]:=by have:=a9 (k+j-1) hq (ft _);simp only[show k+(j-1)=k+j-1 by omega];exact this
     rw[e1]at c1;rw[e2]at c2;rw[bw a8]at a3;refine⟨⟨by omega,by omega⟩,_,c1,⟨by omega,by omega⟩,_,c2,?_⟩;have wj:Lv .i64 ((j:Int)+1)=((j+1:Nat):Int):=by rw[wI];rfl
     have ww:Lv .i64 ((w:Int)+1)=((w+1:Nat):Int):=by rw[wI];rfl
     have an:∀r s,zP 10000000 (.int .i64 (Lv .i64 ((j:Int)+1))::r)<zP 10000000 (.int .i64 (j:Int)::s):=fun r s=>qt
     have d1:∀F:List Int,F.drop (k+j)=l.drop (k+j)→F.drop (k+(j+1)-1)=l.drop (k+(j+1)-1):=fun F h=>by rw[show k+(j+1)-1=k+j by omega];exact h
     have a6:E.drop (k+j)=l.drop (k+j):=by have:=congrArg (be 1) ad;rw[cc,cc,show k+j-1+1=k+j by omega]at this;exact this
     refine brb (fun h6=>?_) (fun h6=>?_)
     ·have h6:l[k+j]≠l[k+j-1]:=by simpa using h6
      rw[G2,if_neg h6]at a3;have b2:w<E.length:=by omega
      refine⟨⟨by omega,by omega⟩,_,c1,⟨by omega,by omega⟩,by omega,?_,?_⟩
      ·rw[mo b2];refine⟨j+1,w+1,E.set w l[k+j],by rw[wj,ww],by omega,by show k+(j+1)≤_;omega,by show k≤w+1;omega,by show w+1+1≤k+(j+1);omega,by rw[ed,ap],?_,?_⟩
       ·exact d1 _ (by rw[List.drop_set,if_pos (by omega)];exact a6)
       ·intro a ha;have ha:l[k+(j+1)-1]? =some a:=ha;rw[show k+(j+1)-1=k+j by omega,bd a8]at ha;obtain rfl:=g3 ha;show Rh l=(E.set w l[k+j]).take (w+1)++G2 l[k+j] (l.drop (k+(j+1)));rw[bm (by rw[ed];exact b2),List.take_set_of_le (ft _),List.getElem_set_self,cp];exact a3
      ·exact an _ _
     ·have h6:l[k+j]=l[k+j-1]:=by simpa using h6
      rw[G2,if_pos h6]at a3;refine⟨⟨j+1,w,E,by rw[wj],by omega,by show k+(j+1)≤_;omega,ag,by show w+1≤k+(j+1);omega,ap,d1 _ a6,?_⟩,an _ _⟩;intro a ha;have ha:l[k+(j+1)-1]? =some a:=ha;rw[show k+(j+1)-1=k+j by omega,bd a8]at ha;obtain rfl:=g3 ha;exact a3
    ·have a8:k+j=l.length:=by omega
     have a3:Rh l=E.take w:=by rw[a3,c5 (by omega),G2,bv]
     have ht:bc w (bc w (E.map kI)++(cb (E.length-w) [J3 .i64 0]++be (w+(E.length-w)) (E.map kI)))=(E.take w).map kI:=by rw[List.take_append_of_le_length (by rw[b7,qY];omega),List.take_take,Nat.min_self,ez]
     rw[ht];refine⟨⟨by omega,by omega,by omega⟩,by omega,⟨by omega,?_⟩,?_,trivial,?_⟩
     ·simp only[dc,b7,List.length_replicate,b9,qY];omega
     ·refine al _ fun e=>?_
      have:=congrArg bs e;rw[b7,List.length_nil]at this;omega
     ·rw[a3]
   ·have h4:¬l[k]=l[k-1]:=by simpa using h4
    rw[G2,if_neg h4]at a4;refine⟨⟨k+1,by omega,by omega,by rw[wI];rfl,fun a ha=>?_⟩,qt⟩;have ha:l[k+1-1]? =some a:=ha;rw[gm,bd a5]at ha;obtain rfl:=g3 ha;rw[a4,bm a5,cp];rfl
  ·have a5:k=l.length:=by simp only[ba]at h3;omega
   refine⟨al _ hne,rfl,?_⟩;rw[a4,c5 (by omega),b6 (by omega),G2,bv]
def k3R:Ck2:=fun es al=>ug es&&(oA es&&al.isEmpty)
def m3R:Mk2:=fun es _=>(XH (IA es)).map kI
def k4R:Ck2:=k3R
def m4R:Mk2:=fun es _=>(Rh (IA es)).map kI
theorem O2 {α:Type} {l:List α}:ug l=true↔l≠[]:=by cases l<;>simp[ug]
theorem IC {es:List (List D)} {al:List A} (h:k3R es al=true):al=[]∧∃l:List Int,l≠[]∧l.length≤1000000∧es=l.map kI:=by
 unfold k3R oA at h;simp only[F2,O2,List.isEmpty_iff]at h;obtain⟨h1,⟨h2,h3⟩,h4⟩:=h;have h2:=CY h2;refine⟨h4,IA es,fun e=>?_,?_,h2⟩
 ·rw[e]at h2;exact h1 h2
 ·have h3:=Nat.le_of_ble_eq_true h3;unfold IA;rw[b5];exact h3
noncomputable abbrev CLR:Cx:=CL noK nmK noK nmK k3R m3R k4R m4R
instance:EffOk CLR:=IB
 (fun es al h=>by
  obtain⟨rfl,l,hne,hn,rfl⟩:=IC h;refine⟨fun e=>hne (b4.1 e),?_⟩;unfold m3R;rw[Wm];exact dy l)
 (fun es al h=>by
  obtain⟨rfl,l,hne,hn,rfl⟩:=IC h;refine⟨fun e=>hne (b4.1 e),fun e=>?_,?_⟩
  ·unfold m4R at e;rw[Wm]at e;exact dz hne (b4.1 e)
  ·unfold m4R;rw[Wm];exact CZ hne hn)
def lpI (fs:List Ft) (_ ds:List D):Prop:=∃k:Nat,k≤fs.length∧ds=[.int .i64 (k:Int),.sl (((fs.take k).map J8).map kI)]
theorem Ri {t:Int} {fs:List Ft} (hn:fs.length≤1000000):qe CC 9 [ftA t fs] [.c (.sl ((Mn (fs.map J8)).map kI))]:=by
 by_cases hne:fs=[]
 ·subst hne;have hv:=Rg (qe CC) (fun _ ds=>ds=[.int .i64 0,.sl []]) (zP 10) t (· =[.c (.sl [])]);refine gOk Tryz.func9 hv ?_;clear hv;refine⟨rfl,?_⟩;rintro _ _ he;simp only[eH,J4,J7,and_true,true_and]at he;obtain⟨rfl,rfl⟩:=he;refine brd (fun h=>by omega) (fun _=>⟨Re,_,?_,rfl⟩);have hv:=Mp (qe CC) [] (· =[.c (.sl [])]);exact gOk Tryz.func28 hv rfl
 ·refine jT (C:=CLR) rfl rfl (qw (C:=CLR) mixedT Tryz.func9 ((CW (qe CLR) (lpI fs) (zP 10000000) ..).mpr ?_));refine⟨⟨0,fx _,rfl⟩,?_⟩;rintro _ _ ⟨k,hk,he⟩;simp only[eH,J4,J7,and_true,true_and]at he;obtain⟨rfl,rfl⟩:=he;rw[qY];refine brd (fun h=>?_) (fun h=>?_)
  ·have a3:k<fs.length:=by simp only[ba]at h;omega
   have ok:=vW zk a3;refine⟨ok,_,_,_,_,y8 zk a3,⟨by unfold Eng.room;rw[qY,b5,b7];omega,fun e he=>by rw[cL.1 he];rfl⟩,⟨k+1,a3,?_⟩,qt⟩;rw[wI,bm a3,c3,c3];rfl
  ·have a3:k=fs.length:=by simp only[ba]at h;omega
   rw[a3,b8];obtain⟨l,hl⟩:∃l,fs.map J8=l:=⟨_,rfl⟩;have hll:l.length≤1000000:=by rw[←hl,b5];exact hn
   have a4:l≠[]:=fun e=>hne (b4.1 (hl.trans e))
   rw[hl];have hk:∀m:List Int,m≠[]→m.length≤1000000→k3R (m.map kI) []=true:=fun m h1 h2=>by unfold k3R;rw[dB h2,O2.2 (fun e=>h1 (b4.1 e))];rfl
   have hm:m3R (l.map kI) []=(XH l).map kI:=by unfold m3R;rw[Wm]
   have hm4:m4R ((XH l).map kI) []=(Mn l).map kI:=by unfold m4R;rw[Wm,mn]
   have a5:=UQ l;rw[hm,hm4];refine⟨hk l a4 hll,hk _ (fun e=>?_) (by omega),rfl⟩;rw[e]at a5;exact a4 (List.eq_nil_of_length_eq_zero a5.symm)
end Eng
end
section
open Go Go.Proofs Eng
namespace Eng
section
variable (Gv:Nat→List A→List A→Prop) (I0:List D→List D→Prop) (M0:List D→Nat) (I1:List D→List D→Prop) (M1:List D→Nat) (I2:List D→List D→Prop) (M2:List D→Nat) (I3:List D→List D→Prop) (M3:List D→Nat) (Q:List A→Prop)
theorem Ak (l0:List (List D)) (s0:List UInt8) (Q:List A→Prop):wpF CC Gv (fun _=>⟨[.slot 8 (.int .i64 0)],[],I0,M0⟩) Tryz.f54 [.c (.sl l0),.c (.clo 55 [.ptr [.str s0]])] Q=(I0 [] [dI (0:Int)]∧∀(i:Int),I0 [] [dI i]→bB (decide (i<(W2 l0.length))) (rO l0 i 4∧∃s i_1 i_2 es,cU l0 i 0 4 [Hy s,dI i_1,dI i_2,Hx es]∧∃b,Gv 55 [Hu [Hy s,dI i_1,dI i_2,Hx es],Hv (D.ptr [Hy s0])] [aB b]∧br b (Q [aI i]) (I0 [] [dI (Lv .i64 (i+1))]∧M0 [dI (Lv .i64 (i+1))]<M0 [dI i])) (Q [aI (-1:Int)])):=by kernel_rfl
theorem Da (s0:List UInt8) (k0:Int) (d0:Int) (l0:List (List D)) (s1:List UInt8) (Q:List A→Prop):wpF CC Gv an0 Tryz.f55 [.ag [.str s0,.int .i64 k0,.int .i64 d0,.sl l0],.c (.ptr [.str s1])] Q=(∃s,cut [Hy s1] 0 1 [Hy s]∧Q [aB (s0==s)]):=by kernel_rfl
theorem dC (l0:List (List D)) (l1:List (List D)):wpF CC Gv (fun _=>⟨[.slot 17 (.int .i64 0)],[],I0,M0⟩) Tryz.f30 [.c (.sl l0),.c (.sl l1),.c (.fn 31)] Q=(bB ((W2 l0.length) !=(W2 l1.length)) (Q [aB false]) (I0 [] [dI (0:Int)]∧∀(i:Int),I0 [] [dI i]→bB (decide (i<(W2 l0.length))) (rO l0 i 4∧∃s i_1 i_2 es,cU l0 i 0 4 [Hy s,dI i_1,dI i_2,Hx es]∧rO l1 i 4∧∃s1 i_3 i_4 e1,cU l1 i 0 4 [Hy s1,dI i_3,dI i_4,Hx e1]∧∃b,Gv 31 [Hu [Hy s,dI i_1,dI i_2,Hx es],Hu [Hy s1,dI i_3,dI i_4,Hx e1]] [aB b]∧bB (!b) (Q [aB false]) (I0 [] [dI (Lv .i64 (i+1))]∧M0 [dI (Lv .i64 (i+1))]<M0 [dI i])) (Q [aB true]))):=by kernel_rfl
theorem dD (s0:List UInt8) (k0:Int) (d0:Int) (l0:List (List D)) (s1:List UInt8) (k1:Int) (d1:Int) (l1:List (List D)):wpF CC Gv an0 Tryz.f31 [.ag [.str s0,.int .i64 k0,.int .i64 d0,.sl l0],.ag [.str s1,.int .i64 k1,.int .i64 d1,.sl l1]] Q=(bB (s0==s1) (bB (k0==k1) (bB (d0==d1) (∃b,Gv 32 [Hu [Hx l0],Hu [Hx l1]] [aB b]∧Q [aB b]) (Q [aB false])) (Q [aB false])) (Q [aB false])):=by kernel_rfl
theorem Db (l0:List (List D)) (l1:List (List D)):wpF CC Gv an0 Tryz.f32 [.ag [.sl l0],.ag [.sl l1]] Q=(∃b,Gv 56 [aL l0,aL l1,Hv (D.fn 57)] [aB b]∧Q [aB b]):=by kernel_rfl
theorem dE (l0:List (List D)) (l1:List (List D)):wpF CC Gv (fun _=>⟨[.slot 17 (.int .i64 0)],[],I0,M0⟩) Tryz.f56 [.c (.sl l0),.c (.sl l1),.c (.fn 57)] Q=(bB ((W2 l0.length) !=(W2 l1.length)) (Q [aB false]) (I0 [] [dI (0:Int)]∧∀(i:Int),I0 [] [dI i]→bB (decide (i<(W2 l0.length))) (rO l0 i 66∧∃x,cU l0 i 0 66 (ck x [])∧rO l1 i 66∧∃x1,cU l1 i 0 66 (ck x1 [])∧∃b,Gv 57 [aC x,aC x1] [aB b]∧bB (!b) (Q [aB false]) (I0 [] [dI (Lv .i64 (i+1))]∧M0 [dI (Lv .i64 (i+1))]<M0 [dI i])) (Q [aB true]))):=by kernel_rfl
theorem Rj (l0:List (List D)) (s0:List UInt8) (Q:List A→Prop):wpF CC Gv (fun _=>⟨[.slot 64 (.int .i64 0)],[],I0,M0⟩) Tryz.f3 [.c (.sl l0),.c (.str s0)] Q=(∃i es b,Gv 6 [aL l0] [Hu [dI i,Hx es],aB b]∧∃b1,Gv 7 [] [aB b1]∧bB (!b1) (∃b,Gv 7 [] [aB b]∧Q [aB b]) (bB (!b) (∃b,Gv 7 [] [aB b]∧Q [aB b]) (∃i_1,Gv 8 [Hu [dI i,Hx es]] [aI i_1]∧bB (i_1 !=0) (∃b,Gv 7 [] [aB b]∧Q [aB b]) (∃e1,Gv 9 [Hu [dI i,Hx es]] [aL e1]∧∃e2,Gv 10 [Hu [dI i,Hx es]] [aL e2]∧∃i_2 i_3,Gv 11 [Hu [dI i,Hx es],Hv (Hy s0)] [aI i_2,aI i_3]∧∃i_4 i_5,Gv 12 [Hu [dI i,Hx es],Hv (Hy s0)] [aI i_4,aI i_5]∧bB ((W2 e1.length) !=(W2 e2.length)) (Q [aB false]) (bB (i_2 !=i_4) (Q [aB false]) (bB (i_3 !=i_5) (Q [aB false]) (I0 [] [dI (0:Int)]∧∀(i:Int),I0 [] [dI i]→bB (decide (i<(W2 e1.length))) (rO e1 i 1∧∃i_6,cU e1 i 0 1 [dI i_6]∧rO e2 i 1∧∃i_7,cU e2 i 0 1 [dI i_7]∧bB (i_6 !=i_7) (Q [aB false]) (I0 [] [dI (Lv .i64 (i+1))]∧M0 [dI (Lv .i64 (i+1))]<M0 [dI i])) (Q [aB true])))))))):=by kernel_rfl
theorem Dc (l0:List (List D)) (l1:List (List D)) (b0:Bool):wpF CC Gv an0 Tryz.f4 [.c (.sl l0),.c (.sl l1),.c (.bool b0)] Q=(∃i es b,Gv 6 [aL l0] [Hu [dI i,Hx es],aB b]∧∃i_1 e1 b1,Gv 6 [aL l1] [Hu [dI i_1,Hx e1],aB b1]∧∃b2,Gv 7 [] [aB b2]∧bB (!b2) (∃b,Gv 7 [] [aB b]∧Q [aB b]) (bB (!b) (∃b,Gv 7 [] [aB b]∧Q [aB b]) (bB (!b1) (∃b,Gv 7 [] [aB b]∧Q [aB b]) (br b0 (∃b,Gv 13 [Hu [dI i,Hx es],Hu [dI i,Hx es]] [aB b]∧∃b3,Gv 14 [Hu [dI i,Hx es],Hu [dI i,Hx es]] [aB b3]∧bB (b==b3) (∃b,Gv 13 [Hu [dI i,Hx es],Hu [dI i,Hx es]] [aB b]∧Q [aB b]) (Q [aB false])) (∃b,Gv 13 [Hu [dI i,Hx es],Hu [dI i_1,Hx e1]] [aB b]∧∃b3,Gv 14 [Hu [dI i,Hx es],Hu [dI i_1,Hx e1]] [aB b3]∧bB (b==b3) (∃b,Gv 13 [Hu [dI i,Hx es],Hu [dI i,Hx es]] [aB b]∧Q [aB b]) (Q [aB false])))))):=by kernel_rfl
end
end Eng
end
section
namespace Eng
open Go Go.Proofs Rl
set_option maxRecDepth 100000
def dF (fs:List Ft) (s:List UInt8):Int:=match Mi fs s with
 |some k=>(k:Int)
 |none=> -1
theorem De {f:Ft} {s:List UInt8}:qe CC 55 [.ag (kFt f),.c (.ptr [.str s])] [.c (.bool (f.nm==s))]:=by
 have hv:=Da (qe CC) f.nm f.kd f.dp (kUs f.sh) s (· =[.c (.bool (f.nm==s))]);refine gOk Tryz.func55 hv ?_;exact⟨s,⟨rfl,by show 0+1≤1;omega⟩,rfl⟩
theorem Al {fs:List Ft} {s:List UInt8} (hn:fs.length≤1000000):qe CC 54 [.c (.sl (fs.map kFt)),.c (.clo 55 [.ptr [.str s]])] [.c (.int .i64 (dF fs s))]:=by
 have hv:=Ak (qe CC) (fdI fs s) (zP 10000000) (fs.map kFt) s (· =[.c (.int .i64 (dF fs s))]);refine gOk Tryz.func54 hv ?_;clear hv;rw[qY];refine⟨⟨0,fx _,rfl,by simp⟩,?_⟩;rintro _ ⟨k,hk,he,a4⟩;simp only[eH,J4,and_true,true_and]at he;subst he;refine brd (fun h4=>?_) (fun h4=>?_)
 ·have a3:k<fs.length:=by simp only[ba]at h4;omega
  have ok:=vW zk a3;refine⟨ok,_,_,_,_,y8 zk a3,_,De (f:=fs[k]) (s:=s),zQ (fun h8=>?_) (fun h8=>?_)⟩
  ·have h8:fs[k].nm=s:=by simpa using h8
   unfold dF;rw[VI a3 a4 h8]
  ·have h8:¬fs[k].nm=s:=by simpa using h8
   refine⟨⟨k+1,a3,by rw[wI];rfl,fun f hf=>?_⟩,qt⟩;rw[bm a3]at hf;rcases eb.1 hf with hf|hf
   ·exact a4 f hf
   ·rw[cL.1 hf];exact h8
 ·have a3:k=fs.length:=by simp only[ba]at h4;omega
  rw[a3,b8]at a4;unfold dF;rw[VJ a4]
theorem Am {t:Int} {fs:List Ft} {s:List UInt8} (hn:fs.length≤1000000):qe CC 29 [ftA t fs,.c (.str s)] [.c (.int .i64 (dF fs s))]:=by
 have hv:=Ac (qe CC) t (fs.map kFt) s (· =[.c (.int .i64 (dF fs s))]);exact gOk Tryz.func29 hv ⟨_,Al hn,rfl⟩
theorem An {t:Int} {fs:List Ft} {s:List UInt8} (hn:fs.length≤1000000):qe CC 11 [ftA t fs,.c (.str s)] (FW fs s):=by
 have hv:=Ab (qe CC) t (fs.map kFt) s (· =FW fs s);refine gOk Tryz.func11 hv ⟨_,Am hn,?_⟩;clear hv;unfold dF FW;cases Mi fs s with
 |some k=>refine brd (fun _=>rfl) (fun h=>?_);simp only at h;omega
 |none=>refine brd (fun h=>?_) (fun _=>rfl);simp only at h;omega
theorem brn {b:Bool} {X Y:Prop} (h1:b=false→X) (h2:b=true→Y):br (toB (D.bool !b)) X Y:=by
 cases b
 ·exact h1 rfl
 ·exact h2 rfl
def lvlI (v:List Int) (_ ds:List D):Prop:=∃k:Nat,k≤v.length∧ds=[.int .i64 (k:Int)]
theorem Rk (hA:qe CC 7 [] [.c (.bool true)]) {l:List It} (h:∀i∈l,i.ok) (hn:l.length≤3999999999999) {s:List UInt8}:qe CC 3 [.c (.sl (l.map kIt)),.c (.str s)] [.c (.bool true)]:=by
 have hb:=Wf h hn;have hv:=Rj (qe CC) (lvlI (Mn ((l.map itF).map J8))) (zP 10000000) (l.map kIt) s (· =[.c (.bool true)]);refine gOk Tryz.func3 hv ?_;clear hv;unfold We at hb;by_cases hg:l.all (Wd l.length)=true
 ·rw[if_pos hg]at hb;refine⟨_,_,_,hb,true,hA,brn (fun h=>by cases h) fun _=>brn (fun _=>⟨true,hA,rfl⟩) fun h4=>?_⟩;have h4:l.length≤4:=of_decide_eq_true h4;have he:(l.map fun i=>kFt (itF i))=(l.map itF).map kFt:=by rw[e7];rfl
  rw[he];generalize hfs:l.map itF=fs;have hok:∀f∈fs,f.ok:=fun f hf=>by rw[←hfs]at hf;obtain⟨i,hi,rfl⟩:=cg.1 hf;exact I4 (h i hi)
  have hfl:fs.length≤4:=by rw[←hfs,b5];exact h4
  refine⟨_,Mh hok,brb (fun _=>⟨true,hA,rfl⟩) fun _=>⟨_,Ri (by omega),_,UP (by omega),?_⟩⟩;have hlv:(Mn (fs.map J8)).length≤4:=by have:=G0 (fs.map J8) (fs.map J8).length (ft _);unfold Ox at this;rw[b8,b5]at this;omega
  generalize Mn (fs.map J8)=v at hlv ⊢;have hf:∃a b:Int,FW fs s=[.c (.int .i64 a),.c (.int .i64 b)]:=by unfold FW;split<;>exact⟨_,_,rfl⟩
  obtain⟨a,b,hab⟩:=hf;have e1:=An (t:=12) (s:=s) (fs:=fs) (by omega);have e2:=Rd (t:=12) (s:=s) (fs:=fs) (by omega);rw[hab]at e1 e2;refine⟨a,b,e1,a,b,e2,brb (fun h=>by simp at h) fun _=>brb (fun h=>by simp at h) fun _=>brb (fun h=>by simp at h) fun _=>⟨⟨0,fx _,rfl⟩,?_⟩⟩;rintro _ ⟨k,hk,he⟩;simp only[eH,J4,and_true]at he;obtain⟨-,rfl⟩:=he;rw[qY];refine brd (fun h=>?_) (fun _=>rfl);have a3:k<v.length:=by simp only[ba]at h;omega
  have ok:=vW CP a3;refine⟨ok,_,by rw[cU,bb];exact VM a3,ok,_,by rw[cU,bb];exact VM a3,brb (fun h=>by simp at h) fun _=>⟨⟨k+1,a3,by rw[wI];rfl⟩,qt⟩⟩
 ·rw[if_neg hg]at hb;exact⟨_,_,_,hb,true,hA,brn (fun h=>by cases h) fun _=>brn (fun _=>⟨true,hA,rfl⟩) fun h=>by cases h⟩
end Eng
end
section
namespace Eng
open Go Go.RowKit Go.ChangeShapes Go.WideShapes Go.Deep
inductive CT where
 |int (k:IntKind)
 |bool
 |str
 |sl (es:List CT)
def XJ (f:TypeId→Option (List CT)) (P:Program):List Field→Nat→Option (List CT)
 |[],_=>some []
 |x::r,off=>match f x.type with
  |some T=>match fz x.offset off&&fz (P.cellsOf x.type) T.length with
   |true=>match XJ f P r (off+T.length)with
    |some R=>some (T++R)
    |none=>none
   |false=>none
  |none=>none
def oG:Nat→List CT→List CT
 |0,_=>[]
 |n+1,T=>T++oG n T
def zI (P:Program):Nat→TypeId→Option (List CT)
 |0,_=>none
 |m+1,t=>match P.underlying t with
  |some (.int k)=>some [.int k]
  |some .bool=>some [.bool]
  |some .string=>some [.str]
  |some (.struct fs)=>match XJ (zI P m) P fs.toList 0 with
   |some T=>match fz (P.cellsOf t) T.length with
    |true=>some T
    |false=>none
   |none=>none
  |some (.array n e)=>match zI P m e with
   |some T=>match fz (P.cellsOf e) T.length&&fz (P.cellsOf t) (n*T.length)with
    |true=>some (oG n T)
    |false=>none
   |none=>none
  |some (.slice e)=>match zI P m e with
   |some T=>match fz (P.cellsOf e) T.length&&Nat.blt 0 T.length with
    |true=>some [.sl T]
    |false=>none
   |none=>none
  |_=>none
mutual
def Th:CT→D→Prop
 | .int k,d=>∃n,d= .int k n∧(Lit.int k n).wf=true
 | .bool,d=>∃b,d= .bool b
 | .str,d=>∃s,d= .str s∧s.length≤maxLen
 | .sl T,d=>∃es:List (List D),d= .sl es∧es.length≤maxLen∧∀r∈es,vY T r
def vY:List CT→List D→Prop
 |[],ds=>ds=[]
 |T::Ts,ds=>∃d r,ds=d::r∧Th T d∧vY Ts r
end
theorem QB:∀{T:List CT} {ds:List D},vY T ds→ds.length=T.length
 |[],ds,h=>by simp only[vY]at h;rw[h];rfl
 |_::T,ds,h=>by simp only[vY]at h;obtain⟨d,r,rfl,_,h2⟩:=h;simp[QB h2]
theorem QC:∀{T R:List CT} {ds es:List D},vY T ds→vY R es→vY (T++R) (ds++es)
 |[],R,ds,es,h,h'=>by simp only[vY]at h;rw[h];exact h'
 |_::T,R,ds,es,h,h'=>by simp only[vY]at h;obtain⟨d,r,rfl,h1,h2⟩:=h;show vY (_::(T++R)) (d::(r++es));rw[vY];exact⟨d,r++es,rfl,h1,QC h2 h'⟩
theorem VO {size:Nat} (hs:0<size):∀{es:List (List D)},(∀r∈es,r.length=size)→∀j,j<es.length*size→nth .undef es.flatten j=nth .undef (nth [] es (j/size)) (j%size)
 |[],_,j,h=>by simp at h
 |r::es,hr,j,h=>by
  have hl:=hr r (by simp);rw[ea];by_cases hj:j<size
  ·rw[Nat.div_eq_of_lt hj,Nat.mod_eq_of_lt hj];rw[qF,qF,List.getElem?_append_left (by omega)];rfl
  ·have h2:=VO hs (es:=es) (fun r hr'=>hr r (by simp[hr'])) (j-size) (by
    rw[cv,ga,fS]at h;omega)
   have e1:j/size=(j-size)/size+1:=by rw[←Nat.div_eq_sub_div hs (by omega)]
   have e2:j%size=(j-size)%size:=Nat.mod_eq_sub_mod (by omega);rw[e1,e2];show _=nth .undef (nth [] es ((j-size)/size)) ((j-size)%size);rw[←h2,qF,qF,List.getElem?_append_right (by omega),hl]
section
variable {H:Type} {enc:TypeId×Value→H} {P:Program} {w:World} {base:Nat} {spare:Nat→Bool} {held:Bool}
theorem Wq {f:TypeId→Option (List CT)} {F:Nat→Prop} {n:Nat} {cs:List Value}
 (hf:∀t T us x,f t=some T→Lr enc P w base spare held n t us=some x→∃ds,All2 (CD w F) ds us∧vY T ds):
 ∀(fs:List Field) (off:Nat) (T:List CT),XJ f P fs off=some T→(∀x∈fs,∃y,Lr enc P w base spare held n x.type ((cs.drop x.offset).take (P.cellsOf x.type))=some y)→
  ∃ds,All2 (CD w F) ds ((cs.drop off).take T.length)∧vY T ds
 |[],off,T,h,_=>by simp only[XJ,g0]at h;subst h;exact⟨[],by simp[All2],by simp[vY]⟩
 |x::fs,off,T,h,hy=>by
  simp only[XJ]at h;split at h
  ·rename_i T1 h1;split at h
   ·rename_i hb;rw[F2]at hb;have e1:=fg hb.1;have e2:=fg hb.2;split at h
    ·rename_i R hR;simp only[g0]at h;subst h;obtain⟨y,hy1⟩:=hy x (by simp);rw[e1,e2]at hy1;obtain⟨ds1,a1,b1⟩:=hf _ _ _ _ h1 hy1;obtain⟨ds2,a2,b2⟩:=Wq hf fs _ R hR (fun x hx=>hy x (by simp[hx]));refine⟨ds1++ds2,?_,QC b1 b2⟩;rw[dc,ey,cc];exact All2.append a1 a2
    ·simp at h
   ·simp at h
  ·simp at h
theorem Ql {R:D→Value→Prop} {T:List CT} {cs:List Value}:∀(n k:Nat),(∀i,i<n→∃ds,All2 R ds ((cs.drop ((k+i)*T.length)).take T.length)∧vY T ds)→
 ∃ds,All2 R ds ((cs.drop (k*T.length)).take (n*T.length))∧vY (oG n T) ds
 |0,k,_=>⟨[],by simp[All2],by simp[oG,vY]⟩
 |n+1,k,h=>by
  obtain⟨d1,a1,b1⟩:=h 0 (by omega);obtain⟨d2,a2,b2⟩:=Ql n (k+1) (fun i hi=>by
   have:=h (i+1) (by omega);rw[show k+(i+1)=k+1+i by omega]at this;exact this)
  refine⟨d1++d2,?_,QC b1 b2⟩;rw[show(n+1)*T.length=T.length+n*T.length by rw[ga,fS,Nat.add_comm],ey,cc];rw[gq]at a1;rw[ga,fS]at a2;exact All2.append a1 a2
theorem XK {F:Nat→Prop} (hF:∀b,b<w.heap.size→F b):∀(m:Nat) (t:TypeId) (T:List CT) (fuel:Nat) (cs:List Value) (x:DataW H×List MemPlace),zI P m t=some T→
 Lr enc P w base spare held fuel t cs=some x→∃ds,All2 (CD w F) ds cs∧vY T ds
 |0,_,_,_,_,_,h,_=>by simp[zI]at h
 |m+1,t,T,fuel,cs,x,h,ht=>by
  simp only[zI]at h;split at h
  ·rename_i k hu;simp only[g0]at h;subst h;obtain⟨n,rfl,_,hw⟩:=DataW.trod_int hu ht;exact⟨[.int k n],⟨.int _ _,trivial⟩,by simp only[vY,Th];exact⟨_,_,rfl,⟨n,rfl,hw⟩,rfl⟩⟩
  ·rename_i hu;simp only[g0]at h;subst h;obtain⟨b,rfl,_⟩:=DataW.trod_bool hu ht;exact⟨[.bool b],⟨.bool _,trivial⟩,by simp only[vY,Th];exact⟨_,_,rfl,⟨b,rfl⟩,rfl⟩⟩
  ·rename_i hu;simp only[g0]at h;subst h;obtain⟨s,rfl,_,hs⟩:=DataW.trod_string hu ht;refine⟨[.str s.data.toList],⟨.str _,trivial⟩,?_⟩;simp only[vY,Th];refine⟨_,_,rfl,⟨_,rfl,?_⟩,rfl⟩;have:s.data.toList.length=s.size:=by simp
   rw[this];exact hs
  ·rename_i fs hu;split at h
   ·rename_i T' hT;split at h
    ·rename_i hc;simp only[g0]at h;subst h;have hc:=fg hc;obtain⟨xs,n,_,_,ag,b1,hf⟩:=DataW.trod_struct hu ht;obtain⟨ds,h1,h2⟩:=Wq (cs:=cs) (n:=n) (F:=F) (fun t T us x h1 h2=>XK hF m t T n us x h1 h2) fs.toList 0 T' hT (fun f hf'=>by
      obtain⟨i,hi,rfl⟩:=List.mem_iff_getElem.1 hf';have:=hf i fs[i] (Bx (by simpa using hi));rw[bd (by rw[b1];simpa using hi)]at this;exact⟨_,this⟩)
     rw[en,b6 (by omega)]at h1;exact⟨ds,h1,h2⟩
    ·simp at h
   ·simp at h
  ·rename_i k e hu;split at h
   ·rename_i T' hT;split at h
    ·rename_i hc;simp only[g0]at h;subst h;rw[F2]at hc;have ad:=fg hc.1;have a6:=fg hc.2;obtain⟨xs,n,_,_,ag,b1,hf⟩:=DataW.trod_array hu ht;obtain⟨ds,h1,h2⟩:=Ql (R:=CD w F) (T:=T') (cs:=cs) k 0 (fun i hi=>by
      have:=hf i hi;rw[bd (by omega),ad]at this;rw[fR];exact XK hF m e T' n _ _ hT this)
     rw[gp,en,b6 (by omega)]at h1;exact⟨ds,h1,h2⟩
    ·simp at h
   ·simp at h
  ·rename_i e hu;split at h
   ·rename_i T' hT;split at h
    ·rename_i hc;simp only[g0]at h;subst h;rw[F2]at hc;have ad:=fg hc.1;have a6:=hc.2;rw[Nat.blt_eq]at a6;rcases open_slice hu ht with⟨rfl,_⟩|⟨a,a4,cap,k,n,Dd,Pl,rfl,_,hle,hcap,hk,_,hel⟩
     ·exact⟨[.sl []],⟨.nil _ _,trivial⟩,by simp only[vY,Th];exact⟨_,_,rfl,⟨[],rfl,by simp,by simp⟩,rfl⟩⟩
     ·by_cases hl0:a4=0
      ·subst hl0;exact⟨[.sl []],⟨.nil _ _,trivial⟩,by simp only[vY,Th];exact⟨_,_,rfl,⟨[],rfl,by simp,by simp⟩,rfl⟩⟩
      ·have hlk:a4≤k:=by rw[hk];split<;>omega
       have al:∀i,i<a4→∃ds,(∀j,j<T'.length→∃v,w.cell? (a.add (i*T'.length+j))=some v∧CD w F (nth .undef ds j) v)∧vY T' ds:=by intro i hi;obtain⟨us,h1,h2⟩:=hel i (by omega);obtain⟨ds,h3,h4⟩:=XK hF m e T' n us _ hT h2;refine⟨ds,fun j hj=>?_,h4⟩;rw[ad]at h1;obtain⟨_,hul,hc⟩:=World.cells?_some h1;have:=hc j hj;rw[add_add,bd (by omega)]at this;have h5:=All2.nth (.undef) undef ds us j h3 (by rw[QB h4];exact hj);rw[qo undef (show j<us.length by omega)]at h5;exact⟨_,this,h5⟩
       obtain⟨es,a9⟩:=choose_lt al;have an:a.spot=none:=by
        obtain⟨v,h1,_⟩:=(a9 0 (by omega)).1 0 a6;simp only[gp,gq,Addr.add,if_true]at h1;unfold World.cell? at h1;split at h1
        ·split at h1
         ·simp at h1
         ·rename_i hs;simpa using hs
        ·simp at h1
       obtain⟨b,o,sp⟩:=a;simp only at an;subst an;have a8:∀j,(⟨b,o,none⟩:Addr).add j=⟨b,o+j,none⟩:=by
        intro j;unfold Addr.add;by_cases hj:j=0
        ·subst hj;simp
        ·rw[if_neg hj]
       have hb:b<w.heap.size:=by
        obtain⟨v,h1,_⟩:=(a9 0 (by omega)).1 0 a6;rw[a8]at h1;unfold World.cell? at h1;split at h1
        ·rename_i hh;exact(Array.getElem?_eq_some_iff.1 hh).1
        ·simp at h1
       have a3:((ca a4).map es).length=a4:=by simp
       have a5:∀r∈(ca a4).map es,r.length=T'.length:=by intro r hr;simp only[cg,el]at hr;obtain⟨i,hi,rfl⟩:=hr;exact QB (a9 i hi).2
       have a7:∀j,j<a4*T'.length→∃v,w.cell? ⟨b,o+j,none⟩=some v∧CD w F (nth .undef ((ca a4).map es).flatten j) v:=by
        intro j hj;have hi:j/T'.length<a4:=by rw[Nat.div_lt_iff_lt_mul a6];exact hj
        obtain⟨v,h1,h2⟩:=(a9 _ hi).1 (j%T'.length) (Nat.mod_lt _ a6);rw[a8,Nat.mul_comm,Nat.div_add_mod]at h1;refine⟨v,h1,?_⟩;rw[VO a6 a5 j (by rw[a3];exact hj)];have:nth [] ((ca a4).map es) (j/T'.length)=es (j/T'.length):=by rw[qF];simp[hi]
        rw[this];exact h2
       obtain⟨vs,ap⟩:=choose_lt a7;refine⟨[.sl ((ca a4).map es)],⟨?_,trivial⟩,?_⟩
       ·have:=CD.sl (w:=w) (F:=F) ((ca a4).map es) b o cap T'.length vs (by rw[a3];exact hle) a5 (hF b hb) (fun j hj=>(ap j (by rw[a3]at hj;exact hj)).1) (fun j hj=>(ap j (by rw[a3]at hj;exact hj)).2);rw[a3]at this;exact this
       ·simp only[vY,Th];refine⟨_,_,rfl,⟨_,rfl,by rw[a3];omega,fun r hr=>?_⟩,rfl⟩;simp only[cg,el]at hr;obtain⟨i,hi,rfl⟩:=hr;exact(a9 i hi).2
    ·simp at h
   ·simp at h
  ·simp at h
end
end Eng
end
section
namespace Eng
open Go Go.RowKit Go.WideShapes Go.ChangeShapes
section
variable {H:Type} {enc:TypeId×Value→H} {P:Program}
theorem Qm {f:Func} {s:ChangeSpec} {apart fresh handsOn again:Bool} {W W':World} {args:Array Value} {v:Value} {ds gs:List (DataW H)} {before pa pv:List MemPlace}
 (hW:Lm enc P f.params.toList s.vars apart W args.toList ds gs before)
 (hres:∀(b:Nat) (sp:Nat→Bool) (hd:Bool),J9 enc P W' b sp hd f.resultTypes.toList (v.resultList f.resultTypes.size) (s.fn H (ds++gs)).results [])
 (hargs:∀sp:Nat→Bool,(∀p∈before,sp p.block=true)→J9 enc P W' 0 sp true f.params.toList args.toList (s.fn H (ds++gs)).args pa)
 (hvars:∀sp:Nat→Bool,(∀p∈before,sp p.block=true)→DataW.TrodVars enc P W' sp s.vars (s.fn H (ds++gs)).vars pv)
 (hps:before=pa++pv) (hb:Below W.heap.size W W')
 (hok:∀(j:Nat) (t:TypeId) (r:Value),f.resultTypes[j]? =some t→(v.resultList f.resultTypes.size)[j]? =some r→V1 P W' .any 0 t r):
 s.post enc P f apart fresh handsOn again W args v W':=by
 have a5:∀p∈before,p.block<W.heap.size:=fun p hp=>hW.lt p hp
 have a3:∀p∈before,(fun b=>decide (b<W.heap.size)) p.block=true:=fun p hp=>by simpa using a5 p hp
 refine⟨ds,gs,before,[],pa,pv,hW,hres _ _ _,hargs _ a3,hvars _ a3,World.keptBut_mono (fun p hp=>⟨hp,?_⟩) (hb.frame (· ∈before)),fun _=>?_⟩
 ·rw[hps,eb]at hp;exact Or.inr hp
 ·obtain⟨_,_,_,_,_,hz,hn⟩:=hW;refine⟨hok,_,_,([]++pa)++pv,⟨[]++pa,pv,trodAll_append (hargs _ (fun _ _=>rfl)) (hres _ _ _),hvars _ (fun _ _=>rfl),rfl,?_,?_⟩,?_⟩
  ·intro b a6 hp;have a4:MemPlace.cell b a6∈before:=by rw[hps];simpa using hp
   rw[hb.frozen (a5 _ a4)];exact hz b a6 a4
  ·intro ha;have:=hn ha;rw[hps]at this
   simpa using this
  ·intro p hp _;rw[hps]
   simpa using hp
theorem vN (hl:laidOutB P=true) {W W':World} (hb:Below W.heap.size W W') {sp:Nat→Bool}:∀{ts:List TypeId} {vs:List Value} {ds:List (DataW H)} {ps:List MemPlace},
 (∀t∈ts,P.readableRec t=true∧t<P.types.size)→J9 enc P W 0 (fun _=>true) true ts vs ds ps→(∀x∈ps,x.block<W.heap.size)→(∀x∈ps,sp x.block=true)→
 J9 enc P W' 0 sp true ts vs ds ps
 |[],[],[],_,_,h,_,_=>h
 |t::ts,v::vs,d::ds,_,ht,h,hlt,hsp=>by obtain⟨p,q,h1,h2,rfl⟩:=h;refine⟨p,q,?_,vN hl hb (fun t' h'=>ht t' (by simp[h'])) h2 (fun x hx=>hlt x (by simp[hx])) (fun x hx=>hsp x (by simp[hx])),rfl⟩;exact WideElems.Trod_stays hl (ht t (by simp)).1 (ht t (by simp)).2 h1 (fun x hx=>hb.same (hlt x (by simp[hx]))) (fun x hx=>hsp x (by simp[hx]))
 |[],[],_::_,_,_,h,_,_=>h.elim
 |[],_::_,_,_,_,h,_,_=>by cases ‹List (DataW H)› <;>exact h.elim
 |_::_,[],_,_,_,h,_,_=>by cases ‹List (DataW H)› <;>exact h.elim
 |_::_,_::_,[],_,_,h,_,_=>h.elim
def Dw (P:Program) (m:Nat) (t:TypeId) (a:A):Prop:=
 ∃T,zI P m t=some T∧((wV P t=true∧∃ds,a= .ag ds∧vY T ds)∨(wV P t=false∧∃d,a= .c d∧vY T [d]))
theorem UX {n:Nat} {e t:TypeId} {w:World} {r:Reach} {b:Nat} {v:Value} (ht:P.underlying t=some (.array n e)) (h:V1 P w r b t v):∃cs,v= .agg cs∧cs.size=P.cellsOf t:=by
 simp only[V1,ht]at h;obtain⟨cs,h1,h2,_⟩:=h;exact⟨cs,h1,h2⟩
theorem A6 {w:World} {F:Nat→Prop} (hF:∀b,b<w.heap.size→F b) {m base b0:Nat} {r:Reach} {sp:Nat→Bool} {held:Bool} {t:TypeId} {T:List CT} {v:Value} {d:DataW H} {p:List MemPlace}
 (hT:zI P m t=some T) (hv:V1 P w r b0 t v) (h:Ls enc P w base sp held t v d p):∃a,CA w F a v∧Dw P m t a:=by
 obtain⟨a4,hf⟩:=h;obtain⟨ds,h1,h2⟩:=XK hF m t T a4 _ _ hT hf;have a3:v.cells= #[v]→wV P t=false→∃a,CA w F a v∧Dw P m t a:=by intro hc ht;rw[hc]at h1;have hl:=h1.length;simp only[List.length_singleton]at hl;obtain⟨d0,rfl⟩:=c4.1 hl;exact⟨.c d0,h1.1,T,hT,.inr ⟨ht,d0,rfl,h2⟩⟩
 have ag:∀cs,v= .agg cs→wV P t=true→∃a,CA w F a v∧Dw P m t a:=by intro cs hc ht;subst hc;exact⟨.ag ds,⟨cs,rfl,h1⟩,T,hT,.inl ⟨ht,ds,rfl,h2⟩⟩
 cases m with
 |zero=>simp[zI]at hT
 |succ m=>
  simp only[zI]at hT;split at hT
  ·rename_i k hu;obtain⟨n,rfl⟩:=okWide_int hu hv;exact a3 rfl (by unfold wV;rw[hu])
  ·rename_i hu;obtain⟨b,rfl⟩:=okWide_bool hu hv;exact a3 rfl (by unfold wV;rw[hu])
  ·rename_i hu;obtain⟨s,rfl⟩:=okWide_string hu hv;exact a3 rfl (by unfold wV;rw[hu])
  ·rename_i fs hu;obtain⟨cs,rfl,_⟩:=okWide_struct hu hv;exact ag cs rfl (by unfold wV;rw[hu])
  ·rename_i n e hu;obtain⟨cs,rfl,_⟩:=UX hu hv;exact ag cs rfl (by unfold wV;rw[hu])
  ·rename_i e hu;obtain⟨a,len,cap,rfl⟩:=okWide_slice hu hv;exact a3 rfl (by unfold wV;rw[hu])
  ·simp at hT
theorem Wr {w:World} {F:Nat→Prop} (hF:∀b,b<w.heap.size→F b) {m base b0:Nat} {r:Reach} {sp:Nat→Bool} {held:Bool}:∀{ts:List TypeId} {vs:List Value} {ds:List (DataW H)} {ps:List MemPlace},
 (∀t∈ts,(zI P m t).isSome=true)→(∀(j:Nat) t v,ts[j]? =some t→vs[j]? =some v→V1 P w r b0 t v)→J9 enc P w base sp held ts vs ds ps→
 ∃as',All2 (CA w F) as' vs∧All2 (Dw P m) ts as'
 |[],[],[],_,_,_,_=>⟨[],trivial,trivial⟩
 |t::ts,v::vs,d::ds,_,ht,hv,h=>by obtain⟨p,q,h1,h2,rfl⟩:=h;obtain⟨T,hT⟩:=Option.isSome_iff_exists.1 (ht t (by simp));obtain⟨a,e1,e2⟩:=A6 hF hT (hv 0 t v rfl rfl) h1;obtain⟨as',e3,e4⟩:=Wr hF (fun t' h'=>ht t' (by simp[h'])) (fun j t' v' h3 h4=>hv (j+1) t' v' (by simpa using h3) (by simpa using h4)) h2;exact⟨a::as',⟨e1,e3⟩,⟨e2,e4⟩⟩
 |[],[],_::_,_,_,_,h=>h.elim
 |[],_::_,_,_,_,_,h=>by cases ‹List (DataW H)› <;>exact h.elim
 |_::_,[],_,_,_,_,h=>by cases ‹List (DataW H)› <;>exact h.elim
 |_::_,_::_,[],_,_,_,h=>h.elim
theorem oH {C:Cx} {f:Nat} {fn:Func} {s:ChangeSpec} {m bt:Nat} {apart fresh handsOn again:Bool} (hl:laidOutB C.P=true) (hbt:C.P.underlying bt=some .bool)
 (hres:fn.resultTypes= #[bt]) (hrd:∀t∈fn.params.toList,C.P.readableRec t=true∧t<C.P.types.size∧(zI C.P m t).isSome=true)
 (hvars:s.vars=[]) (hfn:∀ds:List (DataW H),ds.length=fn.params.size→s.fn H ds={results:=[.lit (.bool true)],args:=ds})
 (hg:∀al:List A,All2 (Dw C.P m) fn.params.toList al→qe C f al [.c (.bool true)])
 {W:World} {base:Nat} {args:Array Value} {ds gs:List (DataW H)} {before:List MemPlace} (hi:Inv C (fun b=>b<W.heap.size) W)
 (hval:∀(j:Nat) t v,fn.params[j]? =some t→args[j]? =some v→V1 C.P W .any base t v)
 (hW:Lm enc C.P fn.params.toList s.vars apart W args.toList ds gs before):
 Calls C.P f args W fun e W'=>∃v,e= .returned v∧s.post enc C.P fn apart fresh handsOn again W args v W':=by
 have hW':=hW;have hlt:∀p∈before,p.block<W.heap.size:=fun p hp=>hW.lt p hp
 obtain⟨p,q,hA,hV,rfl,hfz,hnd⟩:=hW;rw[hvars]at hV;have hgq:gs=[]∧q=[]:=by
  cases gs with
  |nil=>exact⟨rfl,hV⟩
  |cons g gs=>exact hV.elim
 obtain⟨rfl,rfl⟩:=hgq;have a3:ds.length=fn.params.size:=by
  have key:∀{ts:List TypeId} {vs:List Value} {ds:List (DataW H)} {ps:List MemPlace},J9 enc C.P W 0 (fun _=>true) true ts vs ds ps→ds.length=ts.length:=by
   intro ts
   induction ts with
   |nil=>intro vs ds ps h;cases vs<;>cases ds<;>first|rfl|exact h.elim
   |cons t ts ih=>
    intro vs ds ps h;cases vs with
    |nil=>cases ds<;>exact h.elim
    |cons v vs=>cases ds with
     |nil=>exact h.elim
     |cons d ds=>obtain⟨p,q,_,h2,_⟩:=h;simp[ih h2]
  rw[key hA];simp
 obtain⟨al,h1,h2⟩:=Wr (F:=fun b=>b<W.heap.size) (fun _ h=>h) (m:=m) (fun t ht=>(hrd t ht).2.2) (fun j t v h3 h4=>hval j t v (by simpa using h3) (by simpa using h4)) hA;have hc:=hg al h2 W (fun b=>b<W.heap.size) args.toList (fun _ h=>h) hi h1;have e0:args.toList.toArray=args:=by simp
 rw[e0]at hc;refine hc.mono fun e W' he=>?_
 obtain⟨hb,v,rfl,hr⟩:=he;have hv:v= .bool true:=by have hr:CD _ _ (.bool true) v:=hr;cases hr;rfl
 subst hv;refine⟨_,rfl,Qm (pa:=p++[]) (pv:=[]) hW' ?_ ?_ ?_ (by simp) hb ?_⟩
 ·intro b sp hd;rw[bv,hfn ds a3,hres];exact trodAll_mk1 (shut_bool hbt true)
 ·intro sp a4;rw[bv,hfn ds a3,bv];exact vN hl hb (fun t ht=>⟨(hrd t ht).1,(hrd t ht).2.1⟩) hA (fun x hx=>hlt x (by simp[hx])) (fun x hx=>a4 x (by simp[hx]))
 ·intro sp a4;rw[bv,hfn ds a3,hvars];rfl
 ·exact ok_one hres rfl (okWide_bool_mk hbt _)
end
end Eng
end
section
namespace Eng
open Go Go.RowKit Go.WideShapes Go.ChangeShapes Go.Deep
section
variable {H:Type} {enc:TypeId×Value→H} {P:Program}
theorem G5 {W:World} {F:Nat→Prop} {base:Nat} {sp:Nat→Bool} {held:Bool} {t e:TypeId} {v:Value} {d:DataW H} {p:List MemPlace} {es:List (List D)} (ht:P.underlying t=some (.slice e)) (h:Ls enc P W base sp held t v d p) (hv:CD W F (.sl es) v)
 (hw:(d.weights P t).all (· ≤reachBytes)=true):es.length*P.bytesOf e≤reachBytes:=by
 obtain⟨fuel,hf⟩:=h;obtain⟨ad,c,rfl,_⟩:=CD.slice_inv hv;have e0:(Value.slice ad es.length c).cells.toList=[.slice ad es.length c]:=rfl;rw[e0]at hf;rcases open_slice ht hf with⟨h1,_⟩|⟨a,len,cap,k,n,Dd,Pl,h1,_,hle,hcap,hk,hx,_⟩
 ·simp only[eH,and_true,Value.slice.injEq]at h1;rw[h1.2.1];simp
 ·simp only[eH,and_true,Value.slice.injEq]at h1;obtain⟨_,h2,_⟩:=h1;simp only[Prod.mk.injEq]at hx;rw[hx.1,DataW.weights,ht]at hw;simp only[e5,b5,List.length_range,F2,decide_eq_true_eq]at hw;rw[h2];exact Nat.le_trans (Nat.mul_le_mul_right _ (by omega)) hw.1
theorem mJ {C:Cx} {K:List A→Prop} {f:Nat} {fn:Func} {s:ChangeSpec} {m bt:Nat} {apart fresh handsOn again:Bool} (hl:laidOutB C.P=true) (hbt:C.P.underlying bt=some .bool)
 (hres:fn.resultTypes= #[bt]) (hrd:∀t∈fn.params.toList,C.P.readableRec t=true∧t<C.P.types.size∧(zI C.P m t).isSome=true)
 (hvars:s.vars=[]) (hfn:∀ds:List (DataW H),ds.length=fn.params.size→s.fn H ds={results:=[.lit (.bool true)],args:=ds})
 (hg:∀al:List A,All2 (Dw C.P m) fn.params.toList al→K al→qe C f al [.c (.bool true)])
 {W:World} {base:Nat} {args:Array Value} {ds gs:List (DataW H)} {before:List MemPlace} (hi:Inv C (fun b=>b<W.heap.size) W)
 (hval:∀(j:Nat) t v,fn.params[j]? =some t→args[j]? =some v→V1 C.P W .any base t v)
 (hW:Lm enc C.P fn.params.toList s.vars apart W args.toList ds gs before)
 (hK:∀(al:List A) (p:List MemPlace),All2 (CA W (fun b=>b<W.heap.size)) al args.toList→J9 enc C.P W 0 (fun _=>true) true fn.params.toList args.toList ds p→K al):
 Calls C.P f args W fun e W'=>∃v,e= .returned v∧s.post enc C.P fn apart fresh handsOn again W args v W':=by
 have hW':=hW;have hlt:∀p∈before,p.block<W.heap.size:=fun p hp=>hW.lt p hp
 obtain⟨p,q,hA,hV,rfl,hfz,hnd⟩:=hW;rw[hvars]at hV;have hgq:gs=[]∧q=[]:=by
  cases gs with
  |nil=>exact⟨rfl,hV⟩
  |cons g gs=>exact hV.elim
 obtain⟨rfl,rfl⟩:=hgq;have a3:ds.length=fn.params.size:=by
  have key:∀{ts:List TypeId} {vs:List Value} {ds:List (DataW H)} {ps:List MemPlace},J9 enc C.P W 0 (fun _=>true) true ts vs ds ps→ds.length=ts.length:=by
   intro ts
   induction ts with
   |nil=>intro vs ds ps h;cases vs<;>cases ds<;>first|rfl|exact h.elim
   |cons t ts ih=>
    intro vs ds ps h;cases vs with
    |nil=>cases ds<;>exact h.elim
    |cons v vs=>cases ds with
     |nil=>exact h.elim
     |cons d ds=>obtain⟨p,q,_,h2,_⟩:=h;simp[ih h2]
  rw[key hA];simp
 obtain⟨al,h1,h2⟩:=Wr (F:=fun b=>b<W.heap.size) (fun _ h=>h) (m:=m) (fun t ht=>(hrd t ht).2.2) (fun j t v h3 h4=>hval j t v (by simpa using h3) (by simpa using h4)) hA;have hc:=hg al h2 (hK al _ h1 hA) W (fun b=>b<W.heap.size) args.toList (fun _ h=>h) hi h1;have e0:args.toList.toArray=args:=by simp
 rw[e0]at hc;refine hc.mono fun e W' he=>?_
 obtain⟨hb,v,rfl,hr⟩:=he;have hv:v= .bool true:=by have hr:CD _ _ (.bool true) v:=hr;cases hr;rfl
 subst hv;refine⟨_,rfl,Qm (pa:=p++[]) (pv:=[]) hW' ?_ ?_ ?_ (by simp) hb ?_⟩
 ·intro b sp hd;rw[bv,hfn ds a3,hres];exact trodAll_mk1 (shut_bool hbt true)
 ·intro sp a4;rw[bv,hfn ds a3,bv];exact vN hl hb (fun t ht=>⟨(hrd t ht).1,(hrd t ht).2.1⟩) hA (fun x hx=>hlt x (by simp[hx])) (fun x hx=>a4 x (by simp[hx]))
 ·intro sp a4;rw[bv,hfn ds a3,hvars];rfl
 ·exact ok_one hres rfl (okWide_bool_mk hbt _)
end
end Eng
end
