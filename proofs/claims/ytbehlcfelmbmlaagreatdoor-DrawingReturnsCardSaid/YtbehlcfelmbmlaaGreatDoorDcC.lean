/- The verification conditions of functions, printed by a program (vcgen.py) and checked by the kernel. -/
import Derived.Test.YtbehlcfelmbmlaaGreatDoorCtxB
import Derived.Test.YtbehlcfelmbmlaaGreatDoorTxA
import Derived.Test.YtbehlcfelmbmlaaGreatDoorDcB
import Derived.Test.YtbehlcfelmbmlaaGreatDoorDbD
import Derived.KernelRfl
open Eng.A renaming c→Aw, ag→Bx
open Eng.D renaming bool→Dd, sl→F0, int→F2, str→Hu
open Eng.D.str renaming injEq→Hv
open Except.error renaming injEq→Hx
open Go.IntKind renaming wrap→Hy
open Int renaming toNat_natCast→J3, ofNat→J4, toNat→J6, ofNat_eq_natCast→J7, natAbs_mul→J9, natAbs_natCast→Lm
open List renaming length_cons→Lr, length_append→Ls, length→Lv, length_nil→No, mem_cons→Pl, not_mem_nil→P1, take_length→Ts, getElem_mem→T1, flatMap_append→U0, mem_map→U3, mem_of_mem_take→V1, take_succ_eq_append_getElem→W0, length_take→W1, mem_append→W2, length_map→ai, take_of_length_le→aj, flatMap_cons→ak, append_assoc→am, map_append→an, map_map→ao
open List.cons renaming injEq→ap
open Nat renaming le_refl→aq, gcd→ar
open Rat renaming divInt→au, divInt_eq_div→av, intCast_mul→aw, mul_assoc→ax, div_def→ay
section
namespace Eng
open Go Go.Proofs
set_option maxRecDepth 1000000
theorem Kv (Gv:Nat→List A→List A→Prop) (I0:List D→List D→Prop) (M0:List D→Nat) (I1:List D→List D→Prop) (M1:List D→Nat) (I2:List D→List D→Prop) (M2:List D→Nat) (J22:List D→List D→Prop) (J25:List D→List D→Prop) (ls es:List (List D)) (Q:List A→Prop):wpF CC Gv (wB (wB (Gl ⟨[.slot 6 (.int .i64 0),.slot 5 (.string ⟨#[]⟩)],[],I0,M0⟩ ⟨[.slot 8 (.int .i64 0),.slot 5 (.string ⟨#[]⟩)],[],I1,M1⟩ ⟨[.slot 11 (.int .i64 0),.own 10 57 4],[.slot 8 (.int .i64 0)],I2,M2⟩) 22 ⟨[.slot 12 (.string ⟨#[]⟩)],[.box 9 [(.int .i64 0),(.string ⟨#[]⟩),(.slice none 0 0),(.bool false),(.slice none 0 0),(.bool false),(.slice none 0 0)]],J22,fun _=>0⟩) 25 ⟨[.slot 12 (.string ⟨#[]⟩),.own 10 57 4],[.slot 12 (.string ⟨#[]⟩),.own 10 57 4,.box 9 [(.int .i64 0),(.string ⟨#[]⟩),(.slice none 0 0),(.bool false),(.slice none 0 0),(.bool false),(.slice none 0 0)]],J25,fun _=>0⟩) Tryz.f11 [.ag [.sl ls,.sl es]] Q=(
 ∃n,Gv 16 [Bx [F0 ls,F0 es]] [Aw (F2 .i64 n)]∧br (toB (Dd (n !=0))) (Q [Aw (Hu []),Aw (F2 .i64 n)]) (I0 [] [F2 .i64 0,Hu []]∧∀(n:Int) (s:List UInt8),I0 [] [F2 .i64 n,Hu s]→br (toB (Dd (decide (n<(J4 ls.length))))) ((0≤n∧n<(J4 ls.length)∧Lv (nth [] ls (J6 n))=3)∧∃s1 n1 n2,cut (nth [] ls (J6 n)) 0 3 [Hu s1,F2 .i64 n1,F2 .i64 n2]∧room (6+s1.length)∧room (Lv (108::97::121::101::114::32::s1)+1)∧∃es,Gv 33 [] [Aw (F0 es)]∧(0≤n1∧n1<(J4 es.length)∧Lv (nth [] es (J6 n1))=1)∧∃s2,cut (nth [] es (J6 n1)) 0 1 [Hu s2]∧room (Lv (108::97::121::101::114::32::((([]++s1))++[32]))+s2.length)∧room (Lv (108::97::121::101::114::32::((((([]++s1))++([32])))++s2))+1)∧∃s3,Gv 34 [Aw (F2 .i64 n2)] [Aw (Hu s3)]∧room (Lv (108::97::121::101::114::32::((((((([]++s1))++([32])))++s2))++[32]))+s3.length)∧room (Lv (108::97::121::101::114::32::((((((((([]++s1))++([32])))++s2))++([32])))++s3))+1)∧room (s.length+Lv (108::97::121::101::114::32::((((((((((([]++s1))++([32])))++s2))++([32])))++s3))++[10])))∧I0 [] [F2 .i64 (Hy .i64 (n+1)),Hu (s++108::97::121::101::114::32::((((((((((([]++s1))++([32])))++s2))++([32])))++s3))++[10]))]∧M0 [F2 .i64 (Hy .i64 (n+1)),Hu (s++108::97::121::101::114::32::((((((((((([]++s1))++([32])))++s2))++([32])))++s3))++[10]))]<M0 [F2 .i64 n,Hu s]) (I1 [] [F2 .i64 0,Hu s]∧∀(n:Int) (s:List UInt8),I1 [] [F2 .i64 n,Hu s]→br (toB (Dd (decide (n<(J4 es.length))))) ((0≤n∧n<(J4 es.length)∧Lv (nth [] es (J6 n))=7)∧∃n1 s1 e1 b e2 b1 e3,cut (nth [] es (J6 n)) 0 7 [F2 .i64 n1,Hu s1,F0 e1,Dd b,F0 e2,Dd b1,F0 e3]∧I2 [F2 .i64 n] [F2 .i64 0,F0 []]∧∀(n2:Int) (es:List (List D)),I2 [F2 .i64 n] [F2 .i64 n2,F0 es]→br (toB (Dd (decide (n2<(J4 e1.length))))) ((0≤n2∧n2<(J4 e1.length)∧Lv (nth [] e1 (J6 n2))=8)∧∃b e4 b2 e5,cut (nth [] e1 (J6 n2)) 0 4 [Dd b,F0 e4,Dd b2,F0 e5]∧(0≤n2∧n2<(J4 e1.length)∧Lv (nth [] e1 (J6 n2))=8)∧∃b3 e6 b4 e7,cut (nth [] e1 (J6 n2)) 4 4 [Dd b3,F0 e6,Dd b4,F0 e7]∧(room (es.length+2)∧lens 4 [[Dd b,F0 e4,Dd b2,F0 e5],[Dd b3,F0 e6,Dd b4,F0 e7]])∧I2 [F2 .i64 n] [F2 .i64 (Hy .i64 (n2+1)),F0 (es++[[Dd b,F0 e4,Dd b2,F0 e5],[Dd b3,F0 e6,Dd b4,F0 e7]])]∧M2 [F2 .i64 (Hy .i64 (n2+1)),F0 (es++[[Dd b,F0 e4,Dd b2,F0 e5],[Dd b3,F0 e6,Dd b4,F0 e7]])]<M2 [F2 .i64 n2,F0 es]) (br (toB (Dd (n1==2))) (J22 [F2 .i64 n1,Hu s1,F0 e1,Dd b,F0 e2,Dd b1,F0 e3] [Hu [97,114,99,32]]) (J22 [F2 .i64 n1,Hu s1,F0 e1,Dd b,F0 e2,Dd b1,F0 e3] [Hu [108,105,110,101,32]])∧∀(s2:List UInt8),J22 [F2 .i64 n1,Hu s1,F0 e1,Dd b,F0 e2,Dd b1,F0 e3] [Hu s2]→br (toB (Dd (n1==3))) ((room (es.length+1)∧lens 4 [[Dd b,F0 e2,Dd b1,F0 e3]])∧J25 [Hu s2,F0 es,F2 .i64 n1,Hu s1,F0 e1,Dd b,F0 e2,Dd b1,F0 e3] [Hu [99,105,114,99,108,101,32],F0 (es++[[Dd b,F0 e2,Dd b1,F0 e3]])]) (J25 [Hu s2,F0 es,F2 .i64 n1,Hu s1,F0 e1,Dd b,F0 e2,Dd b1,F0 e3] [Hu s2,F0 es])∧∀(s3:List UInt8) (e4:List (List D)),J25 [Hu s2,F0 es,F2 .i64 n1,Hu s1,F0 e1,Dd b,F0 e2,Dd b1,F0 e3] [Hu s3,F0 e4]→room (s3.length+s1.length)∧∃s4,Gv 35 [Aw (F0 e4)] [Aw (Hu s4)]∧room (Lv (s3++s1)+s4.length)∧room (Lv (s3++s1++s4)+1)∧room (s.length+Lv (s3++s1++s4++[10]))∧I1 [] [F2 .i64 (Hy .i64 (n+1)),Hu (s++(s3++s1++s4++[10]))]∧M1 [F2 .i64 (Hy .i64 (n+1)),Hu (s++(s3++s1++s4++[10]))]<M1 [F2 .i64 n,Hu s])) (Q [Aw (Hu s),Aw (F2 .i64 0)])))):=by kernel_rfl
end Eng
end

section
namespace Eng
open Go Go.Proofs
set_option maxRecDepth 100000
theorem yk (d:Int) (j:Nat):au d 1000*((10^j:Nat):Rat)=au (d*((10^j:Nat):Int)) 1000:=by
 rw[av,av,aw,Rat.intCast_natCast,ay,ay,ax,ax];congr 1;exact Rat.mul_comm _ _
theorem Ui (d:Int) (j:Nat):(au d 1000*((10^j:Nat):Rat)).den=1↔d.natAbs*10^j%1000=0:=by
 rw[yk];obtain⟨_,h2⟩:=jk (n:=d*((10^j:Nat):Int)) (d:=1000) (by omega);rw[J9,Lm]at h2;have a0:(1000:Int).natAbs=1000:=rfl;rw[a0]at h2;generalize (au (d*((10^j:Nat):Int)) 1000).den=D at *;generalize d.natAbs*10^j=V at *;have hg:ar V 1000∣1000:=Nat.gcd_dvd_right _ _;have hgp:0<ar V 1000:=Nat.gcd_pos_of_pos_right _ (by omega);have hD:D=1000/ar V 1000:=by
  have:(D:Int)=((1000/ar V 1000:Nat):Int):=by rw[h2];rfl
  omega
 constructor
 ·intro h;rw[hD]at h;have h3:=Nat.div_mul_cancel hg;rw[h,Nat.one_mul]at h3;have h4:=Nat.gcd_dvd_left V 1000;rw[h3]at h4;exact Nat.mod_eq_zero_of_dvd h4
 ·intro h;have h4:1000∣V:=Nat.dvd_of_mod_eq_zero h;have h5:ar V 1000=1000:=Nat.gcd_eq_right h4;rw[hD,h5]
theorem Cc {b:Rat} {k:Nat}:∀{f j:Nat},j+f≥k+1→j≤k→(∀i,i<k→(b*((10^i:Nat):Rat)).den≠1)→(b*((10^k:Nat):Rat)).den=1→exF b f j=some ((b*((10^k:Nat):Rat)).num,k)
 |0,j,h,hj,_,_=>by omega
 |f+1,j,h,hj,h1,h2=>by
  rw[exF];by_cases hjk:j=k
  ·subst hjk;rw[if_pos h2]
  ·rw[if_neg (h1 j (by omega))];exact Cc (by omega) (by omega) h1 h2
theorem FS (d:Int):X3 (au d 1000)=mm d:=by
 obtain⟨k,hk,h1,h2⟩:=Tt d.natAbs;have a1:=(Ui d k).2 h1;have hx:exq (au d 1000)=some ((au d 1000*((10^k:Nat):Rat)).num,k):=Cc (by omega) (by omega) (fun i hi he=>h2 i hi ((Ui d i).1 he)) a1;have hq:=Vy a1;have h3:mm d=sgT d++mmU d.natAbs:=rfl;unfold X3;rw[hx,h3,JH _ _ h1 h2 hk];simp only;obtain⟨e1,_⟩:=jk (n:=d*((10^k:Nat):Int)) (d:=1000) (by omega);rw[yk];rw[yk]at hq;generalize (au (d*((10^k:Nat):Int)) 1000).num=z at *;have hz:z*1000=d*((10^k:Nat):Int):=by
  have e:au (d*((10^k:Nat):Int)) 1000=(z:Rat):=hq.symm;rw[av]at e;have e2:((d*((10^k:Nat):Int):Int):Rat)=((z*1000:Int):Rat):=by rw[aw z,←e,Rat.div_mul_cancel (by decide)]
  have:=Rat.intCast_inj.1 e2;exact this.symm
 have hp:0<10^k:=Nat.pow_pos (by omega);have hza:z.natAbs=d.natAbs*10^k/1000:=by have:=congrArg Int.natAbs hz;rw[J9,J9,Lm]at this;have a0:(1000:Int).natAbs=1000:=rfl;rw[a0]at this;omega
 rw[hza];have hsg:sgT z=sgT d:=by
  unfold sgT;have:decide (z<0)=decide (d<0):=by
   rw[decide_eq_decide];constructor
   ·intro h;rcases Int.lt_or_le d 0 with h'|h'
    ·exact h'
    ·have:=Int.mul_nonneg h' (show(0:Int)≤((10^k:Nat):Int)by omega);omega
   ·intro h;have:=Int.mul_neg_of_neg_of_pos h (show(0:Int)<((10^k:Nat):Int)by omega);omega
  rw[this]
 rw[hsg]
theorem FT {n:Int} (h1: -10000000≤n) (h2:n≤10000000):qf CC 34 [.c (.int .i64 n)] [.c (.str (mm n))]:=by
 refine qg (anns:=an0) mixedT Tryz.func34 ?_;have hf:=HP (m:=n) (d:=1000) (by omega) (by omega) (by omega) (by omega) (by omega);have hs:Sz 57 (au n 1000):=Sz.divInt (by omega) (by
  have:n.natAbs≤10^7:=by omega
  exact Nat.le_trans this (Nat.pow_le_pow_right (by omega) (by omega))) (by decide)
 have hx:=Zf hs;rw[FS]at hx;rw[qb]at hf hx;rw[AO];exact⟨_,_,_,_,hf,_,_,hx,rfl⟩
theorem L9 {q:List Rat} (hq:∀a∈q,Sz 54 a∧(X3 (a/1000)).length≤37) (hl:q.length≤1000):qf CC 35 [.c (.sl (q.map cR))] [.c (.str (q.flatMap JL))]:=by
 refine qg (anns:=fun _=>⟨[.slot 4 (.int .i64 0),.slot 3 (.string ⟨#[]⟩)],[],fun _ ds=>∃k:Nat,k≤q.length∧ds=[.int .i64 (k:Int),.str ((q.take k).flatMap JL)],fun ds=>(q.length-toI (nth .undef ds 0)).toNat⟩) mixedT Tryz.func35 ?_;rw[L2];simp only[J7,ai];refine⟨⟨0,by omega,rfl⟩,?_⟩;rintro n s ⟨k,hk,he⟩;simp only[ap,D.int.injEq,Hv,true_and,and_true]at he;obtain⟨rfl,rfl⟩:=he;have hT:=xx (f:=JL) (n:=38) (l:=q.take k) fun a h=>yJ (hq a (V1 h)).2
 rw[W1]at hT;refine brd (fun h=>?_) (fun h=>?_)
 ·have a0:k<q.length:=by omega
  obtain⟨s1,s2⟩:=hq _ (T1 a0);have ht:=HT s1;have hx:=Zf s1.thou;have hw:Hy .i64 ((k:Int)+1)=((k+1:Nat):Int):=by rw[qK (by omega) (by omega)];omega
  have hn:nth [] (q.map cR) k=cR q[k]:=by rw[qI];simp[a0]
  rw[J3,hn,hw];rw[qb,qb (q[k]/1000)]at ht;rw[qb]at hx;refine⟨⟨by omega,by omega,rfl⟩,_,_,_,_,⟨rfl,aq 4⟩,_,_,_,_,ht,_,_,hx,by unfold room;omega,by unfold room;simp only[Lr];omega,⟨k+1,a0,?_⟩,by simp only[nth,toI];omega⟩;have hsn:(q.take (k+1)).flatMap JL=(q.take k).flatMap JL++JL q[k]:=by rw[W0 a0,U0];simp
  rw[hsn];rfl
 ·have a0:k=q.length:=by omega
  subst a0;rw[Ts]
end Eng
end

section
namespace Eng
open Go Go.Proofs
set_option maxRecDepth 100000
def ptQ (p:Rw×Rw):List Rat:=[p.1.val,p.2.val]
def ME (e:Er) (j:Nat):List Rat:=(e.pts.take j).flatMap ptQ
def RR (e:Er):List Rat:=e.pts.flatMap ptQ++(if e.kind=3 then [e.rad.val]else [])
theorem VP {e:Er} {j:Nat} (h:j<e.pts.length):ME e (j+1)=ME e j++[e.pts[j].1.val,e.pts[j].2.val]:=by
 unfold ME;rw[W0 h,U0];simp[ptQ]
theorem XK (e:Er):∀j,(ME e j).length≤2*j
 |0=>by simp[ME]
 |j+1=>by
  by_cases h:j<e.pts.length
  ·rw[VP h,Ls];have:=XK e j;simp;omega
  ·have:ME e (j+1)=ME e j:=by unfold ME;rw[aj (by omega),aj (by omega)]
   rw[this];have:=XK e j;omega
theorem NN (e:Er):(RR e).flatMap JL=e.pts.flatMap ptW++rdW e:=by
 unfold RR;rw[U0];congr 1
 ·induction e.pts with
  |nil=>rfl
  |cons p r ih=>rw[ak,U0,ih,ak];simp[ptQ,ptW]
 ·unfold rdW;by_cases h:e.kind=3
  ·rw[if_pos h,if_pos h];simp
  ·rw[if_neg h,if_neg h];rfl
theorem EOk.nums {e:Er} (h:EOk e):(∀a∈RR e,Sz 54 a∧(X3 (a/1000)).length≤37)∧(RR e).length≤7:=by
 refine⟨fun a ha=>?_,?_⟩
 ·unfold RR at ha;rcases W2.1 ha with ha|ha
  ·obtain⟨p,hp,ha⟩:=List.mem_flatMap.1 ha;obtain⟨o1,o2⟩:=h.ok p hp;obtain⟨f1,f2⟩:=h.few.1 p hp;simp only[ptQ,Pl,P1,or_false]at ha;rcases ha with rfl|rfl
   ·exact(jB f1 o1).2
   ·exact(jB f2 o2).2
  ·by_cases hk:e.kind=3
   ·rw[if_pos hk]at ha;simp only[Pl,P1,or_false]at ha;subst ha;exact(jB h.few.2 (h.rad hk)).2
   ·rw[if_neg hk]at ha;simp at ha
 ·have h1:=XK e e.pts.length;unfold ME at h1;rw[Ts]at h1;have:=h.pts;unfold RR;rw[Ls];have h2:(if e.kind=3 then [e.rad.val]else []).length≤1:=by split<;>simp
  omega
def Dz (gh us:List D):Prop:=us=[.str (if toI (nth .undef gh 0)=2 then Xh++[32]else kE++[32])]
def D0 (gh us:List D):Prop:=us=[.str (if toI (nth .undef gh 2)=3 then zf++[32]else toS (nth .undef gh 0)),.sl (if toI (nth .undef gh 2)=3 then toL (nth .undef gh 1)++[gh.drop 5]else toL (nth .undef gh 1))]
set_option maxHeartbeats 1000000 in
theorem LA {ls:List Ly} {es:List Er} (hl:∀l∈ls,y3 l=true) (he:∀e∈es,EOk e) (hls:ls.length≤20) (hes:es.length≤200) (hV:JK ls es=0):qf CC 11 [drA ls es] [.c (.str (txR ls es)),.c (.int .i64 0)]:=by
 have a9:=yD (ls:=ls) (es:=es) (fun l h=>by have:=(yj (hl l h)).2.2.1;omega) (fun e h=>⟨(he e h).few,by have:=(he e h).pts;omega⟩);rw[hV]at a9;have hLT:=fun k=>xx (f:=lnL) (n:=100) (l:=ls.take k) fun l h=>Wt (hl l (V1 h))
 have hLTa:=xx (f:=lnL) (n:=100) (l:=ls) fun l h=>Wt (hl l h)
 have hET:=fun k=>xx (f:=lnE) (n:=400) (l:=es.take k) fun e h=>(he e (V1 h)).len
 refine qg (anns:=wB (wB (Gl
  ⟨[.slot 6 (.int .i64 0),.slot 5 (.string ⟨#[]⟩)],[],fun _ ds=>∃k:Nat,k≤ls.length∧ds=[.int .i64 (k:Int),.str ((ls.take k).flatMap lnL)],fun ds=>(ls.length-toI (nth .undef ds 0)).toNat⟩
  ⟨[.slot 8 (.int .i64 0),.slot 5 (.string ⟨#[]⟩)],[],fun _ ds=>∃k:Nat,k≤es.length∧ds=[.int .i64 (k:Int),.str (ls.flatMap lnL++(es.take k).flatMap lnE)],fun ds=>(es.length-toI (nth .undef ds 0)).toNat⟩
  ⟨[.slot 11 (.int .i64 0),.own 10 57 4],[.slot 8 (.int .i64 0)],fun gs ds=>∀e,es[(toI (nth .undef gs 0)).toNat]? =some e→∃j:Nat,j≤e.pts.length∧ds=[.int .i64 (j:Int),.sl ((ME e j).map cR)],fun ds=>(10-toI (nth .undef ds 0)).toNat⟩)
  22 ⟨[.slot 12 (.string ⟨#[]⟩)],[.box 9 [(.int .i64 0),(.string ⟨#[]⟩),(.slice none 0 0),(.bool false),(.slice none 0 0),(.bool false),(.slice none 0 0)]],Dz,fun _=>0⟩)
  25 ⟨[.slot 12 (.string ⟨#[]⟩),.own 10 57 4],[.slot 12 (.string ⟨#[]⟩),.own 10 57 4,.box 9 [(.int .i64 0),(.string ⟨#[]⟩),(.slice none 0 0),(.bool false),(.slice none 0 0),(.bool false),(.slice none 0 0)]],D0,fun _=>0⟩) mixedT Tryz.func11 ?_
 unfold drA at *;rw[Kv];simp only[J7,ai];refine⟨_,a9,brb (fun h=>by simp at h) (fun _=>⟨⟨0,by omega,rfl⟩,?_⟩)⟩;rintro n r1 ⟨k,hk,a1⟩;simp only[ap,D.int.injEq,Hv,true_and,and_true]at a1;obtain⟨rfl,rfl⟩:=a1;refine brd (fun h=>?_) (fun h=>?_)
 ·have a0:k<ls.length:=by omega
  obtain⟨k1,k2,k3,k4⟩:=yj (hl _ (T1 a0));have hdp:0≤ls[k].depth∧ls[k].depth≤10000000:=by have h:=hl _ (T1 a0);unfold y3 at h;simp only[Bool.and_eq_true,Bool.or_eq_true,decide_eq_true_eq]at h;omega
  have hm:=FT (n:=ls[k].depth) (by omega) (by omega);have hml:=Rm k4;have hw:Hy .i64 ((k:Int)+1)=((k+1:Nat):Int):=by rw[qK (by omega) (by omega)];omega
  have hkw:=Qs ls[k].kind;have hL:=hLT k;rw[W1]at hL;rw[J3,qM a0,hw];have a8:=G8 ls[k];have af:=je (f:=lnL) a0;have a4:nth [] (vt kw5) ls[k].kind.toNat=[.str (JZ ls[k].kind)]:=by
   generalize ls[k].kind=q at k1 k2;have:q=1∨q=2∨q=3∨q=4:=by omega
   rcases this with rfl|rfl|rfl|rfl<;>rfl
  have h5:(vt kw5).length=5:=rfl;refine⟨⟨by omega,by omega,rfl⟩,_,_,_,⟨rfl,aq 3⟩,by unfold room;omega,by unfold room;simp only[Lr];omega,_,VN,⟨by omega,by rw[h5];omega,by rw[a4];rfl⟩,JZ ls[k].kind,⟨by rw[a4];rfl,by rw[a4];exact aq 1⟩,?_⟩;refine⟨by unfold room;simp only[Lr,Ls,No];omega,by unfold room;simp only[Lr,Ls,No];omega,_,hm,by unfold room;simp only[Lr,Ls,No];omega,by unfold room;simp only[Lr,Ls,No];omega,?_⟩;refine⟨by unfold room;simp only[Lr,Ls,No];omega,⟨k+1,a0,?_⟩,by simp only[nth,toI];omega⟩;rw[af];unfold lnL;rw[a8];simp only[am,List.nil_append,List.cons_append]
 ·have a0:k=ls.length:=by omega
  subst a0;rw[Ts];refine⟨⟨0,by omega,by simp⟩,?_⟩;rintro n r2 ⟨k,hk2,a1⟩;simp only[ap,D.int.injEq,Hv,true_and,and_true]at a1;obtain⟨rfl,rfl⟩:=a1;have hE:=hET k;rw[W1]at hE;refine brd (fun h2=>?_) (fun h2=>?_)
  ·have a0:k<es.length:=by omega
   have a3:=he _ (T1 a0);have af:=je (f:=lnE) a0;have hw:Hy .i64 ((k:Int)+1)=((k+1:Nat):Int):=by rw[qK (by omega) (by omega)];omega
   have hsl:=vI es[k].kind;have hnl:=a3.name;have hpl:=a3.pts;have hkk:=a3.kind;have a7:es[k]? =some es[k]:=List.getElem?_eq_getElem a0;rw[J3,qM a0,hw];refine⟨⟨by omega,by omega,rfl⟩,_,_,_,_,_,_,_,⟨rfl,aq 7⟩,?_,?_⟩
   ·intro e hg;exact⟨0,by omega,rfl⟩
   rintro n_2 xs hI2;obtain⟨j,hj,a1⟩:=hI2 es[k] (by simp only[nth,toI,J3];exact a7);simp only[ap,D.int.injEq,D.sl.injEq,true_and,and_true]at a1;obtain⟨rfl,rfl⟩:=a1;have hnq:=XK es[k] j;simp only[ai];refine brd (fun h3=>?_) (fun h3=>?_)
   ·have a6:j<es[k].pts.length:=by omega
    obtain⟨ae,_,_⟩:=a3.srs (T1 a6);have hw2:Hy .i64 ((j:Int)+1)=((j+1:Nat):Int):=by rw[qK (by omega) (by omega)];omega
    rw[J3,qM a6,ae,hw2];refine⟨⟨by omega,by omega,rfl⟩,_,_,_,_,⟨rfl,by show 4≤8;omega⟩,⟨by omega,by omega,rfl⟩,_,_,_,_,⟨rfl,aq 8⟩,⟨by unfold room;omega,fun e he=>?_⟩,?_,by simp only[nth,toI];omega⟩
    ·simp only[Pl,P1,or_false]at he;rcases he with rfl|rfl<;>rfl
    ·intro e hg;simp only[nth,toI,J3]at hg;rw[a7]at hg;obtain rfl:=Option.some.inj hg;refine⟨j+1,a6,?_⟩;rw[VP a6,an];rfl
   ·have a6:j=es[k].pts.length:=by omega
    subst a6;have a2:ME es[k] es[k].pts.length=es[k].pts.flatMap ptQ:=by unfold ME;rw[Ts]
    rw[a2];refine⟨brb (fun h4=>?_) (fun h4=>?_),?_⟩
    ·show Dz _ _;unfold Dz;have h4:es[k].kind=2:=by simpa using h4
     simp only[nth,toI,h4,if_true];rfl
    ·show Dz _ _;unfold Dz;have h4:¬es[k].kind=2:=by simpa using h4
     simp only[nth,toI,h4,if_false];rfl
    rintro w a5;unfold Dz at a5;simp only[ap,Hv,and_true,nth,toI]at a5;refine⟨brb (fun h4=>?_) (fun h4=>?_),?_⟩
    ·have h4:es[k].kind=3:=by simpa using h4
     refine⟨⟨by unfold room;rw[←a2];omega,fun e he=>by simp at he;rw[he];rfl⟩,?_⟩;show D0 _ _;unfold D0;simp only[nth,toI,toS,toL,h4,if_true];rfl
    ·have h4:¬es[k].kind=3:=by simpa using h4
     show D0 _ _;unfold D0;simp only[nth,toI,toS,toL,h4,if_false]
    rintro u xs ad;unfold D0 at ad;simp only[ap,Hv,D.sl.injEq,and_true,nth,toI,toS,toL]at ad;obtain⟨hu,hxs⟩:=ad;have hu2:u=X4 es[k].kind++[32]:=by
     rw[hu,a5];generalize es[k].kind=q at hkk;have:q=1∨q=2∨q=3:=by omega
     rcases this with rfl|rfl|rfl<;>rfl
    have ah:xs=(RR es[k]).map cR:=by
     rw[hxs];unfold RR;by_cases h4:es[k].kind=3
     ·simp only[h4,if_true];rw[an];have hc:=(jB a3.few.2 (a3.rad h4)).1;have hc:=A.ag.inj hc;congr 1;show [es[k].rad.cs]=[cR es[k].rad.val];rw[hc]
     ·simp only[h4,if_false];rw[List.append_nil]
    obtain⟨q1,q2⟩:=a3.nums;have hsh:=L9 q1 (by omega);rw[ah,hu2];have hnl2:=xx (f:=JL) (n:=38) (l:=RR es[k]) fun a h=>yJ (q1 a h).2
    refine⟨by unfold room;simp only[Ls,Lr,No];omega,_,hsh,by unfold room;simp only[Ls,Lr,No];omega,by unfold room;simp only[Ls,Lr,No];omega,by unfold room;simp only[Ls,Lr,No];omega,⟨k+1,a0,?_⟩,by simp only[nth,toI];omega⟩;rw[af,NN];unfold lnE hdE;simp only[am]
  ·have a0:k=es.length:=by omega
   subst a0;rw[Ts];rfl
end Eng
end

section
open Go Go.Proofs Eng
set_option maxRecDepth 1000000
namespace Eng
end Eng
end

section
open Go Go.Proofs Eng
set_option maxRecDepth 1000000
namespace Eng
end Eng
end

section
open Go Go.Proofs Eng
set_option maxRecDepth 1000000
namespace Eng
theorem GJ (Gv:Nat→List A→List A→Prop) (s:List UInt8) (Q:List A→Prop):wpF CC Gv an0 Tryz.f5 [.c (.str s)] Q=(
 ∃b,Gv 8 [] [Aw (Dd b)]∧br (toB (Dd !b)) (∃b,Gv 8 [] [Aw (Dd b)]∧Q [Aw (Dd b)]) (br (toB (Dd (decide ((J4 s.length)>500)))) (∃b,Gv 8 [] [Aw (Dd b)]∧Q [Aw (Dd b)]) (∃es e1 n n1,Gv 13 [Aw (Hu s)] [Bx [F0 es,F0 e1],Aw (F2 .i64 n),Aw (F2 .i64 n1)]∧br (toB (Dd (n1 !=0))) (Q [Aw (Dd (Hy .i64 ((J4 es.length)+(J4 e1.length))==0))]) (∃s n,Gv 10 [Bx [F0 es,F0 e1]] [Aw (Hu s),Aw (F2 .i64 n)]∧∃e2 e3 n2 n3,Gv 13 [Aw (Hu s)] [Bx [F0 e2,F0 e3],Aw (F2 .i64 n2),Aw (F2 .i64 n3)]∧br (toB (Dd (n==0))) (br (toB (Dd (n3==0))) (∃n,Gv 16 [Bx [F0 es,F0 e1]] [Aw (F2 .i64 n)]∧br (toB (Dd (n==0))) (∃b,Gv 14 [Bx [F0 e2,F0 e3],Bx [F0 es,F0 e1]] [Aw (Dd b)]∧Q [Aw (Dd b)]) (Q [Aw (Dd false)])) (Q [Aw (Dd false)])) (Q [Aw (Dd false)]))))):=by kernel_rfl
end Eng
end

section
namespace Eng
open Go Go.Proofs
set_option maxRecDepth 100000
theorem LB {ls:List Ly} {es:List En} (h:zb ls es=0):∀w∈qC 10 (Kb ls es),w.length≤2000:=by
 obtain⟨_,_,h1,h4⟩:=zZ h;have hl:=Qn h1;have he:=Qo h4;have a0:∀l∈ls,kh l.name=true:=fun l hl'=>by have:=hl l hl';unfold y3 at this;simp only[Bool.and_eq_true]at this;exact this.1
 have hL:∀l∈X8 ls es,(∀p∈l,jN p.1 p.2)∧(kF l).length≤2000:=fun l hx=>by
  unfold X8 at hx;rw[W2,U3,U3]at hx;rcases hx with⟨x,hx,rfl⟩|⟨x,hx,rfl⟩
  ·exact⟨X6 (hl x hx),by have:=C6 (hl x hx);omega⟩
  ·obtain⟨h2,h3⟩:=he x hx;rw[U3]at h3;obtain⟨y,hy,e⟩:=h3;have hn:=a0 y hy;rw[e]at hn;exact⟨X7 hn h2,by have:=C7 (kI hn) h2;omega⟩
 intro w hw;unfold Kb at hw;rw[Xi fun l hx=>(hL l hx).1]at hw;rcases W2.1 hw with hw|hw
 ·obtain⟨l,hl2,rfl⟩:=U3.1 hw;exact(hL l hl2).2
 ·simp only[Pl,P1,or_false]at hw;subst hw;simp
theorem GK:qf CC 10 [drA [] []] [.c (.str []),.c (.int .i64 0)]:=Xd (lim:=1000) mixedT PR 10 10 _ _ (by kernel_rfl)
theorem Uj {ls:List Ly} {es:List Er} (hf:∀e∈es,e.few) (h:JK ls es=0):
 qf CC 10 [drA ls es] [.c (.str (txR ls es)),.c (.int .i64 0)]∧qf CC 11 [drA ls es] [.c (.str (txR ls es)),.c (.int .i64 0)]∧
 qf CC 13 [.c (.str (txR ls es))] [drP ls (es.map fun e=>jO e.o),.c (.int .i64 0),.c (.int .i64 0)]∧
 qf CC 14 [drP ls (es.map fun e=>jO e.o),drA ls es] [.c (.bool true)]:=by
 obtain⟨f1,f2,f3,f4⟩:=kP hf h;have hv:wx ls (es.map Er.o)=0:=h;have a1:=(KX hv).1;have hm:(es.map Er.o).map jO=es.map fun e=>jO e.o:=by rw[ao];rfl
 rw[hm]at a1;have a0:=Mw hv;rw[hm]at a0;refine⟨?_,LA f1 f2 f3 f4 h,?_,Zu f1 f2 (by omega) (by omega)⟩
 ·by_cases h0:ls=[]
  ·subst h0;have:es=[]:=by
    have h4:=(zZ a1).2.2.2;have h5:=Qo h4;cases es with
    |nil=>rfl
    |cons e r=>have:=(h5 (jO e.o) (by simp)).2;simp at this
   subst this;exact GK
  ·exact Lh h0 f1 f2 f3 f4 h
 ·rw[FO f2];have hp:=QP (P3 a1) (LB a1);rw[a0]at hp;exact hp
theorem vv {c:UInt8}:∀{s:List UInt8} {w:List UInt8},w∈qC c s→w.length≤s.length
 |[],w,h=>by have h:w∈[[]]:=h;simp only[Pl,P1,or_false]at h;rw[h];simp
 |a::s,w,h=>by
  unfold qC at h;split at h
  ·rcases Pl.1 h with rfl|h
   ·simp
   ·have:=vv h;simp only[Lr];omega
  ·split at h
   ·rename_i h2;simp only[Pl,P1,or_false]at h;subst h;simp
   ·rename_i x r h2;have hx:x.length≤s.length:=vv (by rw[h2];simp);rcases Pl.1 h with rfl|h
    ·simp only[Lr];omega
    ·have:=vv (s:=s) (w:=w) (by rw[h2];simp[h]);simp only[Lr];omega
theorem Zv:∀{L:List Li} {ls:List Ly} {es:List En} {p:Nat×Nat},j5 L ls es= .error p→p.2≠0
 |[],ls,es,p,h=>by rw[j5]at h;simp at h
 |x::r,ls,es,p,h=>by
  rw[j5]at h;cases hx:y9 (tkW x.toks)with
  |some l=>
   rw[hx]at h;simp only at h;split at h
   ·exact Zv h
   ·rename_i hne;simp only[Hx]at h;rw[←h];exact hne
  |none=>
   rw[hx]at h;simp only at h;cases hy:ve (tkW x.toks)with
   |none=>rw[hy]at h;simp only[Hx]at h;rw[←h];simp
   |some e=>
    rw[hy]at h;simp only at h;split at h
    ·exact Zv h
    ·rename_i hne;simp only[Hx]at h;rw[←h];exact hne
theorem D1 {s:List UInt8} {n e:Nat} (h:YK s= .error (n,e)):e≠0:=by
 unfold YK at h;cases hl:kD 1 (qC 10 s)with
 |error q=>rw[hl]at h;simp only[Hx]at h;subst h;exact XJ hl
 |ok L=>rw[hl]at h;exact Zv (p:=(n,e)) h
theorem VQ {s:List UInt8} {ls:List Ly} {es:List En} (hs:s.length≤500) (h:YK s= .ok (ls,es)):(es.map fun e=>jO (XI e).o)=es∧JK ls (es.map XI)=0∧∀e∈es.map XI,e.few:=by
 obtain⟨hv,_⟩:=Mt h;have a0:∀e∈es,wG e=e:=by
  unfold YK at h;cases hl:kD 1 (qC 10 s)with
  |error e=>rw[hl]at h;simp at h
  |ok L=>rw[hl]at h;simp only at h;exact(ww (by simp) (by simp) rfl rfl (by simp) h).2
 have hNb:∀e∈es,NbE e∧e.pts.length≤3:=by
  unfold YK at h;cases hl:kD 1 (qC 10 s)with
  |error e=>rw[hl]at h;simp at h
  |ok L=>rw[hl]at h;simp only at h;obtain⟨_,hLx⟩:=Zr hl;refine Wv (fun x hx p hp=>?_) (by simp) h;obtain⟨_,w,hw,_,hwt⟩:=hLx x hx;unfold tkW at hp;obtain⟨t,ht,rfl⟩:=U3.1 hp;have:=hwt t ht;have hwl:=vv hw;show t.text.length≤2000;omega
 refine⟨?_,?_,fun e he=>?_⟩
 ·conv=>rhs;rw[←List.map_id es]
  exact List.map_congr_left fun e he=>NF (a0 e he)
 ·rw[Kt];exact hv
 ·obtain⟨x,hx,rfl⟩:=U3.1 he;exact Wu (hNb x hx).1
theorem GL (hA:qf CC 8 [] [.c (.bool true)]) (s:List UInt8):qf CC 5 [.c (.str s)] [.c (.bool true)]:=by
 refine qg (anns:=an0) mixedT Tryz.func5 ?_;rw[GJ];refine⟨_,hA,brb (fun h=>by simp at h) (fun _=>brd (fun _=>⟨_,hA,rfl⟩) (fun h=>?_))⟩;have hs:s.length≤500:=by simp only[J7]at h;omega
 have hw:=fun w (hw:w∈qC 10 s)=>vv hw
 have h1:=QP (s:=s) (by omega) (fun w h=>by have:=hw w h;omega);cases hp:YK s with
 |error q=>obtain⟨n,e⟩:=q;rw[hp]at h1;have he:e≠0:=D1 hp;exact⟨_,_,_,_,h1,brb (fun _=>rfl) (fun h=>by simp at h;omega)⟩
 |ok q=>
  obtain⟨ls,es⟩:=q;rw[hp]at h1;obtain⟨b1,b2,b3⟩:=VQ hs hp;obtain⟨p1,p2,p3,p4⟩:=Uj b3 b2;rw[ao]at p3 p4;have e1:es.map ((fun e=>jO e.o)∘XI)=es:=b1;rw[e1]at p3 p4;have a0:=yD (ls:=ls) (es:=es.map XI) (fun l hl=>by
   have:=(yj ((kP b3 b2).1 l hl)).2.2.1;omega) (fun e he=>⟨b3 e he,by have:=((kP b3 b2).2.1 e he).pts;omega⟩)
  rw[b2]at a0;rw[←Uh]at p1 p4 a0;unfold drP at p1 p3 p4 a0;exact⟨_,_,_,_,h1,brb (fun h=>by simp at h) (fun _=>⟨_,_,p1,_,_,_,_,p3,brb (fun _=>brb (fun _=>⟨_,a0,brb (fun _=>⟨_,p4,rfl⟩) (fun h=>by simp at h)⟩) (fun h=>by simp at h)) (fun h=>by simp at h)⟩)⟩
end Eng
end
