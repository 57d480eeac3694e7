/- The verification conditions of functions, printed by a program (vcgen.py) and checked by the kernel. -/
import Derived.Test.YtbehlcfelmbmlaaGreatDoorCtxB
import Derived.Test.YtbehlcfelmbmlaaGreatDoorTxA
import Derived.Test.YtbehlcfelmbmlaaGreatDoorDbE
import Derived.Test.YtbehlcfelmbmlaaGreatDoorDbC
import Derived.Test.YtbehlcfelmbmlaaGreatDoorLexA
import Derived.KernelRfl
open Eng.A renaming c→Aw, ag→Bx
open Eng.D renaming bool→Dd, int→F0, sl→F2, str→Hu
open Eng.D.int renaming injEq→Hv
open Go.IntKind renaming wrap→Hx
open Int renaming toNat_natCast→Hy, ofNat_eq_natCast→J3, toNat→J4, ofNat→J6, natAbs_ediv_le_natAbs→J7, natAbs_natCast→J9, natAbs_mul→Lm
open List renaming length_map→Lr, map_append→Ls, length→Lv, getElem_mem→No, drop_eq_getElem_cons→Pl, take_of_length_le→P1, not_mem_nil→Ts, drop_length→T1, cons_append→U0, nil_append→U3, mem_append→V1, mem_cons→W0, mem_map→W1, map_nil→W2
open List.cons renaming injEq→aj
open Nat renaming le_refl→ak, le_trans→am, mul_lt_mul_of_pos_right→an, lt_of_le_of_lt→ao, pow_pos→ap, pow_add→aq
open Option.some renaming injEq→ar, inj→au
section
namespace Eng
open Go Go.Proofs
set_option maxRecDepth 1000000
section
variable (Gv:Nat→List A→List A→Prop) (Q:List A→Prop) (I0 I1 I2 I3:List D→List D→Prop) (M0 M1 M2 M3:List D→Nat)
theorem NG (p:Bool) (l:List (List D)):wpF CC Gv an0 Tryz.f262 [.ag [.bool p,.sl l]] Q=(
 ∃b es,Gv 68 [Aw (F0 .i64 (-9223372036854775808))] [Bx [Dd b,F2 es]]∧∃b1 e1,Gv 68 [Aw (F0 .i64 9223372036854775807)] [Bx [Dd b1,F2 e1]]∧∃n,Gv 263 [Bx [Dd p,F2 l],Bx [Dd b,F2 es]] [Aw (F0 .i64 n)]∧br (toB (Dd (decide (n<0)))) (Q [Aw (F0 .i64 0),Aw (Dd false)]) (∃n,Gv 263 [Bx [Dd p,F2 l],Bx [Dd b1,F2 e1]] [Aw (F0 .i64 n)]∧br (toB (Dd (decide (n>0)))) (Q [Aw (F0 .i64 0),Aw (Dd false)]) (∃n,Gv 275 [Aw (F2 l)] [Aw (F0 .u64 n)]∧br p (Q [Aw (F0 .i64 (Hx .i64 (0-Hx .i64 n))),Aw (Dd true)]) (Q [Aw (F0 .i64 (Hx .i64 n)),Aw (Dd true)])))):=by kernel_rfl
theorem L1 (p:Bool) (l:List (List D)):wpF CC Gv an0 Tryz.f168 [.ag [.bool p,.sl l]] Q=(
 ∃n b,Gv 262 [Bx [Dd p,F2 l]] [Aw (F0 .i64 n),Aw (Dd b)]∧br b (br (toB (Dd (decide (n≥(-10000000:Int))))) (Q [Aw (F0 .i64 n),Aw (Dd (decide (n≤10000000)))]) (Q [Aw (F0 .i64 n),Aw (Dd false)])) (Q [Aw (F0 .i64 n),Aw (Dd false)])):=by kernel_rfl
theorem GF (ts:List (List D)):wpF CC Gv (fun _=>⟨[.slot 5 (.int .i64 0),.own 4 29 4],[],I0,M0⟩) Tryz.f89 [.c (.sl ts)] Q=(
 I0 [] [F0 .i64 0,F2 []]∧∀(n:Int) (es:List (List D)),I0 [] [F0 .i64 n,F2 es]→br (toB (Dd (decide (n<(J6 ts.length))))) ((0≤n∧n<(J6 ts.length)∧Lv (nth [] ts (J4 n))=3)∧∃n1 n2 s,cut (nth [] ts (J4 n)) 0 3 [F0 .i64 n1,F0 .i64 n2,Hu s]∧∃b e1 b1 e2 b2,Gv 170 [Bx [F0 .i64 n1,F0 .i64 n2,Hu s]] [Bx [Dd b,F2 e1,Dd b1,F2 e2],Aw (Dd b2)]∧br (toB (Dd !b2)) (Q [Aw (F2 []),Aw (Dd false)]) ((room (es.length+1)∧lens 4 [[Dd b,F2 e1,Dd b1,F2 e2]])∧I0 [] [F0 .i64 (Hx .i64 (n+1)),F2 (es++[[Dd b,F2 e1,Dd b1,F2 e2]])]∧M0 [F0 .i64 (Hx .i64 (n+1)),F2 (es++[[Dd b,F2 e1,Dd b1,F2 e2]])]<M0 [F0 .i64 n,F2 es])) (Q [Aw (F2 es),Aw (Dd true)])):=by kernel_rfl
theorem NH:wpF CC Gv an0 Tryz.f33 [] Q=(
 Q [Aw (F2 [[Hu []],[Hu [112,111,99,107,101,116]],[Hu [105,115,108,97,110,100]],[Hu [104,111,108,101]],[Hu [112,114,111,102,105,108,101]]])]):=by kernel_rfl
end
end Eng
end

section
open Go Go.Proofs Eng
set_option maxRecDepth 1000000
namespace Eng
section
variable (Gv:Nat→List A→List A→Prop) (Q:List A→Prop) (I0 I1 I2 I3:List D→List D→Prop) (M0 M1 M2 M3:List D→Nat)
theorem Ku (s:List UInt8):wpF CC Gv (fun _=>⟨[.slot 9 (.int .i64 0),.box 8 [(.slice none 0 0),(.slice none 0 0)]],[],I0,M0⟩) Tryz.f15 [.c (.str s)] Q=(
 ∃es n n1,Gv 42 [Aw (Hu s)] [Aw (F2 es),Aw (F0 .i64 n),Aw (F0 .i64 n1)]∧br (toB (Dd (n1 !=0))) (Q [Bx [F2 [],F2 []],Aw (F0 .i64 n),Aw (F0 .i64 n1)]) (I0 [] [F0 .i64 0,F2 [],F2 []]∧∀(n:Int) (e1 e2:List (List D)),I0 [] [F0 .i64 n,F2 e1,F2 e2]→br (toB (Dd (decide (n<(J6 es.length))))) ((0≤n∧n<(J6 es.length)∧Lv (nth [] es (J4 n))=2)∧∃e3,cut (nth [] es (J4 n)) 1 1 [F2 e3]∧∃e4 e5 b,Gv 43 [Bx [F2 e1,F2 e2],Aw (F2 e3)] [Bx [F2 e4,F2 e5],Aw (Dd b)]∧br (toB (Dd !b)) ((0≤n∧n<(J6 es.length)∧Lv (nth [] es (J4 n))=2)∧∃n2,cut (nth [] es (J4 n)) 0 1 [F0 .i64 n2]∧Q [Bx [F2 [],F2 []],Aw (F0 .i64 n2),Aw (F0 .i64 2)]) (∃n2,Gv 16 [Bx [F2 e4,F2 e5]] [Aw (F0 .i64 n2)]∧br (toB (Dd (n2 !=0))) ((0≤n∧n<(J6 es.length)∧Lv (nth [] es (J4 n))=2)∧∃n3,cut (nth [] es (J4 n)) 0 1 [F0 .i64 n3]∧Q [Bx [F2 [],F2 []],Aw (F0 .i64 n3),Aw (F0 .i64 n2)]) (I0 [] [F0 .i64 (Hx .i64 (n+1)),F2 e4,F2 e5]∧M0 [F0 .i64 (Hx .i64 (n+1)),F2 e4,F2 e5]<M0 [F0 .i64 n,F2 e1,F2 e2]))) (Q [Bx [F2 e1,F2 e2],Aw (F0 .i64 0),Aw (F0 .i64 0)]))):=by kernel_rfl
end
end Eng
end

section
namespace Eng
open Go Go.Proofs
set_option maxRecDepth 100000
theorem RP (x:Nat) (r:List Nat):val r≤val (x::r):=by
 show val r≤x+1000000000*val r;omega
theorem Zs:∀(l:List Nat) (k:Nat),val (l.drop k)≤val l
 |[],k=>by simp
 |x::r,0=>ak _
 |x::r,k+1=>am (Zs r k) (RP x r)
theorem GG {l:List Nat} (hl:Limbs l) (hlen:l.length≤1000) (h2:val l<18446744073709551616):qf CC 275 [.c (.sl (raw l))] [.c (.int .u64 (val l:Int))]:=by
 refine qg (anns:=fun _=>⟨[.slot 3 (.int .u64 0),.slot 4 (.int .i64 0)],[],fun _ ds=>∃k:Nat,k≤l.length∧ds=[.int .u64 (val (l.drop k):Int),.int .i64 ((k:Int)-1)],fun ds=>(toI (nth .undef ds 1)+1).toNat⟩) mixedT Tryz.func275 ?_;rw[YZ];simp only[J3,qh];refine⟨⟨l.length,ak _,by rw[T1,qK (by omega) (by omega)];rfl⟩,?_⟩;rintro n m ⟨k,hk,he⟩;simp only[aj,Hv,true_and,and_true]at he;obtain⟨rfl,rfl⟩:=he;refine brd (fun h=>?_) (fun h=>?_)
 ·have a0:k-1<l.length:=by omega
  have ht:((k:Int)-1).toNat=k-1:=by omega
  rw[ht];have hd:val (l.drop (k-1))=l[k-1]+1000000000*val (l.drop k):=by rw[Pl a0,show k-1+1=k by omega];rfl
  have hle:=Zs l (k-1);have hx:=hl.get a0;have hw:Hx .u64 (Hx .u64 ((val (l.drop k):Int)*1000000000)+Hx .u64 (l[k-1]:Int))=(val (l.drop (k-1)):Int):=by rw[x9 (n:=(val (l.drop k):Int)*1000000000) (by omega) (by omega),x9 (n:=(l[k-1]:Int)) (by omega) (by omega),x9 (by omega) (by omega)];omega
  have a1:Hx .i64 ((k:Int)-1-1)=((k-1:Nat):Int)-1:=by rw[qK (by omega) (by omega)];omega
  refine⟨⟨by omega,by omega,qt a0⟩,_,qw a0,⟨k-1,by omega,by rw[hw,a1]⟩,?_⟩;rw[a1];simp only[nth,toI];omega
 ·have a0:k=0:=by omega
  subst a0;rw[List.drop_zero]
def Fr (z:Int):Int×Bool:=if-9223372036854775808≤z∧z≤9223372036854775807 then(z,true)else(0,false)
theorem NI {z:Int} (hz:Sm z):qf CC 262 [qJ z] [.c (.int .i64 (Fr z).1),.c (.bool (Fr z).2)]:=by
 refine qg (anns:=an0) mixedT Tryz.func262 ?_;have s1:Sm (-9223372036854775808):=Tx (by omega) (by omega);have s2:Sm 9223372036854775807:=Tx (by omega) (by omega);have h1:=xv (n:= -9223372036854775808) (by omega) (by omega);have h2:=xv (n:=9223372036854775807) (by omega) (by omega);have c1:=Vk hz s1;have c2:=Vk hz s2;rw[qm]at h1 h2 c1 c2;rw[qm (-9223372036854775808)]at c1;rw[qm 9223372036854775807]at c2;rw[qm,NG];have l1:yz z (-9223372036854775808)<0↔z< -9223372036854775808:=by unfold yz;split<;>(try split)<;>omega
 have l2:yz z 9223372036854775807>0↔9223372036854775807<z:=by unfold yz;split<;>(try split)<;>omega
 unfold Fr;refine⟨_,_,h1,_,_,h2,_,c1,brd (fun h=>?_) (fun h=>⟨_,c2,brd (fun g=>?_) (fun g=>?_)⟩)⟩
 ·have:=l1.1 h;rw[if_neg (by omega)]
 ·have:=l2.1 g;rw[if_neg (by omega)]
 ·have h:=mt l1.2 h;have g:=mt l2.2 g;rw[if_pos ⟨by omega,by omega⟩];have hs:=GG (l:=lim z.natAbs) (qe _) hz.len (by rw[qj];omega);rw[qj]at hs;refine⟨_,hs,?_⟩;by_cases hn:z<0
  ·rw[decide_eq_true hn];refine jm (fun _=>?_) (fun h=>by simp at h);have e:Hx .i64 (0-Hx .i64 ((z.natAbs:Nat):Int))=z:=by simp[Hx,IntKind.bits,IntKind.signed];omega
   rw[e]
  ·rw[decide_eq_false hn];refine jm (fun h=>by simp at h) (fun _=>?_);have e:Hx .i64 ((z.natAbs:Nat):Int)=z:=by rw[qK (by omega) (by omega)];omega
   rw[e]
theorem L3 {z:Int} (hz:Sm z):∃v,qf CC 168 [qJ z] [.c (.int .i64 v),.c (.bool (decide (-10000000≤z∧z≤10000000)))]∧(-10000000≤z∧z≤10000000→v=z):=by
 refine⟨(Fr z).1,?_,fun h=>?_⟩
 ·refine qg (anns:=an0) mixedT Tryz.func168 ?_;have h1:=NI hz;rw[qm]at h1 ⊢;rw[L1];refine⟨_,_,h1,?_⟩;unfold Fr;by_cases h: -9223372036854775808≤z∧z≤9223372036854775807
  ·rw[if_pos h];refine jm (fun _=>brd (fun g=>?_) (fun g=>?_)) (fun h=>by simp at h)
   ·have g: -10000000≤z:=g;have:decide (-10000000≤z∧z≤10000000)=decide (z≤10000000):=by rw[decide_eq_decide];exact⟨fun h=>h.2,fun h=>⟨g,h⟩⟩
    rw[this]
   ·have g:¬ -10000000≤z:=g;rw[decide_eq_false (fun h=>g h.1)]
  ·rw[if_neg h];refine jm (fun h=>by simp at h) (fun _=>?_);rw[decide_eq_false (by omega)]
 ·unfold Fr;rw[if_pos (by omega)]
theorem L4 {s:List UInt8} (hs:s.length≤2000):qf CC 88 [.c (.str s)] (Fq s):=by
 have hP:=Km (s:=s) (by omega);rw[Pr]at hP;have h6:=QM hs;have a4:=Ze (k:=3) (by omega);unfold XU at h6;refine qg (anns:=an0) mixedT Tryz.func88 ?_;unfold Fq SU;rw[TZ];cases hd:vS s with
 |none=>rw[hd]at hP;exact⟨_,hP,brd (fun _=>rfl) (fun h=>absurd (by decide) h)⟩
 |some mk=>
  obtain⟨m,k⟩:=mk;rw[hd]at hP h6;simp only at h6 hP ⊢;refine⟨_,hP,brd (fun h=>absurd h (by omega)) (fun _=>brd (fun h3=>?_) (fun h3=>?_))⟩
  ·rw[if_neg (by omega)]
  ·have h3:k≤3:=by omega
   rw[if_pos h3];simp only;obtain⟨hk30,hm⟩:=vH hd;have hsr:Sr ((m:Rat)/((10^k:Nat):Rat)):=val_sr (s:=s) (by unfold XU;rw[hd]) hs;have a0:=Xk zN hsr (HS (m:=10^3) (by decide));have a2:((10^3:Nat):Rat)=((1000:Int):Rat):=rfl;have a3:=micF (m:=m) h3;rw[←a2]at a3;have a1:Sr ((m:Rat)/((10^k:Nat):Rat)*((10^3:Nat):Rat)):=by
    have e:(m:Rat)/((10^k:Nat):Rat)*((10^3:Nat):Rat)=Rat.divInt (m*1000) ((10^k:Nat):Int):=by rw[a2,Rat.divInt_eq_div,Rat.intCast_mul,Rat.intCast_natCast,Rat.div_def,Rat.div_def,Rat.mul_assoc,Rat.mul_assoc];congr 1;exact Rat.mul_comm _ _
    have hp:0<10^k:=ap (by omega);obtain⟨e1,e2⟩:=jk (n:=m*1000) (d:=((10^k:Nat):Int)) (by omega);rw[e];obtain⟨n,hn⟩:∃n,n=s.length+3:=⟨_,rfl⟩;constructor
    ·refine Kk (n:=n) ?_ (by omega);rw[e1];refine ao (J7 _ _) ?_;rw[Lm,hn,aq];exact an hm (by omega)
    ·refine Kk (n:=31) ?_ (by omega);rw[e2];refine ao (J7 _ _) ?_;rw[J9];exact Nat.pow_lt_pow_right (by omega) (by omega)
   have hf:=NA a1;rw[a3]at hf;have hsm:Sm (m*((10^(3-k):Nat):Int)):=by refine CK (n:=s.length+3) ?_ (by omega);rw[Lm,J9,aq];exact Nat.lt_of_lt_of_le (an hm (ap (by omega))) (Nat.mul_le_mul_left _ (Nat.pow_le_pow_right (by omega) (by omega)))
   generalize m*((10^(3-k):Nat):Int)=V at *;obtain⟨v,hw,hv⟩:=L3 hsm;have hoQ:∀q,CJ (some q)=[xk q,.c (.int .i64 0)]:=fun _=>rfl
   rw[hoQ]at h6;generalize (m:Rat)/((10^k:Nat):Rat)*((10^3:Nat):Rat)=y at *;generalize (m:Rat)/((10^k:Nat):Rat)=x at *;rw[qb]at h6 a4;rw[qb,qb ((10^3:Nat):Rat),qb y]at a0;rw[qb,qm]at hf;rw[qm]at hw;refine⟨_,_,_,_,_,h6,_,_,_,_,a4,_,_,_,_,a0,_,_,hf,_,_,hw,?_⟩;by_cases hb: -10000000≤V∧V≤10000000
   ·rw[decide_eq_true hb,if_pos hb];refine brb (fun h=>by simp at h) (fun _=>?_);rw[hv hb]
   ·rw[decide_eq_false hb,if_neg hb];exact brb (fun _=>rfl) (fun h=>by simp at h)
theorem GH {r:List Tk} (ht:∀t∈r,t.text.length≤2000) (hl:r.length≤100000):qf CC 89 [.c (.sl (r.map zQ))] (match xK (tkW r)with
 |some q=>[.c (.sl (q.map cR)),.c (.bool true)]
 |none=>[.c (.sl []),.c (.bool false)]):=by
 refine qg (anns:=fun _=>⟨[.slot 5 (.int .i64 0),.own 4 29 4],[],fun _ ds=>∃(i:Nat) (q:List Rat),i≤r.length∧ds=[.int .i64 (i:Int),.sl (q.map cR)]∧xK ((tkW r).take i)=some q,fun ds=>(r.length-toI (nth .undef ds 0)).toNat⟩) mixedT Tryz.func89 ?_;rw[GF];simp only[J3];refine⟨⟨0,[],by omega,rfl,rfl⟩,?_⟩;rintro n es ⟨i,q,hi,he,hq⟩;simp only[aj,Hv,D.sl.injEq,true_and,and_true]at he;obtain⟨rfl,rfl⟩:=he;have hql:=kG hq;rw[List.length_take,zu]at hql;refine brd (fun h=>?_) (fun h=>?_)
 ·have a0:i<r.length:=by rw[Lr]at h;omega
  have hL:=Lg (t:=r[i]) (ht _ (No a0));rw[BZ]at hL;have hg:(tkW r)[i]'(by rw[zu];exact a0)=(r[i].kind,r[i].text):=by simp[tkW]
  rw[Hy,qM a0];refine⟨⟨by omega,by rw[Lr];omega,rfl⟩,_,_,_,⟨rfl,ak 3⟩,?_⟩;cases hv:Gm (r[i].kind,r[i].text)with
  |none=>rw[hv]at hL;refine⟨_,_,_,_,_,hL,brb (fun _=>?_) (fun h=>by simp at h)⟩;rw[Zq (p:=(r[i].kind,r[i].text)) (by rw[←hg];exact No _) hv]
  |some x=>
   rw[hv]at hL;have ho:RG (some x)=[xk x,.c (.bool true)]:=rfl;rw[ho,qb]at hL;have hw:Hx .i64 ((i:Int)+1)=((i+1:Nat):Int):=by rw[qK (by omega) (by omega)];omega
   rw[hw];refine⟨_,_,_,_,_,hL,brb (fun h=>by simp at h) (fun _=>⟨⟨by unfold room;rw[Lr];omega,fun e he=>by simp at he;rw[he];rfl⟩,⟨i+1,q++[x],a0,?_,?_⟩,?_⟩)⟩
   ·rw[Ls];rfl
   ·rw[List.take_succ_eq_append_getElem (by rw[zu];exact a0),hg];exact QO hq hv
   ·simp only[nth,toI];omega
 ·have a0:i=r.length:=by rw[Lr]at h;omega
  subst a0;rw[P1 (by rw[zu];exact ak _)]at hq;rw[hq]
theorem VN:qf CC 33 [] [.c (.sl (vt kw5))]:=by
 refine qg (anns:=an0) mixedT Tryz.func33 ?_;rw[NH];rfl
end Eng
end

section
namespace Eng
open Go Go.Proofs
set_option maxRecDepth 100000
def Xr (ls:List Ly) (es:List En) (w:List Wd):List A:=match Pn ls es w with
 |some (ls',es')=>[drP ls' es',.c (.bool true)]
 |none=>[drP ls es,.c (.bool false)]
theorem Dv {w:List UInt8} {k:Nat} (h1:1≤k) (h4:k≤4) (h:nth [] kw5 k=w):wv w=(k:Int):=by
 have hk:k=1∨k=2∨k=3∨k=4:=by omega
 rcases hk with rfl|rfl|rfl|rfl<;>(subst h;rfl)
theorem Dw {w:List UInt8} (h:∀j,1≤j→j<5→nth [] kw5 j≠w):wv w=0:=by
 unfold wv;rw[if_neg (fun e=>h 1 (by omega) (by omega) e.symm),if_neg (fun e=>h 2 (by omega) (by omega) e.symm),if_neg (fun e=>h 3 (by omega) (by omega) e.symm),if_neg (fun e=>h 4 (by omega) (by omega) e.symm)]
def Fs (w:List UInt8) (K:Nat):Prop:=(K=1∧w=kE)∨(K=2∧w=Xh)∨(K=3∧w=zf)
theorem NJ {w:List UInt8} {K K':Nat} (h:Fs w K) (h':Fs w K'):K=K':=by
 rcases h with⟨rfl,h⟩|⟨rfl,h⟩|⟨rfl,h⟩<;>rcases h' with⟨rfl,h'⟩|⟨rfl,h'⟩|⟨rfl,h'⟩<;>first|rfl|(rw[h]at h';exact absurd h' (by decide))
def JP (K:Nat):Nat:=if K=1 then 4 else if K=2 then 6 else 3
theorem RQ {w n:List UInt8} {q:List Rat} {K:Nat} (h:Fs w K):XV w n q=if q.length=JP K then some ⟨(K:Int),n,prs q (wt K),if K=3 then nth 0 q 2 else 0⟩else none:=by
 rcases h with⟨rfl,rfl⟩|⟨rfl,rfl⟩|⟨rfl,rfl⟩
 ·unfold XV;rw[if_pos rfl];split
  ·rfl
  ·rename_i a0;rw[if_neg];intro hl
   match q,hl with
   |[a,b,c,d],_=>exact a0 _ _ _ _ rfl
 ·unfold XV;rw[if_neg (by decide),if_pos rfl];split
  ·rfl
  ·rename_i a0;rw[if_neg];intro hl
   match q,hl with
   |[a,b,c,d,e,f],_=>exact a0 _ _ _ _ _ _ rfl
 ·unfold XV;rw[if_neg (by decide),if_neg (by decide),if_pos rfl];split
  ·rfl
  ·rename_i a0;rw[if_neg];intro hl
   match q,hl with
   |[a,b,c],_=>exact a0 _ _ _ rfl
theorem L5 {w n:List UInt8} {q:List Rat} (h1:w≠kE) (h2:w≠Xh) (h3:w≠zf):XV w n q=none:=by
 unfold XV;rw[if_neg h1,if_neg h2,if_neg h3]
theorem Dx (e:En):(enO e).length=7:=by
 unfold enO MD;by_cases h:e.kind=3
 ·rw[if_pos h];rfl
 ·rw[if_neg h];rfl
section
variable (t0 t1 t2:Tk) (r:List Tk)
def adI0 (_ ds:List D):Prop:=∃k:Nat,1≤k∧k≤5∧ds=[.int .i64 (k:Int)]∧∀j,1≤j→j<k→nth [] kw5 j≠t2.text
def adM0 (ds:List D):Nat:=(10-toI (nth .undef ds 0)).toNat
def adE (K:Nat) (q:List Rat) (j:Nat):List D:=[.int .i64 (K:Int),.str t1.text,.sl ((prs q j).map Lx)]++BY
def adJ (_ us:List D):Prop:=∃K:Nat,Fs t0.text K∧us= .int .i64 (JP K:Int)::adE t1 K [] 0
def adI1 (_ ds:List D):Prop:=∃(K j:Nat) (q:List Rat),Fs t0.text K∧xK (tkW (t2::r))=some q∧q.length=JP K∧2*j≤q.length∧ds= .int .i64 ((2*j+1:Nat):Int)::adE t1 K q j
def adM1 (ds:List D):Nat:=(20-toI (nth .undef ds 0)).toNat
end
theorem Dy {ls:List Ly} {es:List En} {ts:List Tk} (ht:∀t∈ts,t.text.length≤2000) (hl:ts.length≤100000) (hls:ls.length≤1000) (hes:es.length≤1000):qf CC 43 [drP ls es,.c (.sl (ts.map zQ))] (Xr ls es (tkW ts)):=by
 refine vC (C:=CX []) rfl rfl ?_;by_cases h4:ts.length<4
 ·refine qg (anns:=wB (JW ⟨[.slot 8 (.int .i64 0)],[],fun _ _=>True,fun _=>0⟩ ⟨[.slot 13 (.int .i64 0),.mix 11 [.dat (.int .i64 0),.dat (.string ⟨#[]⟩),.own 165 8,.dat (.bool false),.dat (.slice none 0 0),.dat (.bool false),.dat (.slice none 0 0)]],[],fun _ _=>True,fun _=>0⟩) 27 ⟨[.slot 12 (.int .i64 0),.mix 11 [.dat (.int .i64 0),.dat (.string ⟨#[]⟩),.own 165 8,.dat (.bool false),.dat (.slice none 0 0),.dat (.bool false),.dat (.slice none 0 0)]],[],fun _ _=>True,fun _=>0⟩) mixedT Tryz.func43 ?_;unfold drP;rw[NC];refine brd (fun _=>?_) (fun h=>absurd (by rw[J3,Lr];omega) h);have e:Pn ls es (tkW ts)=none:=by
   unfold Pn;split
   ·rename_i a7;have:=congrArg Lv a7;rw[zu]at this;simp at this;omega
   ·rfl
  unfold Xr;rw[e];rfl
 obtain⟨t0,t1,t2,t3,r,rfl⟩:∃t0 t1 t2 t3 r,ts=t0::t1::t2::t3::r:=by
  match ts,h4 with
  |a::b::c::d::r,_=>exact⟨a,b,c,d,r,rfl⟩
  |[],h=>exact absurd (by simp) h
  |[_],h=>exact absurd (by simp) h
  |[_,_],h=>exact absurd (by simp) h
  |[_,_,_],h=>exact absurd (by simp) h
 ·refine qg (anns:=wB (JW ⟨[.slot 8 (.int .i64 0)],[],adI0 t2,adM0⟩ ⟨[.slot 13 (.int .i64 0),.mix 11 [.dat (.int .i64 0),.dat (.string ⟨#[]⟩),.own 165 8,.dat (.bool false),.dat (.slice none 0 0),.dat (.bool false),.dat (.slice none 0 0)]],[],adI1 t0 t1 t2 (t3::r),adM1⟩) 27 ⟨[.slot 12 (.int .i64 0),.mix 11 [.dat (.int .i64 0),.dat (.string ⟨#[]⟩),.own 165 8,.dat (.bool false),.dat (.slice none 0 0),.dat (.bool false),.dat (.slice none 0 0)]],[],adJ t0 t1,fun _=>0⟩) mixedT Tryz.func43 ?_;unfold drP;rw[NC];have el:(Lv (List.map zQ (t0::t1::t2::t3::r)))=r.length+4:=by simp
  simp only[J3,el];have ek:∀(t:Tk) (m:Nat),(((t.kind:Nat):Int) !=(m:Int))=!decide (t.kind=m):=fun t m=>by rw[Bool.eq_iff_iff];simp;omega
  have hA:Pn ls es (tkW (t0::t1::t2::t3::r))=if ¬(t0.kind=1∧t1.kind=1)then none
   else if t0.text=xB then
    (if(tkW r).length=0∧t2.kind=1∧t3.kind=2 then(match Rx t3.text with
     |none=>none
     |some d=>if wv t2.text≠0 then some (ls++[⟨t1.text,wv t2.text,d⟩],es)else none)else none)
   else match xK (tkW (t2::t3::r))with
    |none=>none
    |some q=>match XV t0.text t1.text q with
     |none=>none
     |some e=>some (ls,es++[e]):=rfl
  have a1:Pn ls es (tkW (t0::t1::t2::t3::r))=none→[Bx [F2 (ls.map vP),F2 (es.map enO)],Aw (Dd false)]=Xr ls es (tkW (t0::t1::t2::t3::r)):=fun h=>by unfold Xr;rw[h];rfl
  rw[hA]at a1;have a0:∀ls' es',Pn ls es (tkW (t0::t1::t2::t3::r))=some (ls',es')→[Bx [F2 (ls'.map vP),F2 (es'.map enO)],Aw (Dd true)]=Xr ls es (tkW (t0::t1::t2::t3::r)):=fun ls' es' h=>by unfold Xr;rw[h];rfl
  rw[hA]at a0;clear hA;generalize Xr ls es (tkW (t0::t1::t2::t3::r))=O at *;refine brd (fun h=>absurd h (by omega)) (fun _=>⟨⟨by omega,by omega,rfl⟩,_,⟨rfl,by show 1≤3;omega⟩,?_⟩);rw[show(1:Int)=((1:Nat):Int)from rfl,ek t0 1];refine brn (fun h=>?_) (fun h=>⟨⟨by omega,by omega,rfl⟩,_,⟨rfl,by show 1≤3;omega⟩,?_⟩)
  ·exact a1 (if_pos (fun g=>of_decide_eq_false h g.1))
  have ha:=of_decide_eq_true h;rw[ek t1 1];refine brn (fun h=>?_) (fun h=>⟨⟨by omega,by omega,rfl⟩,_,⟨rfl,ak 3⟩,?_⟩)
  ·exact a1 (if_pos (fun g=>of_decide_eq_false h g.2))
  have hb:=of_decide_eq_true h;rw[if_neg (fun g=>g ⟨ha,hb⟩)]at a1 a0;refine brb (fun h=>?_) (fun h=>?_)
  ·have a9:t0.text=xB:=eq_of_beq h;rw[if_pos a9]at a1 a0;have ae:=L4 (ht t3 (by simp));rw[NB]at ae;have hmm:=Dq t3.text;refine⟨⟨by omega,by omega,rfl⟩,_,⟨rfl,ak 3⟩,_,_,upX ae,brb (fun h=>?_) (fun h=>?_)⟩
   ·refine a1 (if_neg (fun g=>?_));rw[zu]at g;simp at h;omega
   have hr0:r.length=0:=by simp at h;omega
   refine⟨⟨by omega,by omega,rfl⟩,_,⟨rfl,by show 1≤3;omega⟩,?_⟩;rw[ek t2 1];refine brn (fun h=>a1 (if_neg (fun g=>of_decide_eq_false h g.2.1))) (fun h2=>⟨⟨by omega,by omega,rfl⟩,_,⟨rfl,by show 1≤3;omega⟩,?_⟩);rw[show(2:Int)=((2:Nat):Int)from rfl,ek t3 2];refine brn (fun h=>a1 (if_neg (fun g=>of_decide_eq_false h g.2.2))) (fun h3=>?_);rw[if_pos ⟨by rw[zu];exact hr0,of_decide_eq_true h2,of_decide_eq_true h3⟩,hmm]at a1 a0;refine brb (fun h=>?_) (fun h=>?_)
   ·refine a1 ?_;rw[if_neg (by simpa using h)]
   have hm0:(mmF t3.text).2=0:=by simpa using h
   rw[if_pos hm0]at a1 a0;simp only at a1 a0;refine⟨⟨1,by omega,by omega,rfl,fun j h1 h2=>by omega⟩,?_⟩;rintro n ⟨k,hk1,hk5,he,a6⟩;simp only[aj,Hv,true_and,and_true]at he;subst he;refine brd (fun h=>?_) (fun h=>?_)
   ·have hk4:k≤4:=by omega
    have a8:k<kw5.length:=by show k<5;omega
    have ah:kw5[k]=nth [] kw5 k:=by rw[qI];simp[a8]
    refine⟨_,upX VN,?_⟩;rw[Hy];refine⟨⟨by omega,by rw[zt];omega,by rw[yG a8];rfl⟩,_,Wp a8,⟨by omega,by omega,rfl⟩,_,⟨rfl,ak 3⟩,brb (fun h=>?_) (fun h=>?_)⟩
    ·have hw:nth [] kw5 k=t2.text:=by rw[←ah];simpa using h
     have hkk:=Dv hk1 hk4 hw;rw[hkk]at a0;rw[if_pos (by omega)]at a0;refine⟨⟨by unfold room;rw[Lr];omega,wL (f:=vP) (n:=3) (fun _=>rfl) ls⟩,⟨by omega,by omega,rfl⟩,_,⟨rfl,ak 3⟩,⟨by unfold room;rw[Lr];omega,fun e he=>by simp at he;rw[he];rfl⟩,?_⟩;rw[←a0 _ _ rfl,Ls];rfl
    ·have hw:nth [] kw5 k≠t2.text:=fun e=>by rw[←ah]at e;simp[e]at h
     have hww:Hx .i64 ((k:Int)+((1:Nat):Int))=((k+1:Nat):Int):=by rw[qK (by omega) (by omega)];omega
     rw[hww];refine⟨⟨k+1,by omega,by omega,rfl,fun j h1 h2=>?_⟩,by simp only[adM0,nth,toI];omega⟩;by_cases hj:j=k
     ·subst hj;exact hw
     ·exact a6 j h1 (by omega)
   ·have hk0:=Dw (w:=t2.text) (fun j h1 h2=>a6 j h1 (by omega));refine a1 ?_;rw[hk0,if_neg (by simp)]
  ·have a9:t0.text≠xB:=fun e=>by rw[e]at h;exact absurd h (by decide)
   rw[if_neg a9]at a1 a0;have e2:List.drop 2 (List.take (J4 ((r.length+4:Nat):Int)) ((t0::t1::t2::t3::r).map zQ))=(t2::t3::r).map zQ:=by rw[Hy,P1 (by rw[el];exact ak _)];rfl
   have a4:=GH (r:=t2::t3::r) (fun t h=>ht t (by simp at h ⊢;rcases h with h|h|h<;>simp[h])) (by simp at hl ⊢;omega);have a5:=wL (f:=zQ) (n:=3) (fun _=>rfl) (t0::t1::t2::t3::r);rw[e2];refine⟨⟨by omega,by omega,by omega,a5⟩,?_⟩;cases hq:xK (tkW (t2::t3::r))with
   |none=>rw[hq]at a4 a1;exact⟨_,_,upX a4,brb (fun _=>a1 rfl) (fun h=>by simp at h)⟩
   |some q=>
    rw[hq]at a4 a1 a0;simp only at a1 a0 a4;have hqN:=kG hq;rw[zu]at hqN;have ad:∀K,Fs t0.text K→(q.length≠JP K→[Bx [F2 (ls.map vP),F2 (es.map enO)],Aw (Dd false)]=O)∧(q.length=JP K→[Bx [F2 (ls.map vP),F2 ((es++[(⟨(K:Int),t1.text,prs q (wt K),if K=3 then nth 0 q 2 else 0⟩:En)]).map enO)],Aw (Dd true)]=O):=fun K hK=>by
     have hm:=RQ (n:=t1.text) (q:=q) hK;refine⟨fun a6=>a1 ?_,fun a7=>a0 _ _ ?_⟩
     ·rw[hm,if_neg a6]
     ·rw[hm,if_pos a7]
    refine⟨_,_,upX a4,brb (fun h=>by simp at h) (fun _=>?_)⟩;refine⟨⟨by omega,by omega,rfl⟩,t1.text,⟨rfl,ak 3⟩,?_,?_⟩
    ·refine⟨⟨by omega,by omega,rfl⟩,t0.text,⟨rfl,ak 3⟩,?_⟩;refine brb (fun h=>?_) (fun h1=>brb (fun h=>?_) (fun h2=>brb (fun h=>?_) (fun h3=>?_)))
     ·exact⟨1,.inl ⟨rfl,eq_of_beq h⟩,rfl⟩
     ·exact⟨2,.inr (.inl ⟨rfl,eq_of_beq h⟩),rfl⟩
     ·exact⟨3,.inr (.inr ⟨rfl,eq_of_beq h⟩),rfl⟩
     ·refine a1 ?_;rw[L5 (fun e=>by rw[e]at h1;exact absurd h1 (by decide)) (fun e=>by rw[e]at h2;exact absurd h2 (by decide)) (fun e=>by rw[e]at h3;exact absurd h3 (by decide))]
    ·rintro n n_1 s es_2 b es_3 b_1 es_4 ⟨K,hK,he⟩;simp only[adE,BY,prs,List.range_zero,W2,U0,U3,aj,Hv,D.str.injEq,D.sl.injEq,D.bool.injEq,true_and,and_true]at he;obtain⟨rfl,rfl,rfl,rfl,rfl,rfl,rfl,rfl⟩:=he;obtain⟨r1,r2⟩:=ad K hK;rw[Lr];refine brb (fun h=>r1 (by intro e;rw[e]at h;simp at h)) (fun h=>?_);have a2:q.length=JP K:=by simp at h;omega
     have r2:=r2 a2;have af:K=1∨K=2∨K=3:=by rcases hK with⟨h,_⟩|⟨h,_⟩|⟨h,_⟩<;>omega
     have hsz:JP K=2*wt K∨(K=3∧JP K=3∧wt K=1):=by
      rcases af with rfl|rfl|rfl
      ·exact .inl rfl
      ·exact .inl rfl
      ·exact .inr ⟨rfl,rfl,rfl⟩
     have hmx:q.length≤6:=by rw[a2];unfold JP;split<;>(try split)<;>omega
     refine⟨⟨K,0,q,hK,hq,a2,by omega,rfl⟩,?_⟩;rintro n_2 n_3 s es_5 b es_6 b_2 es_7 ⟨K',j,q',hK',ai,hl',hj,he⟩;have hKK:=NJ hK' hK;subst hKK;have hqq:q'=q:=by rw[hq]at ai;exact(au ai).symm
     subst hqq;simp only[adE,BY,U0,U3,aj,Hv,D.str.injEq,D.sl.injEq,D.bool.injEq,true_and,and_true]at he;obtain⟨rfl,rfl,rfl,rfl,rfl,rfl,rfl,rfl⟩:=he;refine brd (fun h=>?_) (fun h=>?_)
     ·have w1:Hx .i64 (((2*j+1:Nat):Int)-((1:Nat):Int))=((2*j:Nat):Int):=by rw[qK (by omega) (by omega)];omega
      have w2:Hx .i64 (((2*j+1:Nat):Int)+2)=((2*(j+1)+1:Nat):Int):=by rw[qK (by omega) (by omega)];omega
      rw[w1,w2,Hy,Hy,vu (by omega),vu (by omega)];refine⟨⟨by omega,by omega,rfl⟩,_,_,_,_,⟨rfl,ak 4⟩,⟨by omega,by omega,rfl⟩,_,_,_,_,⟨rfl,ak 4⟩,⟨by unfold room;rw[Lr,ND];omega,fun e he=>by simp at he;rw[he];rfl⟩,⟨K',j+1,q',hK,hq,a2,by omega,?_⟩,by simp only[adM1,nth,toI];omega⟩;unfold adE;rw[Ud,Ls];rfl
     ·have hjj:j=wt K':=by omega
      subst hjj;have a3:=wL (f:=enO) (n:=7) Dx es;have e3:(((JP K':Nat):Int)==3)=decide (K'=3):=by rcases af with rfl|rfl|rfl<;>rfl
      rw[e3];refine brd (fun h3=>?_) (fun h3=>?_)
      ·have hq3:2<q'.length:=by subst h3;rw[a2];decide
       rw[vu hq3];refine⟨⟨by omega,by omega,rfl⟩,_,_,_,_,⟨rfl,ak 4⟩,⟨by unfold room;rw[Lr];omega,a3⟩,⟨by unfold room;rw[Lr];omega,fun e he=>by simp at he;rw[he];rfl⟩,?_⟩;rw[←r2,Ls];subst h3;rfl
      ·refine⟨⟨by unfold room;rw[Lr];omega,a3⟩,⟨by unfold room;rw[Lr];omega,fun e he=>by simp at he;rw[he];rfl⟩,?_⟩;rw[←r2,Ls];have h3':¬(K':Int)=3:=by omega
       have hrd:MD ⟨(K':Int),t1.text,prs q' (wt K'),if K'=3 then nth 0 q' 2 else 0⟩=BY:=by unfold MD;exact if_neg h3'
       simp only[List.map_cons,W2,enO,hrd];rfl
end Eng
end

section
namespace Eng
open Go Go.Proofs
set_option maxRecDepth 100000
structure AdI (ls:List Ly) (es:List En):Prop where
 nm:∀l∈ls,l.name.length≤1000
 nb:∀e∈es,NbE e∧e.pts.length≤3
theorem FR {ls ls':List Ly} {es es':List En} {w:List Wd} (h:Pn ls es w=some (ls',es')) (hw:∀p∈w,p.2.length≤1000) (hI:AdI ls es):AdI ls' es':=by
 rw[Po]at h;cases hl:y9 w with
 |some l=>
  rw[hl]at h;simp only[ar,Prod.mk.injEq]at h;obtain⟨rfl,rfl⟩:=h;refine⟨fun x hx=>?_,hI.nb⟩;rcases V1.1 hx with hx|hx
  ·exact hI.nm x hx
  ·simp only[W0,Ts,or_false]at hx;subst hx;unfold y9 at hl;split at hl
   ·rename_i a b c d;split at hl
    ·split at hl
     ·simp at hl
     ·simp only[ar]at hl;rw[←hl];exact hw (1,b) (by simp)
    ·simp at hl
   ·simp at hl
 |none=>
  rw[hl]at h;simp only at h;cases he:ve w with
  |none=>rw[he]at h;simp at h
  |some e=>
   rw[he]at h;simp only[ar,Prod.mk.injEq]at h;obtain⟨rfl,rfl⟩:=h;refine⟨hI.nm,fun x hx=>?_⟩;rcases V1.1 hx with hx|hx
   ·exact hI.nb x hx
   ·simp only[W0,Ts,or_false]at hx;subst hx;exact GD he fun p hp=>am (hw p hp) (by omega)
def epI (L:List Li) (_ ds:List D):Prop:=∃(i:Nat) (ls:List Ly) (es:List En),i≤L.length∧YO (L.drop i) ls es=YO L [] []∧zb ls es=0∧AdI ls es∧ds=pjG i ls es
theorem L6 {s:List UInt8} (hs:s.length≤65536) (hw:∀w∈qC 10 s,w.length≤1000):qf CC 15 [.c (.str s)] (outX (YK s)):=by
 have hL:=N9 hs (fun w h=>am (hw w h) (by omega));unfold Dj at hL;unfold YK;cases hx:kD 1 (qC 10 s)with
 |error p=>obtain⟨n,e⟩:=p;rw[hx]at hL;have h0:=XJ hx;refine qg (anns:=fun _=>⟨[.slot 9 (.int .i64 0),.box 8 [.slice none 0 0,.slice none 0 0]],[],fun _ _=>True,fun _=>0⟩) mixedT Tryz.func15 ?_;rw[Ku];exact⟨_,_,_,hL,brb (fun _=>rfl) (fun h=>by simp at h h0;omega)⟩
 |ok L=>
  rw[hx]at hL;simp only at hL ⊢;obtain⟨hLl,hLx⟩:=Zr hx;have hcnt:=zx 10 s;have hcl:s.count 10≤s.length:=List.count_le_length;have a7:L.length≤70000:=by omega
  refine qg (anns:=fun _=>⟨[.slot 9 (.int .i64 0),.box 8 [.slice none 0 0,.slice none 0 0]],[],epI L,pjM L⟩) mixedT Tryz.func15 ?_;rw[Ku,←WU L rfl];simp only[J3];generalize hR:YO L [] []=R at *;refine⟨_,_,_,hL,brb (fun h=>by simp at h) (fun _=>⟨⟨0,[],[],by omega,rfl,rfl,⟨by simp,by simp⟩,rfl⟩,?_⟩)⟩;rintro n es_1 es_2 ⟨i,ls,es,hi,a0,hv,hI,he⟩;simp only[pjG,aj,Hv,D.sl.injEq,true_and,and_true]at he;obtain⟨rfl,rfl,rfl⟩:=he;obtain⟨v1,v2,_,_⟩:=zZ hv;refine brd (fun h=>?_) (fun h=>?_)
  ·have a2:i<L.length:=by rw[Lr]at h;omega
   obtain⟨hne,w,hwm,hwl,a8⟩:=hLx L[i] (No a2);have hw2:=hw w hwm;have htk:∀p∈tkW L[i].toks,p.2.length≤1000:=fun p hp=>by unfold tkW at hp;obtain⟨t,ht,rfl⟩:=W1.1 hp;exact am (a8 t ht) hw2
   have htx:∀t∈L[i].toks,t.text.length≤2000:=fun t ht=>by have:=a8 t ht;omega
   have a1:=Dy (ls:=ls) (es:=es) htx (by omega) (by omega) (by omega);rw[Pl a2,YO]at a0;rw[Hy,qM a2];have hb:(0:Int)≤(i:Int)∧(i:Int)<((L.map yI).length:Int)∧(yI L[i]).length=2:=⟨by omega,by rw[Lr];omega,rfl⟩;refine⟨hb,_,⟨rfl,ak 2⟩,?_⟩;unfold Xr at a1;unfold drP at a1;cases ha:Pn ls es (tkW L[i].toks)with
   |none=>rw[ha]at a1 a0;refine⟨_,_,_,a1,brb (fun _=>⟨hb,_,⟨rfl,by show 1≤2;omega⟩,?_⟩) (fun h=>by simp at h)⟩;rw[←hR,←a0];rfl
   |some p=>
    obtain⟨a6,a3⟩:=p;rw[ha]at a1 a0;simp only at a1 a0;have a5:=FR ha htk hI;have a4:=yD (ls:=a6) (es:=a3.map XI) a5.nm (fun e he=>by
     obtain⟨x,hx,rfl⟩:=W1.1 he;obtain⟨n1,n2⟩:=a5.nb x hx;exact⟨Wu n1,by unfold XI;simp;omega⟩)
    rw[Kt,←Uh]at a4;unfold drP at a4;refine⟨_,_,_,a1,brb (fun h=>by simp at h) (fun _=>⟨_,a4,?_⟩)⟩;cases hx2:zb a6 a3 with
    |zero=>
     rw[hx2]at a0;have hww:Hx .i64 ((i:Int)+1)=((i+1:Nat):Int):=by rw[qK (by omega) (by omega)];omega
     rw[hww];exact brb (fun h=>by simp at h) (fun _=>⟨⟨i+1,a6,a3,by omega,a0,hx2,a5,rfl⟩,by simp only[pjM,nth,toI];omega⟩)
    |succ k=>rw[hx2]at a0;refine brb (fun _=>⟨hb,_,⟨rfl,by show 1≤2;omega⟩,?_⟩) (fun h=>by simp at h;omega);rw[←hR,←a0];rfl
  ·have a2:i=L.length:=by rw[Lr]at h;omega
   subst a2;rw[T1,YO]at a0;rw[←hR,←a0];rfl
end Eng
end
