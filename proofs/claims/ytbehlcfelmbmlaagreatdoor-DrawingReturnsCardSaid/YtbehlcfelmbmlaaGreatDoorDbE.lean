/- Decimal texts of integers as strconv.ParseInt reads them: plain words. -/
import Derived.Test.YtbehlcfelmbmlaaGreatDoorTxA
import Derived.Test.YtbehlcfelmbmlaaGreatDoorCtxB
import Derived.Test.YtbehlcfelmbmlaaGreatDoorShfA
import Derived.Test.YtbehlcfelmbmlaaGreatDoorDbB
import Derived.Test.YtbehlcfelmbmlaaGreatDoorTabB
import Derived.Lib.ParseIntBTie
import Derived.KernelRfl
open Bool renaming and_eq_true→Aw, eq_iff_iff→Bx
open Eng.A renaming c→Dd, ag→F0
open Eng.D renaming bool→F2, int→Hu, sl→Hv, str→Hx
open Eng.D.int renaming injEq→Hy
open Eng.D.sl renaming injEq→J3
open Except.ok renaming injEq→J4
open Go.IntKind renaming wrap→J6, i64→J7
open Go.Lib renaming decDigits→J9, parseUint10→Lm, parseIntB→Lr, parseMag→Ls, atoiAll→Lv
open Int renaming ofNat→No, ofNat_eq_natCast→Pl, toNat→P1, toNat_natCast→Ts, natAbs_natCast→T1, natAbs_ediv_le_natAbs→U0, natCast_mul→U3
open List renaming length→V1, length_map→W0, replicate→W1, length_cons→W2, mem_cons→au, take→av, drop→aw, not_mem_nil→ax, map_append→ay, getElem_mem→az, length_replicate→aA, mem_cons_of_mem→aB, length_append→aC, mem_append→aD, drop_eq_getElem_cons→aE, all_cons→aF, map_map→aG, replicate_succ→aH, map_congr_left→aI, length_take→aJ, length_drop→aK, drop_length→aL, cons_append→aM, nil_append→aN, mem_map→aO
open List.cons renaming injEq→aP
open Nat renaming le_refl→aQ, le_trans→aR, lt_of_le_of_lt→aS, add_zero→aT, pow_pos→aU
open Option.some renaming injEq→aV, inj→aW
section
namespace Eng
open Go Go.Proofs
set_option maxRecDepth 1000000
theorem pu10:∀{l:List UInt8} {acc:Nat},l.all isD=true→acc<18446744073709551616→Lm acc l=if acc*10^l.length+xw l<18446744073709551616 then .ok (acc*10^l.length+xw l)else .range
 |[],acc,_,ha=>by simp only[Lm,List.length_nil,Nat.pow_zero,Nat.mul_one,xw,aT,ha,if_true]
 |c::r,acc,h,ha=>by
  simp only[aF,Aw]at h;obtain⟨hc,hr⟩:=h;have hc':=hc;simp only[isD,Aw,decide_eq_true_eq]at hc';have hp:1≤10^r.length:=aU (by omega);have e:acc*10^(c::r).length+xw (c::r)=(acc*10+dv c)*10^r.length+xw r:=by simp only[W2,xw,Nat.pow_succ,Nat.add_mul];rw[Nat.mul_comm (10^r.length) 10,←Nat.mul_assoc];omega
  rw[e];unfold Lm;rw[if_pos hc'];have hdv:c.toNat-48=dv c:=rfl;rw[hdv];have a0:18446744073709551616≤acc*10+dv c→¬(acc*10+dv c)*10^r.length+xw r<18446744073709551616:=fun h1 h2=>by have:=Nat.mul_le_mul_left (acc*10+dv c) hp;omega
  by_cases h1:1844674407370955162≤acc
  ·rw[if_pos h1,if_neg (a0 (by omega))]
  ·rw[if_neg h1];by_cases h2:18446744073709551616≤acc*10+dv c
   ·rw[if_pos h2,if_neg (a0 h2)]
   ·rw[if_neg h2];exact pu10 hr (by omega)
theorem Kp:∀n,xw (W1 n 48)=0
 |0=>rfl
 |n+1=>by rw[aH];simp only[xw,Kp n];have:dv 48=0:=rfl;rw[this];omega
theorem VK:∀n,(W1 n (48:UInt8)).all isD=true
 |0=>rfl
 |n+1=>by rw[aH,aF,VK n];rfl
theorem FP (z:Int) (n:Nat):Lr 64 (z8 z++W1 n 48)=if-9223372036854775808≤z*((10^n:Nat):Int)∧z*((10^n:Nat):Int)<9223372036854775808 then .ok (z*((10^n:Nat):Int))else .range:=by
 rw[Lib.parseIntB_64];have a0:(J9 z.natAbs++W1 n 48).all isD=true:=by rw[List.all_append,jx,VK];rfl
 have a2:xw (J9 z.natAbs++W1 n 48)=z.natAbs*10^n:=by rw[jS,w8,Kp,aA,aT]
 have a4:J9 z.natAbs++W1 n 48≠[]:=fun h=>kM z.natAbs (List.append_eq_nil_iff.1 h).1
 have a1:=pu10 (l:=J9 z.natAbs++W1 n 48) (acc:=0) a0 (by omega);rw[a2,Nat.zero_mul,Nat.zero_add]at a1;by_cases hz:z<0
 ·rw[vm hz];generalize hB:J9 z.natAbs++W1 n 48=B at *;have e:45::J9 z.natAbs++W1 n 48=45::B:=by rw[←hB];rfl
  rw[e];have a3:z*((10^n:Nat):Int)= -((z.natAbs*10^n:Nat):Int):=by rw[U3,←Int.neg_mul];congr 1;omega
  rw[a3];generalize z.natAbs*10^n=V at *;have h45:(45:UInt8).toNat=45:=rfl;unfold Lv;simp only[h45,or_true,if_true,not_true_eq_false,false_and,if_false,true_and];unfold Ls;rw[if_neg a4,a1];by_cases h1:V<18446744073709551616
  ·rw[if_pos h1];simp only;by_cases h2:9223372036854775808<V
   ·rw[if_pos h2,if_neg (by omega)]
   ·rw[if_neg h2,if_pos (by omega)]
  ·rw[if_neg h1];simp only;rw[if_neg (by omega)]
 ·rw[zO (by omega)];generalize hB:J9 z.natAbs++W1 n 48=B at *;have a3:z*((10^n:Nat):Int)=((z.natAbs*10^n:Nat):Int):=by rw[U3];congr 1;omega
  rw[a3];generalize z.natAbs*10^n=V at *
  match B,a0,a4,a1 with
  |c::r,a0,_,a1=>
   simp only[aF,Aw]at a0;have hc:=a0.1;simp only[isD,Aw,decide_eq_true_eq]at hc;unfold Lv;have n45:¬c.toNat=45:=by omega
   have n43:¬c.toNat=43:=by omega
   simp only[n45,n43,or_self,if_false,not_false_eq_true,true_and,false_and];unfold Ls;rw[if_neg (by simp),a1];by_cases h1:V<18446744073709551616
   ·rw[if_pos h1];simp only;by_cases h2:9223372036854775808≤V
    ·rw[if_pos h2,if_neg (by omega)]
    ·rw[if_neg h2,if_pos (by omega)]
   ·rw[if_neg h1];simp only;rw[if_neg (by omega)]
end Eng
end

section
open Go Go.Proofs Eng
set_option maxRecDepth 1000000
namespace Eng
section
variable (Gv:Nat→List A→List A→Prop) (Q:List A→Prop) (I0 I1 I2 I3:List D→List D→Prop) (M0 M1 M2 M3:List D→Nat)
theorem Lj (s:List UInt8):wpF CC Gv an0 Tryz.f84 [.c (.str s)] Q=(
 ∃s1 n b,Gv 159 [Dd (Hx s)] [Dd (Hx s1),Dd (Hu .i64 n),Dd (F2 b)]∧br (toB (F2 !b)) (Q [Dd (Hu .i64 0),Dd (Hu .i64 2)]) (br (toB (F2 (decide (n>3)))) (Q [Dd (Hu .i64 0),Dd (Hu .i64 2)]) (∃s,Gv 161 [Dd (Hx [48]),Dd (Hu .i64 (J6 .i64 (3-n)))] [Dd (Hx s)]∧room (s1.length+s.length)∧∃n b,Gv 160 [Dd (Hx (s1++s)),Dd (Hu .i64 10),Dd (Hu .i64 64)] [Dd (Hu .i64 n),Dd (D.ifc b)]∧br (toB (F2 !(b&&true))) (Q [Dd (Hu .i64 0),Dd (Hu .i64 11)]) (br (toB (F2 (decide (n>10000000)))) (Q [Dd (Hu .i64 0),Dd (Hu .i64 11)]) (br (toB (F2 (decide (n<(-10000000:Int))))) (Q [Dd (Hu .i64 0),Dd (Hu .i64 11)]) (Q [Dd (Hu .i64 n),Dd (Hu .i64 0)])))))):=by kernel_rfl
theorem Lk (ts:List (List D)):wpF CC Gv an0 Tryz.f39 [.c (.sl ts)] Q=(
 ∃s,Gv 82 [Dd (Hv ts)] [Dd (Hx s)]∧br (toB (F2 !s==[110,110,110,100])) (Q [F0 [Hx [],Hu .i64 0,Hu .i64 0],Dd (F2 false)]) (((0:Int)≤(0:Int)∧0<(No ts.length)∧V1 (nth [] ts 0)=3)∧∃s,cut (nth [] ts 0) 2 1 [Hx s]∧br (toB (F2 !s==[108,97,121,101,114])) (Q [F0 [Hx [],Hu .i64 0,Hu .i64 0],Dd (F2 false)]) (((0:Int)≤(2:Int)∧2<(No ts.length)∧V1 (nth [] ts 2)=3)∧∃s,cut (nth [] ts 2) 2 1 [Hx s]∧∃n,Gv 83 [Dd (Hv [[Hx []],[Hx [112,111,99,107,101,116]],[Hx [105,115,108,97,110,100]],[Hx [104,111,108,101]],[Hx [112,114,111,102,105,108,101]]]),Dd (Hx s)] [Dd (Hu .i64 n)]∧((0:Int)≤(3:Int)∧3<(No ts.length)∧V1 (nth [] ts 3)=3)∧∃s,cut (nth [] ts 3) 2 1 [Hx s]∧∃n1 n2,Gv 84 [Dd (Hx s)] [Dd (Hu .i64 n1),Dd (Hu .i64 n2)]∧((0:Int)≤(1:Int)∧1<(No ts.length)∧V1 (nth [] ts 1)=3)∧∃s,cut (nth [] ts 1) 2 1 [Hx s]∧br (toB (F2 (decide (n>0)))) (Q [F0 [Hx s,Hu .i64 n,Hu .i64 n1],Dd (F2 (n2==0))]) (Q [F0 [Hx s,Hu .i64 n,Hu .i64 n1],Dd (F2 false)])))):=by kernel_rfl
theorem Ll (es:List (List D)) (s:List UInt8):wpF CC Gv (fun _=>⟨[.slot 8 (.int .i64 0)],[],I0,M0⟩) Tryz.f83 [.c (.sl es),.c (.str s)] Q=(
 I0 [] [Hu .i64 0]∧∀(n:Int),I0 [] [Hu .i64 n]→br (toB (F2 (decide (n<(No es.length))))) ((0≤n∧n<(No es.length)∧V1 (nth [] es (P1 n))=1)∧∃s1,cut (nth [] es (P1 n)) 0 1 [Hx s1]∧br (toB (F2 (s==s1))) (Q [Dd (Hu .i64 n)]) (I0 [] [Hu .i64 (J6 .i64 (n+1))]∧M0 [Hu .i64 (J6 .i64 (n+1))]<M0 [Hu .i64 n])) (Q [Dd (Hu .i64 (-1))])):=by kernel_rfl
end
end Eng
end

section
namespace Eng
open Go Go.Proofs
set_option maxRecDepth 100000
theorem Dp {s:List UInt8} (hs:s.length≤1000000) {v:Int} (h:Lr 64 s= .ok v):qf CC 160 [.c (.str s),.c (.int .i64 10),.c (.int .i64 64)] [.c (.int .i64 v),.c (.ifc true)]:=
 kJ (rv:= .tuple #[.int .i64 v,.nilIface]) rfl (fun _ _=>⟨_,rfl,CD.int _ _,CD.nilI,trivial⟩) fun w F _=>by
  refine(Any.strconv_ParseInt_10_at64_ok Tryz.laysC174 ⟨⟨s⟩⟩ (by show s.length≤_;omega) v h w).mono fun e w' he=>?_
  obtain⟨rfl,hw⟩:=he;refine⟨rfl,?_⟩;rcases hw with rfl|⟨t,rfl⟩
  ·exact RowKit.Below.refl _ _
  ·exact Lib.bytesWorld_below _ _ _
theorem Ln {s:List UInt8} (hs:s.length≤1000000) (h:Lr 64 s= .range):qf CC 160 [.c (.str s),.c (.int .i64 10),.c (.int .i64 64)] [.c (.int .i64 (Lib.intSat 64 s)),.c (.ifc false)]:=by
 intro w F vs hF hi a0;rw[Xj (vs:=[.string ⟨⟨s⟩⟩,.int .i64 10,.int .i64 64]) rfl a0];have h5:CC.G 5=some [.ifc false]:=rfl;obtain⟨_,us,t,fr,h1,h2⟩:=hi 5 _ h5
 match hus:us.toList,h2 with
 |[u],h2=>
  have hu:u= .nilIface∨∃te pe,u= .iface te pe:=by
   have:=h2.1;cases this with
   |someI t v h=>exact .inr ⟨t,v,rfl⟩
  have a1:w.cell? ⟨5,0,none⟩=some u:=by
   have e:us= #[u]:=by apply Array.ext';exact hus
   simp[World.cell?,h1,e]
  refine(Any.strconv_ParseInt_10_at64_range Tryz.laysC174 ⟨⟨s⟩⟩ (by show s.length≤_;omega) h u w a1 hu).mono fun e w' he=>?_
  obtain⟨N,rfl,hN,hcs,hb⟩:=he;exact⟨hb,_,rfl,_,rfl,CD.int _ _,CD.someI _ _ rfl,trivial⟩
 |[],h2=>exact h2.elim
 |_::_::_,h2=>exact h2.2.elim
def Fq (s:List UInt8):List A:=match SU s with
 |none=>[.c (.int .i64 0),.c (.int .i64 2)]
 |some d=>if-10000000≤d∧d≤10000000 then [.c (.int .i64 d),.c (.int .i64 0)]else [.c (.int .i64 0),.c (.int .i64 11)]
theorem Lo {s:List UInt8} (hs:s.length≤7000):qf CC 84 [.c (.str s)] (Fq s):=by
 refine qg (anns:=an0) mixedT Tryz.func84 ?_;have hd:=Ki (s:=s) (by omega);have he:=P4 s;unfold Fq SU;rw[Lj];cases h:vS s with
 |none=>rw[h]at he;obtain⟨t,k,h2⟩:=VH he;rw[h2]at hd;exact⟨_,_,_,hd,brb (fun _=>rfl) (fun h=>by simp at h)⟩
 |some mk=>
  obtain⟨m,k⟩:=mk;rw[h]at he;have h2:=VG he;obtain⟨b1,b2⟩:=Nv he;rw[h2]at hd;simp only;refine⟨_,_,_,hd,brb (fun h=>by simp at h) (fun _=>brd (fun h3=>?_) (fun h3=>?_))⟩
  ·rw[if_neg (by omega)]
  ·have h3:k≤3:=by omega
   rw[if_pos h3];simp only;have hw:J6 .i64 (3-(k:Int))=((3-k:Nat):Int):=by rw[qK (by omega) (by omega)];omega
   rw[hw];have hr:=yC [48] (3-k) (by simp;omega) (by omega);rw[Tn]at hr;have hp:=FP m (3-k);have a0:(z8 m++W1 (3-k) 48).length≤1000000:=by rw[aC,aA];omega
   refine⟨_,hr,by unfold room;rw[aA];omega,?_⟩;generalize m*((10^(3-k):Nat):Int)=V at *;by_cases hV: -9223372036854775808≤V∧V<9223372036854775808
   ·rw[if_pos hV]at hp;refine⟨_,_,Dp a0 hp,brb (fun h=>by simp at h) (fun _=>brd (fun h4=>?_) (fun h4=>brd (fun h5=>?_) (fun h5=>?_)))⟩
    ·rw[if_neg (by omega)]
    ·rw[if_neg (by omega)]
    ·rw[if_pos (by omega)]
   ·rw[if_neg hV]at hp;refine⟨_,_,Ln a0 hp,brb (fun _=>?_) (fun h=>by simp at h)⟩;rw[if_neg (by omega)]
end Eng
end

section
namespace Eng
open Go Go.Proofs
set_option maxRecDepth 100000
def GA (s:List UInt8):List (List UInt8)→Nat→Int
 |[],_=> -1
 |w::r,k=>if s=w then(k:Int)else GA s r (k+1)
theorem Lp {ws:List (List UInt8)} {s:List UInt8} (hl:ws.length≤1000000):qf CC 83 [.c (.sl (vt ws)),.c (.str s)] [.c (.int .i64 (GA s ws 0))]:=by
 refine qg (anns:=fun _=>⟨[.slot 8 (.int .i64 0)],[],fun _ ds=>∃k:Nat,k≤ws.length∧ds=[.int .i64 (k:Int)]∧GA s (ws.drop k) k=GA s ws 0,fun ds=>(ws.length-toI (nth .undef ds 0)).toNat⟩) mixedT Tryz.func83 ?_;rw[Ll];simp only[Pl,zt];refine⟨⟨0,by omega,rfl,rfl⟩,?_⟩;rintro n ⟨k,hk,he,hx⟩;simp only[aP,Hy,true_and,and_true]at he;subst he;refine brd (fun h=>?_) (fun h=>?_)
 ·have a0:k<ws.length:=by omega
  rw[Ts];rw[aE a0,GA]at hx;have hw:J6 .i64 ((k:Int)+1)=((k+1:Nat):Int):=by rw[qK (by omega) (by omega)];omega
  rw[hw];refine⟨⟨by omega,by omega,by rw[yG a0];rfl⟩,_,Wp a0,?_⟩;by_cases hs:s=ws[k]
  ·rw[if_pos hs]at hx;refine brb (fun _=>?_) (fun h=>by simp at h;exact absurd hs h);rw[hx]
  ·rw[if_neg hs]at hx;refine brb (fun h=>by simp at h;exact absurd h hs) (fun _=>⟨⟨k+1,by omega,rfl,hx⟩,by simp only[nth,toI];omega⟩)
 ·have:k=ws.length:=by omega
  subst this;rw[aL,GA]at hx;rw[←hx]
def kw5:List (List UInt8):=[[],Ql,Qm,YJ,vc]
def mmF (s:List UInt8):Int×Int:=match SU s with
 |none=>(0,2)
 |some d=>if-10000000≤d∧d≤10000000 then(d,0)else(0,11)
theorem NB (s:List UInt8):Fq s=[.c (.int .i64 (mmF s).1),.c (.int .i64 (mmF s).2)]:=by
 unfold Fq mmF
 match SU s with
 |none=>rfl
 |some d=>
  simp only;by_cases h: -10000000≤d∧d≤10000000
  ·rw[if_pos h,if_pos h]
  ·rw[if_neg h,if_neg h]
theorem Dq (s:List UInt8):Rx s=if(mmF s).2=0 then some (mmF s).1 else none:=by
 unfold Rx mmF
 match SU s with
 |none=>rfl
 |some d=>
  simp only;by_cases h: -10000000≤d∧d≤10000000
  ·rw[if_pos h,if_pos h];rfl
  ·rw[if_neg h,if_neg h];rfl
theorem Uc (c:List UInt8):wv c=if 0<GA c kw5 0 then GA c kw5 0 else 0:=by
 unfold kw5;simp only[GA];unfold wv;by_cases h0:c=[]
 ·subst h0;rfl
 by_cases h1:c=Ql
 ·subst h1;rfl
 by_cases h2:c=Qm
 ·subst h2;rfl
 by_cases h3:c=YJ
 ·subst h3;rfl
 by_cases h4:c=vc
 ·subst h4;rfl
 simp only[h0,h1,h2,h3,h4,if_false];rfl
def lyO (w:List Wd):(List UInt8×Int×Int)×Bool:=match w with
 |[a,b,c,d]=>if w.map (·.1)=[1,1,1,2]∧a.2=xB then((b.2,GA c.2 kw5 0,(mmF d.2).1),decide (0<GA c.2 kw5 0)&&decide ((mmF d.2).2=0))else(([],0,0),false)
 |_=>(([],0,0),false)
theorem RK {w:List Wd} {l:Ly} (h:y9 w=some l):lyO w=((l.name,l.kind,l.depth),true):=by
 rw[←UR]at h;unfold Pu at h;unfold lyO;split at h
 ·rename_i a b c d;simp only;by_cases h1:[a,b,c,d].map (·.1)=[1,1,1,2]∧a.2=xB
  ·rw[if_pos h1]at h ⊢;rw[Dq,Uc]at h;by_cases h2:(mmF d.2).2=0
   ·rw[if_pos h2]at h;simp only at h;by_cases h3:0<GA c.2 kw5 0
    ·rw[if_pos h3,if_pos h3]at h;simp only[aV]at h;subst h;rw[decide_eq_true h3,decide_eq_true h2];rfl
    ·rw[if_neg h3]at h;simp at h
   ·rw[if_neg h2]at h;simp at h
  ·rw[if_neg h1]at h;simp at h
 ·simp at h
theorem RL {w:List Wd} (h:y9 w=none):(lyO w).2=false:=by
 rw[←UR]at h;unfold Pu at h;unfold lyO;split
 ·rename_i a b c d;simp only at h;by_cases h1:[a,b,c,d].map (·.1)=[1,1,1,2]∧a.2=xB
  ·rw[if_pos h1]at h ⊢;rw[Dq,Uc]at h;simp only[Bool.and_eq_false_iff,decide_eq_false_iff_not];by_cases h2:(mmF d.2).2=0
   ·rw[if_pos h2]at h;simp only at h;by_cases h3:0<GA c.2 kw5 0
    ·rw[if_pos h3,if_pos h3]at h;simp at h
    ·exact .inl h3
   ·exact .inr h2
  ·rw[if_neg h1]
 ·rfl
theorem Lt {ts:List Tk} (h0:ts≠[]) (hl:ts.length≤100000) (hw:∀p∈tkW ts,F6 p) (ht:∀t∈ts,t.text.length≤7000):
 qf CC 39 [.c (.sl (ts.map zQ))] [.ag [.str (lyO (tkW ts)).1.1,.int .i64 (lyO (tkW ts)).1.2.1,.int .i64 (lyO (tkW ts)).1.2.2],.c (.bool (lyO (tkW ts)).2)]:=by
 have hS:=N5 h0 hl;have a3:=Pt hw;have hsh:zl (ts.map Tk.wd)=zl (tkW ts):=rfl;rw[hsh]at hS;refine qg (anns:=an0) mixedT Tryz.func39 ?_;rw[Lk];simp only[Pl,W0];refine⟨_,hS,?_⟩;by_cases h4:zl (tkW ts)=[110,110,110,100]
 ·refine brb (fun h=>by simp[h4]at h) (fun _=>?_);have hk:=a3.1 h4;have a2:ts.length=4:=by
   have:=congrArg V1 hk
   simpa [tkW]using this
  match ts,a2,ht with
  |[a,b,c,d],_,ht=>
   have a0:=Lo (ht d (by simp));rw[NB]at a0;have a1:=Lp (ws:=kw5) (s:=c.text) (by decide);have hlo:lyO (tkW [a,b,c,d])=if a.text=xB then((b.text,GA c.text kw5 0,(mmF d.text).1),decide (0<GA c.text kw5 0)&&decide ((mmF d.text).2=0))else(([],0,0),false):=by
    show(if _∧a.text=xB then _ else _)=_;by_cases ha:a.text=xB
    ·rw[if_pos ⟨hk,ha⟩,if_pos ha]
    ·rw[if_neg (fun h=>ha h.2),if_neg ha]
   rw[hlo];refine⟨⟨by omega,by simp,rfl⟩,_,⟨rfl,aQ 3⟩,?_⟩;by_cases ha:a.text=xB
   ·rw[if_pos ha];refine brb (fun h=>by simp at h;exact absurd ha h) (fun _=>?_);refine⟨⟨by omega,by simp,rfl⟩,_,⟨rfl,aQ 3⟩,_,a1,⟨by omega,by simp,rfl⟩,_,⟨rfl,aQ 3⟩,_,_,a0,⟨by omega,by simp,rfl⟩,_,⟨rfl,aQ 3⟩,?_⟩;have e0:((mmF d.text).2==0)=decide ((mmF d.text).2=0):=rfl;rw[e0];refine brd (fun h=>?_) (fun h=>?_)
    ·rw[decide_eq_true h,Bool.true_and]
    ·rw[decide_eq_false h,Bool.false_and]
   ·rw[if_neg ha];refine brb (fun _=>rfl) (fun h=>by simp at h;exact absurd h ha)
 ·refine brb (fun _=>?_) (fun h=>by simp at h;exact absurd h h4);have:lyO (tkW ts)=(([],0,0),false):=by
   unfold lyO;split
   ·rename_i a b c d hq;rw[if_neg];rintro⟨h1,_⟩;exact h4 (a3.2 h1)
   ·rfl
  rw[this]
end Eng
end

section
open Go Go.Proofs Eng
set_option maxRecDepth 1000000
namespace Eng
section
variable (Gv:Nat→List A→List A→Prop) (Q:List A→Prop) (I0 I1 I2 I3:List D→List D→Prop) (M0 M1 M2 M3:List D→Nat)
theorem Lw (ts:List (List D)):wpF (CX []) Gv (Gl ⟨[.slot 4 (.int .i64 0)],[],I0,M0⟩ ⟨[.slot 63 (.int .i64 0),.own 7 62 4],[],I1,M1⟩ ⟨[.slot 88 (.int .i64 0),.mix 12 [.dat (.int .i64 0),.dat (.string ⟨#[]⟩),.own 87 8,.dat (.bool false),.dat (.slice none 0 0),.dat (.bool false),.dat (.slice none 0 0)]],[],I2,M2⟩) Tryz.f40 [.c (.sl ts)] Q=(
 br (toB (F2 (decide ((No ts.length)<2)))) (Q [F0 [Hu .i64 0,Hx [],Hv [],F2 false,Hv [],F2 false,Hv []],Dd (F2 false)]) (((0:Int)≤(0:Int)∧0<(No ts.length)∧V1 (nth [] ts 0)=3)∧∃n,cut (nth [] ts 0) 0 1 [Hu .i64 n]∧br (toB (F2 (n !=1))) (Q [F0 [Hu .i64 0,Hx [],Hv [],F2 false,Hv [],F2 false,Hv []],Dd (F2 false)]) (((0:Int)≤(1:Int)∧1<(No ts.length)∧V1 (nth [] ts 1)=3)∧∃n,cut (nth [] ts 1) 0 1 [Hu .i64 n]∧br (toB (F2 (n !=1))) (Q [F0 [Hu .i64 0,Hx [],Hv [],F2 false,Hv [],F2 false,Hv []],Dd (F2 false)]) (I0 [] [Hu .i64 1]∧∀(n:Int),I0 [] [Hu .i64 n]→br (toB (F2 (decide (n≤3)))) ((0≤n∧n<4)∧∃s n1,cut (nth [] [[Hx [],Hu .i64 0],[Hx [108,105,110,101],Hu .i64 2],[Hx [97,114,99],Hu .i64 3],[Hx [99,105,114,99,108,101],Hu .i64 1]] (P1 n)) 0 2 [Hx s,Hu .i64 n1]∧br (toB (F2 (n==3))) (((0:Int)≤(0:Int)∧0<(No ts.length)∧V1 (nth [] ts 0)=3)∧∃s1,cut (nth [] ts 0) 2 1 [Hx s1]∧br (toB (F2 !s1==s)) (I0 [] [Hu .i64 (J6 .i64 (n+1))]∧M0 [Hu .i64 (J6 .i64 (n+1))]<M0 [Hu .i64 n]) (br (toB (F2 ((No ts.length) !=J6 .i64 (2+J6 .i64 (J6 .i64 (2*n1)+1))))) (I0 [] [Hu .i64 (J6 .i64 (n+1))]∧M0 [Hu .i64 (J6 .i64 (n+1))]<M0 [Hu .i64 n]) (((0:Int)≤(2:Int)∧2≤(No ts.length)∧(No ts.length)≤(No ts.length)∧lens 3 ts)∧I1 [] [Hu .i64 0,Hv []]∧∀(n2:Int) (es:List (List D)),I1 [] [Hu .i64 n2,Hv es]→br (toB (F2 (decide (n2<(No (V1 (aw 2 (av (P1 (No ts.length)) ts)))))))) ((0≤n2∧n2<(No (V1 (aw 2 (av (P1 (No ts.length)) ts))))∧V1 (nth [] (aw 2 (av (P1 (No ts.length)) ts)) (P1 n2))=3)∧∃n n3 s,cut (nth [] (aw 2 (av (P1 (No ts.length)) ts)) (P1 n2)) 0 3 [Hu .i64 n,Hu .i64 n3,Hx s]∧∃b e1 b1 e2 b2,Gv 85 [F0 [Hu .i64 n,Hu .i64 n3,Hx s]] [F0 [F2 b,Hv e1,F2 b1,Hv e2],Dd (F2 b2)]∧br (toB (F2 !b2)) (Q [F0 [Hu .i64 0,Hx [],Hv [],F2 false,Hv [],F2 false,Hv []],Dd (F2 false)]) ((room (es.length+1)∧lens 4 [[F2 b,Hv e1,F2 b1,Hv e2]])∧I1 [] [Hu .i64 (J6 .i64 (n2+1)),Hv (es++[[F2 b,Hv e1,F2 b1,Hv e2]])]∧M1 [Hu .i64 (J6 .i64 (n2+1)),Hv (es++[[F2 b,Hv e1,F2 b1,Hv e2]])]<M1 [Hu .i64 n2,Hv es])) (((0:Int)≤(1:Int)∧1<(No ts.length)∧V1 (nth [] ts 1)=3)∧∃s,cut (nth [] ts 1) 2 1 [Hx s]∧I2 [] [Hu .i64 0,Hu .i64 n,Hx s,Hv [],F2 false,Hv [],F2 false,Hv []]∧∀(n3 n4:Int) (s:List UInt8) (e1:List (List D)) (b:Bool) (e2:List (List D)) (b1:Bool) (e3:List (List D)),I2 [] [Hu .i64 n3,Hu .i64 n4,Hx s,Hv e1,F2 b,Hv e2,F2 b1,Hv e3]→br (toB (F2 (decide (n3<n1)))) ((0≤J6 .i64 (2*n3)∧J6 .i64 (2*n3)<(No es.length))∧∃b2 e4 b3 e5,cut (nth [] es (P1 (J6 .i64 (2*n3)))) 0 4 [F2 b2,Hv e4,F2 b3,Hv e5]∧(0≤J6 .i64 (J6 .i64 (2*n3)+1)∧J6 .i64 (J6 .i64 (2*n3)+1)<(No es.length))∧∃b4 e6 b5 e7,cut (nth [] es (P1 (J6 .i64 (J6 .i64 (2*n3)+1)))) 0 4 [F2 b4,Hv e6,F2 b5,Hv e7]∧(room (e1.length+1)∧lens 8 [[F2 b2,Hv e4,F2 b3,Hv e5,F2 b4,Hv e6,F2 b5,Hv e7]])∧I2 [] [Hu .i64 (J6 .i64 (n3+1)),Hu .i64 n4,Hx s,Hv (e1++[[F2 b2,Hv e4,F2 b3,Hv e5,F2 b4,Hv e6,F2 b5,Hv e7]]),F2 b,Hv e2,F2 b1,Hv e3]∧M2 [Hu .i64 (J6 .i64 (n3+1)),Hu .i64 n4,Hx s,Hv (e1++[[F2 b2,Hv e4,F2 b3,Hv e5,F2 b4,Hv e6,F2 b5,Hv e7]]),F2 b,Hv e2,F2 b1,Hv e3]<M2 [Hu .i64 n3,Hu .i64 n4,Hx s,Hv e1,F2 b,Hv e2,F2 b1,Hv e3]) (br (toB (F2 (n==3))) (((0:Int)≤(2:Int)∧2<(No es.length))∧∃b e4 b2 e5,cut (nth [] es 2) 0 4 [F2 b,Hv e4,F2 b2,Hv e5]∧Q [F0 [Hu .i64 n4,Hx s,Hv e1,F2 b,Hv e4,F2 b2,Hv e5],Dd (F2 true)]) (Q [F0 [Hu .i64 n4,Hx s,Hv e1,F2 b,Hv e2,F2 b1,Hv e3],Dd (F2 true)])))))) (((0:Int)≤(0:Int)∧0<(No ts.length)∧V1 (nth [] ts 0)=3)∧∃s1,cut (nth [] ts 0) 2 1 [Hx s1]∧br (toB (F2 !s1==s)) (I0 [] [Hu .i64 (J6 .i64 (n+1))]∧M0 [Hu .i64 (J6 .i64 (n+1))]<M0 [Hu .i64 n]) (br (toB (F2 ((No ts.length) !=J6 .i64 (2+J6 .i64 (2*n1))))) (I0 [] [Hu .i64 (J6 .i64 (n+1))]∧M0 [Hu .i64 (J6 .i64 (n+1))]<M0 [Hu .i64 n]) (((0:Int)≤(2:Int)∧2≤(No ts.length)∧(No ts.length)≤(No ts.length)∧lens 3 ts)∧I1 [] [Hu .i64 0,Hv []]∧∀(n2:Int) (es:List (List D)),I1 [] [Hu .i64 n2,Hv es]→br (toB (F2 (decide (n2<(No (V1 (aw 2 (av (P1 (No ts.length)) ts)))))))) ((0≤n2∧n2<(No (V1 (aw 2 (av (P1 (No ts.length)) ts))))∧V1 (nth [] (aw 2 (av (P1 (No ts.length)) ts)) (P1 n2))=3)∧∃n n3 s,cut (nth [] (aw 2 (av (P1 (No ts.length)) ts)) (P1 n2)) 0 3 [Hu .i64 n,Hu .i64 n3,Hx s]∧∃b e1 b1 e2 b2,Gv 85 [F0 [Hu .i64 n,Hu .i64 n3,Hx s]] [F0 [F2 b,Hv e1,F2 b1,Hv e2],Dd (F2 b2)]∧br (toB (F2 !b2)) (Q [F0 [Hu .i64 0,Hx [],Hv [],F2 false,Hv [],F2 false,Hv []],Dd (F2 false)]) ((room (es.length+1)∧lens 4 [[F2 b,Hv e1,F2 b1,Hv e2]])∧I1 [] [Hu .i64 (J6 .i64 (n2+1)),Hv (es++[[F2 b,Hv e1,F2 b1,Hv e2]])]∧M1 [Hu .i64 (J6 .i64 (n2+1)),Hv (es++[[F2 b,Hv e1,F2 b1,Hv e2]])]<M1 [Hu .i64 n2,Hv es])) (((0:Int)≤(1:Int)∧1<(No ts.length)∧V1 (nth [] ts 1)=3)∧∃s,cut (nth [] ts 1) 2 1 [Hx s]∧I2 [] [Hu .i64 0,Hu .i64 n,Hx s,Hv [],F2 false,Hv [],F2 false,Hv []]∧∀(n3 n4:Int) (s:List UInt8) (e1:List (List D)) (b:Bool) (e2:List (List D)) (b1:Bool) (e3:List (List D)),I2 [] [Hu .i64 n3,Hu .i64 n4,Hx s,Hv e1,F2 b,Hv e2,F2 b1,Hv e3]→br (toB (F2 (decide (n3<n1)))) ((0≤J6 .i64 (2*n3)∧J6 .i64 (2*n3)<(No es.length))∧∃b2 e4 b3 e5,cut (nth [] es (P1 (J6 .i64 (2*n3)))) 0 4 [F2 b2,Hv e4,F2 b3,Hv e5]∧(0≤J6 .i64 (J6 .i64 (2*n3)+1)∧J6 .i64 (J6 .i64 (2*n3)+1)<(No es.length))∧∃b4 e6 b5 e7,cut (nth [] es (P1 (J6 .i64 (J6 .i64 (2*n3)+1)))) 0 4 [F2 b4,Hv e6,F2 b5,Hv e7]∧(room (e1.length+1)∧lens 8 [[F2 b2,Hv e4,F2 b3,Hv e5,F2 b4,Hv e6,F2 b5,Hv e7]])∧I2 [] [Hu .i64 (J6 .i64 (n3+1)),Hu .i64 n4,Hx s,Hv (e1++[[F2 b2,Hv e4,F2 b3,Hv e5,F2 b4,Hv e6,F2 b5,Hv e7]]),F2 b,Hv e2,F2 b1,Hv e3]∧M2 [Hu .i64 (J6 .i64 (n3+1)),Hu .i64 n4,Hx s,Hv (e1++[[F2 b2,Hv e4,F2 b3,Hv e5,F2 b4,Hv e6,F2 b5,Hv e7]]),F2 b,Hv e2,F2 b1,Hv e3]<M2 [Hu .i64 n3,Hu .i64 n4,Hx s,Hv e1,F2 b,Hv e2,F2 b1,Hv e3]) (br (toB (F2 (n==3))) (((0:Int)≤(2:Int)∧2<(No es.length))∧∃b e4 b2 e5,cut (nth [] es 2) 0 4 [F2 b,Hv e4,F2 b2,Hv e5]∧Q [F0 [Hu .i64 n4,Hx s,Hv e1,F2 b,Hv e4,F2 b2,Hv e5],Dd (F2 true)]) (Q [F0 [Hu .i64 n4,Hx s,Hv e1,F2 b,Hv e2,F2 b1,Hv e3],Dd (F2 true)]))))))) (Q [F0 [Hu .i64 0,Hx [],Hv [],F2 false,Hv [],F2 false,Hv []],Dd (F2 false)]))))):=by kernel_rfl
theorem Kq (J17:List D→List D→Prop) (s:List UInt8):wpF (CX []) Gv (wB (fun _=>⟨[.slot 28 (.int .i64 0),.mix 8 [.own 86 3,.own 87 7]],[],I0,M0⟩) 17 ⟨[.slot 7 (.int .i64 0),.mix 8 [.own 86 3,.own 87 7]],[.slot 28 (.int .i64 0),.mix 8 [.own 86 3,.own 87 7]],J17,fun _=>0⟩) Tryz.f13 [.c (.str s)] Q=(
 ∃es n n1,Gv 38 [Dd (Hx s)] [Dd (Hv es),Dd (Hu .i64 n),Dd (Hu .i64 n1)]∧br (toB (F2 (n1 !=0))) (Q [F0 [Hv [],Hv []],Dd (Hu .i64 n),Dd (Hu .i64 n1)]) (I0 [] [Hu .i64 0,Hv [],Hv []]∧∀(n:Int) (e1 e2:List (List D)),I0 [] [Hu .i64 n,Hv e1,Hv e2]→br (toB (F2 (decide (n<(No es.length))))) ((0≤n∧n<(No es.length)∧V1 (nth [] es (P1 n))=2)∧∃n2 e3,cut (nth [] es (P1 n)) 0 2 [Hu .i64 n2,Hv e3]∧(∃s n3 n4 b,Gv 39 [Dd (Hv e3)] [F0 [Hx s,Hu .i64 n3,Hu .i64 n4],Dd (F2 b)]∧br b ((room (e1.length+1)∧lens 3 [[Hx s,Hu .i64 n3,Hu .i64 n4]])∧∃n5,Gv 36 [Dd (Hv (e1++[[Hx s,Hu .i64 n3,Hu .i64 n4]]))] [Dd (Hu .i64 n5)]∧J17 [Hu .i64 n,Hv e1,Hv e2] [Hu .i64 n5,Hv (e1++[[Hx s,Hu .i64 n3,Hu .i64 n4]]),Hv e2]) (∃n5 s es b e4 b1 e5 b2,Gv 40 [Dd (Hv e3)] [F0 [Hu .i64 n5,Hx s,Hv es,F2 b,Hv e4,F2 b1,Hv e5],Dd (F2 b2)]∧br b2 ((room (e2.length+1)∧lens 7 [[Hu .i64 n5,Hx s,Hv es,F2 b,Hv e4,F2 b1,Hv e5]])∧∃n6,Gv 37 [F0 [Hv e1,Hv (e2++[[Hu .i64 n5,Hx s,Hv es,F2 b,Hv e4,F2 b1,Hv e5]])],F0 [Hu .i64 n5,Hx s,Hv es,F2 b,Hv e4,F2 b1,Hv e5]] [Dd (Hu .i64 n6)]∧J17 [Hu .i64 n,Hv e1,Hv e2] [Hu .i64 n6,Hv e1,Hv (e2++[[Hu .i64 n5,Hx s,Hv es,F2 b,Hv e4,F2 b1,Hv e5]])]) (J17 [Hu .i64 n,Hv e1,Hv e2] [Hu .i64 2,Hv e1,Hv e2])))∧∀(n3:Int) (es e4:List (List D)),J17 [Hu .i64 n,Hv e1,Hv e2] [Hu .i64 n3,Hv es,Hv e4]→br (toB (F2 (n3 !=2))) (br (toB (F2 (decide ((No es.length)>20)))) (Q [F0 [Hv [],Hv []],Dd (Hu .i64 n2),Dd (Hu .i64 3)]) (br (toB (F2 (decide ((No e4.length)>200)))) (Q [F0 [Hv [],Hv []],Dd (Hu .i64 n2),Dd (Hu .i64 3)]) (br (toB (F2 (n3 !=0))) (Q [F0 [Hv [],Hv []],Dd (Hu .i64 n2),Dd (Hu .i64 n3)]) (I0 [] [Hu .i64 (J6 .i64 (n+1)),Hv es,Hv e4]∧M0 [Hu .i64 (J6 .i64 (n+1)),Hv es,Hv e4]<M0 [Hu .i64 n,Hv e1,Hv e2])))) (br (toB (F2 (n3 !=0))) (Q [F0 [Hv [],Hv []],Dd (Hu .i64 n2),Dd (Hu .i64 n3)]) (I0 [] [Hu .i64 (J6 .i64 (n+1)),Hv es,Hv e4]∧M0 [Hu .i64 (J6 .i64 (n+1)),Hv es,Hv e4]<M0 [Hu .i64 n,Hv e1,Hv e2]))) (Q [F0 [Hv e1,Hv e2],Dd (Hu .i64 0),Dd (Hu .i64 0)]))):=by kernel_rfl
end
end Eng
end

section
namespace Eng
open Go Go.Proofs
set_option maxRecDepth 100000
def BY:List D:=[.bool false,.sl [],.bool false,.sl []]
def Lx (p:V2):List D:=cR p.x++cR p.y
def MD (e:En):List D:=if e.kind=3 then cR e.rad else BY
def enO (e:En):List D:=[.int .i64 e.kind,.str e.layer,.sl (e.pts.map Lx)]++MD e
def zEn:List D:=[.int .i64 0,.str [],.sl []]++BY
def wM (w:List Wd):List A:=match ve w with
 |some e=>[.ag (enO e),.c (.bool true)]
 |none=>[.ag zEn,.c (.bool false)]
def prs (q:List Rat) (i:Nat):List V2:=(List.range i).map fun j=>⟨nth 0 q (2*j),nth 0 q (2*j+1)⟩
theorem ND (q:List Rat) (i:Nat):(prs q i).length=i:=by simp[prs]
theorem Ud (q:List Rat) (i:Nat):prs q (i+1)=prs q i++[⟨nth 0 q (2*i),nth 0 q (2*i+1)⟩]:=by
 unfold prs;rw[List.range_succ,ay];rfl
theorem BZ (t:Tk):Fp t=Gm (t.kind,t.text):=by
 unfold Fp Gm;simp only;by_cases h:t.kind=2
 ·rw[if_pos h,if_pos h];cases XU t.text<;>rfl
 ·rw[if_neg h,if_neg h]
theorem QO:∀{l:List Wd} {p:Wd} {q:List Rat} {x:Rat},xK l=some q→Gm p=some x→xK (l++[p])=some (q++[x])
 |[],p,q,x,h,hp=>by rw[xK]at h;simp only[aV]at h;subst h;rw[aN,xK,hp];rfl
 |a::r,p,q,x,h,hp=>by
  rw[xK]at h;rw[aM,xK]
  match ha:Gm a with
  |none=>rw[ha]at h;simp at h
  |some y=>
   rw[ha]at h;simp only at h ⊢
   match hr:xK r with
   |none=>rw[hr]at h;simp at h
   |some z=>rw[hr]at h;simp only[aV]at h;subst h;rw[QO hr hp];rfl
theorem Zq:∀{l:List Wd} {p:Wd},p∈l→Gm p=none→xK l=none
 |a::r,p,h,hp=>by
  rw[xK];rcases au.1 h with rfl|h
  ·rw[hp]
  ·rw[Zq h hp];cases Gm a<;>rfl
def Iz (ts:List Tk):List Wd:=tkW (ts.drop 2)
def kdE (ts:List Tk):Nat:=jr (nth (0,[]) (tkW ts) 0).2 ts.length
def nmE (ts:List Tk):List UInt8:=(nth (0,[]) (tkW ts) 1).2
def enI0 (ts:List Tk) (_ ds:List D):Prop:=∃k:Nat,1≤k∧k≤4∧ds=[.int .i64 (k:Int)]∧∀j,1≤j→j<k→kdE ts≠j
def AX (ds:List D):Nat:=(10-toI (nth .undef ds 0)).toNat
def AY (ts:List Tk) (_ ds:List D):Prop:=∃(i:Nat) (q:List Rat),i≤(ts.drop 2).length∧ds=[.int .i64 (i:Int),.sl (q.map cR)]∧xK ((Iz ts).take i)=some q
def qq1 (ts:List Tk) (ds:List D):Nat:=((ts.drop 2).length-toI (nth .undef ds 0)).toNat
def AZ (ts:List Tk) (_ ds:List D):Prop:=∃(i:Nat) (q:List Rat),i≤wt (kdE ts)∧xK (Iz ts)=some q∧ds=[.int .i64 (i:Int),.int .i64 (kdE ts:Int),.str (nmE ts),.sl ((prs q i).map Lx)]++BY
def I4 (ts:List Tk) (ds:List D):Nat:=(wt (kdE ts)-toI (nth .undef ds 0)).toNat
theorem yK (w:List UInt8) (n:Nat):(jr w n=1↔w=kE∧n=6)∧(jr w n=2↔w=Xh∧n=8)∧(jr w n=3↔w=zf∧n=5)∧jr w n≤3:=by
 unfold jr;by_cases h1:w=kE∧n=6
 ·rw[if_pos h1];refine⟨by simp[h1],by simp;intro h;rw[h1.1]at h;exact absurd h (by decide),by simp;intro h;rw[h1.1]at h;exact absurd h (by decide),by omega⟩
 rw[if_neg h1];by_cases h2:w=Xh∧n=8
 ·rw[if_pos h2];refine⟨by simp;intro h;rw[h2.1]at h;exact absurd h (by decide),by simp[h2],by simp;intro h;rw[h2.1]at h;exact absurd h (by decide),by omega⟩
 rw[if_neg h2];by_cases h3:w=zf∧n=5
 ·rw[if_pos h3];refine⟨by simp;intro h;rw[h3.1]at h;exact absurd h (by decide),by simp;intro h;rw[h3.1]at h;exact absurd h (by decide),by simp[h3],by omega⟩
 rw[if_neg h3];exact⟨by simp[h1],by simp[h2],by simp[h3],by omega⟩
theorem Dr {w n:List UInt8} {q:List Rat} (h:jr w (q.length+2)≠0):XV w n q=some ⟨(jr w (q.length+2):Int),n,prs q (wt (jr w (q.length+2))),if jr w (q.length+2)=3 then nth 0 q 2 else 0⟩:=by
 obtain⟨k1,k2,k3,k4⟩:=yK w (q.length+2);have hk:jr w (q.length+2)=1∨jr w (q.length+2)=2∨jr w (q.length+2)=3:=by omega
 rcases hk with hk|hk|hk
 ·rw[hk];obtain⟨rfl,hl⟩:=k1.1 hk
  match q,hl with
  |[a,b,c,d],_=>rfl
 ·rw[hk];obtain⟨rfl,hl⟩:=k2.1 hk
  match q,hl with
  |[a,b,c,d,e,f],_=>rfl
 ·rw[hk];obtain⟨rfl,hl⟩:=k3.1 hk
  match q,hl with
  |[a,b,c],_=>rfl
instance:EffOk (CX []):=jL (JE trivial)
theorem RM (ta tb:Tk) (r:List Tk):kdE (ta::tb::r)=jr ta.text (r.length+2):=rfl
theorem zu (l:List Tk):(tkW l).length=l.length:=by simp[tkW]
section
variable {ta tb:Tk} {r:List Tk}
theorem Kr (ha:ta.kind=1) (hb:tb.kind=1) (h:kdE (ta::tb::r)=0∨xK (tkW r)=none):wM (tkW (ta::tb::r))=[.ag zEn,.c (.bool false)]:=by
 have e:ve (tkW (ta::tb::r))=none:=by
  rw[←WV];show(if ta.kind=1∧tb.kind=1 then(if jr ta.text ((tkW r).length+2)=0 then none else match xK (tkW r)with
   |none=>none
   |some q=>XV ta.text tb.text q)else none)=none
  rw[if_pos ⟨ha,hb⟩,zu];rcases h with h|h
  ·have h:jr ta.text (r.length+2)=0:=h;rw[if_pos h]
  ·rw[h];simp
 unfold wM;rw[e]
theorem Lz (ha:ta.kind=1) (hb:tb.kind=1) (hk:kdE (ta::tb::r)≠0) {q:List Rat} (h:xK (tkW r)=some q):wM (tkW (ta::tb::r))=[.ag (enO ⟨(kdE (ta::tb::r):Int),tb.text,prs q (wt (kdE (ta::tb::r))),if kdE (ta::tb::r)=3 then nth 0 q 2 else 0⟩),.c (.bool true)]:=by
 have hl:=kG h;rw[zu]at hl;have hk':jr ta.text (q.length+2)≠0:=by rw[hl];exact hk
 have hm:=Dr (n:=tb.text) hk';rw[hl]at hm;have e:ve (tkW (ta::tb::r))=some ⟨(kdE (ta::tb::r):Int),tb.text,prs q (wt (kdE (ta::tb::r))),if kdE (ta::tb::r)=3 then nth 0 q 2 else 0⟩:=by
  rw[←WV];show(if ta.kind=1∧tb.kind=1 then(if jr ta.text ((tkW r).length+2)=0 then none else match xK (tkW r)with
   |none=>none
   |some q=>XV ta.text tb.text q)else none)=_
  rw[if_pos ⟨ha,hb⟩,zu,if_neg (by exact hk),h];exact hm
 unfold wM;rw[e]
theorem RN (hk:kdE (ta::tb::r)≠0):2*wt (kdE (ta::tb::r))≤r.length∧(kdE (ta::tb::r)=3→2<r.length)∧r.length≤6:=by
 rw[RM]at *;obtain⟨k1,k2,k3,k4⟩:=yK ta.text (r.length+2);have hc:jr ta.text (r.length+2)=1∨jr ta.text (r.length+2)=2∨jr ta.text (r.length+2)=3:=by omega
 rcases hc with hc|hc|hc
 ·have:=(k1.1 hc).2;rw[hc];refine⟨?_,by omega,by omega⟩;show 2*2≤_;omega
 ·have:=(k2.1 hc).2;rw[hc];refine⟨?_,by omega,by omega⟩;show 2*3≤_;omega
 ·have:=(k3.1 hc).2;rw[hc];refine⟨?_,by omega,by omega⟩;show 2*1≤_;omega
theorem vu {q:List Rat} {i:Nat} (h:i<q.length):nth [] (q.map cR) i=cR (nth 0 q i):=by
 rw[qI,qI];simp[h]
theorem GB (ha:ta.kind=1) (hb:tb.kind=1) (hk:kdE (ta::tb::r)≠0) (ht:∀t∈r,t.text.length≤2000) {n n_1:Int} (hn:n=(kdE (ta::tb::r):Int)) (hn1:n_1=(wt (kdE (ta::tb::r)):Int)):
 (((0:Int)≤(2:Int)∧(2:Int)≤(No (V1 ((ta::tb::r).map zQ)))∧(No (V1 ((ta::tb::r).map zQ)))≤(No (V1 ((ta::tb::r).map zQ)))∧lens (3:Nat) ((ta::
  tb::r).map zQ))∧AY (ta::tb::r) [] [Hu J7 (0:Int),Hv []]∧∀(n_2:Int) (es:List (List D)),AY (ta::tb::r) [] [Hu J7 n_2,Hv es]→br (toB (F2 (decide (n_2<(No
  (V1 (aw (2:Nat) (av (P1 (No (V1 ((ta::tb::r).map zQ)))) ((ta::tb::r).map zQ))))))))) (((0:Int)≤n_2∧n_2<(No (V1 (aw (2:Nat)
  (av (P1 (No (V1 ((ta::tb::r).map zQ)))) ((ta::tb::r).map zQ)))))∧V1 (nth [] (aw (2:Nat) (av (P1 (No (V1 ((ta::tb::r).map zQ))))
  ((ta::tb::r).map zQ))) (P1 n_2))=(3:Nat))∧∃n n_3 s,cut (nth [] (aw (2:Nat) (av (P1 (No (V1 ((ta::tb::r).map zQ)))) ((ta::tb::r).map zQ))) (P1
  n_2)) (0:Nat) (3:Nat) [Hu J7 n,Hu J7 n_3,Hx s]∧∃b es_1 b_1 es_2 b_2,qf (CX []) (85:Nat) [F0 [Hu J7 n,Hu J7 n_3,Hx s]] [F0 [F2 b,Hv es_1,F2
  b_1,Hv es_2],Dd (F2 b_2)]∧br (toB (F2 !b_2)) ([F0 [Hu J7 (0:Int),Hx [],Hv [],F2 false,Hv [],F2 false,Hv []],Dd (F2 false)]=wM (tkW (ta::tb::r))) ((room
  (V1 es+(1:Nat))∧lens (4:Nat) [[F2 b,Hv es_1,F2 b_1,Hv es_2]])∧AY (ta::tb::r) [] [Hu J7 (J6 J7 (n_2+(1:Int))),Hv (es++[[F2 b,Hv es_1,
  F2 b_1,Hv es_2]])]∧qq1 (ta::tb::r) [Hu J7 (J6 J7 (n_2+(1:Int))),Hv (es++[[F2 b,Hv es_1,F2 b_1,Hv es_2]])]<qq1 (ta::tb::r) [Hu J7 n_2,
  Hv es])) (((0:Int)≤(1:Int)∧(1:Int)<(No (V1 ((ta::tb::r).map zQ)))∧V1 (nth [] ((ta::tb::r).map zQ) (1:Nat))=(3:Nat))∧∃s,cut (nth [] ((ta::tb::r).map zQ) (1:
  Nat)) (2:Nat) (1:Nat) [Hx s]∧AZ (ta::tb::r) [] [Hu J7 (0:Int),Hu J7 n,Hx s,Hv [],F2 false,Hv [],F2 false,Hv []]∧∀(n_3 n_4:Int) (s:List UInt8) (es_1:
  List (List D)) (b:Bool) (es_2:List (List D)) (b_1:Bool) (es_3:List (List D)),AZ (ta::tb::r) [] [Hu J7 n_3,Hu J7 n_4,Hx s,Hv es_1,F2 b,Hv es_2,F2 b_1,Hv es_3]→br
  (toB (F2 (decide (n_3<n_1)))) (((0:Int)≤J6 J7 ((2:Int)*n_3)∧J6 J7 ((2:Int)*n_3)<(No (V1 es)))∧∃b_2 es_4 b_3 es_5,cut (nth [] es (P1
  (J6 J7 ((2:Int)*n_3)))) (0:Nat) (4:Nat) [F2 b_2,Hv es_4,F2 b_3,Hv es_5]∧((0:Int)≤J6 J7 (J6 J7 ((2:Int)*n_3)+(1:Int))∧J6
  J7 (J6 J7 ((2:Int)*n_3)+(1:Int))<(No (V1 es)))∧∃b_4 es_6 b_5 es_7,cut (nth [] es (P1 (J6 J7 (J6 J7 ((2:Int)*n_3)+(1
  :Int))))) (0:Nat) (4:Nat) [F2 b_4,Hv es_6,F2 b_5,Hv es_7]∧(room (V1 es_1+(1:Nat))∧lens (8:Nat) [[F2 b_2,Hv es_4,F2 b_3,Hv es_5,F2 b_4,Hv es_6,F2 b_5,Hv
  es_7]])∧AZ (ta::tb::r) [] [Hu J7 (J6 J7 (n_3+(1:Int))),Hu J7 n_4,Hx s,Hv (es_1++[[F2 b_2,Hv es_4,F2 b_3,Hv es_5,F2 b_4,Hv es_6,F2
  b_5,Hv es_7]]),F2 b,Hv es_2,F2 b_1,Hv es_3]∧I4 (ta::tb::r) [Hu J7 (J6 J7 (n_3+(1:Int))),Hu J7 n_4,Hx s,Hv (es_1++[[F2 b_2,Hv es_4,
  F2 b_3,Hv es_5,F2 b_4,Hv es_6,F2 b_5,Hv es_7]]),F2 b,Hv es_2,F2 b_1,Hv es_3]<I4 (ta::tb::r) [Hu J7 n_3,Hu J7 n_4,Hx s,Hv es_1,F2 b,Hv
  es_2,F2 b_1,Hv es_3]) (br (toB (F2 (n==(3:Int)))) (((0:Int)≤(2:Int)∧(2:Int)<(No (V1 es)))∧∃b es_4 b_2 es_5,cut (nth [] es (2:Nat)) (0:Nat) (4:Nat) [F2 b,Hv es_4,
  F2 b_2,Hv es_5]∧([F0 [Hu J7 n_4,Hx s,Hv es_1,F2 b,Hv es_4,F2 b_2,Hv es_5],Dd (F2 true)]=wM (tkW (ta::tb::r)))) (([F0 [Hu J7 n_4,Hx s,Hv es_1,
  F2 b,Hv es_2,F2 b_1,Hv es_3],Dd (F2 true)]=wM (tkW (ta::tb::r))))))):=by
 have a4:=fun(q:List Rat)=>Lz (r:=r) (q:=q) ha hb hk
 have a2:=fun h=>Kr (r:=r) ha hb (.inr h)
 obtain⟨z1,z2,z3⟩:=RN hk;have hkd:kdE (ta::tb::r)≤3:=(yK ta.text (r.length+2)).2.2.2;have e:aw 2 (av (P1 (No (V1 ((ta::tb::r).map zQ)))) ((ta::tb::r).map zQ))=r.map zQ:=by rw[Pl,Ts,List.take_length];rfl
 have el:(((ta::tb::r).map zQ).length)=r.length+2:=by simp
 have a1:=wL (f:=zQ) (n:=3) (fun _=>rfl) (ta::tb::r);rw[e];generalize hO:wM (tkW (ta::tb::r))=O at *;generalize hK:kdE (ta::tb::r)=K at *;simp only[Pl,el,W0];refine⟨⟨by omega,by omega,by omega,a1⟩,⟨0,[],by omega,rfl,rfl⟩,?_⟩;rintro n_2 es ⟨i,q,hi,he,hq⟩;simp only[aP,Hy,J3,true_and,and_true]at he;obtain⟨rfl,rfl⟩:=he;have hi:i≤r.length:=hi;have a9:Iz (ta::tb::r)=tkW r:=rfl;rw[a9]at hq;have a8:=kG hq;rw[aJ,zu]at a8;refine brd (fun h=>?_) (fun h=>?_)
 ·have a0:i<r.length:=by omega
  have hL:=TS (t:=r[i]) (ht _ (az a0));rw[BZ]at hL;have hg:(tkW r)[i]'(by rw[zu];exact a0)=(r[i].kind,r[i].text):=by simp[tkW]
  rw[Ts,qM a0];refine⟨⟨by omega,by omega,rfl⟩,_,_,_,⟨rfl,aQ 3⟩,?_⟩;cases hv:Gm (r[i].kind,r[i].text)with
  |none=>rw[hv]at hL;refine⟨_,_,_,_,_,upX hL,brb (fun _=>?_) (fun h=>by simp at h)⟩;rw[a2 (Zq (p:=(r[i].kind,r[i].text)) (by rw[←hg];exact az _) hv)];rfl
  |some x=>
   rw[hv]at hL;have ho:RG (some x)=[xk x,.c (.bool true)]:=rfl;rw[ho,qb]at hL;have hw:J6 .i64 ((i:Int)+1)=((i+1:Nat):Int):=by rw[qK (by omega) (by omega)];omega
   rw[hw];refine⟨_,_,_,_,_,upX hL,brb (fun h=>by simp at h) (fun _=>⟨⟨by unfold room;rw[W0];omega,fun e he=>by simp at he;rw[he];rfl⟩,⟨i+1,q++[x],a0,?_,?_⟩,?_⟩)⟩
   ·rw[ay];rfl
   ·rw[a9,List.take_succ_eq_append_getElem (by rw[zu];exact a0),hg];exact QO hq hv
   ·show(r.length-((i+1:Nat):Int)).toNat<(r.length-(i:Int)).toNat;omega
 ·have a0:i=r.length:=by omega
  subst a0;rw[List.take_of_length_le (by rw[zu];exact aQ _)]at hq;have a3:=a4 q hq;have a8:q.length=r.length:=by omega
  refine⟨⟨by omega,by omega,rfl⟩,_,⟨rfl,aQ 3⟩,⟨0,q,by omega,hq,by rw[hn,←hK];rfl⟩,?_⟩;rintro n_3 n_4 s es_1 b0 es_2 b_1 es_3 ⟨i2,q2,hi2,a7,a5⟩;have hqq:q2=q:=by have:xK (tkW r)=some q2:=a7;rw[hq]at this;exact(aW this).symm
  subst hqq;rw[hK]at a5 hi2;simp only[BY,aM,aN,aP,Hy,D.str.injEq,J3,D.bool.injEq,true_and,and_true]at a5;obtain⟨rfl,rfl,rfl,rfl,rfl,rfl,rfl,rfl⟩:=a5;refine brd (fun h=>?_) (fun h=>?_)
  ·have hlt:i2<wt K:=by omega
   have w1:J6 .i64 (2*(i2:Int))=((2*i2:Nat):Int):=by rw[qK (by omega) (by omega)];omega
   have w2:J6 .i64 (((2*i2:Nat):Int)+1)=((2*i2+1:Nat):Int):=by rw[qK (by omega) (by omega)];omega
   have w3:J6 .i64 ((i2:Int)+1)=((i2+1:Nat):Int):=by rw[qK (by omega) (by omega)];omega
   rw[w1,w2,w3,Ts,Ts,vu (by omega),vu (by omega)];refine⟨⟨by omega,by rw[W0];omega⟩,_,_,_,_,⟨rfl,aQ 4⟩,⟨by omega,by rw[W0];omega⟩,_,_,_,_,⟨rfl,aQ 4⟩,⟨by unfold room;rw[W0,ND];omega,fun e he=>by simp at he;rw[he];rfl⟩,⟨i2+1,q2,by rw[hK];exact hlt,a7,?_⟩,?_⟩
   ·rw[Ud,ay,hK];rfl
   ·show(wt _-((i2+1:Nat):Int)).toNat<(wt _-(i2:Int)).toNat;rw[hK];omega
  ·have a6:i2=wt K:=by omega
   subst a6;have e3:(n==3)=decide (K=3):=by rw[hn,Bx];simp;omega
   rw[e3];refine brd (fun h3=>?_) (fun h3=>?_)
   ·have z2:=z2 h3;rw[vu (by omega)];refine⟨⟨by omega,by rw[W0];omega⟩,_,_,_,_,⟨rfl,aQ 4⟩,?_⟩;rw[a3];unfold enO MD;simp only[h3,if_true];rfl
   ·rw[a3];unfold enO MD;have h3':¬(K:Int)=3:=by omega
    simp only[h3,h3',if_false];rfl
end
theorem FQ {ta tb:Tk} {r:List Tk}:(kdE (ta::tb::r)=1↔ta.text=kE∧r.length+2=6)∧(kdE (ta::tb::r)=2↔ta.text=Xh∧r.length+2=8)∧(kdE (ta::tb::r)=3↔ta.text=zf∧r.length+2=5)∧kdE (ta::tb::r)≤3:=yK ta.text (r.length+2)
theorem L0 {ts:List Tk} (ht:∀t∈ts,t.text.length≤2000) (hl:ts.length≤100000):qf CC 40 [.c (.sl (ts.map zQ))] (wM (tkW ts)):=by
 refine vC (C:=CX []) rfl rfl ?_;refine qg (anns:=Gl ⟨[.slot 4 (.int .i64 0)],[],enI0 ts,AX⟩ ⟨[.slot 63 (.int .i64 0),.own 7 62 4],[],AY ts,qq1 ts⟩ ⟨[.slot 88 (.int .i64 0),.mix 12 [.dat (.int .i64 0),.dat (.string ⟨#[]⟩),.own 87 8,.dat (.bool false),.dat (.slice none 0 0),.dat (.bool false),.dat (.slice none 0 0)]],[],AZ ts,I4 ts⟩) mixedT Tryz.func40 ?_;rw[Lw]
 match ts,ht,hl with
 |[],_,_=>exact brd (fun _=>rfl) (fun h=>absurd (by decide) h)
 |[t],_,_=>
  have e:wM (tkW [t])=[.ag zEn,.c (.bool false)]:=by unfold wM;rw[show tkW [t]=[(t.kind,t.text)]from rfl,WT]
  rw[e];exact brd (fun _=>rfl) (fun h=>absurd (show No 1<2 by decide) h)
 |ta::tb::r,ht,hl=>
  have a4:¬(ta.kind=1∧tb.kind=1)→wM (tkW (ta::tb::r))=[.ag zEn,.c (.bool false)]:=fun h=>by
   have e:ve (tkW (ta::tb::r))=none:=by rw[←WV];show(if ta.kind=1∧tb.kind=1 then _ else none)=none;rw[if_neg h]
   unfold wM;rw[e]
  have el:(V1 (List.map zQ (ta::tb::r)))=r.length+2:=by simp
  have ek:∀t:Tk,(((t.kind:Nat):Int) !=1)=!decide (t.kind=1):=fun t=>by rw[Bx];simp;omega
  refine brd (fun h=>absurd h (by rw[Pl,el];omega)) (fun _=>⟨⟨by omega,by rw[Pl,el];omega,rfl⟩,_,⟨rfl,by show 1≤3;omega⟩,?_⟩);rw[ek];refine brn (fun h=>?_) (fun h=>⟨⟨by omega,by rw[Pl,el];omega,rfl⟩,_,⟨rfl,by show 1≤3;omega⟩,?_⟩)
  ·rw[a4 (fun g=>of_decide_eq_false h g.1)];rfl
  have ha:=of_decide_eq_true h;rw[ek];refine brn (fun h=>?_) (fun h=>⟨⟨1,by omega,by omega,rfl,fun j h1 h2=>by omega⟩,?_⟩)
  ·rw[a4 (fun g=>of_decide_eq_false h g.2)];rfl
  have hb:=of_decide_eq_true h;rintro n ⟨k,hk1,hk4,he,a2⟩;simp only[aP,Hy,true_and,and_true]at he;subst he;obtain⟨k1,k2,k3,kle⟩:=FQ (ta:=ta) (tb:=tb) (r:=r);have a3:∀t∈r,t.text.length≤2000:=fun t h=>ht t (by simp[h])
  refine brd (fun h3=>?_) (fun h3=>?_)
  ·have hw:J6 .i64 ((k:Int)+1)=((k+1:Nat):Int):=by rw[qK (by omega) (by omega)];omega
   have a0:kdE (ta::tb::r)≠k→enI0 (ta::tb::r) [] [Hu .i64 (J6 .i64 ((k:Int)+1))]∧AX [Hu .i64 (J6 .i64 ((k:Int)+1))]<AX [Hu .i64 (k:Int)]:=fun hd=>by
    rw[hw];refine⟨⟨k+1,by omega,by omega,rfl,fun j h1 h2=>?_⟩,by simp only[AX,nth,toI];omega⟩;by_cases hj:j=k
    ·subst hj;exact hd
    ·exact a2 j h1 (by omega)
   have hk:k=1∨k=2∨k=3:=by omega
   refine⟨⟨by omega,by omega⟩,?_⟩;rcases hk with rfl|rfl|rfl
   ·refine⟨kE,2,⟨rfl,aQ 2⟩,brb (fun h=>absurd h (by decide)) (fun _=>⟨⟨by omega,by rw[Pl,el];omega,rfl⟩,_,⟨rfl,aQ 3⟩,brb (fun h=>?_) (fun h=>brb (fun h2=>?_) (fun h2=>?_))⟩)⟩
    ·exact a0 (fun g=>by rw[(k1.1 g).1]at h;simp at h)
    ·refine a0 (fun g=>?_);have:=(k1.1 g).2;rw[Pl,el,this]at h2;exact absurd h2 (by decide)
    ·have a1:kdE (ta::tb::r)=1:=k1.2 ⟨by simpa using h,by
      rw[Pl,el]at h2;have e6:J6 .i64 (2+J6 .i64 (2*2))=6:=by decide
      rw[e6]at h2;simp at h2;omega⟩
     exact GB ha hb (by omega) a3 (by rw[a1]) (by rw[a1];rfl)
   ·refine⟨Xh,3,⟨rfl,aQ 2⟩,brb (fun h=>absurd h (by decide)) (fun _=>⟨⟨by omega,by rw[Pl,el];omega,rfl⟩,_,⟨rfl,aQ 3⟩,brb (fun h=>?_) (fun h=>brb (fun h2=>?_) (fun h2=>?_))⟩)⟩
    ·exact a0 (fun g=>by rw[(k2.1 g).1]at h;simp at h)
    ·refine a0 (fun g=>?_);have:=(k2.1 g).2;rw[Pl,el,this]at h2;exact absurd h2 (by decide)
    ·have a1:kdE (ta::tb::r)=2:=k2.2 ⟨by simpa using h,by
      rw[Pl,el]at h2;have e6:J6 .i64 (2+J6 .i64 (2*3))=8:=by decide
      rw[e6]at h2;simp at h2;omega⟩
     exact GB ha hb (by omega) a3 (by rw[a1]) (by rw[a1];rfl)
   ·refine⟨zf,1,⟨rfl,aQ 2⟩,brb (fun _=>⟨⟨by omega,by rw[Pl,el];omega,rfl⟩,_,⟨rfl,aQ 3⟩,brb (fun h=>?_) (fun h=>brb (fun h2=>?_) (fun h2=>?_))⟩) (fun h=>absurd h (by decide))⟩
    ·exact a0 (fun g=>by rw[(k3.1 g).1]at h;simp at h)
    ·refine a0 (fun g=>?_);have:=(k3.1 g).2;rw[Pl,el,this]at h2;exact absurd h2 (by decide)
    ·have a1:kdE (ta::tb::r)=3:=k3.2 ⟨by simpa using h,by
      rw[Pl,el]at h2;have e6:J6 .i64 (2+J6 .i64 (J6 .i64 (2*1)+1))=5:=by decide
      rw[e6]at h2;simp at h2;omega⟩
     exact GB ha hb (by omega) a3 (by rw[a1]) (by rw[a1];rfl)
  ·have hk0:kdE (ta::tb::r)=0:=by have h1:=a2 1 (by omega) (by omega);have h2:=a2 2 (by omega) (by omega);have h3:=a2 3 (by omega) (by omega);omega
   rw[Kr ha hb (.inl hk0)];rfl
end Eng
end

section
namespace Eng
open Go Go.Proofs
set_option maxRecDepth 100000
def ofR (r:Rat):Rw:=⟨decide (r.num<0),lim r.num.natAbs,decide ((r.den:Int)<0),lim (r.den:Int).natAbs⟩
theorem Ca (z:Int):okZ (decide (z<0)) (raw (lim z.natAbs))=true∧jv (decide (z<0)) (raw (lim z.natAbs))=z:=by
 constructor
 ·refine yh.2 ⟨qe _,zr _,fun h=>?_⟩;rw[vh]at h;exact decide_eq_false (by omega)
 ·unfold jv;rw[kO,qj];by_cases h:z<0
  ·rw[decide_eq_true h];simp only;omega
  ·rw[decide_eq_false h];simp only;omega
theorem Cb (r:Rat):(ofR r).ok=true∧(ofR r).val=r:=by
 obtain⟨a1,a2⟩:=Ca r.num;obtain⟨b1,b2⟩:=Ca (r.den:Int);constructor
 ·simp only[Rw.ok,ofR,okQ,Aw,beq_iff_eq];refine⟨a1,b1,decide_eq_true (by have:=den_pos r;omega),?_⟩;rw[a2,b2,T1];exact r.reduced
 ·simp only[Rw.val,ofR];rw[a2,b2];exact Rat.num_divInt_den r
def Nb (a:Rat):Prop:=Sq a.num∧a.den≤10^40
theorem Nb.sr {a:Rat} (h:Nb a):Sr a:=⟨h.1,by unfold Sq;rw[T1];exact aS h.2 (by unfold y4;decide)⟩
theorem NE {a:Rat} (h:Nb a):(ofR a).rd:=by
 refine⟨yy (j:=100) (k:=4) h.1,yy (j:=100) (k:=4) h.sr.2,fun _=> .inr ?_⟩;rw[(Cb a).2];exact h.2
theorem Ue (a:Rat):vr (ofR a)=some a:=by
 obtain⟨h1,h2⟩:=Cb a;unfold vr;rw[if_pos h1,h2]
theorem Ds {p:Wd} {x:Rat} (h:Gm p=some x) (hl:p.2.length≤2000):Nb x:=by
 unfold Gm at h;by_cases h2:p.1=2
 ·rw[if_pos h2]at h;unfold XU at h;cases hd:vS p.2 with
  |none=>rw[hd]at h;simp at h
  |some q=>
   obtain⟨m,k⟩:=q;rw[hd]at h;simp only[aV]at h;obtain⟨hk,hm⟩:=vH hd;have hp:0<10^k:=aU (by omega);have hpi:(0:Int)<((10^k:Nat):Int):=by omega
   have e:Rat.divInt (m*1000) ((10^k:Nat):Int)=x:=by rw[←h,Rat.divInt_eq_div,Rat.intCast_mul,Rat.intCast_natCast,Rat.div_def,Rat.div_def,Rat.mul_assoc,Rat.mul_assoc];congr 1;exact Rat.mul_comm _ _
   obtain⟨e1,e2⟩:=jk (n:=m*1000) hpi;rw[e]at e1 e2;obtain⟨n,hn⟩:∃n,n=p.2.length+3:=⟨_,rfl⟩;constructor
   ·refine Kk (n:=n) ?_ (by omega);rw[e1];refine aS (U0 _ _) ?_;rw[Int.natAbs_mul,hn,Nat.pow_add];exact Nat.mul_lt_mul_of_pos_right hm (by omega)
   ·have h3:(x.den:Int).natAbs≤(((10^k:Nat):Int)).natAbs:=by rw[e2];exact U0 _ _
    rw[T1,T1]at h3;exact aR h3 (Nat.pow_le_pow_right (by omega) (by omega))
 ·rw[if_neg h2]at h;simp at h
def zRw:Rw:=⟨false,[],false,[]⟩
def XI (e:En):Er:=⟨e.kind,e.layer,e.pts.map fun p=>(ofR p.x,ofR p.y),if e.kind=3 then ofR e.rad else zRw⟩
theorem Uf (e:En):Zh (XI e)=enO e:=by
 unfold Zh XI enO MD;simp only[aG];congr 1;by_cases h:e.kind=3
 ·simp only[h,if_true];rfl
 ·simp only[h,if_false];rfl
def NbE (e:En):Prop:=(∀p∈e.pts,Nb p.x∧Nb p.y)∧(e.kind=3→Nb e.rad)
theorem Wu {e:En} (h:NbE e):(XI e).few:=by
 refine⟨fun p hp=>?_,?_⟩
 ·obtain⟨q,hq,rfl⟩:=aO.1 hp;exact⟨NE (h.1 q hq).1,NE (h.1 q hq).2⟩
 ·unfold XI;simp only;by_cases hk:e.kind=3
  ·rw[if_pos hk];exact NE (h.2 hk)
  ·rw[if_neg hk];exact Rw.few_rd ⟨by simp[zRw],by simp[zRw]⟩
theorem Dt (e:En):vT (XI e).o=Ka e:=by
 unfold vT Ka XI Er.o;simp only[W0,List.all_map];congr 1;congr 1;congr 1
 ·apply congrArg (fun f=>e.pts.all f);funext p;simp only[Function.comp,Ue];rfl
 ·by_cases hk:e.kind=3
  ·simp only[hk,if_true,Ue];rfl
  ·simp[hk]
theorem Ks (ls:List Ly) (e:En):xD ls (XI e).o=xn ls e:=by
 unfold xD xn;rw[Dt];rfl
theorem Kt (ls:List Ly) (es:List En):JK ls (es.map XI)=zb ls es:=by
 unfold JK wx zb;rw[W0,W0];have h:z7 ls ((es.map XI).map Er.o)=kr ls es:=by
  induction es with
  |nil=>rfl
  |cons e es ih=>
   simp only[List.map_cons,z7,kr,Ks];rw[ih]
   try (cases xn ls e<;>rfl)
 rw[h]
 try (cases xR [] ls<;>rfl)
theorem NF {e:En} (h:wG e=e):jO (XI e).o=e:=by
 obtain⟨k,n,ps,r⟩:=e;unfold wG at h;simp only[En.mk.injEq,true_and]at h;unfold jO XI Er.o;simp only[aG,En.mk.injEq,true_and];refine⟨?_,?_⟩
 ·conv=>rhs;rw[←List.map_id ps]
  apply aI;intro p _;simp only[Function.comp,Ue];rfl
 ·by_cases hk:k=3
  ·simp only[hk,if_true,Ue];rfl
  ·simp only[hk,if_false]at h ⊢;exact h
theorem GC:∀(m:Nat) {s:List UInt8} {n:Nat} {l:List Tk},s.length≤m→jU n s= .ok l→l.length≤s.length∧∀t∈l,t.text.length≤s.length
 |m,[],n,l,_,h=>by rw[wq]at h;simp only[J4]at h;subst h;simp
 |0,c::s,n,l,hm,h=>by simp at hm
 |m+1,c::s,n,l,hm,h=>by
  simp only[W2]at hm;rw[ji]at h;by_cases h1:c=35
  ·rw[if_pos h1]at h;simp only[J4]at h;subst h;simp
  rw[if_neg h1]at h
  match hx:kN c s with
  | .blank=>rw[hx]at h;obtain⟨i1,i2⟩:=GC m (by omega) h;exact⟨by simp only[W2];omega,fun t ht=>by have:=i2 t ht;simp only[W2];omega⟩
  | .bad e=>rw[hx]at h;simp at h
  | .tok k j=>
   rw[hx]at h;simp only at h
   match hy:jU (n+j) ((c::s).drop j)with
   | .error e=>rw[hy]at h;simp at h
   | .ok l'=>
    rw[hy]at h;simp only[J4]at h;subst h;have hj:=wo hx;obtain⟨i1,i2⟩:=GC m (by rw[aK];simp only[W2];omega) hy;rw[aK]at i1 i2;simp only[W2]at i1 i2 ⊢;refine⟨by omega,fun t ht=>?_⟩;rcases au.1 ht with rfl|ht
    ·simp only[aJ,W2];omega
    ·have:=i2 t ht;omega
theorem Zr:∀{ws:List (List UInt8)} {n:Nat} {L:List Li},kD n ws= .ok L→L.length≤ws.length∧∀x∈L,x.toks≠[]∧∃w∈ws,x.toks.length≤w.length∧∀t∈x.toks,t.text.length≤w.length
 |[],n,L,h=>by rw[kD]at h;simp only[J4]at h;subst h;simp
 |w::r,n,L,h=>by
  rw[kD]at h
  match hx:jU 0 w with
  | .error e=>rw[hx]at h;simp at h
  | .ok []=>
   rw[hx]at h;obtain⟨i1,i2⟩:=Zr (ws:=r) h;exact⟨by simp only[W2];omega,fun x hx=>by
    obtain⟨j1,u,j2,j3⟩:=i2 x hx;exact⟨j1,u,aB _ j2,j3⟩⟩
  | .ok (t::l)=>
   rw[hx]at h;simp only at h
   match hy:kD (n+1) r with
   | .error e=>rw[hy]at h;simp at h
   | .ok m=>
    rw[hy]at h;simp only[J4]at h;subst h;obtain⟨i1,i2⟩:=Zr hy;refine⟨by simp only[W2];omega,fun x hx2=>?_⟩;simp only[au]at hx2;rcases hx2 with rfl|hx2
    ·exact⟨by simp,w,by simp,GC _ (aQ _) hx⟩
    ·obtain⟨j1,u,j2,j3⟩:=i2 x hx2;exact⟨j1,u,aB _ j2,j3⟩
theorem Ug:∀{l:List Wd} {q:List Rat},xK l=some q→(∀p∈l,p.2.length≤2000)→∀x∈q,Nb x
 |[],q,h,_=>by rw[xK]at h;simp only[aV]at h;subst h;simp
 |p::r,q,h,hl=>by
  rw[xK]at h
  match hx:Gm p with
  |none=>rw[hx]at h;simp at h
  |some x=>
   rw[hx]at h;simp only at h
   match hy:xK r with
   |none=>rw[hy]at h;simp at h
   |some y=>
    rw[hy]at h;simp only[aV]at h;subst h;intro z hz;rcases au.1 hz with rfl|hz
    ·exact Ds hx (hl p (by simp))
    ·exact Ug hy (fun p hp=>hl p (by simp[hp])) z hz
theorem Du {w n:List UInt8} {q:List Rat} {e:En} (h:XV w n q=some e) (hq:∀x∈q,Nb x):NbE e∧e.pts.length≤3:=by
 unfold XV at h;split at h
 ·split at h
  ·simp only[aV]at h;subst h;refine⟨⟨fun p hp=>?_,fun h=>by simp at h⟩,by simp⟩;simp only[au,ax,or_false]at hp;rcases hp with rfl|rfl
   ·exact⟨hq _ (by simp),hq _ (by simp)⟩
   ·exact⟨hq _ (by simp),hq _ (by simp)⟩
  ·simp at h
 split at h
 ·split at h
  ·simp only[aV]at h;subst h;refine⟨⟨fun p hp=>?_,fun h=>by simp at h⟩,by simp⟩;simp only[au,ax,or_false]at hp;rcases hp with rfl|rfl|rfl
   ·exact⟨hq _ (by simp),hq _ (by simp)⟩
   ·exact⟨hq _ (by simp),hq _ (by simp)⟩
   ·exact⟨hq _ (by simp),hq _ (by simp)⟩
  ·simp at h
 split at h
 ·split at h
  ·simp only[aV]at h;subst h;refine⟨⟨fun p hp=>?_,fun _=>hq _ (by simp)⟩,by simp⟩;simp only[au,ax,or_false]at hp;subst hp;exact⟨hq _ (by simp),hq _ (by simp)⟩
  ·simp at h
 ·simp at h
theorem GD {l:List Wd} {e:En} (h:ve l=some e) (hl:∀p∈l,p.2.length≤2000):NbE e∧e.pts.length≤3:=by
 unfold ve at h;split at h
 ·rename_i w n r;split at h
  ·simp at h
  ·rename_i q hq;exact Du h (Ug hq fun p hp=>hl p (by simp[hp]))
 ·simp at h
theorem Wv:∀{L:List Li} {ls ls':List Ly} {es es':List En},(∀x∈L,∀p∈tkW x.toks,p.2.length≤2000)→(∀e∈es,NbE e∧e.pts.length≤3)→j5 L ls es= .ok (ls',es')→∀e∈es',NbE e∧e.pts.length≤3
 |[],ls,ls',es,es',_,he,h=>by rw[j5]at h;simp only[J4,Prod.mk.injEq]at h;rw[←h.2];exact he
 |x::r,ls,ls',es,es',hL,he,h=>by
  have hr:=fun y hy=>hL y (aB x hy)
  rw[j5]at h
  match hx:y9 (tkW x.toks)with
  |some l=>
   rw[hx]at h;simp only at h;split at h
   ·exact Wv hr he h
   ·simp at h
  |none=>
   rw[hx]at h;simp only at h
   match hy:ve (tkW x.toks)with
   |none=>rw[hy]at h;simp at h
   |some e=>
    rw[hy]at h;simp only at h;split at h
    ·refine Wv hr (fun e' he'=>?_) h;rcases aD.1 he' with h1|h1
     ·exact he e' h1
     ·simp only[au,ax,or_false]at h1;subst h1;exact GD hy (hL x (by simp))
    ·simp at h
end Eng
end

section
namespace Eng
open Go Go.Proofs
set_option maxRecDepth 100000
def drP (ls:List Ly) (es:List En):A:= .ag [.sl (ls.map vP),.sl (es.map enO)]
theorem RO (es:List En):es.map enO=(es.map XI).map Zh:=by
 rw[aG];apply aI;intro e _;exact(Uf e).symm
theorem Uh (ls:List Ly) (es:List En):drP ls es=drA ls (es.map XI):=by
 unfold drP drA;rw[RO]
def outX:Except (Nat×Nat) (List Ly×List En)→List A
 | .ok (ls,es)=>[drP ls es,.c (.int .i64 0),.c (.int .i64 0)]
 | .error (n,e)=>[.ag [.sl [],.sl []],.c (.int .i64 (n:Int)),.c (.int .i64 (e:Int))]
theorem XJ:∀{ws:List (List UInt8)} {n:Nat} {p:Nat×Nat},kD n ws= .error p→p.2≠0
 |[],n,p,h=>by rw[kD]at h;simp at h
 |w::r,n,p,h=>by
  rw[J2]at h;cases hx:jU 0 w with
  |error e=>rw[hx]at h;simp only[Except.error.injEq]at h;rw[←h];exact yH _ 0 _ e (aQ _) hx
  |ok l=>
   rw[hx]at h;simp only at h;cases hy:kD (n+1) r with
   |error q=>rw[hy]at h;unfold wH at h;simp only[Except.error.injEq]at h;rw[←h];exact XJ hy
   |ok m=>rw[hy]at h;simp[wH]at h
theorem GE (ls:List Ly) (l:Ly):xV ls l=0∨xV ls l=1∨xV ls l=5:=by
 unfold xV;split
 ·split
  ·exact .inr (.inr rfl)
  ·exact .inl rfl
 ·exact .inr (.inl rfl)
theorem VL (ls:List Ly) (e:En):xn ls e=0∨xn ls e=1∨xn ls e=4:=by
 unfold xn;split
 ·split
  ·exact .inl rfl
  ·exact .inr (.inl rfl)
 ·exact .inr (.inr rfl)
theorem VM {w:List Wd} {l:Ly} (h:y9 w=some l) (hw:∀p∈w,p.2.length≤2000):l.name.length≤2000:=by
 unfold y9 at h;split at h
 ·rename_i a b c d;split at h
  ·split at h
   ·simp at h
   ·simp only[aV]at h;rw[←h];exact hw (1,b) (by simp)
  ·simp at h
 ·simp at h
structure PjI (L:List Li) (i:Nat) (ls:List Ly) (es:List En):Prop where
 eq:j5 (L.drop i) ls es=j5 L [] []
 l20:ls.length≤20
 e200:es.length≤200
 nm:∀l∈ls,l.name.length≤2000
def pjG (i:Nat) (ls:List Ly) (es:List En):List D:=[.int .i64 (i:Int),.sl (ls.map vP),.sl (es.map enO)]
def pjJ (L:List Li) (gh us:List D):Prop:=∃(i:Nat) (ls:List Ly) (es:List En) (h:i<L.length),PjI L i ls es∧gh=pjG i ls es∧
 ((∃l,y9 (tkW L[i].toks)=some l∧us=[.int .i64 (xV ls l:Int),.sl ((ls++[l]).map vP),.sl (es.map enO)])∨
   (y9 (tkW L[i].toks)=none∧((∃e,ve (tkW L[i].toks)=some e∧us=[.int .i64 (xn ls e:Int),.sl (ls.map vP),.sl ((es++[e]).map enO)])∨
    (ve (tkW L[i].toks)=none∧us=[.int .i64 2,.sl (ls.map vP),.sl (es.map enO)]))))
def pjI (L:List Li) (_ ds:List D):Prop:=∃(i:Nat) (ls:List Ly) (es:List En),i≤L.length∧PjI L i ls es∧ds=pjG i ls es
def pjM (L:List Li) (ds:List D):Nat:=(L.length-toI (nth .undef ds 0)).toNat
theorem QP {s:List UInt8} (hs:s.length≤65536) (hw:∀w∈qC 10 s,w.length≤2000):qf CC 13 [.c (.str s)] (outX (YK s)):=by
 refine vC (C:=CX []) rfl rfl ?_;have hL:=N4 hs (fun w h=>aR (hw w h) (by omega));unfold Dj at hL;unfold YK;cases hx:kD 1 (qC 10 s)with
 |error p=>obtain⟨n,e⟩:=p;rw[hx]at hL;have h0:=XJ hx;refine qg (anns:=wB (fun _=>⟨[.slot 28 (.int .i64 0),.mix 8 [.own 86 3,.own 87 7]],[],fun _ _=>True,fun _=>0⟩) 17 ⟨[.slot 7 (.int .i64 0),.mix 8 [.own 86 3,.own 87 7]],[.slot 28 (.int .i64 0),.mix 8 [.own 86 3,.own 87 7]],fun _ _=>True,fun _=>0⟩) mixedT Tryz.func13 ?_;rw[Kq];exact⟨_,_,_,upX hL,brb (fun _=>rfl) (fun h=>by simp at h h0;omega)⟩
 |ok L=>
  rw[hx]at hL;simp only at hL ⊢;obtain⟨hLl,hLx⟩:=Zr hx;have hLw:=H4 hx;have hcnt:=zx 10 s;have hcl:s.count 10≤s.length:=List.count_le_length;have ao:L.length≤70000:=by omega
  refine qg (anns:=wB (fun _=>⟨[.slot 28 (.int .i64 0),.mix 8 [.own 86 3,.own 87 7]],[],pjI L,pjM L⟩) 17 ⟨[.slot 7 (.int .i64 0),.mix 8 [.own 86 3,.own 87 7]],[.slot 28 (.int .i64 0),.mix 8 [.own 86 3,.own 87 7]],pjJ L,fun _=>0⟩) mixedT Tryz.func13 ?_;rw[Kq];simp only[Pl];generalize hR:j5 L [] []=R at *;refine⟨_,_,_,upX hL,brb (fun h=>by simp at h) (fun _=>⟨⟨0,[],[],by omega,⟨rfl,by simp,by simp,by simp⟩,rfl⟩,?_⟩)⟩;rintro n es_1 es_2 ⟨i,ls,es,hi,hI,he⟩;simp only[pjG,aP,Hy,J3,true_and,and_true]at he;obtain⟨rfl,rfl,rfl⟩:=he;refine brd (fun h=>?_) (fun h=>?_)
  ·have a5:i<L.length:=by rw[W0]at h;omega
   obtain⟨hne,w,hwm,hwl,ar⟩:=hLx L[i] (az a5);have aq:=hw w hwm;have am:∀p∈tkW L[i].toks,p.2.length≤2000:=fun p hp=>by unfold tkW at hp;obtain⟨t,ht,rfl⟩:=aO.1 hp;exact aR (ar t ht) aq
   have ap:∀t∈L[i].toks,t.text.length≤2000:=fun t ht=>aR (ar t ht) aq
   have an:=Lt hne (by omega) (hLw L[i] (az a5)) (fun t ht=>aR (ap t ht) (by omega));have ad:=L0 ap (by omega);rw[Ts,qM a5];refine⟨⟨by omega,by rw[W0];omega,rfl⟩,_,_,⟨rfl,aQ 2⟩,⟨_,_,_,_,upX an,?_⟩,?_⟩
   ·cases a1:y9 (tkW L[i].toks)with
    |some l=>
     rw[RK a1];have ak:=Ub (ls:=ls++[l]) (fun x hx=>by
      rcases aD.1 hx with hx|hx
      ·have:=hI.nm x hx;omega
      ·simp only[au,ax,or_false]at hx;subst hx;have:=VM a1 am;omega) (by have:=hI.l20;simp;omega) (k:=ls.length) (by simp)
     rw[List.take_left]at ak;have eg:(ls++[l])[ls.length]'(by simp)=l:=by simp
     rw[eg]at ak;refine jm (fun _=>⟨⟨by unfold room;have:=hI.l20;rw[W0];omega,fun e he=>by simp at he;rw[he];rfl⟩,_,upX (ex:=[]) (by rw[ay]at ak;exact ak),⟨i,ls,es,a5,hI,rfl,.inl ⟨l,a1,by rw[ay];rfl⟩⟩⟩) (fun h=>by simp at h)
    |none=>
     rw[RL a1];refine jm (fun h=>by simp at h) (fun _=>?_);cases a3:ve (tkW L[i].toks)with
     |none=>
      have e:wM (tkW L[i].toks)=[.ag zEn,.c (.bool false)]:=by unfold wM;rw[a3]
      rw[e]at ad;exact⟨_,_,_,_,_,_,_,_,upX ad,jm (fun h=>by simp at h) (fun _=>⟨i,ls,es,a5,hI,rfl,.inr ⟨a1,.inr ⟨a3,rfl⟩⟩⟩)⟩
     |some e=>
      have eo:wM (tkW L[i].toks)=[.ag (enO e),.c (.bool true)]:=by unfold wM;rw[a3]
      rw[eo]at ad;obtain⟨hNb,hp3⟩:=GD a3 am;have aj:=VE (ls:=ls) (es:=(es++[e]).map XI) (e:=XI e) (by have:=hI.l20;omega) (Wu hNb) (by unfold XI;simp;omega);rw[Ks,Uf,←Uh]at aj;unfold drP at aj;obtain⟨b1,ah,b2,ai,hr⟩:∃b1 ah b2 ai,MD e=[.bool b1,.sl ah,.bool b2,.sl ai]:=by
       unfold MD;by_cases hk:e.kind=3
       ·rw[if_pos hk];exact⟨_,_,_,_,rfl⟩
       ·rw[if_neg hk];exact⟨_,_,_,_,rfl⟩
      have a9:enO e=[.int .i64 e.kind,.str e.layer,.sl (e.pts.map Lx),.bool b1,.sl ah,.bool b2,.sl ai]:=by unfold enO;rw[hr];rfl
      have ae:(es++[e]).map enO=es.map enO++[[.int .i64 e.kind,.str e.layer,.sl (e.pts.map Lx),.bool b1,.sl ah,.bool b2,.sl ai]]:=by rw[ay,←a9];rfl
      rw[ae,a9]at aj;rw[a9]at ad;exact⟨_,_,_,_,_,_,_,_,upX ad,jm (fun _=>⟨⟨by unfold room;have:=hI.e200;rw[W0];omega,fun e he=>by simp at he;rw[he];rfl⟩,_,upX (ex:=[]) aj,⟨i,ls,es,a5,hI,rfl,.inr ⟨a1,.inl ⟨e,a3,by rw[ae]⟩⟩⟩⟩) (fun h=>by simp at h)⟩
   ·rintro n_3 es_3 es_4 ⟨i',a7,ag,al,a8,hg,a2⟩;have hii:i'=i:=by simp only[pjG,aP,Hy,true_and]at hg;omega
    subst hii;clear hI hg an ad;have hww:J6 .i64 ((i':Int)+1)=((i'+1:Nat):Int):=by rw[qK (by omega) (by omega)];omega
    rw[hww];have a6:∀a b:List (List D),pjM L [.int .i64 ((i'+1:Nat):Int),.sl a,.sl b]<pjM L [.int .i64 (i':Int),.sl (ls.map vP),.sl (es.map enO)]:=fun a b=>by simp only[pjM,nth,toI];omega
    have a0:=a8.eq;rw[aE al,j5,hR]at a0;rcases a2 with⟨l,a1,a2⟩|⟨a1,⟨e,a3,a2⟩|⟨a3,a2⟩⟩
    ·simp only[aP,Hy,J3,true_and,and_true]at a2;obtain⟨rfl,rfl,rfl⟩:=a2;rw[a1]at a0;simp only at a0;have hc:=GE a7 l;have af:=a8.l20;have a4:=a8.e200;refine brb (fun _=>?_) (fun h=>by simp at h;omega);rw[W0,aC,W0];refine brd (fun h2=>?_) (fun h2=>brd (fun h3=>by omega) (fun h3=>?_))
     ·have h2:20<a7.length+1:=by simp at h2;omega
      rw[if_pos (.inl h2)]at a0;rw[←a0];rfl
     ·have h2:¬20<a7.length+1:=by simp at h2;omega
      rw[if_neg (by omega)]at a0;generalize xV a7 l=x at *;cases x with
      |zero=>
       refine brb (fun h=>by simp at h) (fun _=>?_);refine⟨⟨i'+1,a7++[l],ag,by omega,⟨by rw[hR];exact a0,by simp;omega,a4,fun y hy=>?_⟩,rfl⟩,a6 _ _⟩;rcases aD.1 hy with hy|hy
       ·exact a8.nm y hy
       ·simp only[au,ax,or_false]at hy;subst hy;exact VM a1 am
      |succ x=>refine brb (fun _=>?_) (fun h=>by simp at h;omega);rw[←a0];rfl
    ·simp only[aP,Hy,J3,true_and,and_true]at a2;obtain⟨rfl,rfl,rfl⟩:=a2;rw[a1]at a0;simp only at a0;rw[a3]at a0;simp only at a0;have hc:=VL a7 e;have af:=a8.l20;have a4:=a8.e200;refine brb (fun _=>?_) (fun h=>by simp at h;omega);rw[W0,W0,aC];refine brd (fun h2=>by omega) (fun h2=>brd (fun h3=>?_) (fun h3=>?_))
     ·have h3:200<ag.length+1:=by simp at h3;omega
      rw[if_pos (.inr h3)]at a0;rw[←a0];rfl
     ·have h3:¬200<ag.length+1:=by simp at h3;omega
      rw[if_neg (by omega)]at a0;generalize xn a7 e=x at *;cases x with
      |zero=>refine brb (fun h=>by simp at h) (fun _=>?_);exact⟨⟨i'+1,a7,ag++[e],by omega,⟨by rw[hR];exact a0,af,by simp;omega,a8.nm⟩,rfl⟩,a6 _ _⟩
      |succ x=>refine brb (fun _=>?_) (fun h=>by simp at h;omega);rw[←a0];rfl
    ·simp only[aP,Hy,J3,true_and,and_true]at a2;obtain⟨rfl,rfl,rfl⟩:=a2;rw[a1]at a0;simp only at a0;rw[a3]at a0;simp only at a0;refine brb (fun h=>by simp at h) (fun _=>brb (fun _=>?_) (fun h=>by simp at h));rw[←a0];rfl
  ·have a5:i=L.length:=by rw[W0]at h;omega
   subst a5;have a0:=hI.eq;rw[aL,j5,hR]at a0;rw[←a0];rfl
end Eng
end
