/- The verification conditions of functions, printed by a program (vcg5.py) and checked by the kernel. -/
import Derived.Test.YtlgnobmngljmaaaGreatDoorPaA
import Derived.Test.YtlgnobmngljmaaaGreatDoorPaC
import Derived.Test.YtlgnobmngljmaaaGreatDoorPaB
import Derived.Test.YtlgnobmngljmaaaGreatDoorEngE
import Derived.KernelRfl
import Derived.Laws.Bits64b
import Derived.Lib.Mul64
section
open Go Go.Proofs Eng
set_option maxRecDepth 1000000
namespace Eng
theorem vc_kDivG (Gv:Nat→List A→List A→Prop) (r0:R4) (r1:R4) (Q:List A→Prop):wpF CC Gv an0 Tryz.f304 [.ag (rk r0 []),.ag (rk r1 [])] Q=(
 ∃i,Gv 97 [A.ag (rk r1 [])] [A.c (D.int .i64 i)]∧br (toB (D.bool (i==0))) (Q [A.ag [D.bool false,D.sl [],D.bool false,D.sl []],A.c (D.int .i64 6)]) (∃b es,Gv 99 [A.ag [D.bool (R4.b r0),D.sl (R4.l r0)],A.ag [D.bool (R4.c r1),D.sl (R4.m r1)]] [A.ag [D.bool b,D.sl es]]∧∃b1 e1,Gv 99 [A.ag [D.bool (R4.c r0),D.sl (R4.m r0)],A.ag [D.bool (R4.b r1),D.sl (R4.l r1)]] [A.ag [D.bool b1,D.sl e1]]∧∃x,Gv 154 [A.ag [D.bool b,D.sl es],A.ag [D.bool b1,D.sl e1]] [A.ag (rk x [])]∧Q [A.ag (rk x []),A.c (D.int .i64 0)])):=by kernel_rfl
theorem vc_kValG (Gv:Nat→List A→List A→Prop) (r0:R4) (Q:List A→Prop):wpF CC Gv an0 Tryz.f231 [.ag (rk r0 [])] Q=(
 ∃b,Gv 305 [A.ag [D.bool (R4.b r0),D.sl (R4.l r0)]] [A.c (D.bool b)]∧br (toB (D.bool !b)) (Q [A.c (D.bool false)]) (∃b,Gv 305 [A.ag [D.bool (R4.c r0),D.sl (R4.m r0)]] [A.c (D.bool b)]∧br (toB (D.bool !b)) (Q [A.c (D.bool false)]) (∃i,Gv 159 [A.ag [D.bool (R4.c r0),D.sl (R4.m r0)]] [A.c (D.int .i64 i)]∧br (toB (D.bool (decide (i≤0)))) (Q [A.c (D.bool false)]) (∃b es,Gv 223 [A.ag [D.bool (R4.b r0),D.sl (R4.l r0)],A.ag [D.bool (R4.c r0),D.sl (R4.m r0)]] [A.ag [D.bool b,D.sl es]]∧∃b1 e1,Gv 91 [] [A.ag [D.bool b1,D.sl e1]]∧∃i,Gv 98 [A.ag [D.bool b,D.sl es],A.ag [D.bool b1,D.sl e1]] [A.c (D.int .i64 i)]∧Q [A.c (D.bool (i==0))])))):=by kernel_rfl
theorem vc_kValR (Gv:Nat→List A→List A→Prop) (r0:R4) (Q:List A→Prop):wpF CC Gv an0 Tryz.f182 [.ag (rk r0 [])] Q=(
 ∃b,Gv 259 [A.ag [D.bool (R4.b r0),D.sl (R4.l r0)]] [A.c (D.bool b)]∧br (toB (D.bool !b)) (Q [A.c (D.bool false)]) (∃b,Gv 259 [A.ag [D.bool (R4.c r0),D.sl (R4.m r0)]] [A.c (D.bool b)]∧br (toB (D.bool !b)) (Q [A.c (D.bool false)]) (∃i,Gv 109 [A.ag [D.bool (R4.c r0),D.sl (R4.m r0)]] [A.c (D.int .i64 i)]∧br (toB (D.bool (i !=1))) (Q [A.c (D.bool false)]) (∃b es,Gv 111 [A.ag [D.bool (R4.b r0),D.sl (R4.l r0)],A.ag [D.bool (R4.c r0),D.sl (R4.m r0)]] [A.ag [D.bool b,D.sl es]]∧∃b1 e1,Gv 50 [] [A.ag [D.bool b1,D.sl e1]]∧∃b2,Gv 28 [A.ag [D.bool b,D.sl es],A.ag [D.bool b1,D.sl e1]] [A.c (D.bool b2)]∧Q [A.c (D.bool b2)])))):=by kernel_rfl
theorem vc_kVq (Gv:Nat→List A→List A→Prop) (I0:List D→List D→Prop) (M0:List D→Nat) (z0:Bool) (l0:List (List D)) (Q:List A→Prop):wpF CC Gv (fun _=>⟨[.slot 3 (.int .i64 0)],[],I0,M0⟩) Tryz.f259 [.ag [.bool z0,.sl l0]] Q=(
 I0 [] [D.int .i64 0]∧∀(i:Int),I0 [] [D.int .i64 i]→br (toB (D.bool (decide (i<(Int.ofNat l0.length))))) ((0≤i∧i<(Int.ofNat l0.length)∧List.length (nth [] l0 (Int.toNat i))=1)∧∃i_1,cut (nth [] l0 (Int.toNat i)) 0 1 [D.int .u32 i_1]∧br (toB (D.bool (decide (i_1≥1000000000)))) (Q [A.c (D.bool false)]) (I0 [] [D.int .i64 (IntKind.wrap .i64 (i+1))]∧M0 [D.int .i64 (IntKind.wrap .i64 (i+1))]<M0 [D.int .i64 i])) (∃es,Gv 157 [A.c (D.sl l0)] [A.c (D.sl es)]∧br (toB (D.bool ((Int.ofNat es.length)==(Int.ofNat l0.length)))) (br (toB (D.bool !z0)) (Q [A.c (D.bool true)]) (Q [A.c (D.bool (decide ((Int.ofNat l0.length)>0)))])) (Q [A.c (D.bool false)]))):=by kernel_rfl
theorem vc_kVi (Gv:Nat→List A→List A→Prop) (I0:List D→List D→Prop) (M0:List D→Nat) (z0:Bool) (l0:List (List D)) (Q:List A→Prop):wpF CC Gv (fun _=>⟨[.slot 9 (.int .i64 0)],[],I0,M0⟩) Tryz.f305 [.ag [.bool z0,.sl l0]] Q=(
 I0 [] [D.int .i64 0]∧∀(i:Int),I0 [] [D.int .i64 i]→br (toB (D.bool (decide (i<(Int.ofNat l0.length))))) ((0≤i∧i<(Int.ofNat l0.length)∧List.length (nth [] l0 (Int.toNat i))=1)∧∃i_1,cut (nth [] l0 (Int.toNat i)) 0 1 [D.int .u32 i_1]∧br (toB (D.bool (decide (i_1≥1000000000)))) (Q [A.c (D.bool false)]) (I0 [] [D.int .i64 (IntKind.wrap .i64 (i+1))]∧M0 [D.int .i64 (IntKind.wrap .i64 (i+1))]<M0 [D.int .i64 i])) (br (toB (D.bool (decide ((Int.ofNat l0.length)>0)))) ((0≤IntKind.wrap .i64 ((Int.ofNat l0.length)-1)∧IntKind.wrap .i64 ((Int.ofNat l0.length)-1)<(Int.ofNat l0.length)∧List.length (nth [] l0 (Int.toNat (IntKind.wrap .i64 ((Int.ofNat l0.length)-1))))=1)∧∃i,cut (nth [] l0 (Int.toNat (IntKind.wrap .i64 ((Int.ofNat l0.length)-1)))) 0 1 [D.int .u32 i]∧Q [A.c (D.bool (i !=0))]) (Q [A.c (D.bool !z0)]))):=by kernel_rfl
theorem vc_kSame (Gv:Nat→List A→List A→Prop) (z0:Bool) (l0:List (List D)) (z1:Bool) (l1:List (List D)) (Q:List A→Prop):wpF CC Gv an0 Tryz.f28 [.ag [.bool z0,.sl l0],.ag [.bool z1,.sl l1]] Q=(
 br (toB (D.bool (z0==z1))) (∃i,Gv 57 [A.c (D.sl l0),A.c (D.sl l1)] [A.c (D.int .i64 i)]∧Q [A.c (D.bool (i==0))]) (Q [A.c (D.bool false)])):=by kernel_rfl
end Eng
end

section
namespace Eng
open Go Go.Proofs Rl
set_option maxRecDepth 100000
section
variable [Env]
theorem wpG {f:Nat} {fn:Func} {args res:List A} (hf:Tryz.prog.funcs[f]? =some fn) (h:wpF CC (Gives CC) an0 fn args (· =res)):Gives CC f args res:=wpF_ok mixedT hf h
theorem gOk {f:Nat} {fn:Func} {args res:List A} {anns:Nat→Ann} {P:Prop} (hf:Tryz.prog.funcs[f]? =some fn) (hv:wpF CC (Gives CC) anns fn args (fun r=>r=res)=P) (h:P):Gives CC f args res:=
 wpF_ok mixedT hf (hv.mpr h)
omit [Env] in
theorem sgn_sr (r:Rat):sgn r.num=sr r:=by
 unfold sgn sr;have h1:= @Rat.num_nonneg r;have h2:= @Rat.num_eq_zero r;by_cases h3:r<0
 ·rw[if_pos (by rw[←Int.not_le,h1];grind),if_neg (by grind),if_pos h3]
 ·rw[if_neg (by rw[←Int.not_le,h1];grind)];by_cases h4:r=0
  ·rw[if_neg (by rw[h2.2 h4];decide),if_neg (by grind),if_neg h3]
  ·have h5:0≤r.num:=h1.2 (by grind);have h6:r.num≠0:=fun e=>h4 (h2.1 e)
   rw[if_pos (by omega),if_pos (by grind)]
omit [Env] in
theorem cmpR_sr (x y:Rat):cmpR x y=sr (x-y):=by
 unfold cmpR sr
 grind
theorem rDiv_ok {x y:Rat} (hx:Sr x) (hy:Sr y) (h0:y≠0):Gives CC 304 [encR x,encR y] [encR (x/y),.c (.int .i64 0)]:=by
 show Gives CC 304 [.ag (rk (q4 x) []),.ag (rk (q4 y) [])] _;refine wpG Tryz.func304 ((vc_kDivG ..).mpr ?_);have px:=den_pos x;have py:=den_pos y;have hn:y.num≠0:=fun e=>h0 (Rat.num_eq_zero.1 e)
 have h1:(x.den:Int)*y.num≠0:=Int.mul_ne_zero (by omega) hn;refine⟨_,rSign_ok y,?_⟩;refine brb (fun h=>?_) (fun _=>?_)
 ·exfalso;have h2:sgn y.num=0:=by simpa using h
  unfold sgn at h2;split at h2
  ·omega
  ·split at h2<;>omega
 refine⟨_,_,up (iMul_ok hx.1.sm hy.2.sm),_,_,up (iMul_ok hx.2.sm hy.1.sm),q4 (Rat.divInt (x.num*y.den) (x.den*y.num)),rreduce_ok divOk (hx.1.mul hy.2) (hx.2.mul hy.1) h1,?_⟩;have e:x/y=Rat.divInt (x.num*y.den) (x.den*y.num):=by rw[Rat.div_def,←Rat.divInt_mul_divInt,Rat.num_divInt_den,←Rat.inv_divInt,Rat.num_divInt_den]
 rw[e];rfl
theorem eDiv_ok {x y:Rat} (hx:Sr x) (hy:Sr y) (h0:y≠0):Gives CC 340 [encR x,encR y] [encR (x/y),.c (.int .i64 0)]:=by
 have:=uDiv_ok partsOk hx hy
 rwa [if_neg h0]at this
end
section
variable [Env]
theorem numK_G:NumOk idG:=⟨fun _ _ hx hy=>rAdd_ok divOk hx hy,fun _ _ hx hy=>rSub_ok divOk hx hy,fun _ _ hx hy=>rMul_ok divOk hx hy,fun _ hx=>rNeg_ok hx,
 fun x _=>by rw[←sgn_sr];exact rSign_ok x,fun x y hx hy=>by rw[←cmpR_sr];exact rCmp_ok hx hy,fun _ _ hx hy h0=>rDiv_ok hx hy h0,fun _ h1 h2=>rFromInt64_ok h1 h2⟩
theorem numK_R:NumOk idR:=⟨fun _ _ hx hy=>uAdd_ok partsOk hx hy,fun _ _ hx hy=>uSub_ok partsOk hx hy,fun _ _ hx hy=>uMul_ok partsOk hx hy,fun _ hx=>uNeg_ok hx,
 fun x _=>by rw[←sgn_sr];exact uSign_ok x,fun x y hx hy=>by rw[←cmpR_sr];exact uCmp_ok hx hy,fun _ _ hx hy h0=>eDiv_ok hx hy h0,fun _ h1 h2=>uFromInt64_ok h1 h2⟩
end
end Eng
end

section
namespace Eng
open Go Go.Proofs Rl
set_option maxRecDepth 100000
section
variable [Env]
theorem qValid_ok {z:Int} (hz:Sm z):Gives CC 259 [encI z] [.c (.bool true)]:=by
 have hll:=lim_limbs z.natAbs;have hlen:=hz.len;have hv:=vc_kVq (Gives CC) (fun _ ds=>∃k:Nat,k≤(lim z.natAbs).length∧ds=[.int .i64 (k:Int)]) (fun ds=>((lim z.natAbs).length-toI (nth .undef ds 0)).toNat) (decide (z<0)) (raw (lim z.natAbs)) (· =[.c (.bool true)]);rw[encI_cells];refine gOk Tryz.func259 hv ?_;clear hv;rw[raw_length];refine⟨⟨0,Nat.zero_le _,rfl⟩,?_⟩;rintro _ ⟨k,hk,he⟩;simp only[List.cons.injEq,D.int.injEq,and_true,true_and]at he;subst he;refine brd (fun h=>?_) (fun h=>?_)
 ·have hkl:k<(lim z.natAbs).length:=by simp only[Int.ofNat_eq_natCast]at h;omega
  have h9:=hll.get hkl;rw[Int.toNat_natCast];refine⟨⟨by omega,by simp only[Int.ofNat_eq_natCast];omega,raw_len1 hkl⟩,_,cut_raw hkl,brd (fun h2=>?_) (fun h2=>?_)⟩
  ·omega
  ·have hw:IntKind.wrap .i64 ((k:Int)+1)=((k+1:Nat):Int):=by rw[i64w (by omega) (by omega)];omega
   rw[hw];exact⟨⟨k+1,hkl,rfl⟩,by simp only[nth,toI];omega⟩
 ·have ht:=qtrim_ok hll (by omega);rw[lim_val]at ht;refine⟨_,ht,?_⟩;rw[raw_length];refine brb (fun _=>?_) (fun h2=>by simp at h2);refine brb (fun _=>rfl) (fun h3=>?_);have hn:z<0:=by simpa using h3
  have:0<(lim z.natAbs).length:=lim_len_pos.2 (by omega);rw[decide_eq_true (by simp only[Int.ofNat_eq_natCast];omega)]
theorem iValid_ok {z:Int} (hz:Sm z):Gives CC 305 [encI z] [.c (.bool true)]:=by
 have hll:=lim_limbs z.natAbs;have hlen:=hz.len;have hv:=vc_kVi (Gives CC) (fun _ ds=>∃k:Nat,k≤(lim z.natAbs).length∧ds=[.int .i64 (k:Int)]) (fun ds=>((lim z.natAbs).length-toI (nth .undef ds 0)).toNat) (decide (z<0)) (raw (lim z.natAbs)) (· =[.c (.bool true)]);rw[encI_cells];refine gOk Tryz.func305 hv ?_;clear hv;rw[raw_length];refine⟨⟨0,Nat.zero_le _,rfl⟩,?_⟩;rintro _ ⟨k,hk,he⟩;simp only[List.cons.injEq,D.int.injEq,and_true,true_and]at he;subst he;refine brd (fun h=>?_) (fun h=>?_)
 ·have hkl:k<(lim z.natAbs).length:=by simp only[Int.ofNat_eq_natCast]at h;omega
  have h9:=hll.get hkl;rw[Int.toNat_natCast];refine⟨⟨by omega,by simp only[Int.ofNat_eq_natCast];omega,raw_len1 hkl⟩,_,cut_raw hkl,brd (fun h2=>?_) (fun h2=>?_)⟩
  ·omega
  ·have hw:IntKind.wrap .i64 ((k:Int)+1)=((k+1:Nat):Int):=by rw[i64w (by omega) (by omega)];omega
   rw[hw];exact⟨⟨k+1,hkl,rfl⟩,by simp only[nth,toI];omega⟩
 ·refine brd (fun h2=>?_) (fun h2=>?_)
  ·have h3:0<(lim z.natAbs).length:=by simp only[Int.ofNat_eq_natCast]at h2;omega
   have hw:IntKind.wrap .i64 (Int.ofNat (lim z.natAbs).length-1)=(((lim z.natAbs).length-1:Nat):Int):=by simp only[Int.ofNat_eq_natCast];rw[i64w (by omega) (by omega)];omega
   rw[hw,Int.toNat_natCast];refine⟨⟨by omega,by simp only[Int.ofNat_eq_natCast];omega,raw_len1 (by omega)⟩,_,cut_raw (by omega),?_⟩;rcases lim_last z.natAbs with e|e
   ·rw[e]at h3;simp at h3
   ·rw[List.getLast?_eq_getElem?,List.getElem?_eq_getElem (by omega)]at e;have:(((lim z.natAbs)[(lim z.natAbs).length-1]'(by omega):Nat):Int)≠0:=fun k=>e (by congr 1;omega)
    simp;omega
  ·have h3:¬0<(lim z.natAbs).length:=by simp only[Int.ofNat_eq_natCast]at h2;omega
   rw[lim_len_pos]at h3;rw[decide_eq_false (by omega)];rfl
theorem qSame_ok {x y:Int} (hx:Sm x) (hy:Sm y):Gives CC 28 [encI x,encI y] [.c (.bool (decide (x=y)))]:=by
 rw[encI_cells,encI_cells];refine wpG Tryz.func28 ((vc_kSame ..).mpr ?_);have hc:=qcompare_ok (x:=x.natAbs) (y:=y.natAbs) (Nat.le_trans hx.len (by omega)) (Nat.le_trans hy.len (by omega));refine brb (fun h=>⟨_,hc,?_⟩) (fun h=>?_)
 ·rw[beq_iff_eq,decide_eq_decide]at h;have:(cmpN x.natAbs y.natAbs==0)=decide (x=y):=by
   rw[Bool.eq_iff_iff,beq_iff_eq,decide_eq_true_eq];unfold cmpN;split
   ·omega
   ·split<;>omega
  rw[this]
 ·have:decide (x=y)=false:=by
   refine decide_eq_false fun e=>?_
   subst e;simp at h
  rw[this]
theorem uValid_ok {x:Rat} (hs:Sr x):Gives CC 182 [encR x] [.c (.bool true)]:=by
 show Gives CC 182 [.ag (rk (q4 x) [])] _;refine wpG Tryz.func182 ((vc_kValR ..).mpr ?_);have h3:=qSign_ok (x.den:Int);have h4:=qGCD_ok partsOk hs.1.sm hs.2.sm;have hg:Nat.gcd x.num.natAbs (x.den:Int).natAbs=1:=by rw[Int.natAbs_natCast];exact x.reduced
 have s1:Sm 1:=sm_one;have h6:=qSame_ok s1 s1;have hd:=x.den_pos;have h7:sgn (x.den:Int)=1:=by unfold sgn;rw[if_neg (by omega),if_pos (by omega)]
 rw[hg]at h4;rw[h7]at h3;exact⟨_,qValid_ok hs.1.sm,brb (fun h=>by cases h) (fun _=>⟨_,qValid_ok hs.2.sm,brb (fun h=>by cases h) (fun _=>⟨_,h3,brb (fun h=>by cases h) (fun _=>⟨_,_,h4,_,_,uunit_ok,_,h6,rfl⟩)⟩)⟩)⟩
theorem rValid_ok {x:Rat} (hs:Sr x):Gives CC 231 [encR x] [.c (.bool true)]:=by
 show Gives CC 231 [.ag (rk (q4 x) [])] _;refine wpG Tryz.func231 ((vc_kValG ..).mpr ?_);have h3:=up (iSign_ok (x.den:Int));have h4:=iGCD_ok divOk hs.1.sm hs.2.sm;have hg:Nat.gcd x.num.natAbs (x.den:Int).natAbs=1:=by rw[Int.natAbs_natCast];exact x.reduced
 have s1:Sm 1:=sm_one;have h6:=up (iCmp_ok s1 s1);have hd:=x.den_pos;have h7:sgn (x.den:Int)=1:=by unfold sgn;rw[if_neg (by omega),if_pos (by omega)]
 rw[hg]at h4;rw[h7]at h3;exact⟨_,iValid_ok hs.1.sm,brb (fun h=>by cases h) (fun _=>⟨_,iValid_ok hs.2.sm,brb (fun h=>by cases h) (fun _=>⟨_,h3,brb (fun h=>by simp at h) (fun _=>⟨_,_,h4,_,_,runit_ok,_,h6,rfl⟩)⟩)⟩)⟩
end
end Eng
end

section
namespace Eng
open Rl
theorem mlQ {k c d Y L:Rat} (h3:c≤Y) (h4:Y≤d) (l1:L≤k*c) (l2:L≤k*d):L≤k*Y:=by
 by_cases h:0≤k
 ·exact Rat.le_trans l1 (Rat.mul_le_mul_of_nonneg_left h3 h)
 ·have h5:0≤ -k:=by grind
  have:=Rat.mul_le_mul_of_nonneg_left h4 h5
  grind
theorem hulQ {X Y a b c d L:Rat} (h1:a≤X) (h2:X≤b) (h3:c≤Y) (h4:Y≤d) (l1:L≤a*c) (l2:L≤b*c) (l3:L≤a*d) (l4:L≤b*d):L≤X*Y:=by
 have e1:=mlQ h3 h4 l1 l3;have e2:=mlQ h3 h4 l2 l4;rw[Rat.mul_comm]at e1 e2;have:=mlQ h1 h2 e1 e2
 rwa [Rat.mul_comm]at this
def inQ (lo hi:Int) (x:Rat):Prop:=(lo:Rat)≤x*65536∧x*65536≤(hi:Rat)
theorem inQ_add {a b c d:Int} {x y:Rat} (h:inQ a b x) (k:inQ c d y):inQ (a+c) (b+d) (x+y):=by
 obtain⟨h1,h2⟩:=h;obtain⟨k1,k2⟩:=k;unfold inQ;rw[Rat.intCast_add,Rat.intCast_add];constructor<;>grind
theorem inQ_neg {a b:Int} {x:Rat} (h:inQ a b x):inQ (-b) (-a) (-x):=by
 obtain⟨h1,h2⟩:=h;unfold inQ;rw[Rat.intCast_neg,Rat.intCast_neg];constructor<;>grind
theorem inQ_mul {a b c d L H:Int} {x y:Rat} (h:inQ a b x) (k:inQ c d y) (hL:∀p q,(p=a∨p=b)→(q=c∨q=d)→L*65536≤p*q) (hH:∀p q,(p=a∨p=b)→(q=c∨q=d)→p*q≤H*65536):inQ L H (x*y):=by
 obtain⟨h1,h2⟩:=h;obtain⟨k1,k2⟩:=k;have cL:∀p q,(p=a∨p=b)→(q=c∨q=d)→(L:Rat)*65536≤(p:Rat)*(q:Rat):=fun p q hp hq=>by
  have:=Rat.intCast_le_intCast.2 (hL p q hp hq)
  rwa [Rat.intCast_mul,Rat.intCast_mul]at this
 have cH:∀p q,(p=a∨p=b)→(q=c∨q=d)→ -((H:Rat)*65536)≤ -((p:Rat)*(q:Rat)):=fun p q hp hq=>by
  have:=Rat.intCast_le_intCast.2 (hH p q hp hq);rw[Rat.intCast_mul,Rat.intCast_mul]at this;have e:((65536:Int):Rat)=65536:=rfl;rw[e]at this
  grind
 have e1:=hulQ h1 h2 k1 k2 (cL _ _ (.inl rfl) (.inl rfl)) (cL _ _ (.inr rfl) (.inl rfl)) (cL _ _ (.inl rfl) (.inr rfl)) (cL _ _ (.inr rfl) (.inr rfl));have n1: -(b:Rat)≤ -(x*65536):=by grind
 have n2: -(x*65536)≤ -(a:Rat):=by grind
 have e2:=hulQ (L:= -((H:Rat)*65536)) n1 n2 k1 k2 (by have:=cH _ _ (.inr rfl) (.inl rfl);grind) (by have:=cH _ _ (.inl rfl) (.inl rfl);grind) (by have:=cH _ _ (.inr rfl) (.inr rfl);grind) (by have:=cH _ _ (.inl rfl) (.inr rfl);grind);constructor<;>grind
theorem inQ_sg {a b:Int} {x:Rat} (h:inQ a b x):(0<a→sr x=1)∧(b<0→sr x= -1)∧(a=0→b=0→sr x=0):=by
 obtain⟨h1,h2⟩:=h;refine⟨fun k=>?_,fun k=>?_,fun k l=>?_⟩
 ·have:=Rat.intCast_lt_intCast.2 k;unfold sr;rw[if_pos (by have e:((0:Int):Rat)=0:=rfl;rw[e]at this;grind)]
 ·have:=Rat.intCast_lt_intCast.2 k;have e:((0:Int):Rat)=0:=rfl;rw[e]at this;unfold sr;rw[if_neg (by grind),if_pos (by grind)]
 ·subst k;subst l;have e:((0:Int):Rat)=0:=rfl;rw[e]at h1 h2;have:x=0:=by grind
  subst this;simp[sr]
end Eng
end

section
open Go Go.Proofs Eng
set_option maxRecDepth 1000000
namespace Eng
theorem vc_fProper (Gv:Nat→List A→List A→Prop) (i0:Int) (i1:Int) (Q:List A→Prop):wpF CC Gv an0 Tryz.f413 [.c (.int .i64 i0),.c (.int .i64 i1)] Q=(
 br (toB (D.bool (decide (i0<(-2305843009213693952:Int))))) (Q [A.ag [D.int .i64 0,D.int .i64 0],A.c (D.bool false)]) (br (toB (D.bool (decide (i1>2305843009213693952)))) (Q [A.ag [D.int .i64 0,D.int .i64 0],A.c (D.bool false)]) (Q [A.ag [D.int .i64 i0,D.int .i64 i1],A.c (D.bool true)]))):=by kernel_rfl
theorem vc_fFromRat (Gv:Nat→List A→List A→Prop) (r0:R4) (Q:List A→Prop):wpF CC Gv an0 Tryz.f329 [.ag (rk r0 [])] Q=(
 ∃x,Gv 24 [A.c (D.int .i64 65536)] [A.ag (rk x [])]∧∃x1,Gv 88 [A.ag (rk r0 []),A.ag (rk x [])] [A.ag (rk x1 [])]∧∃b es,Gv 412 [A.ag (rk x1 [])] [A.ag [D.bool b,D.sl es]]∧∃i b1,Gv 411 [A.ag [D.bool b,D.sl es]] [A.c (D.int .i64 i),A.c (D.bool b1)]∧∃x,Gv 315 [A.ag (rk x1 [])] [A.ag (rk x [])]∧∃b es,Gv 412 [A.ag (rk x [])] [A.ag [D.bool b,D.sl es]]∧∃b2 e1,Gv 222 [A.ag [D.bool b,D.sl es]] [A.ag [D.bool b2,D.sl e1]]∧∃i_1 b,Gv 411 [A.ag [D.bool b2,D.sl e1]] [A.c (D.int .i64 i_1),A.c (D.bool b)]∧br (toB (D.bool !b1)) (Q [A.ag [D.int .i64 0,D.int .i64 0],A.c (D.bool false)]) (br (toB (D.bool !b)) (Q [A.ag [D.int .i64 0,D.int .i64 0],A.c (D.bool false)]) (∃i_2 i_3 b,Gv 413 [A.c (D.int .i64 i),A.c (D.int .i64 i_1)] [A.ag [D.int .i64 i_2,D.int .i64 i_3],A.c (D.bool b)]∧Q [A.ag [D.int .i64 i_2,D.int .i64 i_3],A.c (D.bool b)]))):=by kernel_rfl
theorem vc_fAdd (Gv:Nat→List A→List A→Prop) (a0:Int) (b0:Int) (a1:Int) (b1:Int) (Q:List A→Prop):wpF CC Gv an0 Tryz.f381 [.ag [.int .i64 a0,.int .i64 b0],.ag [.int .i64 a1,.int .i64 b1]] Q=(
 ∃i i_1 b,Gv 413 [A.c (D.int .i64 (IntKind.wrap .i64 (a0+a1))),A.c (D.int .i64 (IntKind.wrap .i64 (b0+b1)))] [A.ag [D.int .i64 i,D.int .i64 i_1],A.c (D.bool b)]∧Q [A.ag [D.int .i64 i,D.int .i64 i_1],A.c (D.bool b)]):=by kernel_rfl
theorem vc_fNeg (Gv:Nat→List A→List A→Prop) (a0:Int) (b0:Int) (Q:List A→Prop):wpF CC Gv an0 Tryz.f382 [.ag [.int .i64 a0,.int .i64 b0]] Q=(
 Q [A.ag [D.int .i64 (IntKind.wrap .i64 (0-b0)),D.int .i64 (IntKind.wrap .i64 (0-a0))]]):=by kernel_rfl
theorem vc_fAbs (Gv:Nat→List A→List A→Prop) (i0:Int) (Q:List A→Prop):wpF CC Gv an0 Tryz.f463 [.c (.int .i64 i0)] Q=(
 br (toB (D.bool (decide (i0<0)))) (Q [A.c (D.int .u64 (IntKind.wrap .u64 (0-IntKind.wrap .u64 i0)))]) (Q [A.c (D.int .u64 (IntKind.wrap .u64 i0))])):=by kernel_rfl
theorem vc_fScaled (Gv:Nat→List A→List A→Prop) (i0:Int) (i1:Int) (Q:List A→Prop):wpF CC Gv an0 Tryz.f432 [.c (.int .i64 i0),.c (.int .i64 i1)] Q=(
 ∃i,Gv 463 [A.c (D.int .i64 i0)] [A.c (D.int .u64 i)]∧∃i_1,Gv 463 [A.c (D.int .i64 i1)] [A.c (D.int .u64 i_1)]∧∃i_2 i_3,Gv 213 [A.c (D.int .u64 i),A.c (D.int .u64 i_1)] [A.c (D.int .u64 i_2),A.c (D.int .u64 i_3)]∧(0:Int)≤(16:Int)∧br (toB (D.bool (Int.fdiv i_2 (65536:Int) !=(0:Int)))) (Q [A.c (D.int .i64 0),A.c (D.int .i64 0),A.c (D.bool false)]) ((0:Int)≤(48:Int)∧(0:Int)≤(16:Int)∧br (toB (D.bool (decide (bits .or .u64 (IntKind.wrap .u64 (i_2*281474976710656)) (Int.fdiv i_3 (65536:Int))>2305843009213693952)))) (Q [A.c (D.int .i64 0),A.c (D.int .i64 0),A.c (D.bool false)]) (br (toB (D.bool (bits .and .u64 (i_3) (65535:Int) !=(0:Int)))) (br (toB (D.bool !decide (i0<0)==decide (i1<0))) (br (toB (D.bool (decide (IntKind.wrap .i64 (0-IntKind.wrap .i64 (IntKind.wrap .i64 (bits .or .u64 (IntKind.wrap .u64 (i_2*281474976710656)) (Int.fdiv i_3 (65536:Int)))+1))≥(-2305843009213693952:Int))))) (Q [A.c (D.int .i64 (IntKind.wrap .i64 (0-IntKind.wrap .i64 (IntKind.wrap .i64 (bits .or .u64 (IntKind.wrap .u64 (i_2*281474976710656)) (Int.fdiv i_3 (65536:Int)))+1)))),A.c (D.int .i64 (IntKind.wrap .i64 (0-IntKind.wrap .i64 (bits .or .u64 (IntKind.wrap .u64 (i_2*281474976710656)) (Int.fdiv i_3 (65536:Int)))))),A.c (D.bool (decide (IntKind.wrap .i64 (0-IntKind.wrap .i64 (bits .or .u64 (IntKind.wrap .u64 (i_2*281474976710656)) (Int.fdiv i_3 (65536:Int))))≤2305843009213693952)))]) (Q [A.c (D.int .i64 (IntKind.wrap .i64 (0-IntKind.wrap .i64 (IntKind.wrap .i64 (bits .or .u64 (IntKind.wrap .u64 (i_2*281474976710656)) (Int.fdiv i_3 (65536:Int)))+1)))),A.c (D.int .i64 (IntKind.wrap .i64 (0-IntKind.wrap .i64 (bits .or .u64 (IntKind.wrap .u64 (i_2*281474976710656)) (Int.fdiv i_3 (65536:Int)))))),A.c (D.bool false)])) (br (toB (D.bool (decide (IntKind.wrap .i64 (bits .or .u64 (IntKind.wrap .u64 (i_2*281474976710656)) (Int.fdiv i_3 (65536:Int)))≥(-2305843009213693952:Int))))) (Q [A.c (D.int .i64 (IntKind.wrap .i64 (bits .or .u64 (IntKind.wrap .u64 (i_2*281474976710656)) (Int.fdiv i_3 (65536:Int))))),A.c (D.int .i64 (IntKind.wrap .i64 (IntKind.wrap .i64 (bits .or .u64 (IntKind.wrap .u64 (i_2*281474976710656)) (Int.fdiv i_3 (65536:Int)))+1))),A.c (D.bool (decide (IntKind.wrap .i64 (IntKind.wrap .i64 (bits .or .u64 (IntKind.wrap .u64 (i_2*281474976710656)) (Int.fdiv i_3 (65536:Int)))+1)≤2305843009213693952)))]) (Q [A.c (D.int .i64 (IntKind.wrap .i64 (bits .or .u64 (IntKind.wrap .u64 (i_2*281474976710656)) (Int.fdiv i_3 (65536:Int))))),A.c (D.int .i64 (IntKind.wrap .i64 (IntKind.wrap .i64 (bits .or .u64 (IntKind.wrap .u64 (i_2*281474976710656)) (Int.fdiv i_3 (65536:Int)))+1))),A.c (D.bool false)]))) (br (toB (D.bool !decide (i0<0)==decide (i1<0))) (br (toB (D.bool (decide (IntKind.wrap .i64 (0-IntKind.wrap .i64 (bits .or .u64 (IntKind.wrap .u64 (i_2*281474976710656)) (Int.fdiv i_3 (65536:Int))))≥(-2305843009213693952:Int))))) (Q [A.c (D.int .i64 (IntKind.wrap .i64 (0-IntKind.wrap .i64 (bits .or .u64 (IntKind.wrap .u64 (i_2*281474976710656)) (Int.fdiv i_3 (65536:Int)))))),A.c (D.int .i64 (IntKind.wrap .i64 (0-IntKind.wrap .i64 (bits .or .u64 (IntKind.wrap .u64 (i_2*281474976710656)) (Int.fdiv i_3 (65536:Int)))))),A.c (D.bool (decide (IntKind.wrap .i64 (0-IntKind.wrap .i64 (bits .or .u64 (IntKind.wrap .u64 (i_2*281474976710656)) (Int.fdiv i_3 (65536:Int))))≤2305843009213693952)))]) (Q [A.c (D.int .i64 (IntKind.wrap .i64 (0-IntKind.wrap .i64 (bits .or .u64 (IntKind.wrap .u64 (i_2*281474976710656)) (Int.fdiv i_3 (65536:Int)))))),A.c (D.int .i64 (IntKind.wrap .i64 (0-IntKind.wrap .i64 (bits .or .u64 (IntKind.wrap .u64 (i_2*281474976710656)) (Int.fdiv i_3 (65536:Int)))))),A.c (D.bool false)])) (br (toB (D.bool (decide (IntKind.wrap .i64 (bits .or .u64 (IntKind.wrap .u64 (i_2*281474976710656)) (Int.fdiv i_3 (65536:Int)))≥(-2305843009213693952:Int))))) (Q [A.c (D.int .i64 (IntKind.wrap .i64 (bits .or .u64 (IntKind.wrap .u64 (i_2*281474976710656)) (Int.fdiv i_3 (65536:Int))))),A.c (D.int .i64 (IntKind.wrap .i64 (bits .or .u64 (IntKind.wrap .u64 (i_2*281474976710656)) (Int.fdiv i_3 (65536:Int))))),A.c (D.bool (decide (IntKind.wrap .i64 (bits .or .u64 (IntKind.wrap .u64 (i_2*281474976710656)) (Int.fdiv i_3 (65536:Int)))≤2305843009213693952)))]) (Q [A.c (D.int .i64 (IntKind.wrap .i64 (bits .or .u64 (IntKind.wrap .u64 (i_2*281474976710656)) (Int.fdiv i_3 (65536:Int))))),A.c (D.int .i64 (IntKind.wrap .i64 (bits .or .u64 (IntKind.wrap .u64 (i_2*281474976710656)) (Int.fdiv i_3 (65536:Int))))),A.c (D.bool false)])))))):=by kernel_rfl
theorem vc_fRoot (Gv:Nat→List A→List A→Prop) (r0:R4) (r1:R4) (r2:R4) (Q:List A→Prop):wpF CC Gv an0 Tryz.f327 [.ag (rk r0 (rk r1 (rk r2 [])))] Q=(
 ∃i i_1 b,Gv 329 [A.ag (rk r0 [])] [A.ag [D.int .i64 i,D.int .i64 i_1],A.c (D.bool b)]∧br (toB (D.bool !b)) (Q [A.ag [D.int .i64 i,D.int .i64 i_1],A.c (D.bool b)]) (∃i_2,Gv 97 [A.ag (rk r1 [])] [A.c (D.int .i64 i_2)]∧br (toB (D.bool (i_2==0))) (Q [A.ag [D.int .i64 i,D.int .i64 i_1],A.c (D.bool b)]) (∃i_3 i_4 b,Gv 329 [A.ag (rk r1 [])] [A.ag [D.int .i64 i_3,D.int .i64 i_4],A.c (D.bool b)]∧∃i_5 i_6 b1,Gv 329 [A.ag (rk r2 [])] [A.ag [D.int .i64 i_5,D.int .i64 i_6],A.c (D.bool b1)]∧br (toB (D.bool !b)) (Q [A.ag [D.int .i64 0,D.int .i64 0],A.c (D.bool false)]) (br (toB (D.bool !b1)) (Q [A.ag [D.int .i64 0,D.int .i64 0],A.c (D.bool false)]) (∃i_7,Gv 97 [A.ag (rk r2 [])] [A.c (D.int .i64 i_7)]∧br (toB (D.bool (decide (i_7<0)))) (Q [A.ag [D.int .i64 0,D.int .i64 0],A.c (D.bool false)]) (∃i_8 i_9 b,Gv 330 [A.ag [D.int .i64 i_5,D.int .i64 i_6]] [A.ag [D.int .i64 i_8,D.int .i64 i_9],A.c (D.bool b)]∧br (toB (D.bool !b)) (Q [A.ag [D.int .i64 0,D.int .i64 0],A.c (D.bool false)]) (∃i_10 i_11 b,Gv 380 [A.ag [D.int .i64 i_3,D.int .i64 i_4],A.ag [D.int .i64 i_8,D.int .i64 i_9]] [A.ag [D.int .i64 i_10,D.int .i64 i_11],A.c (D.bool b)]∧br (toB (D.bool !b)) (Q [A.ag [D.int .i64 0,D.int .i64 0],A.c (D.bool false)]) (∃i_12 i_13 b,Gv 381 [A.ag [D.int .i64 i,D.int .i64 i_1],A.ag [D.int .i64 i_10,D.int .i64 i_11]] [A.ag [D.int .i64 i_12,D.int .i64 i_13],A.c (D.bool b)]∧Q [A.ag [D.int .i64 i_12,D.int .i64 i_13],A.c (D.bool b)])))))))):=by kernel_rfl
theorem vc_fSign (Gv:Nat→List A→List A→Prop) (a0:Int) (b0:Int) (Q:List A→Prop):wpF CC Gv an0 Tryz.f383 [.ag [.int .i64 a0,.int .i64 b0]] Q=(
 br (toB (D.bool (decide (a0>0)))) (Q [A.c (D.int .i64 1),A.c (D.bool true)]) (br (toB (D.bool (decide (b0<0)))) (Q [A.c (D.int .i64 (-1)),A.c (D.bool true)]) (br (toB (D.bool (a0==0))) (Q [A.c (D.int .i64 0),A.c (D.bool (b0==0))]) (Q [A.c (D.int .i64 0),A.c (D.bool false)])))):=by kernel_rfl
theorem vc_rFloor (Gv:Nat→List A→List A→Prop) (r0:R4) (Q:List A→Prop):wpF CC Gv an0 Tryz.f412 [.ag (rk r0 [])] Q=(
 ∃b es b1 e1 i,Gv 301 [A.ag [D.bool (R4.b r0),D.sl (R4.l r0)],A.ag [D.bool (R4.c r0),D.sl (R4.m r0)]] [A.ag [D.bool b,D.sl es],A.ag [D.bool b1,D.sl e1],A.c (D.int .i64 i)]∧Q [A.ag [D.bool b,D.sl es]]):=by kernel_rfl
theorem vc_oX (Gv:Nat→List A→List A→Prop) (p0:P20) (Q:List A→Prop):wpF CC Gv an0 Tryz.f311 [.ag (pk p0 [])] Q=(
 ∃x x1 x2,Gv 389 [A.ag (rk (P20.x p0) []),A.ag (rk (P20.u p0) []),A.ag (rk (P20.c p0) [])] [A.ag (rk x (rk x1 (rk x2 [])))]∧Q [A.ag (rk x (rk x1 (rk x2 [])))]):=by kernel_rfl
theorem vc_oY (Gv:Nat→List A→List A→Prop) (p0:P20) (Q:List A→Prop):wpF CC Gv an0 Tryz.f312 [.ag (pk p0 [])] Q=(
 ∃x x1 x2,Gv 389 [A.ag (rk (P20.y p0) []),A.ag (rk (P20.v p0) []),A.ag (rk (P20.c p0) [])] [A.ag (rk x (rk x1 (rk x2 [])))]∧Q [A.ag (rk x (rk x1 (rk x2 [])))]):=by kernel_rfl
theorem vc_oCoord (Gv:Nat→List A→List A→Prop) (r0:R4) (r1:R4) (r2:R4) (Q:List A→Prop):wpF CC Gv an0 Tryz.f389 [.ag (rk r0 []),.ag (rk r1 []),.ag (rk r2 [])] Q=(
 ∃i,Gv 97 [A.ag (rk r1 [])] [A.c (D.int .i64 i)]∧br (toB (D.bool (i==0))) (∃x,Gv 255 [] [A.ag (rk x [])]∧Q [A.ag (rk r0 (rk r1 (rk x [])))]) (Q [A.ag (rk r0 (rk r1 (rk r2 [])))])):=by kernel_rfl
theorem vc_fTimes (Gv:Nat→List A→List A→Prop) (r0:R4) (a0:Int) (b0:Int) (k0:Bool) (Q:List A→Prop):wpF CC Gv an0 Tryz.f384 [.ag (rk r0 []),.ag [.int .i64 a0,.int .i64 b0],.c (.bool k0)] Q=(
 ∃i i_1 b,Gv 329 [A.ag (rk r0 [])] [A.ag [D.int .i64 i,D.int .i64 i_1],A.c (D.bool b)]∧br (toB (D.bool !k0)) (Q [A.ag [D.int .i64 0,D.int .i64 0],A.c (D.bool false)]) (br (toB (D.bool !b)) (Q [A.ag [D.int .i64 0,D.int .i64 0],A.c (D.bool false)]) (∃i_2 i_3 b,Gv 380 [A.ag [D.int .i64 i,D.int .i64 i_1],A.ag [D.int .i64 a0,D.int .i64 b0]] [A.ag [D.int .i64 i_2,D.int .i64 i_3],A.c (D.bool b)]∧Q [A.ag [D.int .i64 i_2,D.int .i64 i_3],A.c (D.bool b)]))):=by kernel_rfl
theorem vc_fSide (Gv:Nat→List A→List A→Prop) (r0:R4) (r1:R4) (r2:R4) (p0:P20) (Q:List A→Prop):wpF CC Gv an0 Tryz.f309 [.ag (rk r0 (rk r1 (rk r2 []))),.ag (pk p0 [])] Q=(
 ∃i i_1 b,Gv 327 [A.ag (rk (P20.x p0) (rk (P20.u p0) (rk (P20.c p0) [])))] [A.ag [D.int .i64 i,D.int .i64 i_1],A.c (D.bool b)]∧∃i_2 i_3 b1,Gv 384 [A.ag (rk r0 []),A.ag [D.int .i64 i,D.int .i64 i_1],A.c (D.bool b)] [A.ag [D.int .i64 i_2,D.int .i64 i_3],A.c (D.bool b1)]∧∃i i_4 b,Gv 327 [A.ag (rk (P20.y p0) (rk (P20.v p0) (rk (P20.c p0) [])))] [A.ag [D.int .i64 i,D.int .i64 i_4],A.c (D.bool b)]∧∃i_5 i_6 b2,Gv 384 [A.ag (rk r1 []),A.ag [D.int .i64 i,D.int .i64 i_4],A.c (D.bool b)] [A.ag [D.int .i64 i_5,D.int .i64 i_6],A.c (D.bool b2)]∧∃i i_7 b,Gv 329 [A.ag (rk r2 [])] [A.ag [D.int .i64 i,D.int .i64 i_7],A.c (D.bool b)]∧br (toB (D.bool !b1)) (Q [A.c (D.int .i64 0),A.c (D.bool false)]) (br (toB (D.bool !b2)) (Q [A.c (D.int .i64 0),A.c (D.bool false)]) (br (toB (D.bool !b)) (Q [A.c (D.int .i64 0),A.c (D.bool false)]) (∃i_8 i_9 b,Gv 381 [A.ag [D.int .i64 i_2,D.int .i64 i_3],A.ag [D.int .i64 i_5,D.int .i64 i_6]] [A.ag [D.int .i64 i_8,D.int .i64 i_9],A.c (D.bool b)]∧br (toB (D.bool !b)) (Q [A.c (D.int .i64 0),A.c (D.bool false)]) (∃i_10 i_11,Gv 382 [A.ag [D.int .i64 i,D.int .i64 i_7]] [A.ag [D.int .i64 i_10,D.int .i64 i_11]]∧∃i i_12 b,Gv 381 [A.ag [D.int .i64 i_8,D.int .i64 i_9],A.ag [D.int .i64 i_10,D.int .i64 i_11]] [A.ag [D.int .i64 i,D.int .i64 i_12],A.c (D.bool b)]∧br (toB (D.bool !b)) (Q [A.c (D.int .i64 0),A.c (D.bool false)]) (∃i_13 b,Gv 383 [A.ag [D.int .i64 i,D.int .i64 i_12]] [A.c (D.int .i64 i_13),A.c (D.bool b)]∧Q [A.c (D.int .i64 i_13),A.c (D.bool b)])))))):=by kernel_rfl
theorem vc_jAdd (Gv:Nat→List A→List A→Prop) (r0:R4) (r1:R4) (Q:List A→Prop):wpF CC Gv an0 Tryz.f253 [.ag (rk r0 []),.ag (rk r1 [])] Q=(
 ∃x,Gv 338 [A.ag (rk r0 []),A.ag (rk r1 [])] [A.ag (rk x [])]∧Q [A.ag (rk x [])]):=by kernel_rfl
theorem vc_jSub (Gv:Nat→List A→List A→Prop) (r0:R4) (r1:R4) (Q:List A→Prop):wpF CC Gv an0 Tryz.f252 [.ag (rk r0 []),.ag (rk r1 [])] Q=(
 ∃x,Gv 337 [A.ag (rk r0 []),A.ag (rk r1 [])] [A.ag (rk x [])]∧Q [A.ag (rk x [])]):=by kernel_rfl
theorem vc_uMulR (Gv:Nat→List A→List A→Prop) (r0:R4) (r1:R4) (Q:List A→Prop):wpF CC Gv an0 Tryz.f254 [.ag (rk r0 []),.ag (rk r1 [])] Q=(
 ∃x,Gv 88 [A.ag (rk r0 []),A.ag (rk r1 [])] [A.ag (rk x [])]∧Q [A.ag (rk x [])]):=by kernel_rfl
theorem vc_jSign (Gv:Nat→List A→List A→Prop) (r0:R4) (r1:R4) (r2:R4) (Q:List A→Prop):wpF CC Gv an0 Tryz.f308 [.ag (rk r0 []),.ag (rk r1 []),.ag (rk r2 [])] Q=(
 ∃i,Gv 97 [A.ag (rk r0 [])] [A.c (D.int .i64 i)]∧∃i_1,Gv 97 [A.ag (rk r1 [])] [A.c (D.int .i64 i_1)]∧∃i_2,Gv 97 [A.ag (rk r2 [])] [A.c (D.int .i64 i_2)]∧br (toB (D.bool (IntKind.wrap .i64 (i_1*i_2)==0))) (Q [A.c (D.int .i64 i)]) (br (toB (D.bool (i==IntKind.wrap .i64 (i_1*i_2)))) (Q [A.c (D.int .i64 i)]) (br (toB (D.bool (i==0))) (Q [A.c (D.int .i64 (IntKind.wrap .i64 (i_1*i_2)))]) (∃x,Gv 254 [A.ag (rk r0 []),A.ag (rk r0 [])] [A.ag (rk x [])]∧∃x1,Gv 254 [A.ag (rk r1 []),A.ag (rk r1 [])] [A.ag (rk x1 [])]∧∃x2,Gv 254 [A.ag (rk x1 []),A.ag (rk r2 [])] [A.ag (rk x2 [])]∧∃i_3,Gv 51 [A.ag (rk x []),A.ag (rk x2 [])] [A.c (D.int .i64 i_3)]∧Q [A.c (D.int .i64 (IntKind.wrap .i64 (i*i_3)))])))):=by kernel_rfl
theorem vc_jSide (Gv:Nat→List A→List A→Prop) (r0:R4) (r1:R4) (r2:R4) (p0:P20) (Q:List A→Prop):wpF CC Gv an0 Tryz.f235 [.ag (rk r0 (rk r1 (rk r2 []))),.ag (pk p0 [])] Q=(
 ∃i b,Gv 309 [A.ag (rk r0 (rk r1 (rk r2 []))),A.ag (pk p0 [])] [A.c (D.int .i64 i),A.c (D.bool b)]∧br b (Q [A.c (D.int .i64 i)]) (∃x,Gv 254 [A.ag (rk r0 []),A.ag (rk (P20.x p0) [])] [A.ag (rk x [])]∧∃x1,Gv 254 [A.ag (rk r1 []),A.ag (rk (P20.y p0) [])] [A.ag (rk x1 [])]∧∃x2,Gv 253 [A.ag (rk x []),A.ag (rk x1 [])] [A.ag (rk x2 [])]∧∃x,Gv 252 [A.ag (rk x2 []),A.ag (rk r2 [])] [A.ag (rk x [])]∧∃x3,Gv 254 [A.ag (rk r0 []),A.ag (rk (P20.u p0) [])] [A.ag (rk x3 [])]∧∃x4,Gv 254 [A.ag (rk r1 []),A.ag (rk (P20.v p0) [])] [A.ag (rk x4 [])]∧∃x5,Gv 253 [A.ag (rk x3 []),A.ag (rk x4 [])] [A.ag (rk x5 [])]∧∃i,Gv 308 [A.ag (rk x []),A.ag (rk x5 []),A.ag (rk (P20.c p0) [])] [A.c (D.int .i64 i)]∧Q [A.c (D.int .i64 i)])):=by kernel_rfl
theorem vc_iInt64 (Gv:Nat→List A→List A→Prop) (I0:List D→List D→Prop) (M0:List D→Nat) (z0:Bool) (l0:List (List D)) (Q:List A→Prop):wpF CC Gv (fun _=>⟨[.slot 4 (.int .u64 0),.slot 5 (.int .i64 0)],[],I0,M0⟩) Tryz.f411 [.ag [.bool z0,.sl l0]] Q=(
 ∃b es,Gv 48 [A.c (D.int .i64 (-9223372036854775808))] [A.ag [D.bool b,D.sl es]]∧∃i,Gv 98 [A.ag [D.bool z0,D.sl l0],A.ag [D.bool b,D.sl es]] [A.c (D.int .i64 i)]∧br (toB (D.bool (decide (i<0)))) (Q [A.c (D.int .i64 0),A.c (D.bool false)]) (∃b es,Gv 48 [A.c (D.int .i64 9223372036854775807)] [A.ag [D.bool b,D.sl es]]∧∃i,Gv 98 [A.ag [D.bool z0,D.sl l0],A.ag [D.bool b,D.sl es]] [A.c (D.int .i64 i)]∧br (toB (D.bool (decide (i>0)))) (Q [A.c (D.int .i64 0),A.c (D.bool false)]) (I0 [] [D.int .u64 0,D.int .i64 (IntKind.wrap .i64 ((Int.ofNat l0.length)-1))]∧∀(i i_1:Int),I0 [] [D.int .u64 i,D.int .i64 i_1]→br (toB (D.bool (decide (i_1≥0)))) ((0≤i_1∧i_1<(Int.ofNat l0.length)∧List.length (nth [] l0 (Int.toNat i_1))=1)∧∃i_2,cut (nth [] l0 (Int.toNat i_1)) 0 1 [D.int .u32 i_2]∧I0 [] [D.int .u64 (IntKind.wrap .u64 (IntKind.wrap .u64 (i*1000000000)+IntKind.wrap .u64 i_2)),D.int .i64 (IntKind.wrap .i64 (i_1-1))]∧M0 [D.int .u64 (IntKind.wrap .u64 (IntKind.wrap .u64 (i*1000000000)+IntKind.wrap .u64 i_2)),D.int .i64 (IntKind.wrap .i64 (i_1-1))]<M0 [D.int .u64 i,D.int .i64 i_1]) (br z0 (Q [A.c (D.int .i64 (IntKind.wrap .i64 (IntKind.wrap .u64 (0-i)))),A.c (D.bool true)]) (Q [A.c (D.int .i64 (IntKind.wrap .i64 i)),A.c (D.bool true)]))))):=by kernel_rfl
theorem vc_fMul (Gv:Nat→List A→List A→Prop) (I0:List D→List D→Prop) (M0:List D→Nat) (I1:List D→List D→Prop) (M1:List D→Nat) (a0:Int) (b0:Int) (a1:Int) (b1:Int) (Q:List A→Prop):wpF CC Gv (ann2 ⟨[.slot 21 (.int .i64 0),.slot 6 (.int .i64 0),.slot 7 (.int .i64 0)],[],I0,M0⟩ ⟨[.slot 31 (.int .i64 0),.slot 6 (.int .i64 0),.slot 7 (.int .i64 0)],[.slot 21 (.int .i64 0)],I1,M1⟩) Tryz.f380 [.ag [.int .i64 a0,.int .i64 b0],.ag [.int .i64 a1,.int .i64 b1]] Q=(
 I0 [] [D.int .i64 0,D.int .i64 2305843009213693952,D.int .i64 (-2305843009213693952)]∧∀(i i_1 i_2:Int),I0 [] [D.int .i64 i,D.int .i64 i_1,D.int .i64 i_2]→br (toB (D.bool (decide (i<2)))) ((0≤i∧i<2)∧∃i_3,cut (nth [] [[D.int .i64 a0],[D.int .i64 b0]] (Int.toNat i)) 0 1 [D.int .i64 i_3]∧I1 [D.int .i64 i] [D.int .i64 0,D.int .i64 i_1,D.int .i64 i_2]∧∀(i_4 i_5 i_6:Int),I1 [D.int .i64 i] [D.int .i64 i_4,D.int .i64 i_5,D.int .i64 i_6]→br (toB (D.bool (decide (i_4<2)))) ((0≤i_4∧i_4<2)∧∃i_7,cut (nth [] [[D.int .i64 a1],[D.int .i64 b1]] (Int.toNat i_4)) 0 1 [D.int .i64 i_7]∧∃i_8 i_9 b,Gv 432 [A.c (D.int .i64 i_3),A.c (D.int .i64 i_7)] [A.c (D.int .i64 i_8),A.c (D.int .i64 i_9),A.c (D.bool b)]∧br (toB (D.bool !b)) (Q [A.ag [D.int .i64 0,D.int .i64 0],A.c (D.bool false)]) (I1 [D.int .i64 i] [D.int .i64 (IntKind.wrap .i64 (i_4+1)),D.int .i64 (match decide (i_8<i_5)with|true=>i_8|false=>i_5),D.int .i64 (match decide (i_6<i_9)with|true=>i_9|false=>i_6)]∧M1 [D.int .i64 (IntKind.wrap .i64 (i_4+1)),D.int .i64 (match decide (i_8<i_5)with|true=>i_8|false=>i_5),D.int .i64 (match decide (i_6<i_9)with|true=>i_9|false=>i_6)]<M1 [D.int .i64 i_4,D.int .i64 i_5,D.int .i64 i_6])) (I0 [] [D.int .i64 (IntKind.wrap .i64 (i+1)),D.int .i64 i_5,D.int .i64 i_6]∧M0 [D.int .i64 (IntKind.wrap .i64 (i+1)),D.int .i64 i_5,D.int .i64 i_6]<M0 [D.int .i64 i,D.int .i64 i_1,D.int .i64 i_2])) (Q [A.ag [D.int .i64 i_1,D.int .i64 i_2],A.c (D.bool true)])):=by kernel_rfl
theorem vc_mMul64 (Gv:Nat→List A→List A→Prop) (x0:Int) (y0:Int) (Q:List A→Prop):wpF CC Gv an0 Tryz.f213 [.c (.int .u64 x0),.c (.int .u64 y0)] Q=(
 (0:Int)≤(32:Int)∧(0:Int)≤(32:Int)∧(0:Int)≤(32:Int)∧(0:Int)≤(32:Int)∧(0:Int)≤(32:Int)∧Q [A.c (D.int .u64 (IntKind.wrap .u64 (IntKind.wrap .u64 (IntKind.wrap .u64 (Int.fdiv x0 4294967296*Int.fdiv y0 (4294967296:Int))+Int.fdiv (IntKind.wrap .u64 (IntKind.wrap .u64 (Int.fdiv x0 4294967296*bits .and .u64 (y0) (4294967295:Int))+Int.fdiv (IntKind.wrap .u64 (bits .and .u64 (x0) 4294967295*bits .and .u64 (y0) (4294967295:Int))) (4294967296:Int))) (4294967296:Int))+Int.fdiv (IntKind.wrap .u64 (bits .and .u64 (IntKind.wrap .u64 (IntKind.wrap .u64 (Int.fdiv x0 4294967296*bits .and .u64 (y0) (4294967295:Int))+Int.fdiv (IntKind.wrap .u64 (bits .and .u64 (x0) 4294967295*bits .and .u64 (y0) (4294967295:Int))) (4294967296:Int))) 4294967295+IntKind.wrap .u64 (bits .and .u64 (x0) 4294967295*Int.fdiv y0 (4294967296:Int)))) (4294967296:Int)))),A.c (D.int .u64 (IntKind.wrap .u64 (x0*y0)))]):=by kernel_rfl
theorem vc_bApart (Gv:Nat→List A→List A→Prop) (a0 a1 a2 a3:Int) (k0:Bool) (b0 b1 b2 b3:Int) (k1:Bool) (Q:List A→Prop):wpF CC Gv an0 Tryz.f250 [.ag [.int .i64 a0,.int .i64 a1,.int .i64 a2,.int .i64 a3,.bool k0],.ag [.int .i64 b0,.int .i64 b1,.int .i64 b2,.int .i64 b3,.bool k1]] Q=(
 br k0 (br k1 (br (toB (D.bool (decide (a1<b0)))) (Q [A.c (D.bool true)]) (br (toB (D.bool (decide (b1<a0)))) (Q [A.c (D.bool true)]) (br (toB (D.bool (decide (a3<b2)))) (Q [A.c (D.bool true)]) (Q [A.c (D.bool (decide (b3<a2)))])))) (Q [A.c (D.bool false)])) (Q [A.c (D.bool false)])):=by kernel_rfl
end Eng
end

section
namespace Eng
open Go Go.Proofs Rl
set_option maxRecDepth 100000
section
variable [Env]
def eI (n:Int):A:= .c (.int .i64 n)
theorem bSign (x:Rat):Gives CC 97 [.ag (rk (q4 x) [])] [.c (.int .i64 (sr x))]:=by
 rw[←sgn_sr];exact rSign_ok x
theorem bNeg {x:Rat} {k:Nat} (hx:Hz k x) (h:k<360000:=by omega):Gives CC 315 [.ag (rk (q4 x) [])] [.ag (rk (q4 (-x)) [])]:=rNeg_ok (hx.sr h)
theorem bAdd {x y:Rat} {j k:Nat} (hx:Hz j x) (hy:Hz k y) (h:j<360000∧k<360000:=by omega):Gives CC 338 [.ag (rk (q4 x) []),.ag (rk (q4 y) [])] [.ag (rk (q4 (x+y)) [])]:=rAdd_ok divOk (hx.sr h.1) (hy.sr h.2)
theorem bSub {x y:Rat} {j k:Nat} (hx:Hz j x) (hy:Hz k y) (h:j<360000∧k<360000:=by omega):Gives CC 337 [.ag (rk (q4 x) []),.ag (rk (q4 y) [])] [.ag (rk (q4 (x-y)) [])]:=rSub_ok divOk (hx.sr h.1) (hy.sr h.2)
theorem bMul {x y:Rat} {j k:Nat} (hx:Hz j x) (hy:Hz k y) (h:j<360000∧k<360000:=by omega):Gives CC 88 [.ag (rk (q4 x) []),.ag (rk (q4 y) [])] [.ag (rk (q4 (x*y)) [])]:=rMul_ok divOk (hx.sr h.1) (hy.sr h.2)
theorem bInt {n:Int} (h1: -9223372036854775808≤n) (h2:n<9223372036854775808):Gives CC 24 [.c (.int .i64 n)] [.ag (rk (q4 (n:Rat)) [])]:=rFromInt64_ok h1 h2
theorem bFloor {x:Rat} {k:Nat} (hx:Hz k x) (h:k<360000:=by omega):Gives CC 412 [.ag (rk (q4 x) [])] [encI x.floor]:=by
 refine wpG Tryz.func412 ((vc_rFloor ..).mpr ?_);have hp:=x.den_pos;have hs:=hx.sr h;have h:=iDivMod_ok divOk hs.1.sm hs.2.sm (by omega);have e:x.num/(x.den:Int)=x.floor:=by rw[Rat.floor_def]
 rw[e]at h;exact⟨_,_,_,_,_,h,rfl⟩
def FB (x:Int):Prop:= -2305843009213693952≤x∧x≤2305843009213693952
def eIv (a b:Int):A:= .ag [.int .i64 a,.int .i64 b]
def eOk (b:Bool):A:= .c (.bool b)
theorem cProper {a b:Int}:∃c d ok,Gives CC 413 [.c (.int .i64 a),.c (.int .i64 b)] [eIv c d,eOk ok]∧(ok=true→c=a∧d=b∧ -2305843009213693952≤c∧d≤2305843009213693952)∧(ok=false→c=0∧d=0):=by
 by_cases h:a< -2305843009213693952
 ·refine⟨0,0,false,?_,by simp,by simp⟩;refine wpG Tryz.func413 ((vc_fProper ..).mpr ?_);exact brd (fun _=>rfl) (fun k=>absurd h k)
 by_cases h2:b>2305843009213693952
 ·refine⟨0,0,false,?_,by simp,by simp⟩;refine wpG Tryz.func413 ((vc_fProper ..).mpr ?_);exact brd (fun k=>absurd k h) (fun _=>brd (fun _=>rfl) (fun k=>absurd h2 k))
 ·refine⟨a,b,true,?_,fun _=>⟨rfl,rfl,by omega,by omega⟩,by simp⟩;refine wpG Tryz.func413 ((vc_fProper ..).mpr ?_);exact brd (fun k=>absurd k h) (fun _=>brd (fun k=>absurd k h2) (fun _=>rfl))
omit [Env] in
theorem val_tail (x:Nat) (r:List Nat):val r≤val (x::r):=by
 show val r≤x+1000000000*val r;omega
omit [Env] in
theorem val_drop_le:∀(l:List Nat) (k:Nat),val (l.drop k)≤val l
 |[],k=>by simp
 |x::r,0=>Nat.le_refl _
 |x::r,k+1=>Nat.le_trans (val_drop_le r k) (val_tail x r)
def i64O (z:Int):Int×Bool:=if-9223372036854775808≤z∧z≤9223372036854775807 then(z,true)else(0,false)
omit [Env] in
theorem sm_64' {z:Int} (h1: -9223372036854775808≤z) (h2:z≤9223372036854775808):Sm z:=by
 unfold Sm topN;have h3:z.natAbs<1000000000^3:=by omega
 exact Nat.lt_of_lt_of_le h3 (pow3_le (by omega) (by omega))
theorem bI64 {z:Int} (hz:Sm z):Gives CC 411 [encI z] [.c (.int .i64 (i64O z).1),.c (.bool (i64O z).2)]:=by
 have hlen:=hz.len;refine wpF_ok (anns:=fun _=>⟨[.slot 4 (.int .u64 0),.slot 5 (.int .i64 0)],[],fun _ ds=> -9223372036854775808≤z∧z≤9223372036854775807∧∃k:Nat,k≤(lim z.natAbs).length∧ds=[.int .u64 (val ((lim z.natAbs).drop k):Int),.int .i64 ((k:Int)-1)],fun ds=>(toI (nth .undef ds 1)+1).toNat⟩) mixedT Tryz.func411 ?_;have s1:Sm (-9223372036854775808):=sm_64' (by omega) (by omega);have s2:Sm 9223372036854775807:=sm_64' (by omega) (by omega);have h1:=up (iFromInt64_ok (n:= -9223372036854775808) (by omega) (by omega));have h2:=up (iFromInt64_ok (n:=9223372036854775807) (by omega) (by omega));have c1:=up (iCmp_ok hz s1);have c2:=up (iCmp_ok hz s2);rw[encI_cells]at h1 h2 c1 c2;rw[encI_cells (-9223372036854775808)]at c1;rw[encI_cells 9223372036854775807]at c2;rw[encI_cells,vc_iInt64];have l1:cmpZ z (-9223372036854775808)<0↔z< -9223372036854775808:=by unfold cmpZ;split<;>(try split)<;>omega
 have l2:cmpZ z 9223372036854775807>0↔9223372036854775807<z:=by unfold cmpZ;split<;>(try split)<;>omega
 unfold i64O;refine⟨_,_,h1,_,c1,brd (fun h=>?_) (fun h=>⟨_,_,h2,_,c2,brd (fun g=>?_) (fun g=>?_)⟩)⟩
 ·have:=l1.1 h;rw[if_neg (by omega)]
 ·have:=l2.1 g;rw[if_neg (by omega)]
 ·have h:=mt l1.2 h;have g:=mt l2.2 g;rw[if_pos ⟨by omega,by omega⟩];have hl:=lim_limbs z.natAbs;have hv:=lim_val z.natAbs;generalize lim z.natAbs=l at *;simp only[Int.ofNat_eq_natCast,raw_length];refine⟨⟨by omega,by omega,l.length,Nat.le_refl _,by rw[List.drop_length,i64w];rfl⟩,?_⟩;rintro n m ⟨_,_,k,hk,he⟩;simp only[List.cons.injEq,D.int.injEq,true_and,and_true]at he;obtain⟨rfl,rfl⟩:=he;refine brd (fun h=>?_) (fun h=>?_)
  ·have hk0:k-1<l.length:=by omega
   have ht:((k:Int)-1).toNat=k-1:=by omega
   rw[ht];have hd:val (l.drop (k-1))=l[k-1]+1000000000*val (l.drop k):=by rw[List.drop_eq_getElem_cons hk0,show k-1+1=k by omega];rfl
   have hle:=val_drop_le l (k-1);have hx:=hl.get hk0;have hw:IntKind.wrap .u64 (IntKind.wrap .u64 ((val (l.drop k):Int)*1000000000)+IntKind.wrap .u64 (l[k-1]:Int))=(val (l.drop (k-1)):Int):=by rw[u64w (n:=(val (l.drop k):Int)*1000000000),u64w (n:=(l[k-1]:Int)),u64w];omega
   have hw2:IntKind.wrap .i64 ((k:Int)-1-1)=((k-1:Nat):Int)-1:=by rw[i64w];omega
   refine⟨⟨by omega,by omega,raw_len1 hk0⟩,_,cut_raw hk0,⟨by omega,by omega,k-1,by omega,by rw[hw,hw2]⟩,?_⟩;rw[hw2];simp only[nth,toI];omega
  ·have hk0:k=0:=by omega
   subst hk0;rw[List.drop_zero,hv];by_cases hn:z<0
   ·rw[decide_eq_true hn];refine brb' (fun _=>?_) (fun h=>by simp at h);have e:IntKind.wrap .i64 (IntKind.wrap .u64 (0-((z.natAbs:Nat):Int)))=z:=by simp[IntKind.wrap,IntKind.bits,IntKind.signed];omega
    rw[e]
   ·rw[decide_eq_false hn];refine brb' (fun h=>by simp at h) (fun _=>?_);have e:IntKind.wrap .i64 ((z.natAbs:Nat):Int)=z:=by rw[i64w];omega
    rw[e]
omit [Env] in
theorem fdN (a m:Nat):Int.fdiv (a:Int) (m:Int)=((a/m:Nat):Int):=by
 rw[Int.fdiv_eq_ediv_of_nonneg _ (by omega)];exact(Int.natCast_ediv a m).symm
omit [Env] in
theorem fd32 (a:Nat):Int.fdiv (a:Int) 4294967296=((a/4294967296:Nat):Int):=fdN a 4294967296
omit [Env] in
theorem fd16 (a:Nat):Int.fdiv (a:Int) 65536=((a/65536:Nat):Int):=fdN a 65536
omit [Env] in
theorem mask32 (a:Nat) (ha:a<18446744073709551616):bits .and .u64 (a:Int) 4294967295=((a%4294967296:Nat):Int):=by
 have h:=bits_and_u64_nat a 4294967295 ha (by omega);have e:a&&&4294967295=a%4294967296:=Nat.and_two_pow_sub_one_eq_mod a 32;rw[e]at h;exact h
omit [Env] in
theorem mask16 (a:Nat) (ha:a<18446744073709551616):bits .and .u64 (a:Int) 65535=((a%65536:Nat):Int):=by
 have h:=bits_and_u64_nat a 65535 ha (by omega);have e:a&&&65535=a%65536:=Nat.and_two_pow_sub_one_eq_mod a 16;rw[e]at h;exact h
omit [Env] in
theorem or48 {a b:Nat} (ha:a<65536) (hb:b<281474976710656):bits .or .u64 (IntKind.wrap .u64 ((a:Int)*281474976710656)) (b:Int)=((a*281474976710656+b:Nat):Int):=by
 rw[u64w];have e:(a:Int)*281474976710656=((a*281474976710656:Nat):Int):=by omega
 rw[e,bits_or_u64_nat _ _ (by omega) (by omega)];have h:=Nat.two_pow_add_eq_or_of_lt (i:=48) (b:=b) hb a;rw[Nat.mul_comm a,show(281474976710656:Nat)=2^48 from rfl,←h]
theorem cMul64 {x y:Nat} (hx:x<18446744073709551616) (hy:y<18446744073709551616):Gives CC 213 [.c (.int .u64 (x:Int)),.c (.int .u64 (y:Int))] [.c (.int .u64 ((x*y/18446744073709551616:Nat):Int)),.c (.int .u64 ((x*y%18446744073709551616:Nat):Int))]:=by
 refine wpG Tryz.func213 ((vc_mMul64 ..).mpr ?_);obtain⟨bd,bt,bw,hhi⟩:=Go.Lib.mul64_hi x y hx hy;have ba:=Go.Lib.half_mul_le (a:=x/4294967296) (b:=y/4294967296) (by omega) (by omega);have bb:=Go.Lib.half_mul_le (a:=x/4294967296) (b:=y%4294967296) (by omega) (by omega);have bc:=Go.Lib.half_mul_le (a:=x%4294967296) (b:=y/4294967296) (by omega) (by omega);have wN:∀a:Nat,a<18446744073709551616→IntKind.u64.wrap (a:Int)=(a:Int):=fun a h=>u64w
 have wM:∀a:Nat,IntKind.u64.wrap (a:Int)=((a%18446744073709551616:Nat):Int):=fun a=>by simp[IntKind.wrap,IntKind.bits,IntKind.signed]
 have mulN:∀a b:Nat,(a:Int)*(b:Int)=((a*b:Nat):Int):=fun a b=>(Int.natCast_mul a b).symm
 have addN:∀a b:Nat,(a:Int)+(b:Int)=((a+b:Nat):Int):=fun a b=>(Int.natCast_add a b).symm
 have bb':x/4294967296*(y%4294967296)<18446744073709551616:=by omega
 have bc':x%4294967296*(y/4294967296)<18446744073709551616:=by omega
 have ba':x/4294967296*(y/4294967296)<18446744073709551616:=by omega
 have bh1:x/4294967296*(y/4294967296)+(x/4294967296*(y%4294967296)+x%4294967296*(y%4294967296)/4294967296)/4294967296<18446744073709551616:=by omega
 have bh:x/4294967296*(y/4294967296)+(x/4294967296*(y%4294967296)+x%4294967296*(y%4294967296)/4294967296)/4294967296+((x/4294967296*(y%4294967296)+x%4294967296*(y%4294967296)/4294967296)%4294967296+x%4294967296*(y/4294967296))/4294967296<18446744073709551616:=by omega
 refine⟨by omega,by omega,by omega,by omega,by omega,?_⟩;simp only[fd32,mask32 x hx,mask32 y hy,mulN,addN,wN _ bd,wN _ bb',wN _ bt,mask32 _ bt,wN _ bc',wN _ bw,wN _ ba',wN _ bh1,wN _ bh,wM (x*y)];rw[hhi]
theorem cAbs {x:Int} (hx:FB x):Gives CC 463 [.c (.int .i64 x)] [.c (.int .u64 (x.natAbs:Int))]:=by
 refine wpG Tryz.func463 ((vc_fAbs ..).mpr ?_);unfold FB at hx;refine brd (fun h=>?_) (fun h=>?_)
 ·have e:IntKind.wrap .u64 (0-IntKind.wrap .u64 x)=(x.natAbs:Int):=by simp[IntKind.wrap,IntKind.bits,IntKind.signed];omega
  rw[e]
 ·have e:IntKind.wrap .u64 x=(x.natAbs:Int):=by rw[u64w];omega
  rw[e]
omit [Env] in
theorem mul_sgn {x y:Int} (h:decide (x<0)=decide (y<0)):x*y=((x.natAbs*y.natAbs:Nat):Int):=by
 rw[←Int.natAbs_mul];have h:=decide_eq_decide.1 h;have h2:0≤x*y:=by
  rcases Int.lt_or_le x 0 with k|k
  ·exact Int.mul_nonneg_of_nonpos_of_nonpos (by omega) (by have:=h.1 k;omega)
  ·exact Int.mul_nonneg k (by
    rcases Int.lt_or_le y 0 with l|l
    ·have:=h.2 l;omega
    ·exact l)
 omega
omit [Env] in
theorem mul_sgn' {x y:Int} (h:¬decide (x<0)=decide (y<0)):x*y= -((x.natAbs*y.natAbs:Nat):Int):=by
 have h1:decide (-x<0)=decide (y<0)∨x=0:=by
  by_cases k:x=0
  ·exact .inr k
  ·refine .inl (decide_eq_decide.2 ?_);have h:¬(x<0↔y<0):=fun e=>h (decide_eq_decide.2 e)
   constructor<;>intro l
   ·rcases Int.lt_or_le y 0 with m|m
    ·exact m
    ·exact absurd ⟨fun a=>by omega,fun a=>by omega⟩ h
   ·rcases Int.lt_or_le x 0 with m|m
    ·exact absurd ⟨fun _=>l,fun _=>m⟩ h
    ·omega
 rcases h1 with h1|h1
 ·have:=mul_sgn h1;rw[Int.neg_mul,Int.natAbs_neg]at this;omega
 ·subst h1;simp
omit [Env] in
theorem nq {q:Nat} (k:¬q>2305843009213693952):¬((q:Int)>2305843009213693952):=by omega
omit [Env] in
theorem yq {q:Nat} (k:q>2305843009213693952):(q:Int)>2305843009213693952:=by omega
omit [Env] in
theorem ne0 {a:Nat} {X:Prop} (k:a=0) (h:((a:Int) !=0)=true):X:=by subst k;simp at h
omit [Env] in
theorem eq0 {a:Nat} {X:Prop} (k:¬a=0) (h:((a:Int) !=0)=false):X:=by
 simp at h;omega
omit [Env] in
theorem ar0 {P q:Nat} (hq:P/65536=q) (hr:P%65536=0):(q:Int)*65536≤(P:Int)∧(P:Int)≤(q:Int)*65536:=by omega
omit [Env] in
theorem ar1 {P q:Nat} (hq:P/65536=q):(q:Int)*65536≤(P:Int)∧(P:Int)≤((q:Int)+1)*65536:=by omega
omit [Env] in
theorem ar2 {P q:Nat} (hq:P/65536=q) (hr:P%65536=0): -(q:Int)*65536≤ -(P:Int)∧ -(P:Int)≤ -(q:Int)*65536:=by omega
omit [Env] in
theorem ar3 {P q:Nat} (hq:P/65536=q): -((q:Int)+1)*65536≤ -(P:Int)∧ -(P:Int)≤ -(q:Int)*65536:=by omega
omit [Env] in
theorem wq1 {q:Nat} (k:¬q>2305843009213693952):IntKind.wrap .i64 (q:Int)=q:=i64w
omit [Env] in
theorem wq2 {q:Nat} (k:¬q>2305843009213693952):IntKind.wrap .i64 ((q:Int)+1)=q+1:=i64w
omit [Env] in
theorem wq3 {q:Nat} (k:¬q>2305843009213693952):IntKind.wrap .i64 (0-(q:Int))= -q:=by rw[i64w];omega
omit [Env] in
theorem wq4 {q:Nat} (k:¬q>2305843009213693952):IntKind.wrap .i64 (0-((q:Int)+1))= -(q+1):=by rw[i64w];omega
omit [Env] in
theorem keyS {q:Nat} {l u Z:Int} (_:l= -(q+1)∧u= -q∨l= -q∧u= -q∨l=q∧u=q+1∨l=q∧u=q) (hb:l*65536≤Z∧Z≤u*65536)
 (hk:(decide (l≥ -2305843009213693952)&&decide (u≤2305843009213693952))=true):FB l∧FB u∧l≤u∧l*65536≤Z∧Z≤u*65536:=by
 simp only[Bool.and_eq_true,decide_eq_true_eq]at hk;unfold FB;omega
omit [Env] in
theorem finS (l u:Int):br (toB (D.bool (decide (l≥ -2305843009213693952)))) ([A.c (.int .i64 l),A.c (.int .i64 u),A.c (.bool (decide (u≤2305843009213693952)))]=[.c (.int .i64 l),.c (.int .i64 u),eOk (decide (l≥ -2305843009213693952)&&decide (u≤2305843009213693952))])
 ([A.c (.int .i64 l),A.c (.int .i64 u),A.c (.bool false)]=[.c (.int .i64 l),.c (.int .i64 u),eOk (decide (l≥ -2305843009213693952)&&decide (u≤2305843009213693952))]):=by
 refine brd (fun h=>?_) (fun h=>?_)
 ·rw[decide_eq_true h,Bool.true_and];rfl
 ·rw[decide_eq_false h,Bool.false_and];rfl
theorem cScaled {x y:Int} (hx:FB x) (hy:FB y):∃l u ok,Gives CC 432 [.c (.int .i64 x),.c (.int .i64 y)] [.c (.int .i64 l),.c (.int .i64 u),eOk ok]∧(ok=true→FB l∧FB u∧l≤u∧l*65536≤x*y∧x*y≤u*65536):=by
 have h1:=cAbs hx;have h2:=cAbs hy;have h3:=cMul64 (x:=x.natAbs) (y:=y.natAbs) (by unfold FB at hx;omega) (by unfold FB at hy;omega);have s1:= @mul_sgn x y;have s2:= @mul_sgn' x y;generalize x.natAbs*y.natAbs=P at h3 s1 s2;have e1:=fd16 (P/18446744073709551616);have e2:=fd16 (P%18446744073709551616);have e4:bits .and .u64 ((P%18446744073709551616:Nat):Int) 65535=((P%65536:Nat):Int):=by rw[mask16 _ (by omega)];congr 1;omega
 by_cases k1:¬P/18446744073709551616/65536=0
 ·refine⟨0,0,false,?_,by simp⟩;refine wpG Tryz.func432 ((vc_fScaled ..).mpr ?_);refine⟨_,h1,_,h2,_,_,h3,by omega,?_⟩;rw[e1];exact brb (fun _=>rfl) (fun h=>eq0 k1 h)
 have k1:=Classical.not_not.1 k1;have e3:bits .or .u64 (IntKind.wrap .u64 (((P/18446744073709551616:Nat):Int)*281474976710656)) (((P%18446744073709551616/65536:Nat)):Int)=((P/65536:Nat):Int):=by rw[or48 (by omega) (by omega)];congr 1;omega
 by_cases k2:P/65536>2305843009213693952
 ·refine⟨0,0,false,?_,by simp⟩;refine wpG Tryz.func432 ((vc_fScaled ..).mpr ?_);refine⟨_,h1,_,h2,_,_,h3,by omega,?_⟩;simp only[e1,e2,e3,e4];exact brb (fun h=>ne0 k1 h) (fun _=>⟨by decide,by decide,brd (fun _=>rfl) (fun h=>absurd (yq k2) h)⟩)
 generalize hq:P/65536=q at *;have w1:=wq1 k2;have w2:=wq2 k2;have w3:=wq3 k2;have w4:=wq4 k2;have k3:=nq k2;by_cases hr:P%65536=0
 ·by_cases hs:decide (x<0)=decide (y<0)
  ·refine⟨q,q,_,?_,keyS (.inr (.inr (.inr ⟨rfl,rfl⟩))) (by rw[s1 hs];exact ar0 hq hr)⟩;refine wpG Tryz.func432 ((vc_fScaled ..).mpr ?_);refine⟨_,h1,_,h2,_,_,h3,by omega,?_⟩;simp only[e1,e2,e3,e4,w1,w2,w3,w4];refine brb (fun h=>ne0 k1 h) (fun _=>⟨by decide,by decide,brd (fun h=>absurd h k3) (fun _=>brb (fun h=>ne0 hr h) (fun _=>brb (fun h=>by rw[hs]at h;simp at h) (fun _=>finS _ _)))⟩)
  ·refine⟨-q, -q,_,?_,keyS (.inr (.inl ⟨rfl,rfl⟩)) (by rw[s2 hs];exact ar2 hq hr)⟩;refine wpG Tryz.func432 ((vc_fScaled ..).mpr ?_);refine⟨_,h1,_,h2,_,_,h3,by omega,?_⟩;simp only[e1,e2,e3,e4,w1,w2,w3,w4];refine brb (fun h=>ne0 k1 h) (fun _=>⟨by decide,by decide,brd (fun h=>absurd h k3) (fun _=>brb (fun h=>ne0 hr h) (fun _=>brb (fun _=>finS _ _) (fun h=>absurd (by simpa using h) hs)))⟩)
 ·by_cases hs:decide (x<0)=decide (y<0)
  ·refine⟨q,q+1,_,?_,keyS (.inr (.inr (.inl ⟨rfl,rfl⟩))) (by rw[s1 hs];exact ar1 hq)⟩;refine wpG Tryz.func432 ((vc_fScaled ..).mpr ?_);refine⟨_,h1,_,h2,_,_,h3,by omega,?_⟩;simp only[e1,e2,e3,e4,w1,w2,w3,w4];refine brb (fun h=>ne0 k1 h) (fun _=>⟨by decide,by decide,brd (fun h=>absurd h k3) (fun _=>brb (fun _=>brb (fun h=>by rw[hs]at h;simp at h) (fun _=>finS _ _)) (fun h=>eq0 hr h))⟩)
  ·refine⟨-(q+1), -q,_,?_,keyS (.inl ⟨rfl,rfl⟩) (by rw[s2 hs];exact ar3 hq)⟩;refine wpG Tryz.func432 ((vc_fScaled ..).mpr ?_);refine⟨_,h1,_,h2,_,_,h3,by omega,?_⟩;simp only[e1,e2,e3,e4,w1,w2,w3,w4];refine brb (fun h=>ne0 k1 h) (fun _=>⟨by decide,by decide,?_⟩);refine brd (fun h=>absurd h k3) (fun _=>?_);refine brb (fun _=>?_) (fun h=>eq0 hr h);refine brb (fun _=>?_) (fun h=>absurd (by simpa using h) hs);generalize-((q:Int)+1)=l;generalize-(q:Int)=u;exact finS l u
omit [Env] in
theorem brF {X Y:Prop} (h:X):br (toB (D.bool !false)) X Y:=h
omit [Env] in
theorem brT {X Y:Prop} (h:Y):br (toB (D.bool !true)) X Y:=h
def IvB (a b:Int):Prop:=FB a∧FB b∧a≤b
omit [Env] in
theorem IvB.zero:IvB 0 0:=⟨⟨by omega,by omega⟩,⟨by omega,by omega⟩,by omega⟩
theorem cProp {a b:Int} (hab:a≤b):∃c d ok,Gives CC 413 [.c (.int .i64 a),.c (.int .i64 b)] [eIv c d,eOk ok]∧IvB c d∧(ok=true→c=a∧d=b):=by
 obtain⟨c,d,ok,h1,h2,h3⟩:=cProper (a:=a) (b:=b);refine⟨c,d,ok,h1,?_,fun h=>⟨(h2 h).1,(h2 h).2.1⟩⟩;cases ok with
 |true=>obtain⟨rfl,rfl,k1,k2⟩:=h2 rfl;exact⟨⟨k1,by omega⟩,⟨by omega,k2⟩,hab⟩
 |false=>obtain⟨rfl,rfl⟩:=h3 rfl;exact .zero
theorem cAdd {a0 b0 a1 b1:Int} (h:IvB a0 b0) (k:IvB a1 b1):∃c d ok,Gives CC 381 [eIv a0 b0,eIv a1 b1] [eIv c d,eOk ok]∧IvB c d∧(ok=true→∀x y,inQ a0 b0 x→inQ a1 b1 y→inQ c d (x+y)):=by
 obtain⟨c,d,ok,h1,h2,h3⟩:=cProp (a:=a0+a1) (b:=b0+b1) (by have:=h.2.2;have:=k.2.2;omega);refine⟨c,d,ok,?_,h2,fun e x y hx hy=>?_⟩
 ·obtain⟨h,h',_⟩:=h;obtain⟨k,k',_⟩:=k;unfold FB at h h' k k';refine wpG Tryz.func381 ((vc_fAdd ..).mpr ?_);rw[i64w (n:=a0+a1),i64w (n:=b0+b1)];exact⟨_,_,_,h1,rfl⟩
 ·obtain⟨rfl,rfl⟩:=h3 e;exact inQ_add hx hy
theorem cSgn (a b:Int):∃n ok,Gives CC 383 [eIv a b] [eI n,eOk ok]∧(ok=true→∀x,inQ a b x→n=sr x):=by
 by_cases h1:a>0
 ·refine⟨1,true,?_,fun _ x hx=>((inQ_sg hx).1 h1).symm⟩;refine wpG Tryz.func383 ((vc_fSign ..).mpr ?_);exact brd (fun _=>rfl) (fun k=>absurd h1 k)
 by_cases h2:b<0
 ·refine⟨-1,true,?_,fun _ x hx=>((inQ_sg hx).2.1 h2).symm⟩;refine wpG Tryz.func383 ((vc_fSign ..).mpr ?_);exact brd (fun k=>absurd k h1) (fun _=>brd (fun _=>rfl) (fun k=>absurd h2 k))
 by_cases h3:a=0
 ·refine⟨0,b==0,?_,fun e x hx=>?_⟩
  ·refine wpG Tryz.func383 ((vc_fSign ..).mpr ?_);exact brd (fun k=>absurd k h1) (fun _=>brd (fun k=>absurd k h2) (fun _=>brb (fun _=>rfl) (fun k=>by subst h3;simp at k)))
  ·have e:=LawfulBEq.eq_of_beq e;subst h3 e;exact((inQ_sg hx).2.2 rfl rfl).symm
 ·refine⟨0,false,?_,by simp⟩;refine wpG Tryz.func383 ((vc_fSign ..).mpr ?_);exact brd (fun k=>absurd k h1) (fun _=>brd (fun k=>absurd k h2) (fun _=>brb (fun k=>absurd (LawfulBEq.eq_of_beq k) h3) (fun _=>rfl)))
theorem cFromRat {x:Rat} {k:Nat} (hx:Hz k x) (h:k<300000:=by omega):∃c d ok,Gives CC 329 [.ag (rk (q4 x) [])] [eIv c d,eOk ok]∧IvB c d∧(ok=true→inQ c d x):=by
 have h0:=bInt (n:=65536) (by omega) (by omega);have hz:Hz 5 ((65536:Int):Rat):=Hz.int (by decide);have hm:=hx.mul hz (l:=k+5);have h1:=bMul hx hz (by omega);have h2:=bFloor hm (by omega);have h3:=bNeg hm (by omega);have h4:=bFloor hm.neg (by omega);have e:x*((65536:Int):Rat)=x*65536:=by rfl
 rw[e]at h1 h2 h3 h4 hm;have f1:=Rat.floor_le (x*65536);have f2:=Rat.floor_le (-(x*65536));have sf:∀{y:Rat} {j:Nat},Hz j y→j<300010→Sm y.floor:=fun{y j} hy hj=>by have hs:=(hy.sr (by omega)).1.sm;rw[Rat.floor_def];exact Nat.lt_of_le_of_lt (Int.natAbs_ediv_le_natAbs _ _) hs
 have s1:=sf hm (by omega);have s2:=sf hm.neg (by omega);generalize (x*65536).floor=f at *;generalize (-(x*65536)).floor=g at *;have s3:Sm (-g):=by unfold Sm at s2 ⊢;rw[Int.natAbs_neg];exact s2
 have h5:=up (iNeg_ok s2);have g1:=bI64 s1;have g2:=bI64 s3;rw[encI_cells]at h2 h4 h5 g1 g2;rw[encI_cells]at h5;have fg:f≤ -g:=by
  have:(f:Rat)≤((-g:Int):Rat):=by rw[Rat.intCast_neg];grind
  exact Rat.intCast_le_intCast.1 this
 by_cases o1: -9223372036854775808≤f∧f≤9223372036854775807
 ·have i1:i64O f=(f,true):=if_pos o1;rw[i1]at g1;by_cases o2: -9223372036854775808≤ -g∧ -g≤9223372036854775807
  ·have i2:i64O (-g)=(-g,true):=if_pos o2;rw[i2]at g2;obtain⟨c,d,ok,p1,p2,p3⟩:=cProp fg;refine⟨c,d,ok,?_,p2,fun e=>?_⟩
   ·refine wpG Tryz.func329 ((vc_fFromRat ..).mpr ?_);exact⟨_,h0,_,h1,_,_,h2,_,_,g1,_,h3,_,_,h4,_,_,h5,_,_,g2,brT (brT ⟨_,_,_,p1,rfl⟩)⟩
   ·obtain⟨rfl,rfl⟩:=p3 e;exact⟨f1,by rw[Rat.intCast_neg];grind⟩
  ·have i2:i64O (-g)=(0,false):=if_neg o2;rw[i2]at g2;refine⟨0,0,false,?_,.zero,by simp⟩;refine wpG Tryz.func329 ((vc_fFromRat ..).mpr ?_);exact⟨_,h0,_,h1,_,_,h2,_,_,g1,_,h3,_,_,h4,_,_,h5,_,_,g2,brT (brF rfl)⟩
 ·have i1:i64O f=(0,false):=if_neg o1;rw[i1]at g1;refine⟨0,0,false,?_,.zero,by simp⟩;refine wpG Tryz.func329 ((vc_fFromRat ..).mpr ?_);exact⟨_,h0,_,h1,_,_,h2,_,_,g1,_,h3,_,_,h4,_,_,h5,_,_,g2,brF rfl⟩
def mnI (a b:Int):Int:=match decide (a<b)with
 |true=>a
 |false=>b
def mxI (a b:Int):Int:=match decide (a<b)with
 |true=>b
 |false=>a
omit [Env] in
theorem mnI_eq (a b:Int):mnI a b=min a b:=by
 unfold mnI;cases h:decide (a<b)with
 |true=>have:=of_decide_eq_true h;show a=_;omega
 |false=>have:=of_decide_eq_false h;show b=_;omega
omit [Env] in
theorem mxI_eq (a b:Int):mxI a b=max a b:=by
 unfold mxI;cases h:decide (a<b)with
 |true=>have:=of_decide_eq_true h;show b=_;omega
 |false=>have:=of_decide_eq_false h;show a=_;omega
def loN (s:Nat→Int×Int×Bool):Nat→Int
 |0=>2305843009213693952
 |n+1=>mnI (s n).1 (loN s n)
def hiN (s:Nat→Int×Int×Bool):Nat→Int
 |0=> -2305843009213693952
 |n+1=>mxI (hiN s n) (s n).2.1
theorem cMulL {a0 b0 a1 b1:Int} {s:Nat→Int×Int×Bool}
 (hs:∀k j,k<2→j<2→Gives CC 432 [.c (.int .i64 (if k=0 then a0 else b0)),.c (.int .i64 (if j=0 then a1 else b1))] [.c (.int .i64 (s (2*k+j)).1),.c (.int .i64 (s (2*k+j)).2.1),eOk (s (2*k+j)).2.2])
 {R:List A} (hR:((∀m<4,(s m).2.2=true)→R=[eIv (loN s 4) (hiN s 4),eOk true])) (hR':(¬(∀m<4,(s m).2.2=true)→R=[eIv 0 0,eOk false])):
 Gives CC 380 [eIv a0 b0,eIv a1 b1] R:=by
 refine wpF_ok (anns:=ann2 ⟨[.slot 21 (.int .i64 0),.slot 6 (.int .i64 0),.slot 7 (.int .i64 0)],[],fun _ ds=>∃k:Nat,k≤2∧ds=[.int .i64 (k:Int),.int .i64 (loN s (2*k)),.int .i64 (hiN s (2*k))]∧∀m<2*k,(s m).2.2=true,fun ds=>(2-toI (nth .undef ds 0)).toNat⟩
  ⟨[.slot 31 (.int .i64 0),.slot 6 (.int .i64 0),.slot 7 (.int .i64 0)],[.slot 21 (.int .i64 0)],fun gs ds=>∃k j:Nat,k<2∧j≤2∧gs=[.int .i64 (k:Int)]∧ds=[.int .i64 (j:Int),.int .i64 (loN s (2*k+j)),.int .i64 (hiN s (2*k+j))]∧∀m<2*k+j,(s m).2.2=true,fun ds=>(2-toI (nth .undef ds 0)).toNat⟩) mixedT Tryz.func380 ?_
 show wpF _ _ _ _ [.ag [.int .i64 a0,.int .i64 b0],.ag [.int .i64 a1,.int .i64 b1]] _;rw[vc_fMul];refine⟨⟨0,by omega,rfl,by omega⟩,?_⟩;rintro i p q ⟨k,hk,he,hok⟩;simp only[List.cons.injEq,D.int.injEq,true_and,and_true]at he;obtain⟨rfl,rfl,rfl⟩:=he;refine brd (fun h=>?_) (fun h=>?_)
 ·have hk2:k<2:=by omega
  refine⟨⟨by omega,h⟩,(if k=0 then a0 else b0),?_,⟨k,0,hk2,by omega,rfl,rfl,hok⟩,?_⟩
  ·rw[Int.toNat_natCast];rcases(by omega:k=0∨k=1)with rfl|rfl
   ·exact⟨rfl,Nat.le_refl 1⟩
   ·exact⟨rfl,Nat.le_refl 1⟩
  ·rintro j p q ⟨k',j',hk',hj',hg,he,hok'⟩;simp only[List.cons.injEq,D.int.injEq,true_and,and_true]at he hg;obtain⟨rfl,rfl,rfl⟩:=he;obtain rfl:k=k':=by omega
   refine brd (fun h=>?_) (fun h=>?_)
   ·have hj2:j'<2:=by omega
    refine⟨⟨by omega,h⟩,(if j'=0 then a1 else b1),?_,_,_,_,hs k j' hk2 hj2,?_⟩
    ·rw[Int.toNat_natCast];rcases(by omega:j'=0∨j'=1)with rfl|rfl
     ·exact⟨rfl,Nat.le_refl 1⟩
     ·exact⟨rfl,Nat.le_refl 1⟩
    ·have w:IntKind.wrap .i64 ((j':Int)+1)=((j'+1:Nat):Int):=by rw[i64w];omega
     rw[w];cases hb:(s (2*k+j')).2.2 with
     |false=>refine brb (fun _=>?_) (fun h=>by simp at h);exact(hR' (fun g=>by rw[g _ (by omega)]at hb;simp at hb)).symm
     |true=>
      refine brb (fun h=>by simp at h) (fun _=>⟨⟨k,j'+1,hk2,by omega,rfl,rfl,fun m hm=>?_⟩,?_⟩)
      ·rcases(by omega:m<2*k+j'∨m=2*k+j')with g|rfl
       ·exact hok' m g
       ·exact hb
      ·simp only[nth,toI];omega
   ·have hj2:j'=2:=by omega
    subst hj2;have w:IntKind.wrap .i64 ((k:Int)+1)=((k+1:Nat):Int):=by rw[i64w];omega
    rw[w];exact⟨⟨k+1,by omega,rfl,hok'⟩,by simp only[nth,toI];omega⟩
 ·have hk2:k=2:=by omega
  subst hk2;exact(hR hok).symm
theorem cMul {a0 b0 a1 b1:Int} (h:IvB a0 b0) (k:IvB a1 b1):∃c d ok,Gives CC 380 [eIv a0 b0,eIv a1 b1] [eIv c d,eOk ok]∧IvB c d∧(ok=true→∀x y,inQ a0 b0 x→inQ a1 b1 y→inQ c d (x*y)):=by
 obtain⟨l0,u0,o0,g0,f0⟩:=cScaled h.1 k.1;obtain⟨l1,u1,o1,g1,f1⟩:=cScaled h.1 k.2.1;obtain⟨l2,u2,o2,g2,f2⟩:=cScaled h.2.1 k.1;obtain⟨l3,u3,o3,g3,f3⟩:=cScaled h.2.1 k.2.1;obtain⟨s,hs0,hs1,hs2,hs3⟩:∃s:Nat→Int×Int×Bool,s 0=(l0,u0,o0)∧s 1=(l1,u1,o1)∧s 2=(l2,u2,o2)∧s 3=(l3,u3,o3):=
  ⟨fun n=>if n=0 then(l0,u0,o0)else if n=1 then(l1,u1,o1)else if n=2 then(l2,u2,o2)else(l3,u3,o3),rfl,rfl,rfl,rfl⟩
 have hs:∀k j,k<2→j<2→Gives CC 432 [.c (.int .i64 (if k=0 then a0 else b0)),.c (.int .i64 (if j=0 then a1 else b1))] [.c (.int .i64 (s (2*k+j)).1),.c (.int .i64 (s (2*k+j)).2.1),eOk (s (2*k+j)).2.2]:=by
  intro k j hk hj;rcases(by omega:k=0∨k=1)with rfl|rfl<;>rcases(by omega:j=0∨j=1)with rfl|rfl
  ·show Gives _ _ _ [.c (.int .i64 (s 0).1),.c (.int .i64 (s 0).2.1),eOk (s 0).2.2];rw[hs0];exact g0
  ·show Gives _ _ _ [.c (.int .i64 (s 1).1),.c (.int .i64 (s 1).2.1),eOk (s 1).2.2];rw[hs1];exact g1
  ·show Gives _ _ _ [.c (.int .i64 (s 2).1),.c (.int .i64 (s 2).2.1),eOk (s 2).2.2];rw[hs2];exact g2
  ·show Gives _ _ _ [.c (.int .i64 (s 3).1),.c (.int .i64 (s 3).2.1),eOk (s 3).2.2];rw[hs3];exact g3
 by_cases ha:∀m<4,(s m).2.2=true
 ·have e0:=f0 (by have:=ha 0 (by omega);rwa [hs0]at this);have e1:=f1 (by have:=ha 1 (by omega);rwa [hs1]at this);have e2:=f2 (by have:=ha 2 (by omega);rwa [hs2]at this);have e3:=f3 (by have:=ha 3 (by omega);rwa [hs3]at this);have eL:loN s 4=min l3 (min l2 (min l1 (min l0 2305843009213693952))):=by simp only[loN,mnI_eq,hs0,hs1,hs2,hs3]
  have eH:hiN s 4=max (max (max (max (-2305843009213693952) u0) u1) u2) u3:=by simp only[hiN,mxI_eq,hs0,hs1,hs2,hs3]
  refine⟨loN s 4,hiN s 4,true,cMulL hs (fun _=>rfl) (fun g=>absurd ha g),?_,fun _ x y hx hy=>?_⟩
  ·rw[eL,eH];unfold IvB FB at *;omega
  ·rw[eL,eH];refine inQ_mul hx hy ?_ ?_
   ·rintro p q (rfl|rfl) (rfl|rfl)<;>omega
   ·rintro p q (rfl|rfl) (rfl|rfl)<;>omega
 ·exact⟨0,0,false,cMulL hs (fun g=>absurd g ha) (fun _=>rfl),.zero,by simp⟩
theorem cNeg {a b:Int} (h:IvB a b):Gives CC 382 [eIv a b] [eIv (-b) (-a)]∧IvB (-b) (-a):=by
 obtain⟨ha,hb,hab⟩:=h;unfold FB at ha hb;refine⟨?_,⟨by unfold FB;omega,by unfold FB;omega,by omega⟩⟩;refine wpG Tryz.func382 ((vc_fNeg ..).mpr ?_);rw[i64w (n:=0-b),i64w (n:=0-a),Int.zero_sub,Int.zero_sub];rfl
theorem cTimes {n:Rat} {k:Nat} (hn:Hz k n) {a b:Int} (h:IvB a b) (o:Bool) (hk:k<300000:=by omega):∃c d ok,Gives CC 384 [.ag (rk (q4 n) []),eIv a b,eOk o] [eIv c d,eOk ok]∧IvB c d∧(ok=true→o=true∧∀x,inQ a b x→inQ c d (n*x)):=by
 obtain⟨b1,b2,ob,gb,bb,ib⟩:=cFromRat hn;obtain⟨m1,m2,om,gm,bm,im⟩:=cMul bb h;cases o with
 |false=>refine⟨0,0,false,?_,.zero,by simp⟩;refine wpG Tryz.func384 ((vc_fTimes ..).mpr ?_);exact⟨_,_,_,gb,brF rfl⟩
 |true=>
 cases ob with
 |false=>refine⟨0,0,false,?_,.zero,by simp⟩;refine wpG Tryz.func384 ((vc_fTimes ..).mpr ?_);exact⟨_,_,_,gb,brT (brF rfl)⟩
 |true=>refine⟨m1,m2,om,?_,bm,fun e=>⟨rfl,fun x hx=>im e _ _ (ib rfl) hx⟩⟩;refine wpG Tryz.func384 ((vc_fTimes ..).mpr ?_);exact⟨_,_,_,gb,brT (brT ⟨_,_,_,gm,rfl⟩)⟩
theorem cRoot0 {x:Rat} {k:Nat} (hx:Hz k x) (h:k<300000:=by omega):∃c d ok,Gives CC 327 [.ag (rk (q4 x) (rk (q4 0) (rk (q4 0) [])))] [eIv c d,eOk ok]∧IvB c d∧(ok=true→inQ c d x):=by
 obtain⟨a1,a2,oa,ga,ba,ia⟩:=cFromRat hx;refine⟨a1,a2,oa,?_,ba,ia⟩;refine wpG Tryz.func327 ((vc_fRoot ..).mpr ?_);cases oa with
 |false=>exact⟨_,_,_,ga,brF rfl⟩
 |true=>exact⟨_,_,_,ga,brT ⟨_,bSign 0,brb (fun _=>rfl) (fun h=>by simp[sr]at h)⟩⟩
end
end Eng
end

section
namespace Eng
open Go Go.Proofs Rl
set_option maxRecDepth 100000
section
variable [Env]
def kLn (a b c:Rat):List D:=rk (q4 a) (rk (q4 b) (rk (q4 c) []))
def kPt (x y:Rat):List D:=pk ⟨q4 x,q4 0,q4 y,q4 0,q4 0⟩ []
theorem fSideQ {a b c x y:Rat} {k:Nat} (ha:Hz k a) (hb:Hz k b) (hc:Hz k c) (hx:Hz k x) (hy:Hz k y) (hk:k<80000:=by omega):∃n ok,Gives CC 309 [.ag (kLn a b c),.ag (kPt x y)] [eI n,eOk ok]∧(ok=true→n=sr (a*x+b*y-c)):=by
 obtain⟨_,_,o1,g1,k1,i1⟩:=cRoot0 hx;obtain⟨_,_,o2,g2,k2,i2⟩:=cTimes ha k1 o1;obtain⟨_,_,o3,g3,k3,i3⟩:=cRoot0 hy;obtain⟨_,_,o4,g4,k4,i4⟩:=cTimes hb k3 o3;obtain⟨_,_,o5,g5,k5,i5⟩:=cFromRat hc;obtain⟨_,_,o6,g6,k6,i6⟩:=cAdd k2 k4;obtain⟨g7,k7⟩:=cNeg k5;obtain⟨_,_,o8,g8,k8,i8⟩:=cAdd k6 k7;obtain⟨z,oz,gz,iz⟩:=cSgn _ _;refine⟨if(o2&&o4&&o5&&o6&&o8)=true then z else 0,o2&&o4&&o5&&o6&&o8&&oz,?_,fun e=>?_⟩
 ·unfold kLn kPt;refine wpG Tryz.func309 ((vc_fSide ..).mpr ?_);refine⟨_,_,_,g1,_,_,_,g2,_,_,_,g3,_,_,_,g4,_,_,_,g5,?_⟩;cases o2
  ·rfl
  cases o4
  ·rfl
  cases o5
  ·rfl
  refine⟨_,_,_,g6,?_⟩;cases o6
  ·rfl
  refine⟨_,_,g7,_,_,_,g8,?_⟩;cases o8
  ·rfl
  exact⟨_,_,gz,rfl⟩
 ·simp only[Bool.and_eq_true]at e;obtain⟨⟨⟨⟨⟨e2,e4⟩,e5⟩,e6⟩,e8⟩,ez⟩:=e;obtain⟨e1,j2⟩:=i2 e2;obtain⟨e3,j4⟩:=i4 e4;rw[e2,e4,e5,e6,e8];have:=iz ez _ (i8 e8 _ _ (i6 e6 _ _ (j2 _ (i1 e1)) (j4 _ (i3 e3))) (inQ_neg (i5 e5)));rw[←Rat.sub_eq_add_neg]at this;exact this
theorem pAddR_ok {x y:Rat} {j k:Nat} (hx:Hz j x) (hy:Hz k y) (h:j<360000∧k<360000:=by omega):Gives CC 253 [.ag (rk (q4 x) []),.ag (rk (q4 y) [])] [.ag (rk (q4 (x+y)) [])]:=by
 refine wpG Tryz.func253 ((vc_jAdd ..).mpr ?_);exact⟨_,bAdd hx hy h,rfl⟩
theorem pSubR_ok {x y:Rat} {j k:Nat} (hx:Hz j x) (hy:Hz k y) (h:j<360000∧k<360000:=by omega):Gives CC 252 [.ag (rk (q4 x) []),.ag (rk (q4 y) [])] [.ag (rk (q4 (x-y)) [])]:=by
 refine wpG Tryz.func252 ((vc_jSub ..).mpr ?_);exact⟨_,bSub hx hy h,rfl⟩
theorem pMulR_ok {x y:Rat} {j k:Nat} (hx:Hz j x) (hy:Hz k y) (h:j<360000∧k<360000:=by omega):Gives CC 254 [.ag (rk (q4 x) []),.ag (rk (q4 y) [])] [.ag (rk (q4 (x*y)) [])]:=by
 refine wpG Tryz.func254 ((vc_uMulR ..).mpr ?_);exact⟨_,bMul hx hy h,rfl⟩
theorem pSign0 (a:Rat):Gives CC 308 [.ag (rk (q4 a) []),.ag (rk (q4 0) []),.ag (rk (q4 0) [])] [.c (.int .i64 (sr a))]:=by
 refine wpG Tryz.func308 ((vc_jSign ..).mpr ?_);refine⟨_,bSign a,_,bSign 0,_,bSign 0,?_⟩;refine brb (fun _=>rfl) (fun h1=>?_);simp[sr]at h1;exact absurd rfl h1
theorem pSideQ {a b c x y:Rat} {k:Nat} (ha:Hz k a) (hb:Hz k b) (hc:Hz k c) (hx:Hz k x) (hy:Hz k y) (hk:k<80000:=by omega):Gives CC 235 [.ag (kLn a b c),.ag (kPt x y)] [.c (.int .i64 (sr (a*x+b*y-c)))]:=by
 obtain⟨z,oz,gz,iz⟩:=fSideQ ha hb hc hx hy;have m1:=ha.mul hx (l:=2*k);have m2:=hb.mul hy (l:=2*k);have s1:=m1.add m2 (l:=4*k+1);have z0:Hz 0 (0:Rat):=Hz.zero;have g1:=pMulR_ok ha z0;have g2:=pMulR_ok hb z0;have g3:=pAddR_ok z0 z0;rw[Rat.mul_zero]at g1 g2;rw[Rat.add_zero]at g3;unfold kLn kPt at gz ⊢;refine wpG Tryz.func235 ((vc_jSide ..).mpr ?_);refine⟨_,_,gz,brb' (fun e=>by rw[iz e]) (fun _=>?_)⟩;exact⟨_,pMulR_ok ha hx,_,pMulR_ok hb hy,_,pAddR_ok m1 m2,_,pSubR_ok s1 hc,_,g1,_,g2,_,g3,_,pSign0 _,rfl⟩
end
end Eng
end

section
namespace Eng
open Go Go.Proofs Rl
set_option maxRecDepth 100000
variable [Env]
structure Cl where
 x0:Int
 y0:Int
 x1:Int
 y1:Int
 top:Int
structure Su where
 x0:Int
 y0:Int
 x1:Int
 y1:Int
 th:Int
 ga:Int
 cl:List Cl
 sf:Int
def clR (c:Cl):List D:=[.int .i64 c.x0,.int .i64 c.y0,.int .i64 c.x1,.int .i64 c.y1,.int .i64 c.top]
def clRs (l:List Cl):List (List D):=l.map clR
def encS (s:Su):A:= .ag [.int .i64 s.x0,.int .i64 s.y0,.int .i64 s.x1,.int .i64 s.y1,.int .i64 s.th,.int .i64 s.ga,.sl (clRs s.cl),.int .i64 s.sf]
omit [Env] in
theorem clRs_length (l:List Cl):(clRs l).length=l.length:=by simp[clRs]
omit [Env] in
theorem nth_cl {l:List Cl} {i:Nat} (h:i<l.length):nth [] (clRs l) i=clR l[i]:=by
 rw[nth_eq];simp[clRs,h]
omit [Env] in
theorem cut_cl {l:List Cl} {i:Nat} (h:i<l.length):cut (nth [] (clRs l) i) 0 5 [.int .i64 l[i].x0,.int .i64 l[i].y0,.int .i64 l[i].x1,.int .i64 l[i].y1,.int .i64 l[i].top]:=by
 rw[nth_cl h];exact⟨rfl,by simp[clR]⟩
omit [Env] in
theorem len_cl {l:List Cl} {i:Nat} (h:i<l.length):(nth [] (clRs l) i).length=5:=by rw[nth_cl h];rfl
def lenB (n low:Int):Bool:=decide (n≥low)&&decide (n≤10000000)
def rectB (a b c d:Int):Bool:=lenB a (-10000000)&&(lenB b (-10000000)&&(lenB c (-10000000)&&(lenB d (-10000000)&&(decide (a<c)&&decide (b<d)))))
def tableZ (th ga:Int):Int:=IntKind.wrap .i64 (IntKind.wrap .i64 (0-th)-ga)
def clB (th ga sf:Int) (c:Cl):Bool:=rectB c.x0 c.y0 c.x1 c.y1&&(lenB c.top (tableZ th ga)&&decide (c.top<sf))
def headB (s:Su):Bool:=rectB s.x0 s.y0 s.x1 s.y1&&(lenB s.th 1&&(lenB s.ga 0&&(decide (s.cl.length≤50)&&lenB s.sf 1)))
def validB (s:Su):Bool:=headB s&&s.cl.all (clB s.th s.ga s.sf)
theorem rlength_ok (n low:Int):Gives CC 46 [.c (.int .i64 n),.c (.int .i64 low)] [.c (.bool (lenB n low))]:=by
 refine wpF_ok (anns:=fun _=>⟨[],[],fun _ _=>True,fun _=>0⟩) mixedT Tryz.func46 ?_;rw[vc_rlength];unfold lenB;refine brb (fun h=>?_) (fun h=>?_)
 ·rw[h,Bool.true_and]
 ·rw[h,Bool.false_and]
theorem rrect_ok (a b c d:Int):Gives CC 45 [.c (.int .i64 a),.c (.int .i64 b),.c (.int .i64 c),.c (.int .i64 d)] [.c (.bool (rectB a b c d))]:=by
 refine wpF_ok (anns:=fun _=>⟨[],[],fun _ _=>True,fun _=>0⟩) mixedT Tryz.func45 ?_;rw[vc_rrect];unfold rectB;refine⟨_,rlength_ok _ _,brb' (fun h=>?_) (fun h=>by rw[h];rfl)⟩;rw[h,Bool.true_and];refine⟨_,rlength_ok _ _,brb' (fun h=>?_) (fun h=>by rw[h];rfl)⟩;rw[h,Bool.true_and];refine⟨_,rlength_ok _ _,brb' (fun h=>?_) (fun h=>by rw[h];rfl)⟩;rw[h,Bool.true_and];refine⟨_,rlength_ok _ _,brb' (fun h=>?_) (fun h=>by rw[h];rfl)⟩;rw[h,Bool.true_and];exact brb (fun h=>by rw[h,Bool.true_and]) (fun h=>by rw[h,Bool.false_and])
omit [Env] in
theorem all_take_succ {α:Type} (p:α→Bool) (l:List α) (k:Nat) (h:k<l.length):(l.take (k+1)).all p=((l.take k).all p&&p l[k]):=by
 rw[List.take_succ_eq_append_getElem h,List.all_append];simp
theorem sValid_ok (s:Su) (hl:s.cl.length≤1000000000):Gives CC 23 [encS s] [.c (.int .i64 (match validB s with|true=>0|false=>1))]:=by
 obtain⟨x0,y0,x1,y1,th,ga,cl,sf⟩:=s;refine wpF_ok (anns:=fun _=>⟨[.slot 3 (.bool false),.slot 4 (.int .i64 0)],[],fun _ ds=>∃k:Nat,k≤cl.length∧ds=[.bool (headB ⟨x0,y0,x1,y1,th,ga,cl,sf⟩&&(cl.take k).all (clB th ga sf)),.int .i64 (k:Int)],fun ds=>(cl.length-toI (nth .undef ds 1)).toNat⟩) mixedT Tryz.func23 ?_;simp only at hl;simp only[encS];rw[vc_rValid];simp only[Int.ofNat_eq_natCast,clRs_length];have hloop:∀(b:Bool) (n:Int),
  (∃k:Nat,k≤cl.length∧[D.bool b,D.int .i64 n]=[.bool (headB ⟨x0,y0,x1,y1,th,ga,cl,sf⟩&&(cl.take k).all (clB th ga sf)),.int .i64 (k:Int)])→
  br (toB (D.bool (decide (n<(cl.length:Int)))))
   (br b
    (((0:Int)≤n∧n<(cl.length:Int)∧List.length (nth [] (clRs cl) (Int.toNat n))=(5:Nat))∧
      ∃n_1 n_2 n_3 n_4 n_5,
       cut (nth [] (clRs cl) (Int.toNat n)) (0:Nat) (5:Nat)
        [D.int IntKind.i64 n_1,D.int IntKind.i64 n_2,D.int IntKind.i64 n_3,D.int IntKind.i64 n_4,D.int IntKind.i64 n_5]∧
        ∃b_1,
         Gives CC (45:Nat)
          [A.c (D.int IntKind.i64 n_1),A.c (D.int IntKind.i64 n_2),A.c (D.int IntKind.i64 n_3),
           A.c (D.int IntKind.i64 n_4)]
          [A.c (D.bool b_1)]∧
          br b_1
           (∃b_2,
            Gives CC (46:Nat)
             [A.c (D.int IntKind.i64 n_5),
              A.c (D.int IntKind.i64 (IntKind.wrap IntKind.i64 (IntKind.wrap IntKind.i64 ((0:Int)-th)-ga)))]
             [A.c (D.bool b_2)]∧
             br b_2
              ((∃k:Nat,k≤cl.length∧[D.bool (decide (n_5<sf)),D.int .i64 (IntKind.wrap IntKind.i64 (n+(1:Int)))]=[.bool (headB ⟨x0,y0,x1,y1,th,ga,cl,sf⟩&&(cl.take k).all (clB th ga sf)),.int .i64 (k:Int)])∧
                (cl.length-toI (nth .undef [D.bool (decide (n_5<sf)),D.int IntKind.i64 (IntKind.wrap IntKind.i64 (n+(1:Int)))] 1)).toNat<
                 (cl.length-toI (nth .undef [D.bool b,D.int IntKind.i64 n] 1)).toNat)
              ((∃k:Nat,k≤cl.length∧[D.bool false,D.int .i64 (IntKind.wrap IntKind.i64 (n+(1:Int)))]=[.bool (headB ⟨x0,y0,x1,y1,th,ga,cl,sf⟩&&(cl.take k).all (clB th ga sf)),.int .i64 (k:Int)])∧
                (cl.length-toI (nth .undef [D.bool false,D.int IntKind.i64 (IntKind.wrap IntKind.i64 (n+(1:Int)))] 1)).toNat<
                 (cl.length-toI (nth .undef [D.bool b,D.int IntKind.i64 n] 1)).toNat))
           ((∃k:Nat,k≤cl.length∧[D.bool false,D.int .i64 (IntKind.wrap IntKind.i64 (n+(1:Int)))]=[.bool (headB ⟨x0,y0,x1,y1,th,ga,cl,sf⟩&&(cl.take k).all (clB th ga sf)),.int .i64 (k:Int)])∧
            (cl.length-toI (nth .undef [D.bool false,D.int IntKind.i64 (IntKind.wrap IntKind.i64 (n+(1:Int)))] 1)).toNat<
             (cl.length-toI (nth .undef [D.bool b,D.int IntKind.i64 n] 1)).toNat))
    (br (toB (D.bool !b)) ([A.c (D.int IntKind.i64 (1:Int))]=[.c (.int .i64 (match validB ⟨x0,y0,x1,y1,th,ga,cl,sf⟩with|true=>0|false=>1))]) ([A.c (D.int IntKind.i64 (0:Int))]=[.c (.int .i64 (match validB ⟨x0,y0,x1,y1,th,ga,cl,sf⟩with|true=>0|false=>1))])))
   (br (toB (D.bool !b)) ([A.c (D.int IntKind.i64 (1:Int))]=[.c (.int .i64 (match validB ⟨x0,y0,x1,y1,th,ga,cl,sf⟩with|true=>0|false=>1))]) ([A.c (D.int IntKind.i64 (0:Int))]=[.c (.int .i64 (match validB ⟨x0,y0,x1,y1,th,ga,cl,sf⟩with|true=>0|false=>1))])):=by
  rintro b n ⟨k,hk,he⟩;simp only[List.cons.injEq,D.bool.injEq,D.int.injEq,true_and,and_true]at he;obtain⟨hb,rfl⟩:=he;refine brd (fun h=>?_) (fun h=>?_)
  ·have hkl:k<cl.length:=by omega
   have hw:IntKind.wrap .i64 ((k:Int)+1)=((k+1:Nat):Int):=by rw[i64w (by omega) (by omega)];omega
   have hs:=all_take_succ (clB th ga sf) cl k hkl;refine brb' (fun h1=>?_) (fun h1=>?_)
   ·rw[h1]at hb;have hb':=hb.symm;rw[Bool.and_eq_true]at hb';obtain⟨hh,ht⟩:=hb';rw[ht,Bool.true_and]at hs;have hm:∀c:Bool,(cl.length-toI (nth .undef [D.bool c,D.int IntKind.i64 (((k+1:Nat):Int))] 1)).toNat<(cl.length-toI (nth .undef [D.bool b,D.int IntKind.i64 (k:Int)] 1)).toNat:=by intro c;simp only[nth,toI];omega
    rw[hw,Int.toNat_natCast];refine⟨⟨by omega,by omega,len_cl hkl⟩,_,_,_,_,_,cut_cl hkl,_,rrect_ok _ _ _ _,?_⟩;refine brb' (fun h2=>?_) (fun h2=>?_)
    ·refine⟨_,rlength_ok _ _,?_⟩;refine brb' (fun h3=>?_) (fun h3=>?_)
     ·refine⟨⟨k+1,hkl,?_⟩,hm _⟩;rw[hs,hh,Bool.true_and];unfold clB;rw[h2,Bool.true_and,tableZ,h3,Bool.true_and]
     ·refine⟨⟨k+1,hkl,?_⟩,hm _⟩;rw[hs,hh,Bool.true_and];unfold clB;rw[h2,Bool.true_and,tableZ,h3,Bool.false_and]
    ·refine⟨⟨k+1,hkl,?_⟩,hm _⟩;rw[hs,hh,Bool.true_and];unfold clB;rw[h2,Bool.false_and]
   ·have hv:validB ⟨x0,y0,x1,y1,th,ga,cl,sf⟩=false:=by
     rw[h1]at hb;have hb':=hb.symm;rw[Bool.and_eq_false_iff]at hb';unfold validB;rcases hb' with h2|h2
     ·rw[h2];rfl
     ·rw[Bool.and_eq_false_iff];refine .inr ?_;rw[←List.take_append_drop k cl,List.all_append];simp only at h2 ⊢;rw[h2];rfl
    rw[h1,hv];exact rfl
  ·have hkl:k=cl.length:=by omega
   subst hkl;rw[List.take_length]at hb;have hv:validB ⟨x0,y0,x1,y1,th,ga,cl,sf⟩=b:=hb.symm;rw[hv];cases b<;>exact rfl
 have h0:∀b:Bool,b=headB ⟨x0,y0,x1,y1,th,ga,cl,sf⟩→∃k:Nat,k≤cl.length∧[D.bool b,D.int .i64 (0:Int)]=[.bool (headB ⟨x0,y0,x1,y1,th,ga,cl,sf⟩&&(cl.take k).all (clB th ga sf)),.int .i64 (k:Int)]:=fun b hb=>⟨0,by omega,by rw[hb];simp⟩
 have hh:headB ⟨x0,y0,x1,y1,th,ga,cl,sf⟩=(rectB x0 y0 x1 y1&&(lenB th 1&&(lenB ga 0&&(decide (cl.length≤50)&&lenB sf 1)))):=rfl;refine⟨_,rrect_ok _ _ _ _,brb' (fun h1=>?_) (fun h1=>⟨h0 _ (by rw[hh,h1];rfl),hloop⟩)⟩;refine⟨_,rlength_ok _ _,brb' (fun h2=>?_) (fun h2=>⟨h0 _ (by rw[hh,h1,h2];rfl),hloop⟩)⟩;refine⟨_,rlength_ok _ _,brb' (fun h3=>?_) (fun h3=>⟨h0 _ (by rw[hh,h1,h2,h3];rfl),hloop⟩)⟩;have e50:decide ((cl.length:Int)≤50)=decide (cl.length≤50):=by rw[decide_eq_decide];omega
 rw[e50];refine brb (fun h4=>?_) (fun h4=>⟨h0 _ (by rw[hh,h1,h2,h3,h4];rfl),hloop⟩);exact⟨_,rlength_ok _ _,h0 _ (by rw[hh,h1,h2,h3,h4];rfl),hloop⟩
theorem sRight_ok (s:Su) (hl:s.cl.length≤1000000000∨4<s.cl.length):Gives CC 5 [encS s] [.c (.bool (decide (s.cl.length≤4)&&validB s))]:=by
 refine wpF_ok (anns:=fun _=>⟨[],[],fun _ _=>True,fun _=>0⟩) mixedT Tryz.func5 ?_;obtain⟨x0,y0,x1,y1,th,ga,cl,sf⟩:=s;simp only at hl ⊢;simp only[encS];rw[vc_rRight];simp only[Int.ofNat_eq_natCast,clRs_length];have e4:decide ((cl.length:Int)≤4)=decide (cl.length≤4):=by rw[decide_eq_decide];omega
 rw[e4];refine brb (fun h=>?_) (fun h=>by rw[h];rfl);have h4:cl.length≤4:=by simpa using h
 refine⟨_,sValid_ok ⟨x0,y0,x1,y1,th,ga,cl,sf⟩ (by simp only;omega),?_⟩;rw[h];cases validB ⟨x0,y0,x1,y1,th,ga,cl,sf⟩<;>rfl
omit [Env] in
theorem mg0_le {m:Int} (h:m≤10000000):0≤mg0 m∧mg0 m≤10000000:=by
 unfold mg0;by_cases k:0<m
 ·rw[decide_eq_true k];exact⟨by simp only;omega,h⟩
 ·rw[decide_eq_false k];exact⟨by simp,by simp⟩
omit [Env] in
theorem mg1_eq (m:Int):mg1 m=mg0 m:=by
 unfold mg0 mg1;by_cases k:0<m
 ·rw[decide_eq_true k,decide_eq_false (by omega)]
 ·rw[decide_eq_false k];by_cases k2:m<0
  ·rw[decide_eq_true k2]
  ·rw[decide_eq_false k2];simp only;omega
structure BoxOk (s:Su):Prop where
 x0: -10000000≤s.x0
 y0: -10000000≤s.y0
 x1:s.x1≤10000000
 y1:s.y1≤10000000
 x:s.x0<s.x1
 y:s.y0<s.y1
omit [Env] in
theorem valid_box {s:Su} (h:validB s=true):BoxOk s:=by
 unfold validB headB rectB lenB at h;simp only[Bool.and_eq_true,decide_eq_true_eq]at h;obtain⟨⟨⟨⟨h1,_⟩,⟨h2,_⟩,⟨_,h3⟩,⟨_,h4⟩,h5,h6⟩,_⟩,_⟩:=h;exact⟨h1,h2,h3,h4,h5,h6⟩
def boxR (s:Su) (m:Int):List D:=rk (q4 ((s.x0-m:Int):Rat)) (rk (q4 ((s.y0-m:Int):Rat)) (rk (q4 ((s.x1+m:Int):Rat)) (rk (q4 ((s.y1+m:Int):Rat)) [])))
theorem pWorld_ok {s:Su} (h:BoxOk s) {m:Int} (hm:m≤10000000):Gives CC 6 [encS s,.c (.int .i64 m)] [.ag (boxR s (mg0 m))]:=by
 obtain⟨x0,y0,x1,y1,th,ga,cl,sf⟩:=s;obtain⟨h1,h2,h3,h4,h5,h6⟩:=h;obtain⟨m0,m1⟩:=mg0_le hm;simp only at h1 h2 h3 h4 h5 h6;have hv:=vc_pWorld (Gives CC) x0 y0 x1 y1 th ga sf (clRs cl) m (· =[.ag (boxR ⟨x0,y0,x1,y1,th,ga,cl,sf⟩ (mg0 m))]);refine wpG Tryz.func6 ?_;simp only[encS];rw[hv];rw[i64w (n:=x0-mg0 m) (by omega) (by omega),i64w (n:=y0-mg0 m) (by omega) (by omega),i64w (n:=x1+mg0 m) (by omega) (by omega),i64w (n:=y1+mg0 m) (by omega) (by omega)];exact⟨_,rFromInt64_ok (by omega) (by omega),_,rFromInt64_ok (by omega) (by omega),_,rFromInt64_ok (by omega) (by omega),_,rFromInt64_ok (by omega) (by omega),rfl⟩
theorem rWorld_ok {s:Su} (h:BoxOk s) {m:Int} (hm:m≤10000000):Gives CC 7 [encS s,.c (.int .i64 m)] [.ag (boxR s (mg0 m))]:=by
 obtain⟨x0,y0,x1,y1,th,ga,cl,sf⟩:=s;obtain⟨h1,h2,h3,h4,h5,h6⟩:=h;obtain⟨m0,m1⟩:=mg0_le hm;simp only at h1 h2 h3 h4 h5 h6;have hv:=vc_rWorld (Gives CC) x0 y0 x1 y1 th ga sf (clRs cl) m (· =[.ag (boxR ⟨x0,y0,x1,y1,th,ga,cl,sf⟩ (mg0 m))]);refine wpG Tryz.func7 ?_;simp only[encS];rw[hv];rw[mg1_eq];rw[i64w (n:=x0-mg0 m) (by omega) (by omega),i64w (n:=y0-mg0 m) (by omega) (by omega),i64w (n:=x1+mg0 m) (by omega) (by omega),i64w (n:=y1+mg0 m) (by omega) (by omega)];exact⟨_,uFromInt64_ok (by omega) (by omega),_,uFromInt64_ok (by omega) (by omega),_,uFromInt64_ok (by omega) (by omega),_,uFromInt64_ok (by omega) (by omega),rfl⟩
theorem pTable_ok (s:Su):Gives CC 16 [encS s] [.c (.int .i64 (tableZ s.th s.ga))]:=by
 refine wpG Tryz.func16 ?_;unfold encS;rw[vc_pTable];rfl
theorem rTable_ok (s:Su):Gives CC 17 [encS s] [.c (.int .i64 (tableZ s.th s.ga))]:=by
 refine wpG Tryz.func17 ?_;unfold encS;rw[vc_rTable];rfl
theorem uSame_ok {x:Rat} (h:Sr x):Gives CC 10 [.ag (rk (q4 x) []),.ag (rk (q4 x) [])] [.c (.bool true)]:=by
 refine wpG Tryz.func10 ((vc_uSame ..).mpr ?_);refine⟨_,qSame_ok h.1.sm h.1.sm,?_⟩;rw[decide_eq_true rfl];refine⟨_,qSame_ok h.2.sm h.2.sm,?_⟩;rw[decide_eq_true rfl]
theorem s7Zero_ok:Gives CC 29 [] [.ag (rk (q4 0) [])]:=by
 refine wpG Tryz.func29 ((vc_oZero ..).mpr ?_);have h0:=uFromInt64_ok (n:=0) (by omega) (by omega);rw[Rat.intCast_zero]at h0;exact⟨q4 0,h0,rfl⟩
theorem s7At_ok (x y:Rat):Gives CC 11 [.ag (rk (q4 x) (rk (q4 y) []))] [.ag (pk ⟨q4 x,q4 0,q4 y,q4 0,q4 0⟩ [])]:=by
 refine wpG Tryz.func11 ((vc_oAt ..).mpr ?_);exact⟨_,s7Zero_ok,_,s7Zero_ok,_,s7Zero_ok,rfl⟩
theorem uFrac_ok {x n:Int} (hx:x.natAbs≤100000) (h0:0<n) (hn:n≤100000):Gives CC 30 [.c (.int .i64 x),.c (.int .i64 n)] [.ag (rk (q4 (Rat.divInt x n)) [])]:=by
 refine wpG Tryz.func30 ((vc_uFrac ..).mpr ?_);have s:∀z:Int,z.natAbs≤100000→Sm z:=fun z hz=>by have h:Hz 5 (z:Rat):=Hz.int (by rw[show(10:Nat)^5=100000 by decide];exact hz);have:=(h.sr (by omega)).1;rw[Rat.num_intCast]at this;unfold Sm;exact Nat.lt_of_lt_of_le this (by unfold topN halfN;exact Nat.pow_le_pow_right (by omega) (by omega))
 refine brb (fun e=>?_) (fun e=>?_)
 ·simp at e;omega
 ·exact⟨_,_,qFromInt64_ok (by omega) (by omega),_,_,qFromInt64_ok (by omega) (by omega),q4 (Rat.divInt x n),uOf_ok partsOk (s x hx) (s n (by omega)) (by omega),rfl⟩
def sm16 (z:Int):Prop:= -32768≤z∧z<32768
def spQ (x:Int) (u:Nat):Rat:=Rat.divInt x ((u:Int)+1)
omit [Env] in
theorem spQ_hz {x:Int} {u:Nat} (hx:sm16 x) (hu:u<256):Hz 5 (spQ x u):=by
 unfold sm16 at hx;have e:(10:Nat)^5=100000:=by decide
 exact Hz.divInt (by omega) (by rw[e];omega) (by rw[e];omega)
theorem s7At2_ok {x y:Int} {u:Nat} (hx:sm16 x) (hy:sm16 y) (hu:u<256):Gives CC 12 [.ag [.int .i16 x,.int .i16 y,.int .u8 (u:Int)]] [.ag (rk (q4 (spQ x u)) (rk (q4 (spQ y u)) []))]:=by
 have hc:=vc_oAt2 (Gives CC) x y (u:Int) (· =[.ag (rk (q4 (spQ x u)) (rk (q4 (spQ y u)) []))]);refine gOk Tryz.func12 hc ?_;clear hc;unfold sm16 at hx hy;rw[i64w (n:=x) (by omega) (by omega),i64w (n:=y) (by omega) (by omega),i64w (n:=(u:Int)) (by omega) (by omega),i64w (n:=(u:Int)+1) (by omega) (by omega)];exact⟨_,uFrac_ok (by omega) (by omega) (by omega),_,uFrac_ok (by omega) (by omega) (by omega),rfl⟩
end Eng
end

section
namespace Eng
open Go Go.Proofs
set_option maxRecDepth 100000
section
variable [Env]
theorem spread_ok (x0 x1 y0 y1 a b c d:Int) (k:Bool):GivesP CB 328 [.int .i64 x0,.int .i64 x1,.int .i64 y0,.int .i64 y1,.bool k] [.ag [.int .i64 a,.int .i64 b],.ag [.int .i64 c,.int .i64 d]] []
 [.int .i64 (mnI a x0),.int .i64 (mxI x1 b),.int .i64 (mnI c y0),.int .i64 (mxI y1 d),.bool k]:=by
 refine runFp_ok (tab:=noT) (lim:=1000) (n:=40) mixedT (fun _ _ _ h=>by simp[noT]at h) rfl fun g=>?_
 kernel_rfl
end
def sprChk:List D→List A→Bool
 |[.int .i64 _,.int .i64 _,.int .i64 _,.int .i64 _,.bool _],[.ag [.int .i64 _,.int .i64 _],.ag [.int .i64 _,.int .i64 _]]=>true
 |_,_=>false
def sprMk:List D→List A→List D
 |[.int .i64 x0,.int .i64 x1,.int .i64 y0,.int .i64 y1,.bool k],[.ag [.int .i64 a,.int .i64 b],.ag [.int .i64 c,.int .i64 d]]=>[.int .i64 (mnI a x0),.int .i64 (mxI x1 b),.int .i64 (mnI c y0),.int .i64 (mxI y1 d),.bool k]
 |_,_=>[]
noncomputable def CDL:List (Nat×EffF):=[(328,effPt sprChk sprMk (fun _ _=>[]))]
noncomputable def CSp:Cx:=CX CDL
instance [Env]:EffOk CSp:=effOk_all (effX_ok ⟨effAt_pt (C:=CX CDL) Tryz.func328 (by simp[Tryz.f328]) (by decide) fun ds al h=>by
 unfold sprChk at h;split at h
 ·exact givesP_cx rfl rfl (spread_ok _ _ _ _ _ _ _ _ _)
 ·simp at h,trivial⟩)
end Eng
end

section
open Go Go.Proofs Eng
set_option maxRecDepth 1000000
namespace Eng
theorem vc_bOf (Gv:Nat→List A→List A→Prop) (I0:List D→List D→Prop) (M0:List D→Nat) (r0 r1 r2 r3 r4 r5:R4) (p0 p1:P20) (Q:List A→Prop):wpF CSp Gv (fun _=>⟨[.slot 22 (.int .i64 0),.box 3 [(.int .i64 0),(.int .i64 0),(.int .i64 0),(.int .i64 0),(.bool false)]],[],I0,M0⟩) Tryz.f249 [.ag (.bool false::rk r0 (rk r1 (rk r2 (rk r3 (rk r4 (rk r5 (.bool false::pk p0 (pk p1 []))))))))] Q=(
 I0 [] [D.int .i64 0,D.int .i64 4611686018427387904,D.int .i64 (-4611686018427387904),D.int .i64 4611686018427387904,D.int .i64 (-4611686018427387904),D.bool true]∧∀(i i_1 i_2 i_3 i_4:Int) (b:Bool),I0 [] [D.int .i64 i,D.int .i64 i_1,D.int .i64 i_2,D.int .i64 i_3,D.int .i64 i_4,D.bool b]→br (toB (D.bool (decide (i<2)))) ((0≤i∧i<2)∧∃x,cut (nth [] [(pk p0 []),(pk p1 [])] (Int.toNat i)) 0 20 (pk x [])∧∃x1 x2 x3,Gv 311 [A.ag (pk x [])] [A.ag (rk x1 (rk x2 (rk x3 [])))]∧∃i_5 i_6 b1,Gv 327 [A.ag (rk x1 (rk x2 (rk x3 [])))] [A.ag [D.int .i64 i_5,D.int .i64 i_6],A.c (D.bool b1)]∧∃x4 x5 x6,Gv 312 [A.ag (pk x [])] [A.ag (rk x4 (rk x5 (rk x6 [])))]∧∃i_7 i_8 b2,Gv 327 [A.ag (rk x4 (rk x5 (rk x6 [])))] [A.ag [D.int .i64 i_7,D.int .i64 i_8],A.c (D.bool b2)]∧br (toB (D.bool !b1)) (Q [A.ag [D.int .i64 0,D.int .i64 0,D.int .i64 0,D.int .i64 0,D.bool false]]) (br (toB (D.bool !b2)) (Q [A.ag [D.int .i64 0,D.int .i64 0,D.int .i64 0,D.int .i64 0,D.bool false]]) (true=true∧I0 [] [D.int .i64 (IntKind.wrap .i64 (i+1)),D.int .i64 (mnI i_5 i_1),D.int .i64 (mxI i_2 i_6),D.int .i64 (mnI i_7 i_3),D.int .i64 (mxI i_4 i_8),D.bool b]∧M0 [D.int .i64 (IntKind.wrap .i64 (i+1)),D.int .i64 (mnI i_5 i_1),D.int .i64 (mxI i_2 i_6),D.int .i64 (mnI i_7 i_3),D.int .i64 (mxI i_4 i_8),D.bool b]<M0 [D.int .i64 i,D.int .i64 i_1,D.int .i64 i_2,D.int .i64 i_3,D.int .i64 i_4,D.bool b]))) (Q [A.ag [D.int .i64 i_1,D.int .i64 i_2,D.int .i64 i_3,D.int .i64 i_4,D.bool b]])):=by kernel_rfl
end Eng
end

section
namespace Eng
open Go Go.Proofs Rl
set_option maxRecDepth 100000
section
variable [Env]
theorem pZero_ok:Gives CC 255 [] [.ag (rk (q4 0) [])]:=by
 refine runF_ok (C:=CC) (tab:=tabU) (lim:=1000) mixedT (fun f al rs h=>tabU_ok f al rs h) 40 _ _ _ ?_
 kernel_rfl
theorem pCoord (x:Rat):Gives CC 389 [.ag (rk (q4 x) []),.ag (rk (q4 0) []),.ag (rk (q4 0) [])] [.ag (rk (q4 x) (rk (q4 0) (rk (q4 0) [])))]:=by
 refine wpG Tryz.func389 ((vc_oCoord ..).mpr ?_);exact⟨_,bSign 0,brb (fun _=>⟨_,pZero_ok,rfl⟩) (fun h=>by simp[sr]at h)⟩
theorem pXQ (x y:Rat):Gives CC 311 [.ag (kPt x y)] [.ag (rk (q4 x) (rk (q4 0) (rk (q4 0) [])))]:=by
 unfold kPt;refine wpG Tryz.func311 ((vc_oX ..).mpr ?_);exact⟨_,_,_,pCoord x,rfl⟩
theorem pYQ (x y:Rat):Gives CC 312 [.ag (kPt x y)] [.ag (rk (q4 y) (rk (q4 0) (rk (q4 0) [])))]:=by
 unfold kPt;refine wpG Tryz.func312 ((vc_oY ..).mpr ?_);exact⟨_,_,_,pCoord y,rfl⟩
structure Fr where
 lo:Int
 hi:Int
 ok:Bool
structure FrOk (x:Rat) (f:Fr):Prop where
 g:Gives CC 327 [.ag (rk (q4 x) (rk (q4 0) (rk (q4 0) [])))] [eIv f.lo f.hi,eOk f.ok]
 iv:IvB f.lo f.hi
def bndN (f g:Fr) (n:Nat) (l:Int×Int):Int×Int:=match n with
 |0=>l
 |1=>(mnI f.lo l.1,mxI l.2 f.hi)
 |_=>(mnI g.lo (mnI f.lo l.1),mxI (mxI l.2 f.hi) g.hi)
def big2:Int×Int:=(4611686018427387904, -4611686018427387904)
def bndF (fx fy gx gy:Fr):List D:=match fx.ok&&(fy.ok&&(gx.ok&&gy.ok))with
 |true=>[.int .i64 (bndN fx gx 2 big2).1,.int .i64 (bndN fx gx 2 big2).2,.int .i64 (bndN fy gy 2 big2).1,.int .i64 (bndN fy gy 2 big2).2,.bool true]
 |false=>[.int .i64 0,.int .i64 0,.int .i64 0,.int .i64 0,.bool false]
theorem bnd_ok {r0 r1 r2 r3 r4 r5:R4} {x1 y1 x2 y2:Rat} {fx fy gx gy:Fr} (h1:FrOk x1 fx) (h2:FrOk y1 fy) (h3:FrOk x2 gx) (h4:FrOk y2 gy):
 Gives CC 249 [.ag (.bool false::rk r0 (rk r1 (rk r2 (rk r3 (rk r4 (rk r5 (.bool false::pk ⟨q4 x1,q4 0,q4 y1,q4 0,q4 0⟩ (pk ⟨q4 x2,q4 0,q4 y2,q4 0,q4 0⟩ []))))))))] [.ag (bndF fx fy gx gy)]:=by
 refine gives_cx (C:=CSp) rfl rfl ?_;refine wpF_ok (C:=CSp) (anns:=fun _=>⟨[.slot 22 (.int .i64 0),.box 3 [(.int .i64 0),(.int .i64 0),(.int .i64 0),(.int .i64 0),(.bool false)]],[],
  fun _ ds=>∃n:Nat,n≤2∧(0<n→fx.ok=true∧fy.ok=true)∧(1<n→gx.ok=true∧gy.ok=true)∧ds=[.int .i64 (n:Int),.int .i64 (bndN fx gx n big2).1,.int .i64 (bndN fx gx n big2).2,.int .i64 (bndN fy gy n big2).1,.int .i64 (bndN fy gy n big2).2,.bool true],
  fun ds=>(2-toI (nth .undef ds 0)).toNat⟩) mixedT Tryz.func249 ?_
 rw[vc_bOf];have up':∀{f:Nat} {al rs:List A},Gives CC f al rs→Gives CSp f al rs:=fun h=>gives_cx (C:=CC) (C':=CSp) rfl rfl h
 refine⟨⟨0,by omega,fun h=>by omega,fun h=>by omega,rfl⟩,?_⟩;rintro i a b c d k ⟨n,hn,e1,e2,he⟩;simp only[List.cons.injEq,D.int.injEq,D.bool.injEq,and_true,true_and]at he;obtain⟨rfl,rfl,rfl,rfl,rfl,rfl⟩:=he;refine brd (fun h=>?_) (fun h=>?_)
 ·refine⟨⟨by omega,h⟩,?_⟩;rcases(by omega:n=0∨n=1)with rfl|rfl
  ·refine⟨_,⟨rfl,Nat.le_refl 20⟩,_,_,_,up' (pXQ x1 y1),_,_,_,up' h1.g,_,_,_,up' (pYQ x1 y1),_,_,_,up' h2.g,?_⟩;cases o1:fx.ok with
   |false=>exact brb (fun _=>by unfold bndF;rw[o1];rfl) (fun h=>by simp at h)
   |true=>
    refine brb (fun h=>by simp at h) (fun _=>?_);cases o2:fy.ok with
    |false=>exact brb (fun _=>by unfold bndF;rw[o1,o2];rfl) (fun h=>by simp at h)
    |true=>refine brb (fun h=>by simp at h) (fun _=>⟨rfl,⟨1,by omega,fun _=>⟨rfl,rfl⟩,fun h=>by omega,rfl⟩,?_⟩);exact(show(1:Nat)<2 by omega)
  ·obtain⟨o1,o2⟩:=e1 (by omega);refine⟨_,⟨rfl,Nat.le_refl 20⟩,_,_,_,up' (pXQ x2 y2),_,_,_,up' h3.g,_,_,_,up' (pYQ x2 y2),_,_,_,up' h4.g,?_⟩;cases o3:gx.ok with
   |false=>exact brb (fun _=>by unfold bndF;rw[o1,o2,o3];rfl) (fun h=>by simp at h)
   |true=>
    refine brb (fun h=>by simp at h) (fun _=>?_);cases o4:gy.ok with
    |false=>exact brb (fun _=>by unfold bndF;rw[o1,o2,o3,o4];rfl) (fun h=>by simp at h)
    |true=>refine brb (fun h=>by simp at h) (fun _=>⟨rfl,⟨2,by omega,fun _=>⟨o1,o2⟩,fun _=>⟨rfl,rfl⟩,rfl⟩,?_⟩);exact(show(0:Nat)<1 by omega)
 ·obtain rfl:n=2:=by omega
  obtain⟨o1,o2⟩:=e1 (by omega);obtain⟨o3,o4⟩:=e2 (by omega);unfold bndF;rw[o1,o2,o3,o4];rfl
end
end Eng
end

section
namespace Eng
open Go Go.Proofs Rl
set_option maxRecDepth 100000
def prF (a b:Int):Fr:=match decide (a< -2305843009213693952)||decide (b>2305843009213693952)with
 |true=>⟨0,0,false⟩
 |false=>⟨a,b,true⟩
def frF (x:Rat):Fr:=match(i64O (x*65536).floor).2&&(i64O (-(-(x*65536)).floor)).2 with
 |true=>prF (x*65536).floor (-(-(x*65536)).floor)
 |false=>⟨0,0,false⟩
section
variable [Env]
theorem cProperE (a b:Int):Gives CC 413 [.c (.int .i64 a),.c (.int .i64 b)] [eIv (prF a b).lo (prF a b).hi,eOk (prF a b).ok]:=by
 by_cases h:a< -2305843009213693952
 ·have e:prF a b=⟨0,0,false⟩:=by unfold prF;rw[decide_eq_true h];rfl
  rw[e];refine wpG Tryz.func413 ((vc_fProper ..).mpr ?_);exact brd (fun _=>rfl) (fun k=>absurd h k)
 by_cases h2:b>2305843009213693952
 ·have e:prF a b=⟨0,0,false⟩:=by unfold prF;rw[decide_eq_true h2,Bool.or_true]
  rw[e];refine wpG Tryz.func413 ((vc_fProper ..).mpr ?_);exact brd (fun k=>absurd k h) (fun _=>brd (fun _=>rfl) (fun k=>absurd h2 k))
 ·have e:prF a b=⟨a,b,true⟩:=by unfold prF;rw[decide_eq_false h,decide_eq_false h2];rfl
  rw[e];refine wpG Tryz.func413 ((vc_fProper ..).mpr ?_);exact brd (fun k=>absurd k h) (fun _=>brd (fun k=>absurd k h2) (fun _=>rfl))
theorem cFromRatE {x:Rat} {k:Nat} (hx:Hz k x) (h:k<300000:=by omega):Gives CC 329 [.ag (rk (q4 x) [])] [eIv (frF x).lo (frF x).hi,eOk (frF x).ok]:=by
 have h0:=bInt (n:=65536) (by omega) (by omega);have hz:Hz 5 ((65536:Int):Rat):=Hz.int (by decide);have hm:=hx.mul hz (l:=k+5);have h1:=bMul hx hz (by omega);have h2:=bFloor hm (by omega);have h3:=bNeg hm (by omega);have h4:=bFloor hm.neg (by omega);have e:x*((65536:Int):Rat)=x*65536:=by rfl
 rw[e]at h1 h2 h3 h4 hm;have sf:∀{y:Rat} {j:Nat},Hz j y→j<300010→Sm y.floor:=fun{y j} hy hj=>by have hs:=(hy.sr (by omega)).1.sm;rw[Rat.floor_def];exact Nat.lt_of_le_of_lt (Int.natAbs_ediv_le_natAbs _ _) hs
 have s1:=sf hm (by omega);have s2:=sf hm.neg (by omega);unfold frF;generalize (x*65536).floor=f at *;generalize (-(x*65536)).floor=g at *;have s3:Sm (-g):=by unfold Sm at s2 ⊢;rw[Int.natAbs_neg];exact s2
 have h5:=up (iNeg_ok s2);have g1:=bI64 s1;have g2:=bI64 s3;rw[encI_cells]at h2 h4 h5 g1 g2;rw[encI_cells]at h5;have p1:=cProperE f (-g);by_cases o1: -9223372036854775808≤f∧f≤9223372036854775807
 ·have i1:i64O f=(f,true):=if_pos o1;rw[i1]at g1 ⊢;by_cases o2: -9223372036854775808≤ -g∧ -g≤9223372036854775807
  ·have i2:i64O (-g)=(-g,true):=if_pos o2;rw[i2]at g2 ⊢;refine wpG Tryz.func329 ((vc_fFromRat ..).mpr ?_);exact⟨_,h0,_,h1,_,_,h2,_,_,g1,_,h3,_,_,h4,_,_,h5,_,_,g2,brT (brT ⟨_,_,_,p1,rfl⟩)⟩
  ·have i2:i64O (-g)=(0,false):=if_neg o2;rw[i2]at g2 ⊢;refine wpG Tryz.func329 ((vc_fFromRat ..).mpr ?_);exact⟨_,h0,_,h1,_,_,h2,_,_,g1,_,h3,_,_,h4,_,_,h5,_,_,g2,brT (brF rfl)⟩
 ·have i1:i64O f=(0,false):=if_neg o1;rw[i1]at g1 ⊢;refine wpG Tryz.func329 ((vc_fFromRat ..).mpr ?_);exact⟨_,h0,_,h1,_,_,h2,_,_,g1,_,h3,_,_,h4,_,_,h5,_,_,g2,brF rfl⟩
omit [Env] in
theorem frF_iv (x:Rat):IvB (frF x).lo (frF x).hi:=by
 have f1:=Rat.floor_le (x*65536);have f2:=Rat.floor_le (-(x*65536));unfold frF;generalize (x*65536).floor=f at *;generalize (-(x*65536)).floor=g at *;have fg:f≤ -g:=by
  have:(f:Rat)≤((-g:Int):Rat):=by rw[Rat.intCast_neg];grind
  exact Rat.intCast_le_intCast.1 this
 split
 ·unfold prF;split
  ·exact .zero
  ·rename_i h;rw[Bool.or_eq_false_iff,decide_eq_false_iff_not,decide_eq_false_iff_not]at h;unfold IvB FB;show(_≤f∧f≤_)∧(_≤ -g∧ -g≤_)∧f≤ -g;omega
 ·exact .zero
theorem frF_ok {x:Rat} {k:Nat} (hx:Hz k x) (h:k<300000:=by omega):FrOk x (frF x):=by
 have ga:=cFromRatE hx;refine⟨?_,frF_iv x⟩;refine wpG Tryz.func327 ((vc_fRoot ..).mpr ?_);cases e:(frF x).ok with
 |false=>rw[e]at ga;exact⟨_,_,_,ga,brF rfl⟩
 |true=>rw[e]at ga;exact⟨_,_,_,ga,brT ⟨_,bSign 0,brb (fun _=>rfl) (fun h=>by simp[sr]at h)⟩⟩
end
end Eng
end

section
namespace Eng
open Go Go.Proofs Rl
set_option maxRecDepth 100000
section
variable {ρ:Nat→Rat} {bd:Pol→Nat→Int}
def cellsE (ρ:Nat→Rat):List Pol→List D
 |[]=>[]
 |p::r=>cell4 (evP ρ p) 0::cell4 (evP ρ p) 1::cell4 (evP ρ p) 2::cell4 (evP ρ p) 3::cellsE ρ r
theorem tkR_cons (p:Pol) (r:List Pol):tkR (p::r)= .tok p 0:: .tok p 1:: .tok p 2:: .tok p 3::tkR r:=rfl
theorem tkRs {w:World} {F:Nat→Prop}:∀{l:List Pol} {vs:List Value},All2 (@CD (envP ρ bd) w F) (tkR l) vs↔All2 (@CD (envP ρ bd) w F) (cellsE ρ l) vs
 |[],vs=>Iff.rfl
 |p::r,vs=>by
  rw[tkR_cons];unfold cellsE
  match vs with
  |[]=>exact⟨fun h=>h.elim,fun h=>h.elim⟩
  |[_]=>exact⟨fun h=>h.2.elim,fun h=>h.2.elim⟩
  |[_,_]=>exact⟨fun h=>h.2.2.elim,fun h=>h.2.2.elim⟩
  |[_,_,_]=>exact⟨fun h=>h.2.2.2.elim,fun h=>h.2.2.2.elim⟩
  |a::b::c::d::vs=>
   exact⟨fun⟨h1,h2,h3,h4,h5⟩=>⟨(tokD rfl).1 h1,(tokD rfl).1 h2,(tokD rfl).1 h3,(tokD rfl).1 h4,tkRs.1 h5⟩,
    fun⟨h1,h2,h3,h4,h5⟩=>⟨(tokD rfl).2 h1,(tokD rfl).2 h2,(tokD rfl).2 h3,(tokD rfl).2 h4,tkRs.2 h5⟩⟩
theorem tkRA {w:World} {F:Nat→Prop} {l:List Pol} {v:Value}: @CA (envP ρ bd) w F (.ag (tkR l)) v↔ @CA (envP ρ bd) w F (.ag (cellsE ρ l)) v:=by
 unfold CA;exact⟨fun⟨vs,e,h⟩=>⟨vs,e,tkRs.1 h⟩,fun⟨vs,e,h⟩=>⟨vs,e,tkRs.2 h⟩⟩
theorem unTs_ok:∀{n:Nat} {ds:List D} {l:List Pol},unTs n ds=some l→ds=tkR l
 |0,ds,l,h=>by
  unfold unTs at h;split at h
  ·obtain rfl:=Option.some.inj h;rfl
  ·rename_i e;cases e
  ·cases h
 |n+1,ds,l,h=>by
  unfold unTs at h;split at h
  ·rename_i e;cases e
  ·rename_i m a b c d r e;obtain rfl:n=m:=by cases e;rfl
   split at h
   ·rename_i p l' hp hl;obtain rfl:=Option.some.inj h;rw[tkR_cons,←unTs_ok hl];have:=unT_ok hp;unfold tk at this;simp only[List.cons.injEq,and_true]at this;obtain⟨rfl,rfl,rfl,rfl⟩:=this;rfl
   ·cases h
  ·cases h
theorem small_hz (h:∀i,Hz 20 (ρ i)) {p:Pol} (hs:small p=true):Hz 70000 (evP ρ p):=by
 unfold small at hs;rw[Bool.and_eq_true,decide_eq_true_eq]at hs;exact(hz_evP h p hs.1).mono hs.2
theorem sqrt0 [Env]:Gives CC 183 [encR 0] [encR 0,.c (.bool true)]:=by
 refine runF_ok (C:=CC) (tab:=tabU) (lim:=1000) mixedT (fun f al rs h=>tabU_ok f al rs h) 40 _ _ _ ?_
 kernel_rfl
theorem moreT_ok {sg:Pol→Option Int} (hz:∀i,Hz 20 (ρ i)) (hb:∀p s,sg p=some s→sr (evP ρ p)=s) (f:Nat) (al rs:List A) (h:moreT sg f al=some rs): @Gives (envP ρ bd) CC f al rs:=by
 letI:Env:=envP ρ bd
 unfold moreT at h;split at h
 ·rename_i x;split at h
  ·rename_i e;rw[Bool.or_eq_true]at e;split at h
   ·rename_i p hp;obtain rfl:=unT_ok hp;split at h
    ·rename_i hs;obtain rfl:=Option.some.inj h;have hsr:=small_sr hz hs;rcases e with e|e
     ·obtain rfl:=Nat.eq_of_beq_eq_true e;exact(rValid_ok hsr).conv (fun _ _ _ h=>all1 h) (fun _ _ _ h=>h)
     ·obtain rfl:=Nat.eq_of_beq_eq_true e;exact(uValid_ok hsr).conv (fun _ _ _ h=>all1 h) (fun _ _ _ h=>h)
    ·cases h
   ·cases h
  ·split at h
   ·rename_i e;obtain rfl:=Nat.eq_of_beq_eq_true e;split at h
    ·rename_i hp;obtain rfl:=unT_ok hp;obtain rfl:=Option.some.inj h;refine sqrt0.conv (fun _ _ _ h=>all1 (p:=[]) h) (fun _ _ v h=>?_);obtain⟨vs,rfl,h⟩:=h;refine⟨vs,rfl,?_⟩;generalize vs.toList=l at h ⊢
     match l,h with
     |[u,v],h=>exact⟨tokA.2 h.1,h.2⟩
    ·cases h
   ·cases h
 ·rename_i l p;split at h
  ·rename_i e;obtain rfl:=Nat.eq_of_beq_eq_true e;split at h
   ·rename_i s hs;obtain rfl:=Option.some.inj h;unfold sideT at hs;split at hs
    ·rename_i a b c x y hl hp;split at hs
     ·rename_i hsm;simp only[Bool.and_eq_true]at hsm;obtain⟨ha,hb',hc,hx,hy⟩:=hsm;obtain rfl:=unTs_ok hl;obtain rfl:=unTs_ok hp;have:=pSideQ (small_hz hz ha) (small_hz hz hb') (small_hz hz hc) (small_hz hz hx) (small_hz hz hy);have e:=hb _ _ hs;rw[pSub_ev,pAdd_ev,pMul_ev,pMul_ev]at e;rw[e]at this;refine this.conv (fun w F vs hv=>?_) (fun _ _ _ h=>h)
      match vs,hv with
      |[u,v],hv=>exact⟨tkRA.1 hv.1,tkRA.1 hv.2.1,trivial⟩
     ·cases hs
    ·cases hs
   ·cases h
  ·cases h
 ·cases h
theorem tabG_ok {sg:Pol→Option Int} (hz:∀i,Hz 20 (ρ i)) (hb:∀p s,sg p=some s→sr (evP ρ p)=s) (f:Nat) (al rs:List A) (h:tabG sg f al=some rs): @Gives (envP ρ bd) CC f al rs:=by
 letI:Env:=envP ρ bd
 unfold tabG at h;split at h
 ·rename_i h1;obtain rfl:=Option.some.inj h;exact numT_ok numK_G hz hb f al _ h1
 ·split at h
  ·rename_i h1;obtain rfl:=Option.some.inj h;exact numT_ok numK_R hz hb f al _ h1
  ·split at h
   ·rename_i h1;obtain rfl:=Option.some.inj h;exact moreT_ok hz hb f al _ h1
   ·exact tabE_ok f al rs h
theorem tokOk (hz:∀i,Hz 20 (ρ i)) (hp:PosOk ρ bsT) (ha:ρ 2=ρ 4+ρ 6) (hb:ρ 3=ρ 5+ρ 7): @TokOk (envP ρ bd):=by
 letI:Env:=envP ρ bd
 refine⟨fun f al rs h=>tabG_ok hz (fun p s hs=>sgS_ok ρ hp ?_ p s hs) f al rs h⟩;have l1:∀i,evP ρ (lt i)=ρ i:=fun i=>by
  show(1:Rat)*evE ρ 0 (zE i [1])+0=_;rw[zE_ev,Nat.zero_add];show(1:Rat)*(ρ i*1*1)+0=_
  grind
 intro j q h;unfold sgT at h
 match j,h with
 |0,h=>obtain rfl:=Option.some.inj h;exact l1 0
 |1,h=>obtain rfl:=Option.some.inj h;exact l1 1
 |2,h=>obtain rfl:=Option.some.inj h;rw[pAdd_ev,l1,l1,ha]
 |3,h=>obtain rfl:=Option.some.inj h;rw[pAdd_ev,l1,l1,hb]
 |4,h=>obtain rfl:=Option.some.inj h;exact l1 4
 |5,h=>obtain rfl:=Option.some.inj h;exact l1 5
 |6,h=>obtain rfl:=Option.some.inj h;exact l1 6
 |7,h=>obtain rfl:=Option.some.inj h;exact l1 7
 |8,h=>obtain rfl:=Option.some.inj h;exact l1 8
 |9,h=>obtain rfl:=Option.some.inj h;exact l1 9
 |n+10,h=>cases h
end
end Eng
end

section
namespace Eng
open Go
section
variable {E:Env}
def evD (E:Env):D→D
 | .tok p i=>E.E p i
 |d=>d
theorem evD_iff {w:World} {F:Nat→Prop} {d:D} {v:Value}: @CD E w F d v↔ @CD E w F (evD E d) v:=by
 cases d with
 |tok p i=>exact⟨fun h=>by cases h;assumption,fun h=> @CD.tok E w F p i v h⟩
 |_=>exact Iff.rfl
theorem evL_iff {w:World} {F:Nat→Prop}:∀{ds:List D} {vs:List Value},All2 (@CD E w F) ds vs↔All2 (@CD E w F) (ds.map (evD E)) vs
 |[],_=>Iff.rfl
 |_::_,[]=>Iff.rfl
 |_::_,_::_=>and_congr evD_iff evL_iff
theorem evA_iff {w:World} {F:Nat→Prop} {ds:List D} {v:Value}: @CA E w F (.ag ds) v↔ @CA E w F (.ag (ds.map (evD E))) v:=by
 unfold CA;exact⟨fun⟨vs,e,h⟩=>⟨vs,e,evL_iff.1 h⟩,fun⟨vs,e,h⟩=>⟨vs,e,evL_iff.2 h⟩⟩
end
end Eng
end

section
namespace Eng
open Go Go.Proofs
set_option maxRecDepth 100000
variable [Env] [TokOk]
noncomputable def T1L:List (Nat×EffF):=[(390,effRI tabT CB 390 22),
 (398,effRI tabT CB 398 66),
 (467,effRI tabT CB 467 20)]
noncomputable def T1:Cx:=CX (T1L)
instance:EffOk (T1):=effOk_all (effX_ok ⟨effAt_RI (C:=CB) (C':=CX (T1L)) mixedT tabT_okX rfl rfl Tryz.func390 (by simp[Tryz.f390]) (by decide),
 effAt_RI (C:=CB) (C':=CX (T1L)) mixedT tabT_okX rfl rfl Tryz.func398 (by simp[Tryz.f398]) (by decide),
 effAt_RI (C:=CB) (C':=CX (T1L)) mixedT tabT_okX rfl rfl Tryz.func467 (by simp[Tryz.f467]) (by decide),trivial⟩)
noncomputable def T2L:List (Nat×EffF):=[(313,effRI tabT T1 313 22),
 (321,effRI tabT T1 321 66),
 (440,effRI tabT T1 440 20),
 (325,effRI tabT T1 325 66)]
noncomputable def T2:Cx:=CX (T2L)
instance:EffOk (T2):=effOk_all (effX_ok ⟨effAt_RI (C:=T1) (C':=CX (T2L)) mixedT tabT_okX rfl rfl Tryz.func313 (by simp[Tryz.f313]) (by decide),
 effAt_RI (C:=T1) (C':=CX (T2L)) mixedT tabT_okX rfl rfl Tryz.func321 (by simp[Tryz.f321]) (by decide),
 effAt_RI (C:=T1) (C':=CX (T2L)) mixedT tabT_okX rfl rfl Tryz.func440 (by simp[Tryz.f440]) (by decide),
 effAt_RI (C:=T1) (C':=CX (T2L)) mixedT tabT_okX rfl rfl Tryz.func325 (by simp[Tryz.f325]) (by decide),trivial⟩)
noncomputable def T3L:List (Nat×EffF):=[(237,effRI tabT T2 237 22),
 (245,effRI tabT T2 245 66),
 (394,effIf (effRG tabT CB CB 394) (effRI tabT T2 394 20)),
 (248,effRI tabT T2 248 66),
 (333,effIf (effRG tabT CB CB 333) (effRC1 tabT T2 333 20)),
 (397,effIf (effRG tabT CB CB 397) (effRC2 tabT T2 397 20)),
 (240,effIf (effRG tabT CB CB 240) (effRD tabT T2 240 20))]
noncomputable def T3:Cx:=CX (T3L)
instance:EffOk (T3):=effOk_all (effX_ok ⟨effAt_RI (C:=T2) (C':=CX (T3L)) mixedT tabT_okX rfl rfl Tryz.func237 (by simp[Tryz.f237]) (by decide),
 effAt_RI (C:=T2) (C':=CX (T3L)) mixedT tabT_okX rfl rfl Tryz.func245 (by simp[Tryz.f245]) (by decide),
 effAt_if (effAt_RG (C:=CB) (C':=CX (T3L)) mixedT tabT_okX rfl rfl) (effAt_RI (C:=T2) (C':=CX (T3L)) mixedT tabT_okX rfl rfl Tryz.func394 (by simp[Tryz.f394]) (by decide)),
 effAt_RI (C:=T2) (C':=CX (T3L)) mixedT tabT_okX rfl rfl Tryz.func248 (by simp[Tryz.f248]) (by decide),
 effAt_if (effAt_RG (C:=CB) (C':=CX (T3L)) mixedT tabT_okX rfl rfl) (effAt_RC1 (C:=T2) (C':=CX (T3L)) mixedT tabT_okX rfl rfl Tryz.func333 (by simp[Tryz.f333]) (by decide)),
 effAt_if (effAt_RG (C:=CB) (C':=CX (T3L)) mixedT tabT_okX rfl rfl) (effAt_RC2 (C:=T2) (C':=CX (T3L)) mixedT tabT_okX rfl rfl Tryz.func397 (by simp[Tryz.f397]) (by decide)),
 effAt_if (effAt_RG (C:=CB) (C':=CX (T3L)) mixedT tabT_okX rfl rfl) (effAt_RD (C:=T2) (C':=CX (T3L)) mixedT tabT_okX rfl rfl Tryz.func240 (by simp[Tryz.f240]) (by decide)),trivial⟩)
noncomputable def T4L:List (Nat×EffF):=[(237,effRI tabT T2 237 22),
 (245,effRI tabT T2 245 66),
 (394,effIf (effRG tabT CB CB 394) (effRI tabT T2 394 20)),
 (248,effRI tabT T2 248 66),
 (333,effIf (effRG tabT CB CB 333) (effRC1 tabT T2 333 20)),
 (397,effIf (effRG tabT CB CB 397) (effRC2 tabT T2 397 20)),
 (240,effIf (effRG tabT CB CB 240) (effRD tabT T2 240 20)),
 (243,effRT tabT T3 243)]
noncomputable def T4:Cx:=CX (T4L)
instance:EffOk (T4):=effOk_all (effX_ok ⟨effAt_RI (C:=T2) (C':=CX (T4L)) mixedT tabT_okX rfl rfl Tryz.func237 (by simp[Tryz.f237]) (by decide),
 effAt_RI (C:=T2) (C':=CX (T4L)) mixedT tabT_okX rfl rfl Tryz.func245 (by simp[Tryz.f245]) (by decide),
 effAt_if (effAt_RG (C:=CB) (C':=CX (T4L)) mixedT tabT_okX rfl rfl) (effAt_RI (C:=T2) (C':=CX (T4L)) mixedT tabT_okX rfl rfl Tryz.func394 (by simp[Tryz.f394]) (by decide)),
 effAt_RI (C:=T2) (C':=CX (T4L)) mixedT tabT_okX rfl rfl Tryz.func248 (by simp[Tryz.f248]) (by decide),
 effAt_if (effAt_RG (C:=CB) (C':=CX (T4L)) mixedT tabT_okX rfl rfl) (effAt_RC1 (C:=T2) (C':=CX (T4L)) mixedT tabT_okX rfl rfl Tryz.func333 (by simp[Tryz.f333]) (by decide)),
 effAt_if (effAt_RG (C:=CB) (C':=CX (T4L)) mixedT tabT_okX rfl rfl) (effAt_RC2 (C:=T2) (C':=CX (T4L)) mixedT tabT_okX rfl rfl Tryz.func397 (by simp[Tryz.f397]) (by decide)),
 effAt_if (effAt_RG (C:=CB) (C':=CX (T4L)) mixedT tabT_okX rfl rfl) (effAt_RD (C:=T2) (C':=CX (T4L)) mixedT tabT_okX rfl rfl Tryz.func240 (by simp[Tryz.f240]) (by decide)),
 effAt_RT (C:=T3) (C':=CX (T4L)) mixedT tabT_okX rfl rfl Tryz.func243 (by simp[Tryz.f243]) (by decide),trivial⟩)
noncomputable def KTL:List (Nat×EffF):=[(237,effRI tabT T2 237 22),
 (245,effRI tabT T2 245 66),
 (394,effIf (effRG tabT CB CB 394) (effRI tabT T2 394 20)),
 (248,effRI tabT T2 248 66),
 (333,effIf (effRG tabT CB CB 333) (effRC1 tabT T2 333 20)),
 (397,effIf (effRG tabT CB CB 397) (effRC2 tabT T2 397 20)),
 (240,effIf (effRG tabT CB CB 240) (effRD tabT T2 240 20)),
 (243,effRT tabT T3 243),
 (172,effRC1 tabT T4 172 66),
 (171,effRC2 tabT T4 171 66)]
noncomputable def KT:Cx:=CX (KTL)
instance:EffOk (KT):=effOk_all (effX_ok ⟨effAt_RI (C:=T2) (C':=CX (KTL)) mixedT tabT_okX rfl rfl Tryz.func237 (by simp[Tryz.f237]) (by decide),
 effAt_RI (C:=T2) (C':=CX (KTL)) mixedT tabT_okX rfl rfl Tryz.func245 (by simp[Tryz.f245]) (by decide),
 effAt_if (effAt_RG (C:=CB) (C':=CX (KTL)) mixedT tabT_okX rfl rfl) (effAt_RI (C:=T2) (C':=CX (KTL)) mixedT tabT_okX rfl rfl Tryz.func394 (by simp[Tryz.f394]) (by decide)),
 effAt_RI (C:=T2) (C':=CX (KTL)) mixedT tabT_okX rfl rfl Tryz.func248 (by simp[Tryz.f248]) (by decide),
 effAt_if (effAt_RG (C:=CB) (C':=CX (KTL)) mixedT tabT_okX rfl rfl) (effAt_RC1 (C:=T2) (C':=CX (KTL)) mixedT tabT_okX rfl rfl Tryz.func333 (by simp[Tryz.f333]) (by decide)),
 effAt_if (effAt_RG (C:=CB) (C':=CX (KTL)) mixedT tabT_okX rfl rfl) (effAt_RC2 (C:=T2) (C':=CX (KTL)) mixedT tabT_okX rfl rfl Tryz.func397 (by simp[Tryz.f397]) (by decide)),
 effAt_if (effAt_RG (C:=CB) (C':=CX (KTL)) mixedT tabT_okX rfl rfl) (effAt_RD (C:=T2) (C':=CX (KTL)) mixedT tabT_okX rfl rfl Tryz.func240 (by simp[Tryz.f240]) (by decide)),
 effAt_RT (C:=T3) (C':=CX (KTL)) mixedT tabT_okX rfl rfl Tryz.func243 (by simp[Tryz.f243]) (by decide),
 effAt_RC1 (C:=T4) (C':=CX (KTL)) mixedT tabT_okX rfl rfl Tryz.func172 (by simp[Tryz.f172]) (by decide),
 effAt_RC2 (C:=T4) (C':=CX (KTL)) mixedT tabT_okX rfl rfl Tryz.func171 (by simp[Tryz.f171]) (by decide),trivial⟩)
end Eng
end

section
namespace Eng
def cvT (a b c fx fy tx ty:Pol):List D:= .bool false::(tkR [a,b,c,[],[],[]]++ .bool false::tkR [fx,[],fy,[],[],tx,[],ty,[],[]])
def ptT (x y:Pol):List D:=tkR [x,[],y,[],[]]
def nA:Pol:=pNeg lA
def nB:Pol:=pNeg lB
def cB:List D:=cvT [] lA (pMul lA lY0) lX0 lY0 lX1 lY0
def cR':List D:=cvT nB [] (pMul nB lX1) lX1 lY0 lX1 lY1
def cT':List D:=cvT [] nA (pMul nA lY1) lX0 lY1 lX1 lY1
def cL':List D:=cvT lB [] (pMul lB lX0) lX0 lY0 lX0 lY1
def boxT:List A:=[.ag (tkR [lX0,lY0,lX1,lY1])]
def regT:List D:=[.sl [cB,cL',cT',cR']]
def plX (k:Nat):Pol:=match k with
 |0=>pAdd lX0 (pNeg (lt 8))
 |1=>lX0
 |2=>pAdd lX0 (lt 4)
 |3=>lX1
 |_=>pAdd lX1 (lt 8)
def plY (k:Nat):Pol:=match k with
 |0=>pAdd lY0 (pNeg (lt 9))
 |1=>lY0
 |2=>pAdd lY0 (lt 5)
 |3=>lY1
 |_=>pAdd lY1 (lt 9)
def zR:List D:=[.bool false,.sl [],.bool false,.sl []]
def cvR (a b c fx fy tx ty:Pol):List D:= .bool false::(tkR [a,b,c]++zR++zR++zR++ .bool false::tkR [fx,[],fy,[],[],tx,[],ty,[],[]])
def wB:List D:=cvR [] lA (pMul lA lY0) lX0 lY0 lX1 lY0
def wR:List D:=cvR nB [] (pMul nB lX1) lX1 lY0 lX1 lY1
def wT:List D:=cvR [] nA (pMul nA lY1) lX0 lY1 lX1 lY1
def wL:List D:=cvR lB [] (pMul lB lX0) lX0 lY0 lX0 lY1
def wantT:List D:=[.sl [wB,wL,wT,wR]]
end Eng
end
