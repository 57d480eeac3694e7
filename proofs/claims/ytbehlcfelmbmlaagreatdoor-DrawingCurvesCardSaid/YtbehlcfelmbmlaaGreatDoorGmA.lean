/- Sizes of numbers over a common denominator (plain). -/
import Derived.Test.YtbehlcfelmbmlaaGreatDoorRefB
import Derived.Test.YtbehlcfelmbmlaaGreatDoorCtxB
import Derived.Test.YtbehlcfelmbmlaaGreatDoorTxA
import Derived.Test.YtbehlcfelmbmlaaGreatDoorCurA
import Derived.KernelRfl
open Eng.A renaming ag→Aa, c→Ab
open Eng.D renaming bool→Ac, sl→Ad, int→Ae
open Go.IntKind renaming wrap→Af, u32→Ah
open Int renaming ofNat→Ai, natAbs_natCast→Aj, natCast_mul→Ak, tdiv→Al, natAbs_mul→Am, ofNat_eq_natCast→An, toNat→Ao
open List renaming replicate→Ap, length→Aq, length_replicate→Ar
open Nat renaming pow_le_pow_right→As, lt_of_lt_of_le→At, pow_lt_pow_right→Au, mul_lt_mul''→Av, lt_of_le_of_lt→Aw, lt_trans→Ax, pow_add→Ay, mul_pos→Az, mul_assoc→A0, pow_mul→A1, div_le_self→A2, lt_or_ge→A3, gcd→A4
open Rat renaming div_def→A5, divInt_eq_div→A6, divInt_mul_divInt→A7, num_divInt_den→A8, divInt→A9, num_eq_zero→AA, mul_eq_zero→AB, inv_divInt→AC, one_mul→AD
section
namespace Eng
open Go Go.Proofs
set_option maxRecDepth 1000000
def FD (d k:Nat) (x:Rat):Prop:=∃n:Int,x=A9 n d∧n.natAbs<10^k
theorem powE {b i j k n:Nat} (h:n=i*j*k):((b^i)^j)^k=b^n:=by
 rw[h,A1,A1]
theorem BA (k:Nat) (hk:k=9*100*4):kN=10^k:=by
 rw[←powE hk];rfl
theorem JD {k:Nat} (h:k≤3600):10^k≤kN:=by
 obtain⟨n,hn⟩:∃n,n=9*100*4:=⟨_,rfl⟩;rw[BA n hn];exact As (by omega) (by omega)
theorem FD.sr {d k:Nat} {x:Rat} (h:FD d k x) {j:Nat} (hd:0<d) (hk:k≤3600) (hdk:d<10^j) (hj:j≤3600):Sr x:=by
 obtain⟨n,rfl,hn⟩:=h;obtain⟨h1,h2⟩:=k5 (n:=n) (d:=(d:Int)) (by omega);have hg:0<A4 n.natAbs (d:Int).natAbs:=Nat.gcd_pos_of_pos_right _ (by omega);refine⟨?_,?_⟩
 ·unfold Sq;rw[h1];have:(n/((A4 n.natAbs (d:Int).natAbs:Nat):Int)).natAbs≤n.natAbs:=by have hdv:((A4 n.natAbs (d:Int).natAbs:Nat):Int)∣n:=Int.ofNat_dvd_left.2 (Nat.gcd_dvd_left _ _);rw[Int.natAbs_ediv_of_dvd hdv,Aj];exact A2 _ _
  exact Aw this (At hn (JD hk))
 ·unfold Sq;have:((A9 n d).den:Int).natAbs≤d:=by
   have h3:((A9 n d).den:Int)≤(d:Int):=by rw[h2];exact Int.ediv_le_self _ (by omega)
   omega
  exact Aw this (At hdk (JD hj))
theorem FD.mono {d j k:Nat} {x:Rat} (h:FD d j x) (hj:j≤k):FD d k x:=by
 obtain⟨n,e,hn⟩:=h;exact⟨n,e,At hn (As (by omega) hj)⟩
theorem FD.neg {d k:Nat} {x:Rat} (h:FD d k x):FD d k (-x):=by
 obtain⟨n,rfl,hn⟩:=h;exact⟨-n,Rat.neg_divInt _ _,by rw[Int.natAbs_neg];exact hn⟩
theorem FD.add {d j k:Nat} {x y:Rat} (hx:FD d k x) (hy:FD d k y) (hj:k+1≤j):FD d j (x+y):=by
 obtain⟨m,rfl,hm⟩:=hx;obtain⟨n,rfl,hn⟩:=hy;refine⟨m+n,?_,?_⟩
 ·rw[A6,A6,A6,Rat.intCast_add,A5,A5,A5,Rat.add_mul]
 ·have h1:(m+n).natAbs≤m.natAbs+n.natAbs:=Int.natAbs_add_le _ _;have h2:10^(k+1)≤10^j:=As (by omega) hj;rw[Nat.pow_succ]at h2;omega
theorem FD.sub {d j k:Nat} {x y:Rat} (hx:FD d k x) (hy:FD d k y) (hj:k+1≤j):FD d j (x-y):=by
 rw[Rat.sub_eq_add_neg];exact hx.add hy.neg hj
theorem FD.mul {d e j k l:Nat} {x y:Rat} (hx:FD d j x) (hy:FD e k y) (hl:j+k≤l):FD (d*e) l (x*y):=by
 obtain⟨m,rfl,hm⟩:=hx;obtain⟨n,rfl,hn⟩:=hy;refine⟨m*n,?_,?_⟩
 ·rw[A7,Ak]
 ·rw[Am];have h1:=Av hm hn;rw[←Ay]at h1;exact At h1 (As (by omega) hl)
theorem FD.up {d e j k l:Nat} {x:Rat} (hx:FD d j x) (he:e<10^k) (he0:0<e) (hl:j+k≤l):FD (d*e) l x:=by
 have h1:FD e k 1:=⟨(e:Int),by rw[A6,A5,Rat.mul_inv_cancel];intro h;have h2:(e:Int)=0:=Rat.intCast_inj.1 (h:(((e:Int):Rat))=((0:Int):Rat));exact absurd h2 (by omega),by rw[Aj];exact he⟩;have:=hx.mul h1 hl
 rwa [Rat.mul_one]at this
theorem FD.div {d e j l k:Nat} {x y:Rat} {b:Int} (hx:FD d j x) (hy:y=A9 b e) (hb0:b≠0) (he:e<10^l) (hk:j+l≤k):FD (d*b.natAbs) k (x/y):=by
 obtain⟨a,rfl,ha⟩:=hx;subst hy;refine⟨a*e*b.sign,?_,?_⟩
 ·rw[A5,AC,A7];have hs:b.sign*b.sign=1:=by
   rcases Int.lt_trichotomy b 0 with h|h|h
   ·rw[Int.sign_eq_neg_one_of_neg h];rfl
   ·exact absurd h hb0
   ·rw[Int.sign_eq_one_of_pos h];rfl
  have hn:(b.natAbs:Int)=b*b.sign:=(Int.mul_sign_self b).symm;rw[Ak,hn,←Int.mul_assoc];have hs0:b.sign≠0:=by intro h;rw[h]at hs;simp at hs
  exact(Rat.divInt_mul_right hs0).symm
 ·rw[Am,Am,Aj,Int.natAbs_sign_of_ne_zero hb0,Nat.mul_one];refine At (Av ha he) ?_;rw[←Ay];exact As (by omega) hk
theorem FD.self {x:Rat} {j k:Nat} (h1:x.num.natAbs<10^j) (hj:j≤k):FD x.den k x:=
 ⟨x.num,(A8 x).symm,At h1 (As (by omega) hj)⟩
end Eng
end

section
open Go Go.Proofs Eng
set_option maxRecDepth 1000000
namespace Eng
section
variable (Gv:Nat→List A→List A→Prop) (Q:List A→Prop) (I0 I1 I2 I3:List D→List D→Prop) (M0 M1 M2 M3:List D→Nat)
theorem OM (p0:Bool) (l0:List (List D)) (q0:Bool) (m0:List (List D)) (p1:Bool) (l1:List (List D)) (q1:Bool) (m1:List (List D)):wpF CC Gv an0 Tryz.f174 [.ag [.bool p0,.sl l0,.bool q0,.sl m0],.ag [.bool p1,.sl l1,.bool q1,.sl m1]] Q=(
 ∃b es b1 e1,Gv 97 [Aa [Ac p0,Ad l0,Ac q0,Ad m0],Aa [Ac p1,Ad l1,Ac q1,Ad m1]] [Aa [Ac b,Ad es,Ac b1,Ad e1]]∧Q [Aa [Ac b,Ad es,Ac b1,Ad e1]]):=by kernel_rfl
theorem L9 (p0:Bool) (l0:List (List D)) (q0:Bool) (m0:List (List D)):wpF CC Gv an0 Tryz.f175 [.ag [.bool p0,.sl l0,.bool q0,.sl m0]] Q=(
 ∃n,Gv 148 [Aa [Ac p0,Ad l0,Ac q0,Ad m0]] [Ab (Ae .i64 n)]∧Q [Ab (Ac (n==0))]):=by kernel_rfl
theorem ON (p0:Bool) (l0:List (List D)) (q0:Bool) (m0:List (List D)) (p1:Bool) (l1:List (List D)) (q1:Bool) (m1:List (List D)):wpF CC Gv an0 Tryz.f176 [.ag [.bool p0,.sl l0,.bool q0,.sl m0],.ag [.bool p1,.sl l1,.bool q1,.sl m1]] Q=(
 ∃b es b1 e1,Gv 180 [Aa [Ac p0,Ad l0,Ac q0,Ad m0],Aa [Ac p1,Ad l1,Ac q1,Ad m1]] [Aa [Ac b,Ad es,Ac b1,Ad e1]]∧Q [Aa [Ac b,Ad es,Ac b1,Ad e1]]):=by kernel_rfl
theorem OO (p0:Bool) (l0:List (List D)) (q0:Bool) (m0:List (List D)) (p1:Bool) (l1:List (List D)) (q1:Bool) (m1:List (List D)):wpF CC Gv an0 Tryz.f177 [.ag [.bool p0,.sl l0,.bool q0,.sl m0],.ag [.bool p1,.sl l1,.bool q1,.sl m1]] Q=(
 ∃b es b1 e1,Gv 50 [Aa [Ac p0,Ad l0,Ac q0,Ad m0],Aa [Ac p1,Ad l1,Ac q1,Ad m1]] [Aa [Ac b,Ad es,Ac b1,Ad e1]]∧Q [Aa [Ac b,Ad es,Ac b1,Ad e1]]):=by kernel_rfl
theorem OP (p0:Bool) (l0:List (List D)) (q0:Bool) (m0:List (List D)) (p1:Bool) (l1:List (List D)) (q1:Bool) (m1:List (List D)):wpF CC Gv an0 Tryz.f264 [.ag [.bool p0,.sl l0,.bool q0,.sl m0],.ag [.bool p1,.sl l1,.bool q1,.sl m1]] Q=(
 ∃n,Gv 148 [Aa [Ac p1,Ad l1,Ac q1,Ad m1]] [Ab (Ae .i64 n)]∧br (toB (Ac (n==0))) (Q [Aa [Ac false,Ad [],Ac false,Ad []],Ab (Ae .i64 6)]) (∃b es,Gv 101 [Aa [Ac p0,Ad l0],Aa [Ac q1,Ad m1]] [Aa [Ac b,Ad es]]∧∃b1 e1,Gv 101 [Aa [Ac q0,Ad m0],Aa [Ac p1,Ad l1]] [Aa [Ac b1,Ad e1]]∧∃b2 e2 b3 e3,Gv 100 [Aa [Ac b,Ad es],Aa [Ac b1,Ad e1]] [Aa [Ac b2,Ad e2,Ac b3,Ad e3]]∧Q [Aa [Ac b2,Ad e2,Ac b3,Ad e3],Ab (Ae .i64 0)])):=by kernel_rfl
theorem LA (p0:Bool) (l0:List (List D)) (q0:Bool) (m0:List (List D)) (p1:Bool) (l1:List (List D)) (q1:Bool) (m1:List (List D)):wpF CC Gv an0 Tryz.f179 [.ag [.bool p0,.sl l0,.bool q0,.sl m0],.ag [.bool p1,.sl l1,.bool q1,.sl m1]] Q=(
 ∃b es b1 e1 n,Gv 264 [Aa [Ac p0,Ad l0,Ac q0,Ad m0],Aa [Ac p1,Ad l1,Ac q1,Ad m1]] [Aa [Ac b,Ad es,Ac b1,Ad e1],Ab (Ae .i64 n)]∧br (toB (Ac (n !=0))) (∃b es b2 e2,Gv 121 [Ab (Ae .i64 0)] [Aa [Ac b,Ad es,Ac b2,Ad e2]]∧Q [Aa [Ac b,Ad es,Ac b2,Ad e2]]) (Q [Aa [Ac b,Ad es,Ac b1,Ad e1]])):=by kernel_rfl
theorem RN:wpF CC Gv an0 Tryz.f178 [] Q=(
 ∃b es b1 e1,Gv 121 [Ab (Ae .i64 0)] [Aa [Ac b,Ad es,Ac b1,Ad e1]]∧Q [Aa [Ac b,Ad es,Ac b1,Ad e1]]):=by kernel_rfl
theorem KP (p0:Bool) (l0:List (List D)) (q0:Bool) (m0:List (List D)) (p1:Bool) (l1:List (List D)) (q1:Bool) (m1:List (List D)) (p2:Bool) (l2:List (List D)) (q2:Bool) (m2:List (List D)) (p3:Bool) (l3:List (List D)) (q3:Bool) (m3:List (List D)):wpF CC Gv an0 Tryz.f93 [.ag [.bool p0,.sl l0,.bool q0,.sl m0,.bool p1,.sl l1,.bool q1,.sl m1],.ag [.bool p2,.sl l2,.bool q2,.sl m2,.bool p3,.sl l3,.bool q3,.sl m3]] Q=(
 ∃b es b1 e1,Gv 174 [Aa [Ac p1,Ad l1,Ac q1,Ad m1],Aa [Ac p3,Ad l3,Ac q3,Ad m3]] [Aa [Ac b,Ad es,Ac b1,Ad e1]]∧∃b2 e2 b3 e3,Gv 174 [Aa [Ac p2,Ad l2,Ac q2,Ad m2],Aa [Ac p0,Ad l0,Ac q0,Ad m0]] [Aa [Ac b2,Ad e2,Ac b3,Ad e3]]∧∃b4,Gv 175 [Aa [Ac b,Ad es,Ac b1,Ad e1]] [Ab (Ac b4)]∧br b4 (∃b5,Gv 175 [Aa [Ac b2,Ad e2,Ac b3,Ad e3]] [Ab (Ac b5)]∧br b5 (Q [Aa [Ac false,Ad [],Ac false,Ad [],Ac false,Ad [],Ac false,Ad [],Ac false,Ad [],Ac false,Ad []],Ab (Ae .i64 6)]) (∃b6 e4 b7 e5,Gv 177 [Aa [Ac b,Ad es,Ac b1,Ad e1],Aa [Ac p0,Ad l0,Ac q0,Ad m0]] [Aa [Ac b6,Ad e4,Ac b7,Ad e5]]∧∃b8 e6 b9 e7,Gv 177 [Aa [Ac b2,Ad e2,Ac b3,Ad e3],Aa [Ac p1,Ad l1,Ac q1,Ad m1]] [Aa [Ac b8,Ad e6,Ac b9,Ad e7]]∧∃b10 e8 b11 e9,Gv 176 [Aa [Ac b6,Ad e4,Ac b7,Ad e5],Aa [Ac b8,Ad e6,Ac b9,Ad e7]] [Aa [Ac b10,Ad e8,Ac b11,Ad e9]]∧Q [Aa [Ac b,Ad es,Ac b1,Ad e1,Ac b2,Ad e2,Ac b3,Ad e3,Ac b10,Ad e8,Ac b11,Ad e9],Ab (Ae .i64 0)])) (∃b5 e4 b6 e5,Gv 177 [Aa [Ac b,Ad es,Ac b1,Ad e1],Aa [Ac p0,Ad l0,Ac q0,Ad m0]] [Aa [Ac b5,Ad e4,Ac b6,Ad e5]]∧∃b7 e6 b8 e7,Gv 177 [Aa [Ac b2,Ad e2,Ac b3,Ad e3],Aa [Ac p1,Ad l1,Ac q1,Ad m1]] [Aa [Ac b7,Ad e6,Ac b8,Ad e7]]∧∃b9 e8 b10 e9,Gv 176 [Aa [Ac b5,Ad e4,Ac b6,Ad e5],Aa [Ac b7,Ad e6,Ac b8,Ad e7]] [Aa [Ac b9,Ad e8,Ac b10,Ad e9]]∧Q [Aa [Ac b,Ad es,Ac b1,Ad e1,Ac b2,Ad e2,Ac b3,Ad e3,Ac b9,Ad e8,Ac b10,Ad e9],Ab (Ae .i64 0)])):=by kernel_rfl
theorem LB:wpF CC Gv an0 Tryz.f94 [] Q=(
 ∃b es b1 e1,Gv 121 [Ab (Ae .i64 0)] [Aa [Ac b,Ad es,Ac b1,Ad e1]]∧Q [Aa [Ac false,Ac b,Ad es,Ac b1,Ad e1,Ac b,Ad es,Ac b1,Ad e1,Ac b,Ad es,Ac b1,Ad e1,Ac b,Ad es,Ac b1,Ad e1,Ac b,Ad es,Ac b1,Ad e1,Ac b,Ad es,Ac b1,Ad e1,Ac false,Ac false,Ad [],Ac false,Ad [],Ac false,Ad [],Ac false,Ad [],Ac false,Ad [],Ac false,Ad [],Ac false,Ad [],Ac false,Ad [],Ac false,Ad [],Ac false,Ad [],Ac false,Ad [],Ac false,Ad [],Ac false,Ad [],Ac false,Ad [],Ac false,Ad [],Ac false,Ad [],Ac false,Ad [],Ac false,Ad [],Ac false,Ad [],Ac false,Ad []]]):=by kernel_rfl
theorem RO (p0:Bool) (l0:List (List D)) (q0:Bool) (m0:List (List D)) (p1:Bool) (l1:List (List D)) (q1:Bool) (m1:List (List D)):wpF CC Gv an0 Tryz.f95 [.ag [.bool p0,.sl l0,.bool q0,.sl m0,.bool p1,.sl l1,.bool q1,.sl m1]] Q=(
 ∃b es b1 e1,Gv 178 [] [Aa [Ac b,Ad es,Ac b1,Ad e1]]∧∃b2 e2 b3 e3,Gv 178 [] [Aa [Ac b2,Ad e2,Ac b3,Ad e3]]∧∃b4 e4 b5 e5,Gv 178 [] [Aa [Ac b4,Ad e4,Ac b5,Ad e5]]∧Q [Aa [Ac p0,Ad l0,Ac q0,Ad m0,Ac b,Ad es,Ac b1,Ad e1,Ac p1,Ad l1,Ac q1,Ad m1,Ac b2,Ad e2,Ac b3,Ad e3,Ac b4,Ad e4,Ac b5,Ad e5]]):=by kernel_rfl
theorem YO (p0:Bool) (l0:List (List D)) (q0:Bool) (m0:List (List D)) (p1:Bool) (l1:List (List D)) (q1:Bool) (m1:List (List D)) (p2:Bool) (l2:List (List D)) (q2:Bool) (m2:List (List D)) (p3:Bool) (l3:List (List D)) (q3:Bool) (m3:List (List D)) (p4:Bool) (l4:List (List D)) (q4:Bool) (m4:List (List D)) (p5:Bool) (l5:List (List D)) (q5:Bool) (m5:List (List D)):wpF CC Gv an0 Tryz.f96 [.ag [.bool p0,.sl l0,.bool q0,.sl m0,.bool p1,.sl l1,.bool q1,.sl m1],.ag [.bool p2,.sl l2,.bool q2,.sl m2,.bool p3,.sl l3,.bool q3,.sl m3],.ag [.bool p4,.sl l4,.bool q4,.sl m4,.bool p5,.sl l5,.bool q5,.sl m5]] Q=(
 ∃b es b1 e1,Gv 174 [Aa [Ac p2,Ad l2,Ac q2,Ad m2],Aa [Ac p0,Ad l0,Ac q0,Ad m0]] [Aa [Ac b,Ad es,Ac b1,Ad e1]]∧∃b2 e2 b3 e3,Gv 174 [Aa [Ac p3,Ad l3,Ac q3,Ad m3],Aa [Ac p1,Ad l1,Ac q1,Ad m1]] [Aa [Ac b2,Ad e2,Ac b3,Ad e3]]∧∃b4 e4 b5 e5,Gv 174 [Aa [Ac p4,Ad l4,Ac q4,Ad m4],Aa [Ac p0,Ad l0,Ac q0,Ad m0]] [Aa [Ac b4,Ad e4,Ac b5,Ad e5]]∧∃b6 e6 b7 e7,Gv 174 [Aa [Ac p5,Ad l5,Ac q5,Ad m5],Aa [Ac p1,Ad l1,Ac q1,Ad m1]] [Aa [Ac b6,Ad e6,Ac b7,Ad e7]]∧∃b8 e8 b9 e9,Gv 177 [Aa [Ac b,Ad es,Ac b1,Ad e1],Aa [Ac b6,Ad e6,Ac b7,Ad e7]] [Aa [Ac b8,Ad e8,Ac b9,Ad e9]]∧∃b10 e10 b11 e11,Gv 177 [Aa [Ac b2,Ad e2,Ac b3,Ad e3],Aa [Ac b4,Ad e4,Ac b5,Ad e5]] [Aa [Ac b10,Ad e10,Ac b11,Ad e11]]∧∃b12 e12 b13 e13,Gv 174 [Aa [Ac b8,Ad e8,Ac b9,Ad e9],Aa [Ac b10,Ad e10,Ac b11,Ad e11]] [Aa [Ac b12,Ad e12,Ac b13,Ad e13]]∧∃b14,Gv 175 [Aa [Ac b12,Ad e12,Ac b13,Ad e13]] [Ab (Ac b14)]∧br b14 (Q [Aa [Ac false,Ad [],Ac false,Ad [],Ac false,Ad [],Ac false,Ad [],Ac false,Ad [],Ac false,Ad []],Ab (Ae .i64 6)]) (∃b15 e14 b16 e15,Gv 176 [Aa [Ac b12,Ad e12,Ac b13,Ad e13],Aa [Ac b12,Ad e12,Ac b13,Ad e13]] [Aa [Ac b15,Ad e14,Ac b16,Ad e15]]∧∃b17 e16 b18 e17,Gv 177 [Aa [Ac b,Ad es,Ac b1,Ad e1],Aa [Ac b,Ad es,Ac b1,Ad e1]] [Aa [Ac b17,Ad e16,Ac b18,Ad e17]]∧∃b19 e18 b20 e19,Gv 177 [Aa [Ac b2,Ad e2,Ac b3,Ad e3],Aa [Ac b2,Ad e2,Ac b3,Ad e3]] [Aa [Ac b19,Ad e18,Ac b20,Ad e19]]∧∃b21 e20 b22 e21,Gv 176 [Aa [Ac b17,Ad e16,Ac b18,Ad e17],Aa [Ac b19,Ad e18,Ac b20,Ad e19]] [Aa [Ac b21,Ad e20,Ac b22,Ad e21]]∧∃b23 e22 b24 e23,Gv 177 [Aa [Ac b4,Ad e4,Ac b5,Ad e5],Aa [Ac b4,Ad e4,Ac b5,Ad e5]] [Aa [Ac b23,Ad e22,Ac b24,Ad e23]]∧∃b25 e24 b26 e25,Gv 177 [Aa [Ac b6,Ad e6,Ac b7,Ad e7],Aa [Ac b6,Ad e6,Ac b7,Ad e7]] [Aa [Ac b25,Ad e24,Ac b26,Ad e25]]∧∃b27 e26 b28 e27,Gv 176 [Aa [Ac b23,Ad e22,Ac b24,Ad e23],Aa [Ac b25,Ad e24,Ac b26,Ad e25]] [Aa [Ac b27,Ad e26,Ac b28,Ad e27]]∧∃b29 e28 b30 e29,Gv 177 [Aa [Ac b21,Ad e20,Ac b22,Ad e21],Aa [Ac b6,Ad e6,Ac b7,Ad e7]] [Aa [Ac b29,Ad e28,Ac b30,Ad e29]]∧∃b31 e30 b32 e31,Gv 177 [Aa [Ac b27,Ad e26,Ac b28,Ad e27],Aa [Ac b2,Ad e2,Ac b3,Ad e3]] [Aa [Ac b31,Ad e30,Ac b32,Ad e31]]∧∃b33 e32 b34 e33,Gv 174 [Aa [Ac b29,Ad e28,Ac b30,Ad e29],Aa [Ac b31,Ad e30,Ac b32,Ad e31]] [Aa [Ac b33,Ad e32,Ac b34,Ad e33]]∧∃b35 e34 b36 e35,Gv 179 [Aa [Ac b33,Ad e32,Ac b34,Ad e33],Aa [Ac b15,Ad e14,Ac b16,Ad e15]] [Aa [Ac b35,Ad e34,Ac b36,Ad e35]]∧∃b37 e36 b38 e37,Gv 177 [Aa [Ac b27,Ad e26,Ac b28,Ad e27],Aa [Ac b,Ad es,Ac b1,Ad e1]] [Aa [Ac b37,Ad e36,Ac b38,Ad e37]]∧∃b es b39 e38,Gv 177 [Aa [Ac b21,Ad e20,Ac b22,Ad e21],Aa [Ac b4,Ad e4,Ac b5,Ad e5]] [Aa [Ac b,Ad es,Ac b39,Ad e38]]∧∃b40 e39 b41 e40,Gv 174 [Aa [Ac b37,Ad e36,Ac b38,Ad e37],Aa [Ac b,Ad es,Ac b39,Ad e38]] [Aa [Ac b40,Ad e39,Ac b41,Ad e40]]∧∃b es b42 e41,Gv 179 [Aa [Ac b40,Ad e39,Ac b41,Ad e40],Aa [Ac b15,Ad e14,Ac b16,Ad e15]] [Aa [Ac b,Ad es,Ac b42,Ad e41]]∧∃b43 e42 b44 e43,Gv 176 [Aa [Ac p0,Ad l0,Ac q0,Ad m0],Aa [Ac b35,Ad e34,Ac b36,Ad e35]] [Aa [Ac b43,Ad e42,Ac b44,Ad e43]]∧∃b45 e44 b46 e45,Gv 176 [Aa [Ac p1,Ad l1,Ac q1,Ad m1],Aa [Ac b,Ad es,Ac b42,Ad e41]] [Aa [Ac b45,Ad e44,Ac b46,Ad e45]]∧∃b47 e46 b48 e47,Gv 177 [Aa [Ac b35,Ad e34,Ac b36,Ad e35],Aa [Ac b35,Ad e34,Ac b36,Ad e35]] [Aa [Ac b47,Ad e46,Ac b48,Ad e47]]∧∃b49 e48 b50 e49,Gv 177 [Aa [Ac b,Ad es,Ac b42,Ad e41],Aa [Ac b,Ad es,Ac b42,Ad e41]] [Aa [Ac b49,Ad e48,Ac b50,Ad e49]]∧∃b es b51 e50,Gv 176 [Aa [Ac b47,Ad e46,Ac b48,Ad e47],Aa [Ac b49,Ad e48,Ac b50,Ad e49]] [Aa [Ac b,Ad es,Ac b51,Ad e50]]∧Q [Aa [Ac b43,Ad e42,Ac b44,Ad e43,Ac b45,Ad e44,Ac b46,Ad e45,Ac b,Ad es,Ac b51,Ad e50],Ab (Ae .i64 0)])):=by kernel_rfl
theorem KQ (p0:Bool) (l0:List (List D)) (q0:Bool) (m0:List (List D)) (p1:Bool) (l1:List (List D)) (q1:Bool) (m1:List (List D)) (p2:Bool) (l2:List (List D)) (q2:Bool) (m2:List (List D)) (p3:Bool) (l3:List (List D)) (q3:Bool) (m3:List (List D)):wpF CC Gv an0 Tryz.f47 [.ag [.bool p0,.sl l0,.bool q0,.sl m0,.bool p1,.sl l1,.bool q1,.sl m1],.ag [.bool p2,.sl l2,.bool q2,.sl m2,.bool p3,.sl l3,.bool q3,.sl m3]] Q=(
 ∃b es b1 e1 b2 e2 b3 e3 b4 e4 b5 e5 n,Gv 93 [Aa [Ac p0,Ad l0,Ac q0,Ad m0,Ac p1,Ad l1,Ac q1,Ad m1],Aa [Ac p2,Ad l2,Ac q2,Ad m2,Ac p3,Ad l3,Ac q3,Ad m3]] [Aa [Ac b,Ad es,Ac b1,Ad e1,Ac b2,Ad e2,Ac b3,Ad e3,Ac b4,Ad e4,Ac b5,Ad e5],Ab (Ae .i64 n)]∧br (toB (Ac (n !=0))) (Q [Aa [Ac false,Ac false,Ad [],Ac false,Ad [],Ac false,Ad [],Ac false,Ad [],Ac false,Ad [],Ac false,Ad [],Ac false,Ad [],Ac false,Ad [],Ac false,Ad [],Ac false,Ad [],Ac false,Ad [],Ac false,Ad [],Ac false,Ac false,Ad [],Ac false,Ad [],Ac false,Ad [],Ac false,Ad [],Ac false,Ad [],Ac false,Ad [],Ac false,Ad [],Ac false,Ad [],Ac false,Ad [],Ac false,Ad [],Ac false,Ad [],Ac false,Ad [],Ac false,Ad [],Ac false,Ad [],Ac false,Ad [],Ac false,Ad [],Ac false,Ad [],Ac false,Ad [],Ac false,Ad [],Ac false,Ad []],Ab (Ae .i64 6)]) (∃b6 b7 e6 b8 e7 b9 e8 b10 e9 b11 e10 b12 e11 b13 e12 b14 e13 b15 e14 b16 e15 b17 e16 b18 e17 b19 b20 e18 b21 e19 b22 e20 b23 e21 b24 e22 b25 e23 b26 e24 b27 e25 b28 e26 b29 e27 b30 e28 b31 e29 b32 e30 b33 e31 b34 e32 b35 e33 b36 e34 b37 e35 b38 e36 b39 e37,Gv 94 [] [Aa [Ac b6,Ac b7,Ad e6,Ac b8,Ad e7,Ac b9,Ad e8,Ac b10,Ad e9,Ac b11,Ad e10,Ac b12,Ad e11,Ac b13,Ad e12,Ac b14,Ad e13,Ac b15,Ad e14,Ac b16,Ad e15,Ac b17,Ad e16,Ac b18,Ad e17,Ac b19,Ac b20,Ad e18,Ac b21,Ad e19,Ac b22,Ad e20,Ac b23,Ad e21,Ac b24,Ad e22,Ac b25,Ad e23,Ac b26,Ad e24,Ac b27,Ad e25,Ac b28,Ad e26,Ac b29,Ad e27,Ac b30,Ad e28,Ac b31,Ad e29,Ac b32,Ad e30,Ac b33,Ad e31,Ac b34,Ad e32,Ac b35,Ad e33,Ac b36,Ad e34,Ac b37,Ad e35,Ac b38,Ad e36,Ac b39,Ad e37]]∧∃b40 e38 b41 e39 b42 e40 b43 e41 b44 e42 b45 e43 b46 e44 b47 e45 b48 e46 b49 e47,Gv 95 [Aa [Ac p0,Ad l0,Ac q0,Ad m0,Ac p1,Ad l1,Ac q1,Ad m1]] [Aa [Ac b40,Ad e38,Ac b41,Ad e39,Ac b42,Ad e40,Ac b43,Ad e41,Ac b44,Ad e42,Ac b45,Ad e43,Ac b46,Ad e44,Ac b47,Ad e45,Ac b48,Ad e46,Ac b49,Ad e47]]∧∃b50 e48 b51 e49 b52 e50 b53 e51 b54 e52 b55 e53 b56 e54 b57 e55 b58 e56 b59 e57,Gv 95 [Aa [Ac p2,Ad l2,Ac q2,Ad m2,Ac p3,Ad l3,Ac q3,Ad m3]] [Aa [Ac b50,Ad e48,Ac b51,Ad e49,Ac b52,Ad e50,Ac b53,Ad e51,Ac b54,Ad e52,Ac b55,Ad e53,Ac b56,Ad e54,Ac b57,Ad e55,Ac b58,Ad e56,Ac b59,Ad e57]]∧Q [Aa [Ac false,Ac b,Ad es,Ac b1,Ad e1,Ac b2,Ad e2,Ac b3,Ad e3,Ac b4,Ad e4,Ac b5,Ad e5,Ac b13,Ad e12,Ac b14,Ad e13,Ac b15,Ad e14,Ac b16,Ad e15,Ac b17,Ad e16,Ac b18,Ad e17,Ac false,Ac b40,Ad e38,Ac b41,Ad e39,Ac b42,Ad e40,Ac b43,Ad e41,Ac b44,Ad e42,Ac b45,Ad e43,Ac b46,Ad e44,Ac b47,Ad e45,Ac b48,Ad e46,Ac b49,Ad e47,Ac b50,Ad e48,Ac b51,Ad e49,Ac b52,Ad e50,Ac b53,Ad e51,Ac b54,Ad e52,Ac b55,Ad e53,Ac b56,Ad e54,Ac b57,Ad e55,Ac b58,Ad e56,Ac b59,Ad e57],Ab (Ae .i64 0)])):=by kernel_rfl
theorem OQ (p0:Bool) (l0:List (List D)) (q0:Bool) (m0:List (List D)) (p1:Bool) (l1:List (List D)) (q1:Bool) (m1:List (List D)) (p2:Bool) (l2:List (List D)) (q2:Bool) (m2:List (List D)) (p3:Bool) (l3:List (List D)) (q3:Bool) (m3:List (List D)) (p4:Bool) (l4:List (List D)) (q4:Bool) (m4:List (List D)) (p5:Bool) (l5:List (List D)) (q5:Bool) (m5:List (List D)):wpF CC Gv an0 Tryz.f48 [.ag [.bool p0,.sl l0,.bool q0,.sl m0,.bool p1,.sl l1,.bool q1,.sl m1],.ag [.bool p2,.sl l2,.bool q2,.sl m2,.bool p3,.sl l3,.bool q3,.sl m3],.ag [.bool p4,.sl l4,.bool q4,.sl m4,.bool p5,.sl l5,.bool q5,.sl m5]] Q=(
 ∃b es b1 e1 b2 e2 b3 e3 b4 e4 b5 e5 n,Gv 96 [Aa [Ac p0,Ad l0,Ac q0,Ad m0,Ac p1,Ad l1,Ac q1,Ad m1],Aa [Ac p2,Ad l2,Ac q2,Ad m2,Ac p3,Ad l3,Ac q3,Ad m3],Aa [Ac p4,Ad l4,Ac q4,Ad m4,Ac p5,Ad l5,Ac q5,Ad m5]] [Aa [Ac b,Ad es,Ac b1,Ad e1,Ac b2,Ad e2,Ac b3,Ad e3,Ac b4,Ad e4,Ac b5,Ad e5],Ab (Ae .i64 n)]∧br (toB (Ac (n !=0))) (Q [Aa [Ac false,Ac false,Ad [],Ac false,Ad [],Ac false,Ad [],Ac false,Ad [],Ac false,Ad [],Ac false,Ad [],Ac false,Ad [],Ac false,Ad [],Ac false,Ad [],Ac false,Ad [],Ac false,Ad [],Ac false,Ad [],Ac false,Ac false,Ad [],Ac false,Ad [],Ac false,Ad [],Ac false,Ad [],Ac false,Ad [],Ac false,Ad [],Ac false,Ad [],Ac false,Ad [],Ac false,Ad [],Ac false,Ad [],Ac false,Ad [],Ac false,Ad [],Ac false,Ad [],Ac false,Ad [],Ac false,Ad [],Ac false,Ad [],Ac false,Ad [],Ac false,Ad [],Ac false,Ad [],Ac false,Ad []],Ab (Ae .i64 6)]) (∃b6 e6 b7 e7,Gv 97 [Aa [Ac p2,Ad l2,Ac q2,Ad m2],Aa [Ac p0,Ad l0,Ac q0,Ad m0]] [Aa [Ac b6,Ad e6,Ac b7,Ad e7]]∧∃b8 e8 b9 e9,Gv 97 [Aa [Ac p3,Ad l3,Ac q3,Ad m3],Aa [Ac p1,Ad l1,Ac q1,Ad m1]] [Aa [Ac b8,Ad e8,Ac b9,Ad e9]]∧∃b10 e10 b11 e11,Gv 97 [Aa [Ac p4,Ad l4,Ac q4,Ad m4],Aa [Ac p0,Ad l0,Ac q0,Ad m0]] [Aa [Ac b10,Ad e10,Ac b11,Ad e11]]∧∃b12 e12 b13 e13,Gv 97 [Aa [Ac p5,Ad l5,Ac q5,Ad m5],Aa [Ac p1,Ad l1,Ac q1,Ad m1]] [Aa [Ac b12,Ad e12,Ac b13,Ad e13]]∧∃b14 e14 b15 e15,Gv 50 [Aa [Ac b6,Ad e6,Ac b7,Ad e7],Aa [Ac b12,Ad e12,Ac b13,Ad e13]] [Aa [Ac b14,Ad e14,Ac b15,Ad e15]]∧∃b16 e16 b17 e17,Gv 50 [Aa [Ac b8,Ad e8,Ac b9,Ad e9],Aa [Ac b10,Ad e10,Ac b11,Ad e11]] [Aa [Ac b16,Ad e16,Ac b17,Ad e17]]∧∃n,Gv 98 [Aa [Ac b14,Ad e14,Ac b15,Ad e15],Aa [Ac b16,Ad e16,Ac b17,Ad e17]] [Ab (Ae .i64 n)]∧∃b18 b19 e18 b20 e19 b21 e20 b22 e21 b23 e22 b24 e23 b25 e24 b26 e25 b27 e26 b28 e27 b29 e28 b30 e29 b31 b32 e30 b33 e31 b34 e32 b35 e33 b36 e34 b37 e35 b38 e36 b39 e37 b40 e38 b41 e39 b42 e40 b43 e41 b44 e42 b45 e43 b46 e44 b47 e45 b48 e46 b49 e47 b50 e48 b51 e49,Gv 94 [] [Aa [Ac b18,Ac b19,Ad e18,Ac b20,Ad e19,Ac b21,Ad e20,Ac b22,Ad e21,Ac b23,Ad e22,Ac b24,Ad e23,Ac b25,Ad e24,Ac b26,Ad e25,Ac b27,Ad e26,Ac b28,Ad e27,Ac b29,Ad e28,Ac b30,Ad e29,Ac b31,Ac b32,Ad e30,Ac b33,Ad e31,Ac b34,Ad e32,Ac b35,Ad e33,Ac b36,Ad e34,Ac b37,Ad e35,Ac b38,Ad e36,Ac b39,Ad e37,Ac b40,Ad e38,Ac b41,Ad e39,Ac b42,Ad e40,Ac b43,Ad e41,Ac b44,Ad e42,Ac b45,Ad e43,Ac b46,Ad e44,Ac b47,Ad e45,Ac b48,Ad e46,Ac b49,Ad e47,Ac b50,Ad e48,Ac b51,Ad e49]]∧∃b52 e50 b53 e51 b54 e52 b55 e53 b56 e54 b57 e55 b58 e56 b59 e57 b60 e58 b61 e59,Gv 95 [Aa [Ac p0,Ad l0,Ac q0,Ad m0,Ac p1,Ad l1,Ac q1,Ad m1]] [Aa [Ac b52,Ad e50,Ac b53,Ad e51,Ac b54,Ad e52,Ac b55,Ad e53,Ac b56,Ad e54,Ac b57,Ad e55,Ac b58,Ad e56,Ac b59,Ad e57,Ac b60,Ad e58,Ac b61,Ad e59]]∧∃b62 e60 b63 e61 b64 e62 b65 e63 b66 e64 b67 e65 b68 e66 b69 e67 b70 e68 b71 e69,Gv 95 [Aa [Ac p4,Ad l4,Ac q4,Ad m4,Ac p5,Ad l5,Ac q5,Ad m5]] [Aa [Ac b62,Ad e60,Ac b63,Ad e61,Ac b64,Ad e62,Ac b65,Ad e63,Ac b66,Ad e64,Ac b67,Ad e65,Ac b68,Ad e66,Ac b69,Ad e67,Ac b70,Ad e68,Ac b71,Ad e69]]∧Q [Aa [Ac true,Ac b19,Ad e18,Ac b20,Ad e19,Ac b21,Ad e20,Ac b22,Ad e21,Ac b23,Ad e22,Ac b24,Ad e23,Ac b,Ad es,Ac b1,Ad e1,Ac b2,Ad e2,Ac b3,Ad e3,Ac b4,Ad e4,Ac b5,Ad e5,Ac !decide (n>0),Ac b52,Ad e50,Ac b53,Ad e51,Ac b54,Ad e52,Ac b55,Ad e53,Ac b56,Ad e54,Ac b57,Ad e55,Ac b58,Ad e56,Ac b59,Ad e57,Ac b60,Ad e58,Ac b61,Ad e59,Ac b62,Ad e60,Ac b63,Ad e61,Ac b64,Ad e62,Ac b65,Ad e63,Ac b66,Ad e64,Ac b67,Ad e65,Ac b68,Ad e66,Ac b69,Ad e67,Ac b70,Ad e68,Ac b71,Ad e69],Ab (Ae .i64 0)])):=by kernel_rfl
theorem KR (p0:Bool) (l0:List (List D)) (q0:Bool) (m0:List (List D)):wpF CC Gv an0 Tryz.f65 [.ag [.bool p0,.sl l0,.bool q0,.sl m0]] Q=(
 ∃b es b1 e1,Gv 123 [] [Aa [Ac b,Ad es,Ac b1,Ad e1]]∧∃b2 e2 b3 e3,Gv 123 [] [Aa [Ac b2,Ad e2,Ac b3,Ad e3]]∧Q [Aa [Ac p0,Ad l0,Ac q0,Ad m0,Ac b,Ad es,Ac b1,Ad e1,Ac b2,Ad e2,Ac b3,Ad e3]]):=by kernel_rfl
theorem RP:wpF CC Gv an0 Tryz.f123 [] Q=(
 ∃b es b1 e1,Gv 121 [Ab (Ae .i64 0)] [Aa [Ac b,Ad es,Ac b1,Ad e1]]∧Q [Aa [Ac b,Ad es,Ac b1,Ad e1]]):=by kernel_rfl
theorem Ug (p0:Bool) (l0:List (List D)) (q0:Bool) (m0:List (List D)) (p1:Bool) (l1:List (List D)) (q1:Bool) (m1:List (List D)) (p2:Bool) (l2:List (List D)) (q2:Bool) (m2:List (List D)):wpF CC Gv an0 Tryz.f122 [.ag [.bool p0,.sl l0,.bool q0,.sl m0],.ag [.bool p1,.sl l1,.bool q1,.sl m1],.ag [.bool p2,.sl l2,.bool q2,.sl m2]] Q=(
 ∃n,Gv 148 [Aa [Ac p2,Ad l2,Ac q2,Ad m2]] [Ab (Ae .i64 n)]∧br (toB (Ac (decide (n<0)))) (Q [Aa [Ac false,Ad [],Ac false,Ad [],Ac false,Ad [],Ac false,Ad [],Ac false,Ad [],Ac false,Ad []],Ab (Ae .i64 7)]) (∃b es b1 e1 b2,Gv 220 [Aa [Ac p2,Ad l2,Ac q2,Ad m2]] [Aa [Ac b,Ad es,Ac b1,Ad e1],Ab (Ac b2)]∧br b2 (∃b3 e2 b4 e3,Gv 50 [Aa [Ac p1,Ad l1,Ac q1,Ad m1],Aa [Ac b,Ad es,Ac b1,Ad e1]] [Aa [Ac b3,Ad e2,Ac b4,Ad e3]]∧∃b es b5 e4,Gv 180 [Aa [Ac p0,Ad l0,Ac q0,Ad m0],Aa [Ac b3,Ad e2,Ac b4,Ad e3]] [Aa [Ac b,Ad es,Ac b5,Ad e4]]∧∃b6 e5 b7 e6 b8 e7 b9 e8 b10 e9 b11 e10,Gv 65 [Aa [Ac b,Ad es,Ac b5,Ad e4]] [Aa [Ac b6,Ad e5,Ac b7,Ad e6,Ac b8,Ad e7,Ac b9,Ad e8,Ac b10,Ad e9,Ac b11,Ad e10]]∧Q [Aa [Ac b6,Ad e5,Ac b7,Ad e6,Ac b8,Ad e7,Ac b9,Ad e8,Ac b10,Ad e9,Ac b11,Ad e10],Ab (Ae .i64 0)]) (∃b es b3 e2 b4 e3 b5 e4 b6 e5 b7 e6,Gv 221 [Aa [Ac p0,Ad l0,Ac q0,Ad m0],Aa [Ac p1,Ad l1,Ac q1,Ad m1],Aa [Ac p2,Ad l2,Ac q2,Ad m2]] [Aa [Ac b,Ad es,Ac b3,Ad e2,Ac b4,Ad e3,Ac b5,Ad e4,Ac b6,Ad e5,Ac b7,Ad e6]]∧Q [Aa [Ac b,Ad es,Ac b3,Ad e2,Ac b4,Ad e3,Ac b5,Ad e4,Ac b6,Ad e5,Ac b7,Ad e6],Ab (Ae .i64 0)]))):=by kernel_rfl
theorem LC (p0:Bool) (l0:List (List D)) (q0:Bool) (m0:List (List D)) (p1:Bool) (l1:List (List D)) (q1:Bool) (m1:List (List D)) (p2:Bool) (l2:List (List D)) (q2:Bool) (m2:List (List D)) (p3:Bool) (l3:List (List D)) (q3:Bool) (m3:List (List D)) (p4:Bool) (l4:List (List D)) (q4:Bool) (m4:List (List D)):wpF CC Gv an0 Tryz.f335 [.ag [.bool p0,.sl l0,.bool q0,.sl m0,.bool p1,.sl l1,.bool q1,.sl m1,.bool p2,.sl l2,.bool q2,.sl m2,.bool p3,.sl l3,.bool q3,.sl m3,.bool p4,.sl l4,.bool q4,.sl m4]] Q=(
 ∃n,Gv 148 [Aa [Ac p1,Ad l1,Ac q1,Ad m1]] [Ab (Ae .i64 n)]∧br (toB (Ac (n==0))) (∃n,Gv 148 [Aa [Ac p3,Ad l3,Ac q3,Ad m3]] [Ab (Ae .i64 n)]∧br (toB (Ac (n==0))) (∃b es b1 e1,Gv 178 [] [Aa [Ac b,Ad es,Ac b1,Ad e1]]∧Q [Aa [Ac p0,Ad l0,Ac q0,Ad m0,Ac p1,Ad l1,Ac q1,Ad m1,Ac p2,Ad l2,Ac q2,Ad m2,Ac p3,Ad l3,Ac q3,Ad m3,Ac b,Ad es,Ac b1,Ad e1]]) (Q [Aa [Ac p0,Ad l0,Ac q0,Ad m0,Ac p1,Ad l1,Ac q1,Ad m1,Ac p2,Ad l2,Ac q2,Ad m2,Ac p3,Ad l3,Ac q3,Ad m3,Ac p4,Ad l4,Ac q4,Ad m4]])) (Q [Aa [Ac p0,Ad l0,Ac q0,Ad m0,Ac p1,Ad l1,Ac q1,Ad m1,Ac p2,Ad l2,Ac q2,Ad m2,Ac p3,Ad l3,Ac q3,Ad m3,Ac p4,Ad l4,Ac q4,Ad m4]])):=by kernel_rfl
theorem Uh (p0:Bool) (l0:List (List D)) (q0:Bool) (m0:List (List D)) (p1:Bool) (l1:List (List D)) (q1:Bool) (m1:List (List D)) (p2:Bool) (l2:List (List D)) (q2:Bool) (m2:List (List D)) (p3:Bool) (l3:List (List D)) (q3:Bool) (m3:List (List D)) (p4:Bool) (l4:List (List D)) (q4:Bool) (m4:List (List D)) (p5:Bool) (l5:List (List D)) (q5:Bool) (m5:List (List D)):wpF CC Gv an0 Tryz.f267 [.ag [.bool p0,.sl l0,.bool q0,.sl m0,.bool p1,.sl l1,.bool q1,.sl m1,.bool p2,.sl l2,.bool q2,.sl m2],.ag [.bool p3,.sl l3,.bool q3,.sl m3,.bool p4,.sl l4,.bool q4,.sl m4,.bool p5,.sl l5,.bool q5,.sl m5]] Q=(
 ∃n,Gv 148 [Aa [Ac p1,Ad l1,Ac q1,Ad m1]] [Ab (Ae .i64 n)]∧br (toB (Ac (n==0))) (∃b es b1 e1 b2 e2 b3 e3 b4 e4 b5 e5 b6 e6 b7 e7 b8 e8 b9 e9,Gv 335 [Aa [Ac p0,Ad l0,Ac q0,Ad m0,Ac p1,Ad l1,Ac q1,Ad m1,Ac p3,Ad l3,Ac q3,Ad m3,Ac p4,Ad l4,Ac q4,Ad m4,Ac p5,Ad l5,Ac q5,Ad m5]] [Aa [Ac b,Ad es,Ac b1,Ad e1,Ac b2,Ad e2,Ac b3,Ad e3,Ac b4,Ad e4,Ac b5,Ad e5,Ac b6,Ad e6,Ac b7,Ad e7,Ac b8,Ad e8,Ac b9,Ad e9]]∧Q [Aa [Ac b,Ad es,Ac b1,Ad e1,Ac b2,Ad e2,Ac b3,Ad e3,Ac b4,Ad e4,Ac b5,Ad e5,Ac b6,Ad e6,Ac b7,Ad e7,Ac b8,Ad e8,Ac b9,Ad e9],Ab (Ae .i64 0)]) (∃n,Gv 148 [Aa [Ac p4,Ad l4,Ac q4,Ad m4]] [Ab (Ae .i64 n)]∧br (toB (Ac (n !=0))) (∃n,Gv 98 [Aa [Ac p2,Ad l2,Ac q2,Ad m2],Aa [Ac p5,Ad l5,Ac q5,Ad m5]] [Ab (Ae .i64 n)]∧br (toB (Ac (n !=0))) (Q [Aa [Ac false,Ad [],Ac false,Ad [],Ac false,Ad [],Ac false,Ad [],Ac false,Ad [],Ac false,Ad [],Ac false,Ad [],Ac false,Ad [],Ac false,Ad [],Ac false,Ad []],Ab (Ae .i64 1)]) (∃b es b1 e1 b2 e2 b3 e3 b4 e4 b5 e5 b6 e6 b7 e7 b8 e8 b9 e9,Gv 335 [Aa [Ac p0,Ad l0,Ac q0,Ad m0,Ac p1,Ad l1,Ac q1,Ad m1,Ac p3,Ad l3,Ac q3,Ad m3,Ac p4,Ad l4,Ac q4,Ad m4,Ac p2,Ad l2,Ac q2,Ad m2]] [Aa [Ac b,Ad es,Ac b1,Ad e1,Ac b2,Ad e2,Ac b3,Ad e3,Ac b4,Ad e4,Ac b5,Ad e5,Ac b6,Ad e6,Ac b7,Ad e7,Ac b8,Ad e8,Ac b9,Ad e9]]∧Q [Aa [Ac b,Ad es,Ac b1,Ad e1,Ac b2,Ad e2,Ac b3,Ad e3,Ac b4,Ad e4,Ac b5,Ad e5,Ac b6,Ad e6,Ac b7,Ad e7,Ac b8,Ad e8,Ac b9,Ad e9],Ab (Ae .i64 0)])) (∃b es b1 e1 b2 e2 b3 e3 b4 e4 b5 e5 b6 e6 b7 e7 b8 e8 b9 e9,Gv 335 [Aa [Ac p0,Ad l0,Ac q0,Ad m0,Ac p1,Ad l1,Ac q1,Ad m1,Ac p3,Ad l3,Ac q3,Ad m3,Ac p4,Ad l4,Ac q4,Ad m4,Ac p2,Ad l2,Ac q2,Ad m2]] [Aa [Ac b,Ad es,Ac b1,Ad e1,Ac b2,Ad e2,Ac b3,Ad e3,Ac b4,Ad e4,Ac b5,Ad e5,Ac b6,Ad e6,Ac b7,Ad e7,Ac b8,Ad e8,Ac b9,Ad e9]]∧Q [Aa [Ac b,Ad es,Ac b1,Ad e1,Ac b2,Ad e2,Ac b3,Ad e3,Ac b4,Ad e4,Ac b5,Ad e5,Ac b6,Ad e6,Ac b7,Ad e7,Ac b8,Ad e8,Ac b9,Ad e9],Ab (Ae .i64 0)]))):=by kernel_rfl
theorem LE (p0:Bool) (l0:List (List D)) (q0:Bool) (m0:List (List D)) (p1:Bool) (l1:List (List D)) (q1:Bool) (m1:List (List D)) (p2:Bool) (l2:List (List D)) (q2:Bool) (m2:List (List D)) (p3:Bool) (l3:List (List D)) (q3:Bool) (m3:List (List D)) (p4:Bool) (l4:List (List D)) (q4:Bool) (m4:List (List D)):wpF CC Gv an0 Tryz.f184 [.ag [.bool p0,.sl l0,.bool q0,.sl m0],.ag [.bool p1,.sl l1,.bool q1,.sl m1],.ag [.bool p2,.sl l2,.bool q2,.sl m2],.ag [.bool p3,.sl l3,.bool q3,.sl m3],.ag [.bool p4,.sl l4,.bool q4,.sl m4]] Q=(
 ∃b es b1 e1 b2 e2 b3 e3 b4 e4 b5 e5 n,Gv 122 [Aa [Ac p0,Ad l0,Ac q0,Ad m0],Aa [Ac p1,Ad l1,Ac q1,Ad m1],Aa [Ac p4,Ad l4,Ac q4,Ad m4]] [Aa [Ac b,Ad es,Ac b1,Ad e1,Ac b2,Ad e2,Ac b3,Ad e3,Ac b4,Ad e4,Ac b5,Ad e5],Ab (Ae .i64 n)]∧∃b6 e6 b7 e7 b8 e8 b9 e9 b10 e10 b11 e11 n,Gv 122 [Aa [Ac p2,Ad l2,Ac q2,Ad m2],Aa [Ac p3,Ad l3,Ac q3,Ad m3],Aa [Ac p4,Ad l4,Ac q4,Ad m4]] [Aa [Ac b6,Ad e6,Ac b7,Ad e7,Ac b8,Ad e8,Ac b9,Ad e9,Ac b10,Ad e10,Ac b11,Ad e11],Ab (Ae .i64 n)]∧∃b12 e12 b13 e13 b14 e14 b15 e15 b16 e16 b17 e17 b18 e18 b19 e19 b20 e20 b21 e21 n,Gv 267 [Aa [Ac b,Ad es,Ac b1,Ad e1,Ac b2,Ad e2,Ac b3,Ad e3,Ac b4,Ad e4,Ac b5,Ad e5],Aa [Ac b6,Ad e6,Ac b7,Ad e7,Ac b8,Ad e8,Ac b9,Ad e9,Ac b10,Ad e10,Ac b11,Ad e11]] [Aa [Ac b12,Ad e12,Ac b13,Ad e13,Ac b14,Ad e14,Ac b15,Ad e15,Ac b16,Ad e16,Ac b17,Ad e17,Ac b18,Ad e18,Ac b19,Ad e19,Ac b20,Ad e20,Ac b21,Ad e21],Ab (Ae .i64 n)]∧Q [Aa [Ac b12,Ad e12,Ac b13,Ad e13,Ac b14,Ad e14,Ac b15,Ad e15,Ac b16,Ad e16,Ac b17,Ad e17,Ac b18,Ad e18,Ac b19,Ad e19,Ac b20,Ad e20,Ac b21,Ad e21]]):=by kernel_rfl
theorem LF (p0:Bool) (l0:List (List D)) (q0:Bool) (m0:List (List D)) (p1:Bool) (l1:List (List D)) (q1:Bool) (m1:List (List D)) (p2:Bool) (l2:List (List D)) (q2:Bool) (m2:List (List D)):wpF CC Gv an0 Tryz.f99 [.ag [.bool p0,.sl l0,.bool q0,.sl m0,.bool p1,.sl l1,.bool q1,.sl m1,.bool p2,.sl l2,.bool q2,.sl m2]] Q=(
 ∃b es b1 e1,Gv 121 [Ab (Ae .i64 1)] [Aa [Ac b,Ad es,Ac b1,Ad e1]]∧∃b2 e2 b3 e3,Gv 121 [Ab (Ae .i64 0)] [Aa [Ac b2,Ad e2,Ac b3,Ad e3]]∧∃b4 e4 b5 e5,Gv 181 [Aa [Ac b,Ad es,Ac b1,Ad e1]] [Aa [Ac b4,Ad e4,Ac b5,Ad e5]]∧∃b6 e6 b7 e7 b8 e8 b9 e9 b10 e10 b11 e11 b12 e12 b13 e13 b14 e14 b15 e15,Gv 184 [Aa [Ac p0,Ad l0,Ac q0,Ad m0],Aa [Ac b4,Ad e4,Ac b5,Ad e5],Aa [Ac p1,Ad l1,Ac q1,Ad m1],Aa [Ac b2,Ad e2,Ac b3,Ad e3],Aa [Ac p2,Ad l2,Ac q2,Ad m2]] [Aa [Ac b6,Ad e6,Ac b7,Ad e7,Ac b8,Ad e8,Ac b9,Ad e9,Ac b10,Ad e10,Ac b11,Ad e11,Ac b12,Ad e12,Ac b13,Ad e13,Ac b14,Ad e14,Ac b15,Ad e15]]∧∃b16 e16 b17 e17 b18 e18 b19 e19 b20 e20 b21 e21 b22 e22 b23 e23 b24 e24 b25 e25,Gv 184 [Aa [Ac p0,Ad l0,Ac q0,Ad m0],Aa [Ac b,Ad es,Ac b1,Ad e1],Aa [Ac p1,Ad l1,Ac q1,Ad m1],Aa [Ac b2,Ad e2,Ac b3,Ad e3],Aa [Ac p2,Ad l2,Ac q2,Ad m2]] [Aa [Ac b16,Ad e16,Ac b17,Ad e17,Ac b18,Ad e18,Ac b19,Ad e19,Ac b20,Ad e20,Ac b21,Ad e21,Ac b22,Ad e22,Ac b23,Ad e23,Ac b24,Ad e24,Ac b25,Ad e25]]∧Q [Aa [Ac b6,Ad e6,Ac b7,Ad e7,Ac b8,Ad e8,Ac b9,Ad e9,Ac b10,Ad e10,Ac b11,Ad e11,Ac b12,Ad e12,Ac b13,Ad e13,Ac b14,Ad e14,Ac b15,Ad e15],Aa [Ac b16,Ad e16,Ac b17,Ad e17,Ac b18,Ad e18,Ac b19,Ad e19,Ac b20,Ad e20,Ac b21,Ad e21,Ac b22,Ad e22,Ac b23,Ad e23,Ac b24,Ad e24,Ac b25,Ad e25]]):=by kernel_rfl
theorem LG (p0:Bool) (l0:List (List D)) (q0:Bool) (m0:List (List D)) (p1:Bool) (l1:List (List D)) (q1:Bool) (m1:List (List D)) (p2:Bool) (l2:List (List D)) (q2:Bool) (m2:List (List D)):wpF CC Gv an0 Tryz.f49 [.ag [.bool p0,.sl l0,.bool q0,.sl m0,.bool p1,.sl l1,.bool q1,.sl m1,.bool p2,.sl l2,.bool q2,.sl m2]] Q=(
 ∃b es b1 e1 b2 e2 b3 e3 b4 e4 b5 e5 b6 e6 b7 e7 b8 e8 b9 e9 b10 e10 b11 e11 b12 e12 b13 e13 b14 e14 b15 e15 b16 e16 b17 e17 b18 e18 b19 e19,Gv 99 [Aa [Ac p0,Ad l0,Ac q0,Ad m0,Ac p1,Ad l1,Ac q1,Ad m1,Ac p2,Ad l2,Ac q2,Ad m2]] [Aa [Ac b,Ad es,Ac b1,Ad e1,Ac b2,Ad e2,Ac b3,Ad e3,Ac b4,Ad e4,Ac b5,Ad e5,Ac b6,Ad e6,Ac b7,Ad e7,Ac b8,Ad e8,Ac b9,Ad e9],Aa [Ac b10,Ad e10,Ac b11,Ad e11,Ac b12,Ad e12,Ac b13,Ad e13,Ac b14,Ad e14,Ac b15,Ad e15,Ac b16,Ad e16,Ac b17,Ad e17,Ac b18,Ad e18,Ac b19,Ad e19]]∧∃b20 b21 e20 b22 e21 b23 e22 b24 e23 b25 e24 b26 e25 b27 e26 b28 e27 b29 e28 b30 e29 b31 e30 b32 e31 b33 b34 e32 b35 e33 b36 e34 b37 e35 b38 e36 b39 e37 b40 e38 b41 e39 b42 e40 b43 e41 b44 e42 b45 e43 b46 e44 b47 e45 b48 e46 b49 e47 b50 e48 b51 e49 b52 e50 b53 e51,Gv 94 [] [Aa [Ac b20,Ac b21,Ad e20,Ac b22,Ad e21,Ac b23,Ad e22,Ac b24,Ad e23,Ac b25,Ad e24,Ac b26,Ad e25,Ac b27,Ad e26,Ac b28,Ad e27,Ac b29,Ad e28,Ac b30,Ad e29,Ac b31,Ad e30,Ac b32,Ad e31,Ac b33,Ac b34,Ad e32,Ac b35,Ad e33,Ac b36,Ad e34,Ac b37,Ad e35,Ac b38,Ad e36,Ac b39,Ad e37,Ac b40,Ad e38,Ac b41,Ad e39,Ac b42,Ad e40,Ac b43,Ad e41,Ac b44,Ad e42,Ac b45,Ad e43,Ac b46,Ad e44,Ac b47,Ad e45,Ac b48,Ad e46,Ac b49,Ad e47,Ac b50,Ad e48,Ac b51,Ad e49,Ac b52,Ad e50,Ac b53,Ad e51]]∧Q [Ab (Ad [[Ac true,Ac b21,Ad e20,Ac b22,Ad e21,Ac b23,Ad e22,Ac b24,Ad e23,Ac b25,Ad e24,Ac b26,Ad e25,Ac p0,Ad l0,Ac q0,Ad m0,Ac p1,Ad l1,Ac q1,Ad m1,Ac p2,Ad l2,Ac q2,Ad m2,Ac false,Ac b,Ad es,Ac b1,Ad e1,Ac b2,Ad e2,Ac b3,Ad e3,Ac b4,Ad e4,Ac b5,Ad e5,Ac b6,Ad e6,Ac b7,Ad e7,Ac b8,Ad e8,Ac b9,Ad e9,Ac b10,Ad e10,Ac b11,Ad e11,Ac b12,Ad e12,Ac b13,Ad e13,Ac b14,Ad e14,Ac b15,Ad e15,Ac b16,Ad e16,Ac b17,Ad e17,Ac b18,Ad e18,Ac b19,Ad e19],[Ac true,Ac b21,Ad e20,Ac b22,Ad e21,Ac b23,Ad e22,Ac b24,Ad e23,Ac b25,Ad e24,Ac b26,Ad e25,Ac p0,Ad l0,Ac q0,Ad m0,Ac p1,Ad l1,Ac q1,Ad m1,Ac p2,Ad l2,Ac q2,Ad m2,Ac false,Ac b10,Ad e10,Ac b11,Ad e11,Ac b12,Ad e12,Ac b13,Ad e13,Ac b14,Ad e14,Ac b15,Ad e15,Ac b16,Ad e16,Ac b17,Ad e17,Ac b18,Ad e18,Ac b19,Ad e19,Ac b,Ad es,Ac b1,Ad e1,Ac b2,Ad e2,Ac b3,Ad e3,Ac b4,Ad e4,Ac b5,Ad e5,Ac b6,Ad e6,Ac b7,Ad e7,Ac b8,Ad e8,Ac b9,Ad e9]])]):=by kernel_rfl
theorem LH (p0:Bool) (l0:List (List D)) (q0:Bool) (m0:List (List D)):wpF CC Gv an0 Tryz.f220 [.ag [.bool p0,.sl l0,.bool q0,.sl m0]] Q=(
 ∃b es b1,Gv 296 [Aa [Ac p0,Ad l0]] [Aa [Ac b,Ad es],Ab (Ac b1)]∧br b1 (∃b2 e1 b3,Gv 296 [Aa [Ac q0,Ad m0]] [Aa [Ac b2,Ad e1],Ab (Ac b3)]∧br b3 (Q [Aa [Ac b,Ad es,Ac b2,Ad e1],Ab (Ac true)]) (Q [Aa [Ac false,Ad [],Ac false,Ad []],Ab (Ac false)])) (Q [Aa [Ac false,Ad [],Ac false,Ad []],Ab (Ac false)])):=by kernel_rfl
theorem LI (p:Bool) (l:List (List D)):wpF CC Gv an0 Tryz.f296 [.ag [.bool p,.sl l]] Q=(
 ∃b es n,Gv 298 [Aa [Ac p,Ad l]] [Aa [Ac b,Ad es],Ab (Ae .i64 n)]∧br (toB (Ac (n==0))) (∃b1 e1,Gv 101 [Aa [Ac b,Ad es],Aa [Ac b,Ad es]] [Aa [Ac b1,Ad e1]]∧∃n,Gv 183 [Aa [Ac b1,Ad e1],Aa [Ac p,Ad l]] [Ab (Ae .i64 n)]∧Q [Aa [Ac b,Ad es],Ab (Ac (n==0))]) (Q [Aa [Ac b,Ad es],Ab (Ac false)])):=by kernel_rfl
theorem Ui (p:Bool) (l:List (List D)):wpF CC Gv (fun _=>⟨[.box 5 [(.bool false),(.slice none 0 0)]],[],I0,M0⟩) Tryz.f298 [.ag [.bool p,.sl l]] Q=(
 br p (Q [Aa [Ac false,Ad []],Ab (Ae .i64 7)]) (br (toB (Ac ((Ai l.length)==0))) (Q [Aa [Ac false,Ad []],Ab (Ae .i64 0)]) ((2:Int)≠(0:Int)∧(0≤Af .i64 (Al (Af .i64 ((Ai l.length)+1)) (2:Int))∧Af .i64 (Al (Af .i64 ((Ai l.length)+1)) (2:Int))≤Af .i64 (Al (Af .i64 ((Ai l.length)+1)) (2:Int))∧room (Ao (Af .i64 (Al (Af .i64 ((Ai l.length)+1)) (2:Int)))))∧(room (Aq (Ap (Ao (Af .i64 (Al (Af .i64 ((Ai l.length)+1)) (2:Int)))) [Ae .u32 0])+1)∧lens 1 [[Ae .u32 1]])∧∃b es,Gv 189 [Ab (Ac false),Ab (Ad (Ap (Ao (Af .i64 (Al (Af .i64 ((Ai l.length)+1)) (2:Int)))) [Ae .u32 0]++[[Ae .u32 1]]))] [Aa [Ac b,Ad es]]∧∃b1 e1,Gv 136 [Ab (Ae .i64 2)] [Aa [Ac b1,Ad e1]]∧I0 [] [Ac b,Ad es]∧∀(b:Bool) (es:List (List D)),I0 [] [Ac b,Ad es]→∃b2 e2 b3 e3 n,Gv 137 [Aa [Ac p,Ad l],Aa [Ac b,Ad es]] [Aa [Ac b2,Ad e2],Aa [Ac b3,Ad e3],Ab (Ae .i64 n)]∧∃b4 e4,Gv 235 [Aa [Ac b,Ad es],Aa [Ac b2,Ad e2]] [Aa [Ac b4,Ad e4]]∧∃b5 e5 b6 e6 n,Gv 137 [Aa [Ac b4,Ad e4],Aa [Ac b1,Ad e1]] [Aa [Ac b5,Ad e5],Aa [Ac b6,Ad e6],Ab (Ae .i64 n)]∧∃n,Gv 183 [Aa [Ac b5,Ad e5],Aa [Ac b,Ad es]] [Ab (Ae .i64 n)]∧br (toB (Ac (decide (n≥0)))) (Q [Aa [Ac b,Ad es],Ab (Ae .i64 0)]) (I0 [] [Ac b5,Ad e5]∧M0 [Ac b5,Ad e5]<M0 [Ac b,Ad es])))):=by kernel_rfl
theorem vE (k:Int) (n:List UInt8) (ps:List (List D)) (p0:Bool) (l0:List (List D)) (q0:Bool) (m0:List (List D)):wpF CC Gv an0 Tryz.f18 [.ag [.int .i64 k,.str n,.sl ps,.bool p0,.sl l0,.bool q0,.sl m0]] Q=(
 br (toB (Ac (k==1))) (((0:Int)≤(0:Int)∧0<(Ai ps.length)∧Aq (nth [] ps 0)=8)∧∃b es b1 e1 b2 e2 b3 e3,cut (nth [] ps 0) 0 8 [Ac b,Ad es,Ac b1,Ad e1,Ac b2,Ad e2,Ac b3,Ad e3]∧((0:Int)≤(1:Int)∧1<(Ai ps.length)∧Aq (nth [] ps 1)=8)∧∃b4 e4 b5 e5 b6 e6 b7 e7,cut (nth [] ps 1) 0 8 [Ac b4,Ad e4,Ac b5,Ad e5,Ac b6,Ad e6,Ac b7,Ad e7]∧∃b8 b9 e8 b10 e9 b11 e10 b12 e11 b13 e12 b14 e13 b15 e14 b16 e15 b17 e16 b18 e17 b19 e18 b20 e19 b21 b22 e20 b23 e21 b24 e22 b25 e23 b26 e24 b27 e25 b28 e26 b29 e27 b30 e28 b31 e29 b32 e30 b33 e31 b34 e32 b35 e33 b36 e34 b37 e35 b38 e36 b39 e37 b40 e38 b41 e39 n,Gv 47 [Aa [Ac b,Ad es,Ac b1,Ad e1,Ac b2,Ad e2,Ac b3,Ad e3],Aa [Ac b4,Ad e4,Ac b5,Ad e5,Ac b6,Ad e6,Ac b7,Ad e7]] [Aa [Ac b8,Ac b9,Ad e8,Ac b10,Ad e9,Ac b11,Ad e10,Ac b12,Ad e11,Ac b13,Ad e12,Ac b14,Ad e13,Ac b15,Ad e14,Ac b16,Ad e15,Ac b17,Ad e16,Ac b18,Ad e17,Ac b19,Ad e18,Ac b20,Ad e19,Ac b21,Ac b22,Ad e20,Ac b23,Ad e21,Ac b24,Ad e22,Ac b25,Ad e23,Ac b26,Ad e24,Ac b27,Ad e25,Ac b28,Ad e26,Ac b29,Ad e27,Ac b30,Ad e28,Ac b31,Ad e29,Ac b32,Ad e30,Ac b33,Ad e31,Ac b34,Ad e32,Ac b35,Ad e33,Ac b36,Ad e34,Ac b37,Ad e35,Ac b38,Ad e36,Ac b39,Ad e37,Ac b40,Ad e38,Ac b41,Ad e39],Ab (Ae .i64 n)]∧br (toB (Ac (n !=0))) (Q [Ab (Ad []),Ab (Ae .i64 6)]) (Q [Ab (Ad [[Ac b8,Ac b9,Ad e8,Ac b10,Ad e9,Ac b11,Ad e10,Ac b12,Ad e11,Ac b13,Ad e12,Ac b14,Ad e13,Ac b15,Ad e14,Ac b16,Ad e15,Ac b17,Ad e16,Ac b18,Ad e17,Ac b19,Ad e18,Ac b20,Ad e19,Ac b21,Ac b22,Ad e20,Ac b23,Ad e21,Ac b24,Ad e22,Ac b25,Ad e23,Ac b26,Ad e24,Ac b27,Ad e25,Ac b28,Ad e26,Ac b29,Ad e27,Ac b30,Ad e28,Ac b31,Ad e29,Ac b32,Ad e30,Ac b33,Ad e31,Ac b34,Ad e32,Ac b35,Ad e33,Ac b36,Ad e34,Ac b37,Ad e35,Ac b38,Ad e36,Ac b39,Ad e37,Ac b40,Ad e38,Ac b41,Ad e39]]),Ab (Ae .i64 0)])) (br (toB (Ac (k==2))) (((0:Int)≤(0:Int)∧0<(Ai ps.length)∧Aq (nth [] ps 0)=8)∧∃b es b1 e1 b2 e2 b3 e3,cut (nth [] ps 0) 0 8 [Ac b,Ad es,Ac b1,Ad e1,Ac b2,Ad e2,Ac b3,Ad e3]∧((0:Int)≤(1:Int)∧1<(Ai ps.length)∧Aq (nth [] ps 1)=8)∧∃b4 e4 b5 e5 b6 e6 b7 e7,cut (nth [] ps 1) 0 8 [Ac b4,Ad e4,Ac b5,Ad e5,Ac b6,Ad e6,Ac b7,Ad e7]∧((0:Int)≤(2:Int)∧2<(Ai ps.length)∧Aq (nth [] ps 2)=8)∧∃b8 e8 b9 e9 b10 e10 b11 e11,cut (nth [] ps 2) 0 8 [Ac b8,Ad e8,Ac b9,Ad e9,Ac b10,Ad e10,Ac b11,Ad e11]∧∃b12 b13 e12 b14 e13 b15 e14 b16 e15 b17 e16 b18 e17 b19 e18 b20 e19 b21 e20 b22 e21 b23 e22 b24 e23 b25 b26 e24 b27 e25 b28 e26 b29 e27 b30 e28 b31 e29 b32 e30 b33 e31 b34 e32 b35 e33 b36 e34 b37 e35 b38 e36 b39 e37 b40 e38 b41 e39 b42 e40 b43 e41 b44 e42 b45 e43 n,Gv 48 [Aa [Ac b,Ad es,Ac b1,Ad e1,Ac b2,Ad e2,Ac b3,Ad e3],Aa [Ac b4,Ad e4,Ac b5,Ad e5,Ac b6,Ad e6,Ac b7,Ad e7],Aa [Ac b8,Ad e8,Ac b9,Ad e9,Ac b10,Ad e10,Ac b11,Ad e11]] [Aa [Ac b12,Ac b13,Ad e12,Ac b14,Ad e13,Ac b15,Ad e14,Ac b16,Ad e15,Ac b17,Ad e16,Ac b18,Ad e17,Ac b19,Ad e18,Ac b20,Ad e19,Ac b21,Ad e20,Ac b22,Ad e21,Ac b23,Ad e22,Ac b24,Ad e23,Ac b25,Ac b26,Ad e24,Ac b27,Ad e25,Ac b28,Ad e26,Ac b29,Ad e27,Ac b30,Ad e28,Ac b31,Ad e29,Ac b32,Ad e30,Ac b33,Ad e31,Ac b34,Ad e32,Ac b35,Ad e33,Ac b36,Ad e34,Ac b37,Ad e35,Ac b38,Ad e36,Ac b39,Ad e37,Ac b40,Ad e38,Ac b41,Ad e39,Ac b42,Ad e40,Ac b43,Ad e41,Ac b44,Ad e42,Ac b45,Ad e43],Ab (Ae .i64 n)]∧br (toB (Ac (n !=0))) (Q [Ab (Ad []),Ab (Ae .i64 6)]) (Q [Ab (Ad [[Ac b12,Ac b13,Ad e12,Ac b14,Ad e13,Ac b15,Ad e14,Ac b16,Ad e15,Ac b17,Ad e16,Ac b18,Ad e17,Ac b19,Ad e18,Ac b20,Ad e19,Ac b21,Ad e20,Ac b22,Ad e21,Ac b23,Ad e22,Ac b24,Ad e23,Ac b25,Ac b26,Ad e24,Ac b27,Ad e25,Ac b28,Ad e26,Ac b29,Ad e27,Ac b30,Ad e28,Ac b31,Ad e29,Ac b32,Ad e30,Ac b33,Ad e31,Ac b34,Ad e32,Ac b35,Ad e33,Ac b36,Ad e34,Ac b37,Ad e35,Ac b38,Ad e36,Ac b39,Ad e37,Ac b40,Ad e38,Ac b41,Ad e39,Ac b42,Ad e40,Ac b43,Ad e41,Ac b44,Ad e42,Ac b45,Ad e43]]),Ab (Ae .i64 0)])) (((0:Int)≤(0:Int)∧0<(Ai ps.length)∧Aq (nth [] ps 0)=8)∧∃b es b1 e1,cut (nth [] ps 0) 0 4 [Ac b,Ad es,Ac b1,Ad e1]∧((0:Int)≤(0:Int)∧0<(Ai ps.length)∧Aq (nth [] ps 0)=8)∧∃b2 e2 b3 e3,cut (nth [] ps 0) 4 4 [Ac b2,Ad e2,Ac b3,Ad e3]∧∃b4 e4 b5 e5,Gv 50 [Aa [Ac p0,Ad l0,Ac q0,Ad m0],Aa [Ac p0,Ad l0,Ac q0,Ad m0]] [Aa [Ac b4,Ad e4,Ac b5,Ad e5]]∧∃e6,Gv 49 [Aa [Ac b,Ad es,Ac b1,Ad e1,Ac b2,Ad e2,Ac b3,Ad e3,Ac b4,Ad e4,Ac b5,Ad e5]] [Ab (Ad e6)]∧Q [Ab (Ad e6),Ab (Ae .i64 0)]))):=by kernel_rfl
end
end Eng
end

section
namespace Eng
open Go Go.Proofs
set_option maxRecDepth 100000
def cV (p:Pt):List D:=cR p.x++cR p.y
def cL (l:Ln):List D:=cR l.a++(cR l.b++cR l.c)
def cC (c:Ci):List D:=cR c.x++(cR c.y++cR c.q)
def cP (p:Pt):List D:=cR p.x++(cR 0++(cR p.y++(cR 0++cR 0)))
def cCv (c:Cv):List D:= .bool c.arc::(cL c.ln++(cC c.ci++(.bool c.cw::(cP c.fr++cP c.tt))))
def z4G:List D:=[.bool false,.sl [],.bool false,.sl []]
def LJ:List D:=z4G++(z4G++z4G)
def SP:List D:=LJ++(z4G++z4G)
def z66G:List D:= .bool false::(LJ++(LJ++(.bool false::(SP++SP))))
theorem jS (hd:zn) {x y:Rat} (hx:Sr x) (hy:Sr y):qe CC 174 [qC x,qC y] [qC (x-y)]:=by
 refine qf (anns:=an0) mixedT Tryz.func174 ?_;have h:=vL hd hx hy;rw[qg x,qg y]at *;rw[OM];exact⟨_,_,_,_,h,rfl⟩
theorem ky (hd:zn) {x y:Rat} (hx:Sr x) (hy:Sr y):qe CC 176 [qC x,qC y] [qC (x+y)]:=by
 refine qf (anns:=an0) mixedT Tryz.func176 ?_;have h:=Z2 hd hx hy;rw[qg x,qg y]at *;rw[ON];exact⟨_,_,_,_,h,rfl⟩
theorem xO (hd:zn) {x y:Rat} (hx:Sr x) (hy:Sr y):qe CC 177 [qC x,qC y] [qC (x*y)]:=by
 refine qf (anns:=an0) mixedT Tryz.func177 ?_;have h:=vK hd hx hy;rw[qg x,qg y]at *;rw[OO];exact⟨_,_,_,_,h,rfl⟩
theorem zi (x:Rat):(sgn x.num==0)=decide (x=0):=by
 unfold sgn;by_cases h:x=0
 ·subst h;rfl
 ·have h1:x.num≠0:=fun e=>h (AA.1 e)
  rw[decide_eq_false h];split
  ·rfl
  ·rw[if_pos (by omega)];rfl
theorem Zm (x:Rat):qe CC 175 [qC x] [.c (.bool (decide (x=0)))]:=by
 refine qf (anns:=an0) mixedT Tryz.func175 ?_;have h:=zS x;rw[qg]at *;rw[L9];refine⟨_,h,?_⟩;rw[zi]
theorem OR (hd:zn) {x y:Rat} (hx:Sr x) (hy:Sr y) (h0:y≠0):qe CC 264 [qC x,qC y] [qC (x/y),.c (.int .i64 0)]:=by
 refine qf (anns:=an0) mixedT Tryz.func264 ?_;rw[qg,qg,OP];have px:=den_pos x;have py:=den_pos y;have hn:y.num≠0:=fun e=>h0 (AA.1 e)
 have h1:(x.den:Int)*y.num≠0:=Int.mul_ne_zero (by omega) hn;refine⟨_,zS y,?_⟩;refine brb (fun h=>?_) (fun _=>?_)
 ·rw[zi,decide_eq_false h0]at h;simp at h
 refine⟨_,_,up (jh hx.1.sm hy.2.sm),_,_,up (jh hx.2.sm hy.1.sm),_,_,_,_,kK hd (hx.1.mul hy.2) (hx.2.mul hy.1) h1,?_⟩;have e:x/y=A9 (x.num*y.den) (x.den*y.num):=by rw[A5,←A7,A8,←AC,A8]
 rw[e];rfl
theorem Vx (hd:zn) {x y:Rat} (hx:Sr x) (hy:Sr y) (h0:y≠0):qe CC 179 [qC x,qC y] [qC (x/y)]:=by
 refine qf (anns:=an0) mixedT Tryz.func179 ?_;have h:=OR hd hx hy h0;rw[qg x,qg y]at *;rw[LA];refine⟨_,_,_,_,_,h,?_⟩;exact brb (fun h=>by simp at h) (fun _=>rfl)
theorem LK:qe CC 121 [.c (.int .i64 0)] [qC 0]:=ka (n:=0) (by omega) (by omega)
theorem Vy:qe CC 178 [] [qC 0]:=by
 refine qf (anns:=an0) mixedT Tryz.func178 ?_;rw[RN];exact⟨_,_,_,_,LK,rfl⟩
theorem qY (p:Pt):Aa (cV p)= .ag [.bool (decide (p.x.num<0)),.sl (raw (lim p.x.num.natAbs)),.bool (decide ((p.x.den:Int)<0)),.sl (raw (lim (p.x.den:Int).natAbs)),.bool (decide (p.y.num<0)),.sl (raw (lim p.y.num.natAbs)),.bool (decide ((p.y.den:Int)<0)),.sl (raw (lim (p.y.den:Int).natAbs))]:=rfl
theorem Vz (p:Pt):qe CC 95 [.ag (cV p)] [.ag (cP p)]:=by
 refine qf (anns:=an0) mixedT Tryz.func95 ?_;rw[qY,RO];exact⟨_,_,_,_,Vy,_,_,_,_,Vy,_,_,_,_,Vy,rfl⟩
def Ov (d:Nat) (p:Pt):Prop:=FD d 330 p.x∧FD d 330 p.y
structure Dn (d:Nat):Prop where
 pos:0<d
 lt:d<10^330
theorem Dn.two {d:Nat} (h:Dn d):0<d*d∧d*d<10^660:=by
 refine⟨Az h.pos h.pos,?_⟩;have h1:=h.lt;obtain⟨k,hk⟩:∃k,k=330:=⟨_,rfl⟩;rw[←hk]at h1;have:=Av h1 h1;rw[←Ay]at this;have e:660=k+k:=by omega
 rw[e];exact this
theorem KS (hd:zn) {p q:Pt} {d:Nat} (hD:Dn d) (hp:Ov d p) (hq:Ov d q):
 qe CC 93 [.ag (cV p),.ag (cV q)] (if(lnT p q).a=0∧(lnT p q).b=0 then [.ag LJ,.c (.int .i64 6)]else [.ag (cL (lnT p q)),.c (.int .i64 0)]):=by
 refine qf (anns:=an0) mixedT Tryz.func93 ?_;have s1:∀{k x},FD d k x→k≤3600→Sr x:=fun h hk=>h.sr hD.pos hk hD.lt (by omega)
 have s2:∀{k x},FD (d*d) k x→k≤3600→Sr x:=fun h hk=>h.sr hD.two.1 hk hD.two.2 (by omega)
 have ha:=hp.2.sub hq.2 (j:=331) (by omega);have hb:=hq.1.sub hp.1 (j:=331) (by omega);have a1:=ha.mul hp.1 (l:=661) (by omega);have a2:=hb.mul hp.2 (l:=661) (by omega);have a0:∀Z:List A,(lnT p q).a≠0∨(lnT p q).b≠0→(if(lnT p q).a=0∧(lnT p q).b=0 then Z else [Aa (cL (lnT p q)),.c (.int .i64 0)])=[Aa (cL (lnT p q)),.c (.int .i64 0)]:=fun Z h=>if_neg fun g=>h.elim (fun k=>k g.1) fun k=>k g.2
 rw[qY,qY,KP];refine⟨_,_,_,_,jS hd (s1 hp.2 (by omega)) (s1 hq.2 (by omega)),_,_,_,_,jS hd (s1 hq.1 (by omega)) (s1 hp.1 (by omega)),_,Zm _,?_⟩;refine jC (fun h1=>⟨_,Zm _,?_⟩) (fun h1=>?_)
 ·refine jC (fun h2=>?_) (fun h2=>?_)
  ·rw[if_pos ⟨of_decide_eq_true h1,of_decide_eq_true h2⟩];rfl
  ·rw[a0 _ (.inr (of_decide_eq_false h2))];exact⟨_,_,_,_,xO hd (s1 ha (by omega)) (s1 hp.1 (by omega)),_,_,_,_,xO hd (s1 hb (by omega)) (s1 hp.2 (by omega)),_,_,_,_,ky hd (s2 a1 (by omega)) (s2 a2 (by omega)),rfl⟩
 ·rw[a0 _ (.inl (of_decide_eq_false h1))];exact⟨_,_,_,_,xO hd (s1 ha (by omega)) (s1 hp.1 (by omega)),_,_,_,_,xO hd (s1 hb (by omega)) (s1 hp.2 (by omega)),_,_,_,_,ky hd (s2 a1 (by omega)) (s2 a2 (by omega)),rfl⟩
end Eng
end

section
namespace Eng
open Go Go.Proofs
set_option maxRecDepth 100000
structure Cs (p q r:Pt):Prop where
 ux:Sr (q.x-p.x)
 uy:Sr (q.y-p.y)
 vx:Sr (r.x-p.x)
 vy:Sr (r.y-p.y)
 m1:Sr ((q.x-p.x)*(r.y-p.y))
 m2:Sr ((q.y-p.y)*(r.x-p.x))
 c:Sr (crs p q r)
 c2:Sr (crs p q r+crs p q r)
 a1:Sr ((q.x-p.x)*(q.x-p.x))
 a2:Sr ((q.y-p.y)*(q.y-p.y))
 a:Sr ((q.x-p.x)*(q.x-p.x)+(q.y-p.y)*(q.y-p.y))
 b1:Sr ((r.x-p.x)*(r.x-p.x))
 b2:Sr ((r.y-p.y)*(r.y-p.y))
 b:Sr ((r.x-p.x)*(r.x-p.x)+(r.y-p.y)*(r.y-p.y))
 t1:Sr (((q.x-p.x)*(q.x-p.x)+(q.y-p.y)*(q.y-p.y))*(r.y-p.y))
 t2:Sr (((r.x-p.x)*(r.x-p.x)+(r.y-p.y)*(r.y-p.y))*(q.y-p.y))
 t:Sr (((q.x-p.x)*(q.x-p.x)+(q.y-p.y)*(q.y-p.y))*(r.y-p.y)-((r.x-p.x)*(r.x-p.x)+(r.y-p.y)*(r.y-p.y))*(q.y-p.y))
 s1:Sr (((r.x-p.x)*(r.x-p.x)+(r.y-p.y)*(r.y-p.y))*(q.x-p.x))
 s2:Sr (((q.x-p.x)*(q.x-p.x)+(q.y-p.y)*(q.y-p.y))*(r.x-p.x))
 s:Sr (((r.x-p.x)*(r.x-p.x)+(r.y-p.y)*(r.y-p.y))*(q.x-p.x)-((q.x-p.x)*(q.x-p.x)+(q.y-p.y)*(q.y-p.y))*(r.x-p.x))
theorem Q0 {d e j k l:Nat} (h1:d<10^j) (h2:e<10^k) (hl:j+k≤l):d*e<10^l:=by
 refine At (Av h1 h2) ?_;rw[←Ay];exact As (by omega) hl
theorem Uj {p q r:Pt} {d:Nat} (hD:Dn d) (hp:Ov d p) (hq:Ov d q) (hr:Ov d r):Cs p q r∧
 (crs p q r≠0→∃e,0<e∧e<10^1654∧FD e 1655 (cx p q r)∧FD e 1655 (cy p q r)∧∀x,FD d 330 x→FD e 1654 x):=by
 have k1:∀{k x},FD d k x→k≤3600→Sr x:=fun h hk=>h.sr hD.pos hk hD.lt (by omega)
 have k2:∀{k x},FD (d*d) k x→k≤3600→Sr x:=fun h hk=>h.sr hD.two.1 hk hD.two.2 (by omega)
 have d3:0<d*d*d:=Az hD.two.1 hD.pos;have a0:=Q0 hD.two.2 hD.lt (l:=990) (by omega);have k3:∀{k x},FD (d*d*d) k x→k≤3600→Sr x:=fun h hk=>h.sr d3 hk a0 (by omega)
 have ux:=hq.1.sub hp.1 (j:=331) (by omega);have uy:=hq.2.sub hp.2 (j:=331) (by omega);have vx:=hr.1.sub hp.1 (j:=331) (by omega);have vy:=hr.2.sub hp.2 (j:=331) (by omega);have m1:=ux.mul vy (l:=662) (by omega);have m2:=uy.mul vx (l:=662) (by omega);have c:FD (d*d) 663 (crs p q r):=m1.sub m2 (by omega);have c2:=c.add c (j:=664) (by omega);have a1:=ux.mul ux (l:=662) (by omega);have a2:=uy.mul uy (l:=662) (by omega);have a:=a1.add a2 (j:=663) (by omega);have b1:=vx.mul vx (l:=662) (by omega);have b2:=vy.mul vy (l:=662) (by omega);have b:=b1.add b2 (j:=663) (by omega);have t1:=a.mul vy (l:=994) (by omega);have t2:=b.mul uy (l:=994) (by omega);have t:=t1.sub t2 (j:=995) (by omega);have s1:=b.mul ux (l:=994) (by omega);have s2:=a.mul vx (l:=994) (by omega);have s:=s1.sub s2 (j:=995) (by omega);refine⟨⟨k1 ux (by omega),k1 uy (by omega),k1 vx (by omega),k1 vy (by omega),k2 m1 (by omega),k2 m2 (by omega),k2 c (by omega),k2 c2 (by omega),k2 a1 (by omega),k2 a2 (by omega),k2 a (by omega),k2 b1 (by omega),k2 b2 (by omega),k2 b (by omega),k3 t1 (by omega),k3 t2 (by omega),k3 t (by omega),k3 s1 (by omega),k3 s2 (by omega),k3 s (by omega)⟩,fun h0=>?_⟩;obtain⟨n,hn,hl⟩:=c2;have a3:n≠0:=by
  rintro rfl;rw[Rat.zero_divInt]at hn;apply h0;have h3:(2:Rat)*crs p q r=0:=by rw[←hn];grind
  rcases AB.1 h3 with h|h
  ·exact absurd h (by decide)
  ·exact h
 have a4:0<n.natAbs:=by omega
 refine⟨d*d*d*n.natAbs,Az d3 a4,Q0 a0 hl (l:=1654) (by omega),t.div hn a3 hD.two.2 (by omega),s.div hn a3 hD.two.2 (by omega),fun x hx=>?_⟩;have e:d*d*d*n.natAbs=d*(d*d*n.natAbs):=by rw[A0,A0,A0]
 rw[e];exact hx.up (Q0 hD.two.2 hl (l:=1324) (by omega)) (Az hD.two.1 a4) (by omega)
end Eng
end

section
namespace Eng
open Go Go.Proofs
set_option maxRecDepth 100000
theorem YP (hd:zn) {p q r:Pt} {d:Nat} (hD:Dn d) (hp:Ov d p) (hq:Ov d q) (hr:Ov d r):
 qe CC 96 [.ag (cV p),.ag (cV q),.ag (cV r)] (if crs p q r=0 then [.ag LJ,.c (.int .i64 6)]else [.ag (cC (ciT p q r)),.c (.int .i64 0)]):=by
 refine qf (anns:=an0) mixedT Tryz.func96 ?_;obtain⟨S,hS⟩:=Uj hD hp hq hr;have k1:∀{k x},FD d k x→k≤3600→Sr x:=fun h hk=>h.sr hD.pos hk hD.lt (by omega)
 have px:=k1 hp.1 (by omega);have py:=k1 hp.2 (by omega);rw[qY,qY,qY,YO];refine⟨_,_,_,_,jS hd (k1 hq.1 (by omega)) px,_,_,_,_,jS hd (k1 hq.2 (by omega)) py,_,_,_,_,jS hd (k1 hr.1 (by omega)) px,_,_,_,_,jS hd (k1 hr.2 (by omega)) py,
  _,_,_,_,xO hd S.ux S.vy,_,_,_,_,xO hd S.uy S.vx,_,_,_,_,jS hd S.m1 S.m2,_,Zm _,?_⟩
 refine jC (fun h=>?_) (fun h=>?_)
 ·have h0:crs p q r=0:=of_decide_eq_true h;rw[if_pos h0];rfl
 ·have h0:crs p q r≠0:=of_decide_eq_false h;rw[if_neg h0];have h2:crs p q r+crs p q r≠0:=by
   intro h1;have h3:(2:Rat)*crs p q r=0:=by rw[←h1];grind
   rcases AB.1 h3 with h|h
   ·exact absurd h (by decide)
   ·exact h0 h
  obtain⟨e,e0,el,X,Y,W⟩:=hS h0;have k2:∀{k x},FD e k x→k≤3600→Sr x:=fun h hk=>h.sr e0 hk el (by omega)
  have ee0:=Az e0 e0;have eel:=Q0 el el (l:=3308) (by omega);have k3:∀{k x},FD (e*e) k x→k≤3600→Sr x:=fun h hk=>h.sr ee0 hk eel (by omega)
  have XX:=X.mul X (l:=3310) (by omega);have YY:=Y.mul Y (l:=3310) (by omega);exact⟨_,_,_,_,ky hd S.c S.c,_,_,_,_,xO hd S.ux S.ux,_,_,_,_,xO hd S.uy S.uy,_,_,_,_,ky hd S.a1 S.a2,
   _,_,_,_,xO hd S.vx S.vx,_,_,_,_,xO hd S.vy S.vy,_,_,_,_,ky hd S.b1 S.b2,
   _,_,_,_,xO hd S.a S.vy,_,_,_,_,xO hd S.b S.uy,_,_,_,_,jS hd S.t1 S.t2,_,_,_,_,Vx hd S.t S.c2 h2,
   _,_,_,_,xO hd S.b S.ux,_,_,_,_,xO hd S.a S.vx,_,_,_,_,jS hd S.s1 S.s2,_,_,_,_,Vx hd S.s S.c2 h2,
   _,_,_,_,ky hd px (k2 X (by omega)),_,_,_,_,ky hd py (k2 Y (by omega)),_,_,_,_,xO hd (k2 X (by omega)) (k2 X (by omega)),_,_,_,_,xO hd (k2 Y (by omega)) (k2 Y (by omega)),
   _,_,_,_,ky hd (k3 XX (by omega)) (k3 YY (by omega)),rfl⟩
theorem Zn:qe CC 94 [] [.ag (.bool false::(cL noL++(cC noC++(.bool false::(SP++SP)))))]:=by
 refine qf (anns:=an0) mixedT Tryz.func94 ?_;rw[LB];exact⟨_,_,_,_,LK,rfl⟩
def outC:Option Cv→List A
 |none=>[.ag z66G,.c (.int .i64 6)]
 |some c=>[.ag (cCv c),.c (.int .i64 0)]
theorem KT (hd:zn) {p q:Pt} {d:Nat} (hD:Dn d) (hp:Ov d p) (hq:Ov d q):qe CC 47 [.ag (cV p),.ag (cV q)] (outC (XF p q)):=by
 refine qf (anns:=an0) mixedT Tryz.func47 ?_;have h:=KS hd hD hp hq;have a1:=Vz p;have a2:=Vz q;unfold XF;rw[qY,qY]at *;rw[KQ];by_cases h0:(lnT p q).a=0∧(lnT p q).b=0
 ·rw[if_pos h0]at h ⊢;refine⟨_,_,_,_,_,_,_,_,_,_,_,_,_,h,?_⟩;exact brb (fun _=>rfl) (fun h=>by simp at h)
 ·rw[if_neg h0]at h ⊢;refine⟨_,_,_,_,_,_,_,_,_,_,_,_,_,h,?_⟩;refine brb (fun h=>by simp at h) (fun _=>?_);exact⟨_,_,_,_,_,_,_,_,_,_,_,_,_,_,_,_,_,_,_,_,_,_,_,_,_,_,_,_,_,_,_,_,_,_,_,_,_,_,_,_,_,_,_,_,_,_,_,_,_,_,_,_,_,_,_,_,_,_,_,_,_,_,_,_,_,_,Zn,_,_,_,_,_,_,_,_,_,_,_,_,_,_,_,_,_,_,_,_,a1,_,_,_,_,_,_,_,_,_,_,_,_,_,_,_,_,_,_,_,_,a2,rfl⟩
theorem LL (x y:Rat):decide (Kf x y>0)=decide (y<x):=by
 unfold Kf;by_cases h:x<y
 ·rw[if_pos h,decide_eq_false (Rat.not_lt.2 (Rat.le_of_lt h))];rfl
 ·rw[if_neg h];by_cases h2:y<x
  ·rw[if_pos h2,decide_eq_true h2];rfl
  ·rw[if_neg h2,decide_eq_false h2];rfl
theorem OS (hd:zn) {p q r:Pt} {d:Nat} (hD:Dn d) (hp:Ov d p) (hq:Ov d q) (hr:Ov d r):qe CC 48 [.ag (cV p),.ag (cV q),.ag (cV r)] (outC (ZO p q r)):=by
 refine qf (anns:=an0) mixedT Tryz.func48 ?_;have h:=YP hd hD hp hq hr;obtain⟨S,_⟩:=Uj hD hp hq hr;have k1:∀{k x},FD d k x→k≤3600→Sr x:=fun h hk=>h.sr hD.pos hk hD.lt (by omega)
 have px:=k1 hp.1 (by omega);have py:=k1 hp.2 (by omega);have a1:=Vz p;have a2:=Vz r;unfold ZO;rw[qY,qY,qY]at h;rw[qY]at a1 a2;rw[qY,qY,qY,OQ];by_cases h0:crs p q r=0
 ·rw[if_pos h0]at h ⊢;refine⟨_,_,_,_,_,_,_,_,_,_,_,_,_,h,?_⟩;exact brb (fun _=>rfl) (fun h=>by simp at h)
 ·rw[if_neg h0]at h ⊢;refine⟨_,_,_,_,_,_,_,_,_,_,_,_,_,h,?_⟩;refine brb (fun h=>by simp at h) (fun _=>?_);refine⟨_,_,_,_,vL hd (k1 hq.1 (by omega)) px,_,_,_,_,vL hd (k1 hq.2 (by omega)) py,_,_,_,_,vL hd (k1 hr.1 (by omega)) px,_,_,_,_,vL hd (k1 hr.2 (by omega)) py,
   _,_,_,_,vK hd S.ux S.vy,_,_,_,_,vK hd S.uy S.vx,_,UW S.m1 S.m2,_,_,_,_,_,_,_,_,_,_,_,_,_,_,_,_,_,_,_,_,_,_,_,_,_,_,_,_,_,_,_,_,_,_,_,_,_,_,_,_,_,_,_,_,_,_,_,_,_,_,_,_,_,_,_,_,_,_,_,_,_,_,_,_,_,_,Zn,_,_,_,_,_,_,_,_,_,_,_,_,_,_,_,_,_,_,_,_,a1,_,_,_,_,_,_,_,_,_,_,_,_,_,_,_,_,_,_,_,_,a2,?_⟩
  rw[LL];rfl
end Eng
end

section
namespace Eng
open Go Go.Proofs
set_option maxRecDepth 100000
theorem OT (a b:List Nat):raw (a++b)=raw a++raw b:=by unfold raw;rw[List.map_append]
theorem OU (k:Nat):raw (Ap k 0)=Ap k [Ae .u32 0]:=by unfold raw;rw[List.map_replicate];rfl
theorem V0 (k:Nat):Ap k [Ae Ah (0:Int)]++[[Ae Ah (1:Int)]]=raw (Ap k 0++[1]):=by
 rw[OT,OU];rfl
theorem Xv (k:Nat):Limbs (Ap k 0++[1]):=by
 intro x hx;rw[List.mem_append]at hx;rcases hx with h|h
 ·rw[(List.mem_replicate.1 h).2];omega
 ·rw[List.mem_singleton.1 h];omega
theorem V3 (k:Nat):val (Ap k 0++[1])=1000000000^k:=by
 rw[qL,jZ,Ar];show 0+1000000000^k*1=_;omega
theorem zO {n:Nat} (h:n<1000000000^100):Sm (n:Int):=by
 unfold Sm X1;rw[Aj];have h1:1000000000^100≤(1000000000^100)^10:=Nat.le_self_pow (by omega) _;exact At h h1
theorem je (n:Nat):cI (n:Int)=[.bool false,.sl (raw (lim n))]:=by
 unfold cI;rw[Aj,decide_eq_false (by omega)]
theorem qx (n:Nat):qH (n:Int)= .ag [.bool false,.sl (raw (lim n))]:=by unfold qH;rw[je]
def unr (l:List (List D)):Nat:=val (l.map fun r=>(toI (nth .undef r 0)).toNat)
theorem OV (l:List Nat):unr (raw l)=val l:=by
 unfold unr raw;rw[List.map_map];congr 1;have:((fun r:List D=>(toI (nth .undef r 0)).toNat)∘fun(x:Nat)=>[Ae .u32 (x:Int)])=id:=by funext x;rfl
 rw[this,List.map_id]
def msZ:List D→Nat
 |[_,.sl l]=>unr l
 |_=>0
theorem Zo (x:Nat):msZ (cI (x:Int))=x:=by
 rw[je];show unr (raw (lim x))=x;rw[OV,qj]
theorem RQ {b:Bool} {es:List (List D)} {x:Nat} (h:[Ac b,Ad es]=cI (x:Int)):b=false∧es=raw (lim x):=by
 rw[je]at h;simp only[List.cons.injEq,D.bool.injEq,D.sl.injEq,and_true]at h;exact h
theorem Uk (l:List Nat):(raw l).length=l.length:=by unfold raw;rw[List.length_map]
theorem SQ (n:Nat):1000000000^n=10^(9*n):=by
 rw[show(1000000000:Nat)=10^9 from rfl,←A1]
theorem Ul (hd:zn) {a:Nat} (ha:a<1000000000^90):qe CC 298 [qH (a:Int)] [qH (kY a:Int),.c (.int .i64 0)]:=by
 refine qf (anns:=fun _=>⟨[.box 5 [(.bool false),(.slice none 0 0)]],[],fun _ ds=>∃x:Nat,0<x∧x<1000000000^91∧ds=cI (x:Int)∧Kd a x=kY a,msZ⟩) mixedT Tryz.func298 ?_;rw[qx,Ui,Uk];have hL:(lim a).length≤90:=qo ha;have hav:a<10^(9*(lim a).length):=by
  have:=qG (qc a)
  rwa [qj,SQ]at this
 refine jC (fun h=>by simp at h) (fun _=>?_);refine brb (fun h=>?_) (fun h=>?_)
 ·have h0:lim a=[]:=by apply List.eq_nil_of_length_eq_zero;have:=LawfulBEq.eq_of_beq h;simp only[An]at this;omega
  obtain rfl:=jY.1 h0;have:kY 0=0:=by unfold kY;rw[Kd];rfl
  rw[this];rfl
 ·have hp:0<(lim a).length:=by
   rcases Nat.eq_zero_or_pos (lim a).length with h0|h0
   ·rw[h0]at h;simp at h
   ·exact h0
  have ap:0<a:=qz.1 hp;have hk:Af .i64 (Al (Af .i64 ((Ai (lim a).length)+1)) 2)=(((lim a).length+1)/2:Nat):=by simp only[An];rw[xL (n:=(((lim a).length:Nat):Int)+1) (by omega) (by omega),Int.tdiv_eq_ediv_of_nonneg (by omega),xL (by omega) (by omega)];omega
  rw[hk,Int.toNat_natCast,V0];generalize hkk:((lim a).length+1)/2=k at *;have hs:=up (Xy false (Xv k) (by rw[List.length_append,Ar,List.length_singleton];omega));rw[V3]at hs;have h2:=up (zk (n:=2) (by omega) (by omega));have a0:1000000000^k<1000000000^91:=Au (by omega) (by omega);refine⟨by omega,⟨by omega,by omega,by unfold room;omega⟩,⟨by rw[Ar];unfold room;omega,fun e he=>by simp at he;subst he;rfl⟩,_,_,hs,_,_,h2,⟨1000000000^k,Nat.pow_pos (by omega),a0,(je _).symm,?_⟩,?_⟩
  ·rw[SQ,←hkk];exact QV hav
  ·rintro b es ⟨x,hx0,hx,he,hn⟩;obtain⟨rfl,rfl⟩:=RQ he;have sx:Sm (x:Int):=zO (Ax hx (Au (by omega) (by omega)));have sa:Sm (a:Int):=zO (Ax ha (Au (by omega) (by omega)));have hq:=kB hd sa sx (by omega);have eq1:(a:Int)/(x:Int)=((a/x:Nat):Int):=rfl;have eq2:(a:Int)%(x:Int)=((a%x:Nat):Int):=rfl;rw[eq1,eq2]at hq;have hqa:a/x≤a:=A2 _ _;have sq:Sm ((a/x:Nat):Int):=zO (Aw hqa (Ax ha (Au (by omega) (by omega))));have a2:=up (vJ sx sq);have e1:(x:Int)+((a/x:Nat):Int)=((x+a/x:Nat):Int):=by omega
   rw[e1]at a2;have hb:x+a/x<1000000000^100:=by have h3:1000000000^90≤1000000000^91:=As (by omega) (by omega);have h4:1000000000^91*1000000000=1000000000^92:=rfl;have h5:1000000000^92≤1000000000^100:=As (by omega) (by omega);omega
   have a1:=kB hd (zO hb) (zO (n:=2) (by decide)) (by omega);have eq3:((x+a/x:Nat):Int)/((2:Nat):Int)=(((x+a/x)/2:Nat):Int):=rfl;have eq4:((x+a/x:Nat):Int)%((2:Nat):Int)=(((x+a/x)%2:Nat):Int):=rfl;rw[eq3,eq4]at a1;have sy:Sm (((x+a/x)/2:Nat):Int):=zO (by omega);have hc:=up (vI sy sx);rw[WH]at hn;generalize hy:(x+a/x)/2=y at *;rw[qx,qx,qx,qx]at hq;rw[qx,qx,qx]at a2;rw[qx,qx,qx,qx]at a1;rw[qx,qx]at hc;refine⟨_,_,_,_,_,hq,_,_,a2,_,_,_,_,_,a1,_,hc,?_⟩;unfold vH;refine brd (fun h3=>?_) (fun h3=>?_)
   ·have:x≤y:=by
     rcases A3 y x with h4|h4
     ·rw[if_pos (by omega)]at h3;omega
     ·exact h4
    rw[if_pos this]at hn;rw[←hn,qx]
   ·have h4:y<x:=by
     rcases A3 y x with h4|h4
     ·exact h4
     ·exfalso;apply h3;rw[if_neg (by omega)];split<;>omega
    rw[if_neg (by omega)]at hn;have yp:0<y:=by rw[←hy];exact WD ap hx0
    refine⟨⟨y,yp,by omega,(je y).symm,hn⟩,?_⟩;have m1:=Zo y;have m2:=Zo x;rw[je]at m1 m2;rw[m1,m2];exact h4
end Eng
end

section
namespace Eng
open Go Go.Proofs
set_option maxRecDepth 100000
theorem V4 (hd:zn) {m:Nat} (hm:m<1000000000^45):qe CC 296 [qH ((m*m:Nat):Int)] [qH (m:Int),.c (.bool true)]:=by
 refine qf (anns:=an0) mixedT Tryz.func296 ?_;have a0:m*m<1000000000^90:=by
  have:=Av hm hm
  rwa [←Ay]at this
 have h1:=Ul hd a0;rw[WG]at h1;have sm:Sm (m:Int):=zO (Ax hm (Au (by omega) (by omega)));have a1:Sm ((m*m:Nat):Int):=zO (Ax a0 (Au (by omega) (by omega)));have h2:=up (jh sm sm);have e:(m:Int)*(m:Int)=((m*m:Nat):Int):=(Ak m m).symm;rw[e]at h2;have h3:=up (vI a1 a1);rw[qx]at *;rw[LI];refine⟨_,_,_,h1,?_⟩;refine brb (fun _=>?_) (fun h=>by simp at h);refine⟨_,_,h2,_,h3,?_⟩;unfold vH;rw[if_neg (by omega),if_neg (by omega)];rw[qx];rfl
theorem JE (r:Rat):qC (absQ r)= .ag [.bool false,.sl (raw (lim r.num.natAbs)),.bool false,.sl (raw (lim r.den))]:=by
 obtain⟨h1,h2⟩:=WE r;unfold qC cR;rw[h1,h2,je,je];rfl
theorem LM (hd:zn) {r:Rat} (h1:r.num.natAbs<1000000000^45) (h2:r.den<1000000000^45):qe CC 220 [qC (r*r)] [qC (absQ r),.c (.bool true)]:=by
 refine qf (anns:=an0) mixedT Tryz.func220 ?_;obtain⟨e1,e2⟩:=GF r;have e3:r.num*r.num=((r.num.natAbs*r.num.natAbs:Nat):Int):=by rw[Ak,Int.natAbs_mul_self']
 have a1:=V4 hd h1;have a2:=V4 hd h2;have e:qC (r*r)= .ag [.bool false,.sl (raw (lim (r.num.natAbs*r.num.natAbs))),.bool false,.sl (raw (lim (r.den*r.den)))]:=by unfold qC cR;rw[e1,e2,e3,je,je];rfl
 rw[qx,qx]at a1 a2;rw[e,JE,LH];refine⟨_,_,_,a1,?_⟩;refine jC (fun _=>?_) (fun h=>by simp at h);refine⟨_,_,_,a2,?_⟩;exact jC (fun _=>rfl) (fun h=>by simp at h)
end Eng
end

section
namespace Eng
open Go Go.Proofs
set_option maxRecDepth 100000
theorem N9:qe CC 123 [] [qC 0]:=by
 refine qf (anns:=an0) mixedT Tryz.func123 ?_;rw[RP];exact⟨_,_,_,_,LK,rfl⟩
def cQ (x:Rat):List D:=cR x++(cR 0++cR 0)
theorem KU (x:Rat):qe CC 65 [qC x] [.ag (cQ x)]:=by
 refine qf (anns:=an0) mixedT Tryz.func65 ?_;rw[qg,KR];exact⟨_,_,_,_,N9,_,_,_,_,N9,rfl⟩
theorem RR (r:Rat):decide (sgn (r*r).num<0)=false:=by
 rw[(GF r).1];have h:0≤r.num*r.num:=by
  rcases Int.le_total 0 r.num with h|h
  ·exact Int.mul_nonneg h h
  ·exact Int.mul_nonneg_of_nonpos_of_nonpos h h
 unfold sgn;rw[if_neg (by omega)];split<;>rfl
theorem JF (hd:zn) {x u r:Rat} (h1:r.num.natAbs<1000000000^45) (h2:r.den<1000000000^45) (hx:Sr x) (hu:Sr u) (ha:Sr (absQ r)) (hm:Sr (u*absQ r)):
 qe CC 122 [qC x,qC u,qC (r*r)] [.ag (cQ (x+u*absQ r)),.c (.int .i64 0)]:=by
 refine qf (anns:=an0) mixedT Tryz.func122 ?_;have a0:=zS (r*r);have a1:=LM hd h1 h2;have a2:=vK hd hu ha;have a3:=Z2 hd hx hm;have a4:=KU (x+u*absQ r);rw[qg x,qg u,qg (r*r)]at *;rw[Ug];refine⟨_,a0,?_⟩;rw[RR];refine brb (fun h=>by simp at h) (fun _=>⟨_,_,_,_,_,a1,?_⟩);refine jC (fun _=>?_) (fun h=>by simp at h);exact⟨_,_,_,_,a2,_,_,_,_,a3,_,_,_,_,_,_,_,_,_,_,_,_,a4,rfl⟩
theorem OW:(sgn (0:Rat).num==0)=true:=rfl
theorem LN (p:Pt):qe CC 335 [.ag (cP p)] [.ag (cP p)]:=by
 refine qf (anns:=an0) mixedT Tryz.func335 ?_;refine(LC ..).mpr ?_;refine⟨_,zS 0,brb (fun _=>⟨_,zS 0,brb (fun _=>⟨_,_,_,_,Vy,rfl⟩) (fun h=>by rw[OW]at h;exact absurd h (by decide))⟩) (fun h=>by rw[OW]at h;exact absurd h (by decide))⟩
theorem Um (p:Pt):qe CC 267 [.ag (cQ p.x),.ag (cQ p.y)] [.ag (cP p),.c (.int .i64 0)]:=by
 refine qf (anns:=an0) mixedT Tryz.func267 ?_;refine(Uh ..).mpr ?_;exact⟨_,zS 0,brb (fun _=>⟨_,_,_,_,_,_,_,_,_,_,_,_,_,_,_,_,_,_,_,_,LN p,rfl⟩) (fun h=>by rw[OW]at h;exact absurd h (by decide))⟩
theorem V5 (hd:zn) {x u y v r:Rat} (h1:r.num.natAbs<1000000000^45) (h2:r.den<1000000000^45) (hx:Sr x) (hu:Sr u) (hy:Sr y) (hv:Sr v) (ha:Sr (absQ r)) (hm:Sr (u*absQ r)) (hn:Sr (v*absQ r)):
 qe CC 184 [qC x,qC u,qC y,qC v,qC (r*r)] [.ag (cP ⟨x+u*absQ r,y+v*absQ r⟩)]:=by
 refine qf (anns:=an0) mixedT Tryz.func184 ?_;have a1:=JF hd h1 h2 hx hu ha hm;have a2:=JF hd h1 h2 hy hv ha hn;rw[qg x,qg u,qg (r*r)]at a1;rw[qg y,qg v,qg (r*r)]at a2;rw[qg x,qg u,qg y,qg v,qg (r*r),LE];exact⟨_,_,_,_,_,_,_,_,_,_,_,_,_,a1,_,_,_,_,_,_,_,_,_,_,_,_,_,a2,_,_,_,_,_,_,_,_,_,_,_,_,_,_,_,_,_,_,_,_,_,Um ⟨x+u*absQ r,y+v*absQ r⟩,rfl⟩
def ptL (p:Pt) (r:Rat):Pt:=⟨p.x+ -1*absQ r,p.y+0*absQ r⟩
def ptR (p:Pt) (r:Rat):Pt:=⟨p.x+1*absQ r,p.y+0*absQ r⟩
theorem NA {z:Int} (h:z.natAbs≤9):Sq z:=Aw h (by unfold kN;decide)
theorem V6 (n:Int) (h:n.natAbs≤9):Sr ((n:Int):Rat):=by
 refine⟨?_,?_⟩
 ·rw[Rat.num_intCast];exact NA h
 ·rw[Rat.den_intCast];exact NA (by decide)
theorem sr_one:Sr (1:Rat):=V6 1 (by decide)
theorem xq:Sr (0:Rat):=V6 0 (by decide)
theorem Un {r:Rat} (h:Sr r):Sr (absQ r):=by
 obtain⟨h1,h2⟩:=WE r;refine⟨?_,?_⟩
 ·unfold Sq;rw[h1,Aj];exact h.1
 ·rw[h2];exact h.2
theorem LO (hd:zn) {p:Pt} {r:Rat} (h1:r.num.natAbs<1000000000^45) (h2:r.den<1000000000^45) (hx:Sr p.x) (hy:Sr p.y) (hr:Sr r):
 qe CC 99 [.ag (cC ⟨p.x,p.y,r*r⟩)] [.ag (cP (ptL p r)),.ag (cP (ptR p r))]:=by
 refine qf (anns:=an0) mixedT Tryz.func99 ?_;have ha:=Un hr;have m1:Sr (-1*absQ r):=by rw[Rat.neg_mul,AD];exact ha.neg
 have m2:Sr (1*absQ r):=by rw[AD];exact ha
 have m3:Sr (0*absQ r):=by rw[Rat.zero_mul];exact xq
 have o1:qe CC 121 [.c (.int .i64 1)] [qC 1]:=ka (n:=1) (by omega) (by omega);have a1:=V5 hd h1 h2 hx sr_one.neg hy xq ha m1 m3;have a2:=V5 hd h1 h2 hx sr_one hy xq ha m2 m3;refine(LF ..).mpr ?_;exact⟨_,_,_,_,o1,_,_,_,_,LK,_,_,_,_,Wy sr_one,_,_,_,_,_,_,_,_,_,_,_,_,_,_,_,_,_,_,_,_,a1,_,_,_,_,_,_,_,_,_,_,_,_,_,_,_,_,_,_,_,_,a2,rfl⟩
theorem LP (hd:zn) {p:Pt} {r:Rat} (h1:r.num.natAbs<1000000000^45) (h2:r.den<1000000000^45) (hx:Sr p.x) (hy:Sr p.y) (hr:Sr r):
 qe CC 49 [.ag (cC ⟨p.x,p.y,r*r⟩)] [.c (.sl ((XG p r).map cCv))]:=by
 refine qf (anns:=an0) mixedT Tryz.func49 ?_;have a1:=LO hd h1 h2 hx hy hr;refine(LG ..).mpr ?_;exact⟨_,_,_,_,_,_,_,_,_,_,_,_,_,_,_,_,_,_,_,_,_,_,_,_,_,_,_,_,_,_,_,_,_,_,_,_,_,_,_,_,a1,_,_,_,_,_,_,_,_,_,_,_,_,_,_,_,_,_,_,_,_,_,_,_,_,_,_,_,_,_,_,_,_,_,_,_,_,_,_,_,_,_,_,_,_,_,_,_,_,_,_,_,_,_,_,_,_,_,_,_,_,_,_,_,_,_,_,Zn,rfl⟩
end Eng
end
