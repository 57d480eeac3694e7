/- The verification conditions of functions, printed by a program (vcg5.py) and checked by the kernel. -/
import Derived.Test.YtfipmjpmflmbbaaGreatDPaA
import Derived.Test.YtfipmjpmflmbbaaGreatDPaB
import Derived.Test.YtfipmjpmflmbbaaGreatDPaC
import Derived.Test.YtfipmjpmflmbbaaGreatDPaF
import Derived.Test.YtfipmjpmflmbbaaGreatDPaG
import Derived.Test.YtfipmjpmflmbbaaGreatDEngE
import Derived.Test.YtfipmjpmflmbbaaGreatDPaE
import Derived.KernelRfl
import Derived.Laws.Bits64b
import Derived.Lib.Mul64
open Bool renaming and_eq_true→Aw, eq_false_or_eq_true→Bx, false_and→Dd, true_and→F0
open Eng.A renaming ag→F2, c→Hu
open Eng.C66 renaming tt→Hv, fr→Hx, cy→Hy, cx→J3, cq→J4, cw→J7
open Eng.D renaming int→J8, sl→J9, bool→Lm, str→Lr
open Eng.P20 renaming c→Ls, v→Lv, u→No, y→Pl, x→P1
open Go.IntKind renaming wrap→Ts, signed→T1, bits→U0, u64→U3
open Go.Lib renaming half_mul_le→V1
open Int renaming fdiv→W0, ofNat→W1, natCast_mul→W2, toNat_natCast→be, toNat→bv, lt_or_le→bx, tdiv→ca, ofNat_eq_natCast→cb, natAbs_neg→cc, zero_sub→cg
open LawfulBEq renaming eq_of_beq→cp
open List renaming length_replicate→cv, replicate→c3, length→dc
open List.cons renaming injEq→dl
open Nat renaming pow_lt_pow_right→dn, le_refl→ea, lt_trans→eb, pow_le_pow_right→ed, lt_of_le_of_lt→el, lt_or_ge→en, and_two_pow_sub_one_eq_mod→er, lt_of_lt_of_le→ey, mul_le_mul→fl
open Rat renaming intCast_le_intCast→ft, intCast_mul→fw, intCast_lt_intCast→fx, intCast_neg→fz, intCast_add→fR, floor_def→fS, mul_comm→gp, le_total→gq, floor_le→gr
set_option maxRecDepth 1000000
section
namespace Eng
open Go Go.Proofs
section
variable (Gv:Nat→List A→List A→Prop) (I0:List D→List D→Prop) (M0:List D→Nat) (I1:List D→List D→Prop) (M1:List D→Nat) (I2:List D→List D→Prop) (M2:List D→Nat) (I3:List D→List D→Prop) (M3:List D→Nat) (Q:List A→Prop)
theorem Z7 (i0:Int) (i1:Int):wpF CC Gv an0 Tryz.f282 [.c (.int .i64 i0),.c (.int .i64 i1)] Q=(bB (decide (i0<(-2305843009213693952:Int))) (Q [F2 [dI (0:Int),dI (0:Int)],aB false]) (bB (decide (i1>2305843009213693952)) (Q [F2 [dI (0:Int),dI (0:Int)],aB false]) (Q [F2 [dI i0,dI i1],aB true]))):=by kernel_rfl
theorem QH (r0:R4):wpF CC Gv an0 Tryz.f239 [.ag (rk r0 [])] Q=(∃x,Gv 111 [aI (65536:Int)] [aR x]∧∃x1,Gv 232 [aR r0,aR x] [aR x1]∧∃b es,Gv 281 [aR x1] [aZ b es]∧∃i b1,Gv 280 [aZ b es] [aI i,aB b1]∧∃x,Gv 234 [aR x1] [aR x]∧∃b es,Gv 281 [aR x] [aZ b es]∧∃b2 e1,Gv 278 [aZ b es] [aZ b2 e1]∧∃i_1 b,Gv 280 [aZ b2 e1] [aI i_1,aB b]∧bB (!b1) (Q [F2 [dI (0:Int),dI (0:Int)],aB false]) (bB (!b) (Q [F2 [dI (0:Int),dI (0:Int)],aB false]) (∃i_2 i_3 b,Gv 282 [aI i,aI i_1] [F2 [dI i_2,dI i_3],aB b]∧Q [F2 [dI i_2,dI i_3],aB b]))):=by kernel_rfl
theorem dK (a0:Int) (b0:Int) (a1:Int) (b1:Int):wpF CC Gv an0 Tryz.f240 [.ag [.int .i64 a0,.int .i64 b0],.ag [.int .i64 a1,.int .i64 b1]] Q=(∃i i_1 b,Gv 282 [aI (Ts .i64 (a0+a1)),aI (Ts .i64 (b0+b1))] [F2 [dI i,dI i_1],aB b]∧Q [F2 [dI i,dI i_1],aB b]):=by kernel_rfl
theorem dL (a0:Int) (b0:Int):wpF CC Gv an0 Tryz.f241 [.ag [.int .i64 a0,.int .i64 b0]] Q=(Q [F2 [dI (Ts .i64 (0-b0)),dI (Ts .i64 (0-a0))]]):=by kernel_rfl
theorem dM (i0:Int):wpF CC Gv an0 Tryz.f331 [.c (.int .i64 i0)] Q=(bB (decide (i0<0)) (Q [Hu (J8 .u64 (Ts .u64 (0-Ts .u64 i0)))]) (Q [Hu (J8 .u64 (Ts .u64 i0))])):=by kernel_rfl
theorem km (i0:Int) (i1:Int):wpF CC Gv an0 Tryz.f283 [.c (.int .i64 i0),.c (.int .i64 i1)] Q=(∃i,Gv 331 [aI i0] [Hu (J8 .u64 i)]∧∃i_1,Gv 331 [aI i1] [Hu (J8 .u64 i_1)]∧∃i_2 i_3,Gv 330 [Hu (J8 .u64 i),Hu (J8 .u64 i_1)] [Hu (J8 .u64 i_2),Hu (J8 .u64 i_3)]∧(0:Int)≤(16:Int)∧bB (W0 i_2 (65536:Int) !=(0:Int)) (Q [aI (0:Int),aI (0:Int),aB false]) ((0:Int)≤(48:Int)∧(0:Int)≤(16:Int)∧bB (decide (bits .or .u64 (Ts .u64 (i_2*281474976710656)) (W0 i_3 (65536:Int))>2305843009213693952)) (Q [aI (0:Int),aI (0:Int),aB false]) (bB (bits .and .u64 (i_3) (65535:Int) !=(0:Int)) (bB (!decide (i0<0)==decide (i1<0)) (bB (decide (Ts .i64 (0-Ts .i64 (Ts .i64 (bits .or .u64 (Ts .u64 (i_2*281474976710656)) (W0 i_3 (65536:Int)))+1))≥(-2305843009213693952:Int))) (Q [aI (Ts .i64 (0-Ts .i64 (Ts .i64 (bits .or .u64 (Ts .u64 (i_2*281474976710656)) (W0 i_3 (65536:Int)))+1))),aI (Ts .i64 (0-Ts .i64 (bits .or .u64 (Ts .u64 (i_2*281474976710656)) (W0 i_3 (65536:Int))))),aB (decide (Ts .i64 (0-Ts .i64 (bits .or .u64 (Ts .u64 (i_2*281474976710656)) (W0 i_3 (65536:Int))))≤2305843009213693952))]) (Q [aI (Ts .i64 (0-Ts .i64 (Ts .i64 (bits .or .u64 (Ts .u64 (i_2*281474976710656)) (W0 i_3 (65536:Int)))+1))),aI (Ts .i64 (0-Ts .i64 (bits .or .u64 (Ts .u64 (i_2*281474976710656)) (W0 i_3 (65536:Int))))),aB false])) (bB (decide (Ts .i64 (bits .or .u64 (Ts .u64 (i_2*281474976710656)) (W0 i_3 (65536:Int)))≥(-2305843009213693952:Int))) (Q [aI (Ts .i64 (bits .or .u64 (Ts .u64 (i_2*281474976710656)) (W0 i_3 (65536:Int)))),aI (Ts .i64 (Ts .i64 (bits .or .u64 (Ts .u64 (i_2*281474976710656)) (W0 i_3 (65536:Int)))+1)),aB (decide (Ts .i64 (Ts .i64 (bits .or .u64 (Ts .u64 (i_2*281474976710656)) (W0 i_3 (65536:Int)))+1)≤2305843009213693952))]) (Q [aI (Ts .i64 (bits .or .u64 (Ts .u64 (i_2*281474976710656)) (W0 i_3 (65536:Int)))),aI (Ts .i64 (Ts .i64 (bits .or .u64 (Ts .u64 (i_2*281474976710656)) (W0 i_3 (65536:Int)))+1)),aB false]))) (bB (!decide (i0<0)==decide (i1<0)) (bB (decide (Ts .i64 (0-Ts .i64 (bits .or .u64 (Ts .u64 (i_2*281474976710656)) (W0 i_3 (65536:Int))))≥(-2305843009213693952:Int))) (Q [aI (Ts .i64 (0-Ts .i64 (bits .or .u64 (Ts .u64 (i_2*281474976710656)) (W0 i_3 (65536:Int))))),aI (Ts .i64 (0-Ts .i64 (bits .or .u64 (Ts .u64 (i_2*281474976710656)) (W0 i_3 (65536:Int))))),aB (decide (Ts .i64 (0-Ts .i64 (bits .or .u64 (Ts .u64 (i_2*281474976710656)) (W0 i_3 (65536:Int))))≤2305843009213693952))]) (Q [aI (Ts .i64 (0-Ts .i64 (bits .or .u64 (Ts .u64 (i_2*281474976710656)) (W0 i_3 (65536:Int))))),aI (Ts .i64 (0-Ts .i64 (bits .or .u64 (Ts .u64 (i_2*281474976710656)) (W0 i_3 (65536:Int))))),aB false])) (bB (decide (Ts .i64 (bits .or .u64 (Ts .u64 (i_2*281474976710656)) (W0 i_3 (65536:Int)))≥(-2305843009213693952:Int))) (Q [aI (Ts .i64 (bits .or .u64 (Ts .u64 (i_2*281474976710656)) (W0 i_3 (65536:Int)))),aI (Ts .i64 (bits .or .u64 (Ts .u64 (i_2*281474976710656)) (W0 i_3 (65536:Int)))),aB (decide (Ts .i64 (bits .or .u64 (Ts .u64 (i_2*281474976710656)) (W0 i_3 (65536:Int)))≤2305843009213693952))]) (Q [aI (Ts .i64 (bits .or .u64 (Ts .u64 (i_2*281474976710656)) (W0 i_3 (65536:Int)))),aI (Ts .i64 (bits .or .u64 (Ts .u64 (i_2*281474976710656)) (W0 i_3 (65536:Int)))),aB false])))))):=by kernel_rfl
theorem Df (i0:Int):wpF CC Gv an0 Tryz.f325 [.c (.int .i64 i0)] Q=(∃b es,Gv 170 [aI i0] [aZ b es]∧∃b1 e1,Gv 170 [aI (65536:Int)] [aZ b1 e1]∧∃b2 e2,Gv 230 [aZ b es,aZ b1 e1] [aZ b2 e2]∧∃b es i,Gv 338 [aZ b2 e2] [aZ b es,aI i]∧∃i b3,Gv 280 [aZ b es] [aI i,aB b3]∧∃b4 e3,Gv 230 [aZ b es,aZ b es] [aZ b4 e3]∧∃i_1,Gv 229 [aZ b4 e3,aZ b2 e2] [aI i_1]∧Q [aI i,aB (i_1==0)]):=by kernel_rfl
theorem G2 (a0:Int) (b0:Int):wpF CC Gv an0 Tryz.f275 [.ag [.int .i64 a0,.int .i64 b0]] Q=(bB (decide (b0<0)) (Q [F2 [dI (0:Int),dI (0:Int)],aB false]) (∃i b,Gv 325 [aI (match decide (a0<0)with|true=>(0:Int)|false=>a0)] [aI i,aB b]∧∃i_1 b,Gv 325 [aI b0] [aI i_1,aB b]∧bB (!b) (∃i_2 i_3 b,Gv 282 [aI i,aI (Ts .i64 (i_1+1))] [F2 [dI i_2,dI i_3],aB b]∧Q [F2 [dI i_2,dI i_3],aB b]) (∃i_2 i_3 b,Gv 282 [aI i,aI i_1] [F2 [dI i_2,dI i_3],aB b]∧Q [F2 [dI i_2,dI i_3],aB b]))):=by kernel_rfl
theorem vO (r0:R4) (r1:R4) (r2:R4):wpF CC Gv an0 Tryz.f231 [.ag (rk r0 (rk r1 (rk r2 [])))] Q=(∃i i_1 b,Gv 239 [aR r0] [F2 [dI i,dI i_1],aB b]∧bB (!b) (Q [F2 [dI i,dI i_1],aB b]) (∃i_2,Gv 118 [aR r1] [aI i_2]∧bB (i_2==0) (Q [F2 [dI i,dI i_1],aB b]) (∃i_3 i_4 b,Gv 239 [aR r1] [F2 [dI i_3,dI i_4],aB b]∧∃i_5 i_6 b1,Gv 239 [aR r2] [F2 [dI i_5,dI i_6],aB b1]∧bB (!b) (Q [F2 [dI (0:Int),dI (0:Int)],aB false]) (bB (!b1) (Q [F2 [dI (0:Int),dI (0:Int)],aB false]) (∃i_7,Gv 118 [aR r2] [aI i_7]∧bB (decide (i_7<0)) (Q [F2 [dI (0:Int),dI (0:Int)],aB false]) (∃i_8 i_9 b,Gv 275 [F2 [dI i_5,dI i_6]] [F2 [dI i_8,dI i_9],aB b]∧bB (!b) (Q [F2 [dI (0:Int),dI (0:Int)],aB false]) (∃i_10 i_11 b,Gv 245 [F2 [dI i_3,dI i_4],F2 [dI i_8,dI i_9]] [F2 [dI i_10,dI i_11],aB b]∧bB (!b) (Q [F2 [dI (0:Int),dI (0:Int)],aB false]) (∃i_12 i_13 b,Gv 240 [F2 [dI i,dI i_1],F2 [dI i_10,dI i_11]] [F2 [dI i_12,dI i_13],aB b]∧Q [F2 [dI i_12,dI i_13],aB b])))))))):=by kernel_rfl
theorem Jy (a0:Int) (b0:Int):wpF CC Gv an0 Tryz.f242 [.ag [.int .i64 a0,.int .i64 b0]] Q=(bB (decide (a0>0)) (Q [aI (1:Int),aB true]) (bB (decide (b0<0)) (Q [aI (-1:Int),aB true]) (bB (a0==0) (Q [aI (0:Int),aB (b0==0)]) (Q [aI (0:Int),aB false])))):=by kernel_rfl
theorem Dg (r0:R4) (r1:R4) (r2:R4):wpF CC Gv an0 Tryz.f174 [.ag (rk r0 []),.ag (rk r1 []),.ag (rk r2 [])] Q=(∃i,Gv 118 [aR r0] [aI i]∧∃i_1,Gv 118 [aR r1] [aI i_1]∧∃i_2,Gv 118 [aR r2] [aI i_2]∧bB (Ts .i64 (i_1*i_2)==0) (Q [aI i]) (bB (i==Ts .i64 (i_1*i_2)) (Q [aI i]) (bB (i==0) (Q [aI (Ts .i64 (i_1*i_2))]) (∃x,Gv 232 [aR r0,aR r0] [aR x]∧∃x1,Gv 232 [aR r1,aR r1] [aR x1]∧∃x2,Gv 232 [aR x1,aR r2] [aR x2]∧∃i_3,Gv 172 [aR x,aR x2] [aI i_3]∧Q [aI (Ts .i64 (i*i_3))])))):=by kernel_rfl
theorem yH (r0:R4) (r1:R4) (r2:R4) (r3:R4) (r4:R4) (r5:R4):wpF CC Gv an0 Tryz.f173 [.ag (rk r0 (rk r1 (rk r2 []))),.ag (rk r3 (rk r4 (rk r5 [])))] Q=(∃i i_1 b,Gv 231 [aT r0 r1 r2] [F2 [dI i,dI i_1],aB b]∧∃i_2 i_3 b1,Gv 231 [aT r3 r4 r5] [F2 [dI i_2,dI i_3],aB b1]∧bB (!b) (Q [aI (0:Int),aB false]) (bB (!b1) (Q [aI (0:Int),aB false]) (bB (decide (i_1<i_2)) (Q [aI (-1:Int),aB true]) (bB (decide (i>i_3)) (Q [aI (1:Int),aB true]) (Q [aI (0:Int),aB false]))))):=by kernel_rfl
theorem As (r0:R4) (r1:R4) (r2:R4) (r3:R4) (r4:R4) (r5:R4):wpF CC Gv an0 Tryz.f176 [.ag (rk r0 (rk r1 (rk r2 (rk r3 (rk r4 (rk r5 []))))))] Q=(∃i,Gv 118 [aR r4] [aI i]∧bB (decide (i<0)) (Q [aI (0:Int)]) (∃i,Gv 118 [aR r5] [aI i]∧bB (decide (i<0)) (Q [aI (0:Int)]) (∃i b,Gv 235 [F2 (rk r0 (rk r1 (rk r2 (rk r3 (rk r4 (rk r5 []))))))] [aI i,aB b]∧br b (Q [aI i]) (∃i,Gv 174 [aR r0,aR r1,aR r4] [aI i]∧∃i_1,Gv 174 [aR r2,aR r3,aR r4] [aI i_1]∧∃i_2,Gv 118 [aR r5] [aI i_2]∧bB (Ts .i64 (i_1*i_2)==0) (Q [aI i]) (bB (i==Ts .i64 (i_1*i_2)) (Q [aI i]) (bB (i==0) (Q [aI (Ts .i64 (i_1*i_2))]) (∃x,Gv 232 [aR r0,aR r0] [aR x]∧∃x1,Gv 232 [aR r1,aR r1] [aR x1]∧∃x2,Gv 232 [aR r4,aR x1] [aR x2]∧∃x3,Gv 236 [aR x,aR x2] [aR x3]∧∃x,Gv 232 [aR r2,aR r2] [aR x]∧∃x4,Gv 232 [aR r3,aR r3] [aR x4]∧∃x5,Gv 232 [aR r4,aR x4] [aR x5]∧∃x6,Gv 236 [aR x,aR x5] [aR x6]∧∃x,Gv 232 [aR r5,aR x6] [aR x]∧∃x7,Gv 175 [aR x3,aR x] [aR x7]∧∃x,Gv 232 [aR r0,aR r1] [aR x]∧∃x8,Gv 232 [aR r2,aR r3] [aR x8]∧∃x9,Gv 232 [aR r5,aR x8] [aR x9]∧∃x10,Gv 175 [aR x,aR x9] [aR x10]∧∃x,Gv 236 [aR x10,aR x10] [aR x]∧∃i_3,Gv 174 [aR x7,aR x,aR r4] [aI i_3]∧Q [aI (Ts .i64 (i*i_3))]))))))):=by kernel_rfl
theorem dN (r0:R4) (r1:R4):wpF CC Gv an0 Tryz.f236 [.ag (rk r0 []),.ag (rk r1 [])] Q=(∃x,Gv 233 [aR r0,aR r1] [aR x]∧Q [aR x]):=by kernel_rfl
theorem dO (r0:R4) (r1:R4) (r2:R4) (r3:R4) (r4:R4) (r5:R4):wpF CC Gv an0 Tryz.f177 [.ag (rk r0 (rk r1 (rk r2 []))),.ag (rk r3 (rk r4 (rk r5 [])))] Q=(∃x,Gv 175 [aR r0,aR r3] [aR x]∧∃x1,Gv 237 [aR r1] [aR x1]∧∃x2,Gv 234 [aR r4] [aR x2]∧∃x3,Gv 111 [aI (0:Int)] [aR x3]∧∃x4,Gv 237 [aR r2] [aR x4]∧∃x5,Gv 237 [aR r5] [aR x5]∧Q [F2 (rk x (rk x1 (rk x2 (rk x3 (rk x4 (rk x5 []))))))]):=by kernel_rfl
theorem Rq (r0:R4):wpF CC Gv an0 Tryz.f237 [.ag (rk r0 [])] Q=(∃x,Gv 234 [aR r0] [aR x]∧∃x1,Gv 234 [aR x] [aR x1]∧Q [aR x1]):=by kernel_rfl
theorem dP (r0:R4) (r1:R4) (r2:R4) (r3:R4) (r4:R4) (r5:R4):wpF CC Gv an0 Tryz.f115 [.ag (rk r0 (rk r1 (rk r2 []))),.ag (rk r3 (rk r4 (rk r5 [])))] Q=(∃i,Gv 118 [aR r1] [aI i]∧bB (i==0) (∃i,Gv 118 [aR r4] [aI i]∧bB (i==0) (∃i,Gv 172 [aR r0,aR r3] [aI i]∧Q [aI i]) (∃i b,Gv 173 [aT r0 r1 r2,aT r3 r4 r5] [aI i,aB b]∧br b (Q [aI i]) (∃i,Gv 172 [aR r2,aR r5] [aI i]∧bB (i==0) (∃x,Gv 175 [aR r0,aR r3] [aR x]∧∃x1,Gv 175 [aR r1,aR r4] [aR x1]∧∃i,Gv 174 [aR x,aR x1,aR r2] [aI i]∧Q [aI i]) (∃x x1,Gv 177 [aT r0 r1 r2,aT r3 r4 r5] [F2 (pk x (rk x1 []))]∧∃i,Gv 176 [F2 (pk x (rk x1 []))] [aI i]∧Q [aI i])))) (∃i b,Gv 173 [aT r0 r1 r2,aT r3 r4 r5] [aI i,aB b]∧br b (Q [aI i]) (∃i,Gv 172 [aR r2,aR r5] [aI i]∧bB (i==0) (∃x,Gv 175 [aR r0,aR r3] [aR x]∧∃x1,Gv 175 [aR r1,aR r4] [aR x1]∧∃i,Gv 174 [aR x,aR x1,aR r2] [aI i]∧Q [aI i]) (∃x x1,Gv 177 [aT r0 r1 r2,aT r3 r4 r5] [F2 (pk x (rk x1 []))]∧∃i,Gv 176 [F2 (pk x (rk x1 []))] [aI i]∧Q [aI i])))):=by kernel_rfl
theorem mq (r0:R4) (r1:R4) (r2:R4) (r3:R4) (r4:R4) (r5:R4):wpF CC Gv an0 Tryz.f171 [.ag (rk r0 (rk r1 (rk r2 []))),.ag (rk r3 (rk r4 (rk r5 [])))] Q=(∃i,Gv 115 [aT r0 r1 r2,aT r3 r4 r5] [aI i]∧Q [aB (i==0)]):=by kernel_rfl
theorem Dh (r0:R4) (r1:R4) (r2:R4):wpF CC Gv an0 Tryz.f112 [.ag (rk r0 []),.ag (rk r1 []),.ag (rk r2 [])] Q=(∃i,Gv 118 [aR r1] [aI i]∧bB (i==0) (∃x,Gv 60 [] [aR x]∧Q [aT r0 r1 x]) (Q [aT r0 r1 r2])):=by kernel_rfl
theorem uc (p0:P20):wpF CC Gv an0 Tryz.f62 [.ag (pk p0 [])] Q=(∃x x1 x2,Gv 112 [aR (P1 p0),aR (No p0),aR (Ls p0)] [aT x x1 x2]∧Q [aT x x1 x2]):=by kernel_rfl
theorem ud (p0:P20):wpF CC Gv an0 Tryz.f116 [.ag (pk p0 [])] Q=(∃x x1 x2,Gv 112 [aR (Pl p0),aR (Lv p0),aR (Ls p0)] [aT x x1 x2]∧Q [aT x x1 x2]):=by kernel_rfl
theorem At:wpF CC Gv an0 Tryz.f60 [] Q=(∃x,Gv 111 [aI (0:Int)] [aR x]∧Q [aR x]):=by kernel_rfl
theorem Au (r0:R4) (r1:R4):wpF CC Gv an0 Tryz.f182 [.ag (rk r0 []),.ag (rk r1 [])] Q=(∃x,Gv 232 [aR r0,aR r1] [aR x]∧Q [aR x]):=by kernel_rfl
theorem Di (r0:R4):wpF CC Gv an0 Tryz.f281 [.ag (rk r0 [])] Q=(∃b es b1 e1 i,Gv 329 [aZ (R4.b r0) (R4.l r0),aZ (R4.c r0) (R4.m r0)] [aZ b es,aZ b1 e1,aI i]∧Q [aZ b es]):=by kernel_rfl
end
end Eng
end
section
namespace Eng
namespace Rl
theorem Av {x y:Rl}:0≤y-x↔x≤y:=not_congr N2
theorem mr (x y z:Rl):x*(y-z)=x*y-x*z:=by
 obtain⟨x,rfl⟩:=x.rep;obtain⟨y,rfl⟩:=y.rep;obtain⟨z,rfl⟩:=z.rep;exact xC fun n=>by simp only[xZ,z8,jN];grind
theorem ue (x y z:Rl): -x*(z-y)=x*(y-z):=by
 obtain⟨x,rfl⟩:=x.rep;obtain⟨y,rfl⟩:=y.rep;obtain⟨z,rfl⟩:=z.rep;exact xC fun n=>by simp only[xZ,z8,jN];grind
theorem Rr {x y z:Rl} (hx:0≤x) (h:y≤z):x*y≤x*z:=by
 rw[←Av,←mr];exact Ip hx (Av.2 h)
theorem O8 {x y z:Rl} (hx:x≤0) (h:y≤z):x*z≤x*y:=by
 rw[←Av,←mr,←ue];exact Ip (fun k=>hx (jE.1 k)) (Av.2 h)
theorem mu {x y z w:Rl} (h:x≤y) (k:z≤w):x+z≤y+w:=by
 refine le_trans ((Bm z).2 h) ?_;rw[adc y,adc y];exact(Bm y).2 k
theorem mw {x y:Rl} (h:x≤y): -y≤ -x:=fun k=>h (Bn.1 k)
theorem mz {x:Rl} {a b c L:Rat} (h1:ofR a≤x) (h2:x≤ofR b) (l1:L≤a*c) (l2:L≤b*c):ofR L≤x*ofR c:=by
 rcases gq (a:=0) (b:=c)with h|h
 ·refine le_trans (jP.2 l1) ?_;rw[qV,mlc (ofR a),mlc x];exact Rr (jP.2 h) h1
 ·refine le_trans (jP.2 l2) ?_;rw[qV,mlc (ofR b),mlc x];exact O8 (jP.2 h) h2
theorem m0 {x:Rl} {a b c H:Rat} (h1:ofR a≤x) (h2:x≤ofR b) (l1:a*c≤H) (l2:b*c≤H):x*ofR c≤ofR H:=by
 rcases gq (a:=0) (b:=c)with h|h
 ·refine le_trans ?_ (jP.2 l2);rw[qV,mlc (ofR b),mlc x];exact Rr (jP.2 h) h2
 ·refine le_trans ?_ (jP.2 l1);rw[qV,mlc (ofR a),mlc x];exact O8 (jP.2 h) h1
theorem uf {x y:Rl} {a b c d L:Rat} (h1:ofR a≤x) (h2:x≤ofR b) (h3:ofR c≤y) (h4:y≤ofR d) (l1:L≤a*c) (l2:L≤b*c) (l3:L≤a*d) (l4:L≤b*d):ofR L≤x*y:=by
 rcases le_total 0 x with h|h
 ·exact le_trans (mz h1 h2 l1 l2) (Rr h h3)
 ·exact le_trans (mz h1 h2 l3 l4) (O8 h h4)
theorem ug {x y:Rl} {a b c d H:Rat} (h1:ofR a≤x) (h2:x≤ofR b) (h3:ofR c≤y) (h4:y≤ofR d) (l1:a*c≤H) (l2:b*c≤H) (l3:a*d≤H) (l4:b*d≤H):x*y≤ofR H:=by
 rcases le_total 0 x with h|h
 ·exact le_trans (Rr h h4) (m0 h1 h2 l3 l4)
 ·exact le_trans (O8 h h3) (m0 h1 h2 l1 l2)
theorem m6 {x y:Rl} (hy:0≤y) (h:x*x≤y*y) (hx:0≤x):x≤y:=by
 rcases le_total x y with k|k
 ·exact k
 ·have h1:=Rr hx k;have h2:=Rr hy k;rw[mlc y x]at h2;have h3:x*x=y*y:=xD h (le_trans h2 h1);rw[N4 hx hy h3];exact zJ
end Rl
open Rl
def inI (lo hi:Int) (x:Rl):Prop:=ofR ((lo:Rat)/65536)≤x∧x≤ofR ((hi:Rat)/65536)
theorem dQ {a b c d:Int} {x y:Rl} (h:inI a b x) (k:inI c d y):inI (a+c) (b+d) (x+y):=by
 refine⟨?_,?_⟩
 ·have:=mu h.1 k.1;rw[←zn]at this;have e:((a+c:Int):Rat)/65536=(a:Rat)/65536+(c:Rat)/65536:=by rw[fR];grind
  rw[e];exact this
 ·have:=mu h.2 k.2;rw[←zn]at this;have e:((b+d:Int):Rat)/65536=(b:Rat)/65536+(d:Rat)/65536:=by rw[fR];grind
  rw[e];exact this
theorem Mw {a b:Int} {x:Rl} (h:inI a b x):inI (-b) (-a) (-x):=by
 refine⟨?_,?_⟩
 ·have:=mw h.2;rw[←jW]at this;have e:((-b:Int):Rat)/65536= -((b:Rat)/65536):=by rw[fz];grind
  rw[e];exact this
 ·have:=mw h.1;rw[←jW]at this;have e:((-a:Int):Rat)/65536= -((a:Rat)/65536):=by rw[fz];grind
  rw[e];exact this
theorem dR {lo hi:Int} {x:Rat} (h1:(lo:Rat)≤x*65536) (h2:x*65536≤(hi:Rat)):inI lo hi (ofR x):=by
 refine⟨jP.2 ?_,jP.2 ?_⟩<;>grind
theorem dS {a b c d L H:Int} {x y:Rl} (h:inI a b x) (k:inI c d y) (hL:∀p q,(p=a∨p=b)→(q=c∨q=d)→L*65536≤p*q) (hH:∀p q,(p=a∨p=b)→(q=c∨q=d)→p*q≤H*65536):inI L H (x*y):=by
 have cL:∀p q:Int,L*65536≤p*q→(L:Rat)/65536≤(p:Rat)/65536*((q:Rat)/65536):=fun p q h=>by
  have h1:=ft.2 h;rw[fw,fw]at h1
  grind
 have cH:∀p q:Int,p*q≤H*65536→(p:Rat)/65536*((q:Rat)/65536)≤(H:Rat)/65536:=fun p q h=>by
  have h1:=ft.2 h;rw[fw,fw]at h1
  grind
 exact⟨uf h.1 h.2 k.1 k.2 (cL _ _ (hL _ _ (.inl rfl) (.inl rfl))) (cL _ _ (hL _ _ (.inr rfl) (.inl rfl))) (cL _ _ (hL _ _ (.inl rfl) (.inr rfl))) (cL _ _ (hL _ _ (.inr rfl) (.inr rfl))),
  ug h.1 h.2 k.1 k.2 (cH _ _ (hH _ _ (.inl rfl) (.inl rfl))) (cH _ _ (hH _ _ (.inr rfl) (.inl rfl))) (cH _ _ (hH _ _ (.inl rfl) (.inr rfl))) (cH _ _ (hH _ _ (.inr rfl) (.inr rfl)))⟩
theorem O9 {a b L H:Int} {c:Rat} (hc:0≤c) (h:inI a b (ofR c)) (hL0:0≤L) (hH0:0≤H) (hL:L*L≤max a 0*65536) (hH:b*65536≤H*H):inI L H (jh c):=by
 have h1:=jP.1 h.1;have h2:=jP.1 h.2;have e:=kH hc;refine⟨m6 (Zi c) ?_ (jP.2 ?_),m6 (jP.2 ?_) ?_ (Zi c)⟩
 ·rw[e,←qV];refine jP.2 ?_;have k:=ft.2 hL;rw[fw,fw]at k;have k2:((max a 0:Int):Rat)≤c*65536:=by
   rcases Int.le_total a 0 with h|h
   ·rw[Int.max_eq_right h];grind
   ·rw[Int.max_eq_left h];grind
  grind
 ·have:=ft.2 hL0
  grind
 ·have:=ft.2 hH0
  grind
 ·rw[e,←qV];refine jP.2 ?_;have k:=ft.2 hH;rw[fw,fw]at k
  grind
theorem dT {a b:Int} {x:Rl} (h:inI a b x) (k:0<a):0<x:=by
 refine lt_of_lt_of_le (ZN.2 ?_) h.1;have:=fx.2 k
 grind
theorem Ax {a b:Int} {x:Rl} (h:inI a b x) (k:b<0):x<0:=by
 refine lt_of_le_of_lt h.2 (ZN.2 ?_);have:=fx.2 k
 grind
theorem Ay {x:Rl} (h:inI 0 0 x):x=0:=by
 have h1:=h.1;have h2:=h.2;have e:((0:Int):Rat)/65536=0:=by grind
 rw[e]at h1 h2;exact xD h2 h1
theorem IU {a b c d:Int} {x y:Rl} (h:inI a b x) (k:inI c d y) (l:b<c):x<y:=by
 refine lt_of_le_of_lt h.2 (lt_of_lt_of_le (ZN.2 ?_) k.1);have:=fx.2 l
 grind
end Eng
end
section
namespace Eng
open Go Go.Proofs Rl
set_option maxRecDepth 100000
theorem wb (x:Rat):qc CC 118 [aR (q4 x)] [aI (sr x)]:=by
 rw[←Iw];exact Jh x
theorem ox {x:Rat} {k:Nat} (hx:Hz k x) (h:k<360000:=by omega):qc CC 234 [aR (q4 x)] [aR (q4 (-x))]:=TS (hx.sr h)
theorem bAdd {x y:Rat} {j k:Nat} (hx:Hz j x) (hy:Hz k y) (h:j<360000∧k<360000:=by omega):qc CC 233 [aR (q4 x),aR (q4 y)] [aR (q4 (x+y))]:=TT Wp (hx.sr h.1) (hy.sr h.2)
theorem fh {x y:Rat} {j k:Nat} (hx:Hz j x) (hy:Hz k y) (h:j<360000∧k<360000:=by omega):qc CC 175 [aR (q4 x),aR (q4 y)] [aR (q4 (x-y))]:=SV Wp (hx.sr h.1) (hy.sr h.2)
theorem Mx {x y:Rat} {j k:Nat} (hx:Hz j x) (hy:Hz k y) (h:j<360000∧k<360000:=by omega):qc CC 232 [aR (q4 x),aR (q4 y)] [aR (q4 (x*y))]:=SU Wp (hx.sr h.1) (hy.sr h.2)
theorem oy {x y:Rat} {j k:Nat} (hx:Hz j x) (hy:Hz k y) (h:j<360000∧k<360000:=by omega):qc CC 172 [aR (q4 x),aR (q4 y)] [aI (sr (x-y))]:=by
 rw[←BB];exact ST (hx.sr h.1) (hy.sr h.2)
theorem bInt {n:Int} (h1: -9223372036854775808≤n) (h2:n<9223372036854775808):qc CC 111 [aI n] [aR (q4 (n:Rat))]:=Xq h1 h2
theorem b0:qc CC 111 [aI 0] [aR (q4 0)]:=bInt (n:=0) (by omega) (by omega)
theorem IV {x:Rat} {k:Nat} (hx:Hz k x) (h:k<360000:=by omega):qc CC 281 [aR (q4 x)] [qS x.floor]:=by
 refine wpG Tryz.func281 ((Di ..).mpr ?_);have hp:=x.den_pos;have hs:=hx.sr h;have h:=wT Wp hs.1.sm hs.2.sm (by omega);have e:x.num/(x.den:Int)=x.floor:=by rw[fS]
 rw[e]at h;exact⟨_,_,_,_,_,h,rfl⟩
def FB (x:Int):Prop:= -2305843009213693952≤x∧x≤2305843009213693952
def eIv (a b:Int):A:= .ag [dI a,dI b]
def eOk (b:Bool):A:=aB b
theorem dU {a b:Int}:∃c d ok,qc CC 282 [aI a,aI b] [eIv c d,eOk ok]∧(ok=true→c=a∧d=b∧ -2305843009213693952≤c∧d≤2305843009213693952)∧(ok=false→c=0∧d=0):=by
 by_cases h:a< -2305843009213693952
 ·refine⟨0,0,false,?_,by simp,by simp⟩;refine wpG Tryz.func282 ((Z7 ..).mpr ?_);exact brd (fun _=>rfl) (fun k=>absurd h k)
 by_cases h2:b>2305843009213693952
 ·refine⟨0,0,false,?_,by simp,by simp⟩;refine wpG Tryz.func282 ((Z7 ..).mpr ?_);exact brd (fun k=>absurd k h) (fun _=>brd (fun _=>rfl) (fun k=>absurd h2 k))
 ·refine⟨a,b,true,?_,fun _=>⟨rfl,rfl,by omega,by omega⟩,by simp⟩;refine wpG Tryz.func282 ((Z7 ..).mpr ?_);exact brd (fun k=>absurd k h) (fun _=>brd (fun k=>absurd k h2) (fun _=>rfl))
end Eng
end
section
open Go Go.Proofs Eng
namespace Eng
section
variable (Gv:Nat→List A→List A→Prop) (I0:List D→List D→Prop) (M0:List D→Nat) (I1:List D→List D→Prop) (M1:List D→Nat) (I2:List D→List D→Prop) (M2:List D→Nat) (I3:List D→List D→Prop) (M3:List D→Nat) (Q:List A→Prop)
theorem Dj (z0:Bool) (l0:List (List D)):wpF CC Gv (fun _=>⟨[.slot 4 (.int .u64 0),.slot 5 (.int .i64 0)],[],I0,M0⟩) Tryz.f280 [.ag [.bool z0,.sl l0]] Q=(∃b es,Gv 170 [aI (-9223372036854775808:Int)] [aZ b es]∧∃i,Gv 229 [aZ z0 l0,aZ b es] [aI i]∧bB (decide (i<0)) (Q [aI (0:Int),aB false]) (∃b es,Gv 170 [aI (9223372036854775807:Int)] [aZ b es]∧∃i,Gv 229 [aZ z0 l0,aZ b es] [aI i]∧bB (decide (i>0)) (Q [aI (0:Int),aB false]) (I0 [] [J8 .u64 0,dI (Ts .i64 ((W1 l0.length)-1))]∧∀(i i_1:Int),I0 [] [J8 .u64 i,dI i_1]→bB (decide (i_1≥0)) ((0≤i_1∧i_1<(W1 l0.length)∧dc (nth [] l0 (bv i_1))=1)∧∃i_2,cut (nth [] l0 (bv i_1)) 0 1 [J8 .u32 i_2]∧I0 [] [J8 .u64 (Ts .u64 (Ts .u64 (i*1000000000)+Ts .u64 i_2)),dI (Ts .i64 (i_1-1))]∧M0 [J8 .u64 (Ts .u64 (Ts .u64 (i*1000000000)+Ts .u64 i_2)),dI (Ts .i64 (i_1-1))]<M0 [J8 .u64 i,dI i_1]) (br z0 (Q [aI (Ts .i64 (Ts .u64 (0-i))),aB true]) (Q [aI (Ts .i64 i),aB true]))))):=by kernel_rfl
theorem Az (z0:Bool) (l0:List (List D)):wpF CC Gv (fun _=>⟨[.box 5 [(.bool false),(.slice none 0 0)]],[],I0,M0⟩) Tryz.f338 [.ag [.bool z0,.sl l0]] Q=(br z0 (Q [aZ false [],aI (7:Int)]) (bB ((W1 l0.length)==0) (Q [aZ false [],aI (0:Int)]) ((2:Int)≠(0:Int)∧(0≤Ts .i64 (ca (Ts .i64 ((W1 l0.length)+1)) (2:Int))∧Ts .i64 (ca (Ts .i64 ((W1 l0.length)+1)) (2:Int))≤Ts .i64 (ca (Ts .i64 ((W1 l0.length)+1)) (2:Int))∧room (bv (Ts .i64 (ca (Ts .i64 ((W1 l0.length)+1)) (2:Int)))))∧(room (dc (c3 (bv (Ts .i64 (ca (Ts .i64 ((W1 l0.length)+1)) (2:Int)))) [J8 .u32 0])+1)∧lens 1 [[J8 .u32 1]])∧∃b es,Gv 226 [aB false,aL (c3 (bv (Ts .i64 (ca (Ts .i64 ((W1 l0.length)+1)) (2:Int)))) [J8 .u32 0]++[[J8 .u32 1]])] [aZ b es]∧∃b1 e1,Gv 170 [aI (2:Int)] [aZ b1 e1]∧I0 [] [Lm b,J9 es]∧∀(b:Bool) (es:List (List D)),I0 [] [Lm b,J9 es]→∃b2 e2 b3 e3 i,Gv 329 [aZ z0 l0,aZ b es] [aZ b2 e2,aZ b3 e3,aI i]∧∃b4 e4,Gv 277 [aZ b es,aZ b2 e2] [aZ b4 e4]∧∃b5 e5 b6 e6 i,Gv 329 [aZ b4 e4,aZ b1 e1] [aZ b5 e5,aZ b6 e6,aI i]∧∃i,Gv 229 [aZ b5 e5,aZ b es] [aI i]∧bB (decide (i≥0)) (Q [aZ b es,aI (0:Int)]) (I0 [] [Lm b5,J9 e5]∧M0 [Lm b5,J9 e5]<M0 [Lm b,J9 es])))):=by kernel_rfl
theorem dV (a0:Int) (b0:Int) (a1:Int) (b1:Int):wpF CC Gv (G7 ⟨[.slot 21 (.int .i64 0),.slot 6 (.int .i64 0),.slot 7 (.int .i64 0)],[],I0,M0⟩ ⟨[.slot 31 (.int .i64 0),.slot 6 (.int .i64 0),.slot 7 (.int .i64 0)],[.slot 21 (.int .i64 0)],I1,M1⟩) Tryz.f245 [.ag [.int .i64 a0,.int .i64 b0],.ag [.int .i64 a1,.int .i64 b1]] Q=(I0 [] [dI (0:Int),dI (2305843009213693952:Int),dI (-2305843009213693952:Int)]∧∀(i i_1 i_2:Int),I0 [] [dI i,dI i_1,dI i_2]→bB (decide (i<2)) ((0≤i∧i<2)∧∃i_3,cut (nth [] [[dI a0],[dI b0]] (bv i)) 0 1 [dI i_3]∧I1 [dI i] [dI (0:Int),dI i_1,dI i_2]∧∀(i_4 i_5 i_6:Int),I1 [dI i] [dI i_4,dI i_5,dI i_6]→bB (decide (i_4<2)) ((0≤i_4∧i_4<2)∧∃i_7,cut (nth [] [[dI a1],[dI b1]] (bv i_4)) 0 1 [dI i_7]∧∃i_8 i_9 b,Gv 283 [aI i_3,aI i_7] [aI i_8,aI i_9,aB b]∧bB (!b) (Q [F2 [dI (0:Int),dI (0:Int)],aB false]) (I1 [dI i] [dI (Ts .i64 (i_4+1)),dI (match decide (i_8<i_5)with|true=>i_8|false=>i_5),dI (match decide (i_6<i_9)with|true=>i_9|false=>i_6)]∧M1 [dI (Ts .i64 (i_4+1)),dI (match decide (i_8<i_5)with|true=>i_8|false=>i_5),dI (match decide (i_6<i_9)with|true=>i_9|false=>i_6)]<M1 [dI i_4,dI i_5,dI i_6])) (I0 [] [dI (Ts .i64 (i+1)),dI i_5,dI i_6]∧M0 [dI (Ts .i64 (i+1)),dI i_5,dI i_6]<M0 [dI i,dI i_1,dI i_2])) (Q [F2 [dI i_1,dI i_2],aB true])):=by kernel_rfl
theorem Dk (x0:Int) (y0:Int):wpF CC Gv an0 Tryz.f330 [.c (.int .u64 x0),.c (.int .u64 y0)] Q=((0:Int)≤(32:Int)∧(0:Int)≤(32:Int)∧(0:Int)≤(32:Int)∧(0:Int)≤(32:Int)∧(0:Int)≤(32:Int)∧Q [Hu (J8 .u64 (Ts .u64 (Ts .u64 (Ts .u64 (W0 x0 4294967296*W0 y0 (4294967296:Int))+W0 (Ts .u64 (Ts .u64 (W0 x0 4294967296*bits .and .u64 (y0) (4294967295:Int))+W0 (Ts .u64 (bits .and .u64 (x0) 4294967295*bits .and .u64 (y0) (4294967295:Int))) (4294967296:Int))) (4294967296:Int))+W0 (Ts .u64 (bits .and .u64 (Ts .u64 (Ts .u64 (W0 x0 4294967296*bits .and .u64 (y0) (4294967295:Int))+W0 (Ts .u64 (bits .and .u64 (x0) 4294967295*bits .and .u64 (y0) (4294967295:Int))) (4294967296:Int))) 4294967295+Ts .u64 (bits .and .u64 (x0) 4294967295*W0 y0 (4294967296:Int)))) (4294967296:Int)))),Hu (J8 .u64 (Ts .u64 (x0*y0)))]):=by kernel_rfl
end
end Eng
end
section
namespace Eng
open Go Go.Proofs Rl
set_option maxRecDepth 100000
theorem A0 (x:Nat) (r:List Nat):val r≤val (x::r):=by
 show val r≤x+1000000000*val r;omega
theorem Wr:∀(l:List Nat) (k:Nat),val (l.drop k)≤val l
 |[],k=>by simp
 |x::r,0=>ea _
 |x::r,k+1=>Nat.le_trans (Wr r k) (A0 x r)
def IW (z:Int):Int×Bool:=if-9223372036854775808≤z∧z≤9223372036854775807 then(z,true)else(0,false)
theorem UU {z:Int} (h1: -9223372036854775808≤z) (h2:z≤9223372036854775808):Sm z:=by
 unfold Sm Vq;have h3:z.natAbs<1000000000^3:=by omega
 exact ey h3 (SN (by omega) (by omega))
theorem uh {z:Int} (hz:Sm z):qc CC 280 [qS z] [.c (dI (IW z).1),.c (.bool (IW z).2)]:=by
 have hlen:=hz.len;refine qu (anns:=fun _=>⟨[.slot 4 (.int .u64 0),.slot 5 (.int .i64 0)],[],fun _ ds=> -9223372036854775808≤z∧z≤9223372036854775807∧∃k:Nat,k≤(lim z.natAbs).length∧ds=[.int .u64 (val ((lim z.natAbs).drop k):Int),dI ((k:Int)-1)],fun ds=>(toI (nth .undef ds 1)+1).toNat⟩) mixedT Tryz.func280 ?_;have s1:Sm (-9223372036854775808):=UU (by omega) (by omega);have s2:Sm 9223372036854775807:=UU (by omega) (by omega);have h1:=up (xA (n:= -9223372036854775808) (by omega) (by omega));have h2:=up (xA (n:=9223372036854775807) (by omega) (by omega));have c1:=up (yr hz s1);have c2:=up (yr hz s2);rw[xJ]at h1 h2 c1 c2;rw[xJ (-9223372036854775808)]at c1;rw[xJ 9223372036854775807]at c2;rw[xJ,Dj];have l1:Ql z (-9223372036854775808)<0↔z< -9223372036854775808:=by unfold Ql;split<;>(try split)<;>omega
 have l2:Ql z 9223372036854775807>0↔9223372036854775807<z:=by unfold Ql;split<;>(try split)<;>omega
 unfold IW;refine⟨_,_,h1,_,c1,brd (fun h=>?_) (fun h=>⟨_,_,h2,_,c2,brd (fun g=>?_) (fun g=>?_)⟩)⟩
 ·have:=l1.1 h;rw[if_neg (by omega)]
 ·have:=l2.1 g;rw[if_neg (by omega)]
 ·have h:=mt l1.2 h;have g:=mt l2.2 g;rw[if_pos ⟨by omega,by omega⟩];have hl:=qh z.natAbs;have hv:=qj z.natAbs;generalize lim z.natAbs=l at *;simp only[cb,qi];refine⟨⟨by omega,by omega,l.length,ea _,by rw[List.drop_length,zr];rfl⟩,?_⟩;rintro n m ⟨_,_,k,hk,he⟩;simp only[dl,D.int.injEq,true_and,and_true]at he;obtain⟨rfl,rfl⟩:=he;refine brd (fun h=>?_) (fun h=>?_)
  ·have a3:k-1<l.length:=by omega
   have ht:((k:Int)-1).toNat=k-1:=by omega
   rw[ht];have hd:val (l.drop (k-1))=l[k-1]+1000000000*val (l.drop k):=by rw[List.drop_eq_getElem_cons a3,show k-1+1=k by omega];rfl
   have hle:=Wr l (k-1);have hx:=hl.get a3;have hw:Ts .u64 (Ts .u64 ((val (l.drop k):Int)*1000000000)+Ts .u64 (l[k-1]:Int))=(val (l.drop (k-1)):Int):=by rw[xS (n:=(val (l.drop k):Int)*1000000000),xS (n:=(l[k-1]:Int)),xS];omega
   have a4:Ts .i64 ((k:Int)-1-1)=((k-1:Nat):Int)-1:=by rw[zr];omega
   refine⟨⟨by omega,by omega,qC a3⟩,_,qF a3,⟨by omega,by omega,k-1,by omega,by rw[hw,a4]⟩,?_⟩;rw[a4];simp only[nth,toI];omega
  ·have a3:k=0:=by omega
   subst a3;rw[List.drop_zero,hv];by_cases hn:z<0
   ·rw[decide_eq_true hn];refine zH (fun _=>?_) (fun h=>by simp at h);have e:Ts .i64 (Ts .u64 (0-((z.natAbs:Nat):Int)))=z:=by simp[Ts,U0,T1];omega
    rw[e]
   ·rw[decide_eq_false hn];refine zH (fun h=>by simp at h) (fun _=>?_);have e:Ts .i64 ((z.natAbs:Nat):Int)=z:=by rw[zr];omega
    rw[e]
theorem m7 {a:Nat} (ha:a<1000000000^190):qc CC 338 [qS (a:Int)] [qS (qM a:Int),aI 0]:=by
 refine qu (anns:=fun _=>⟨[.box 5 [(.bool false),(.slice none 0 0)]],[],fun _ ds=>∃x:Nat,0<x∧x<1000000000^191∧ds=cI (x:Int)∧Tj a x=qM a,msZ⟩) mixedT Tryz.func338 ?_;rw[qL,Az,YT];have hL:(lim a).length≤190:=qx ha;have hav:a<10^(9*(lim a).length):=by
  have:=qX (qh a)
  rwa [qj,lF]at this
 refine zH (fun h=>by simp at h) (fun _=>?_);refine brb (fun h=>?_) (fun h=>?_)
 ·have h0:lim a=[]:=by apply List.eq_nil_of_length_eq_zero;have:=cp h;simp only[cb]at this;omega
  obtain rfl:=Q3.1 h0;have:qM 0=0:=by unfold qM;rw[Tj];rfl
  rw[this];rfl
 ·have hp:0<(lim a).length:=by
   rcases Nat.eq_zero_or_pos (lim a).length with h0|h0
   ·rw[h0]at h;simp at h
   ·exact h0
  have ap:0<a:=qK.1 hp;have hk:Ts .i64 (ca (Ts .i64 ((W1 (lim a).length)+1)) 2)=(((lim a).length+1)/2:Nat):=by simp only[cb];rw[zr (n:=(((lim a).length:Nat):Int)+1),Int.tdiv_eq_ediv_of_nonneg (by omega),zr];omega
  rw[hk,be,NJ];generalize hkk:((lim a).length+1)/2=k at *;have h2:=up (xA (n:=2) (by omega) (by omega));have hg:=up (Vn false (Vz k) (by rw[List.length_append,cv];simp;omega));rw[NK,Dd]at hg;have a3:1000000000^k<1000000000^191:=dn (by omega) (by omega);refine⟨by omega,⟨by omega,by omega,by unfold room;omega⟩,⟨by rw[cv];unfold room;omega,fun e he=>by simp at he;subst he;rfl⟩,_,_,hg,_,_,h2,⟨1000000000^k,Nat.pow_pos (by omega),a3,by rw[X5],?_⟩,?_⟩
  ·rw[lF,←hkk];exact Vt hav
  ·rintro b es ⟨x,hx0,hx,he,hn⟩;obtain⟨rfl,rfl⟩:=lE he;have sx:Sm (x:Int):=jn (eb hx (dn (by omega) (by omega)));have sa:Sm (a:Int):=jn (eb ha (dn (by omega) (by omega)));have hq:=wT Wp sa sx (by omega);have eq1:(a:Int)/(x:Int)=((a/x:Nat):Int):=rfl;have eq2:(a:Int)%(x:Int)=((a%x:Nat):Int):=rfl;rw[eq1,eq2]at hq;have hqa:a/x≤a:=Nat.div_le_self _ _;have sq:Sm ((a/x:Nat):Int):=jn (el hqa (eb ha (dn (by omega) (by omega))));have a5:=up (Zc sx sq);have e1:(x:Int)+((a/x:Nat):Int)=((x+a/x:Nat):Int):=by omega
   rw[e1]at a5;have hb:x+a/x<1000000000^200:=by have h3:1000000000^190≤1000000000^191:=ed (by omega) (by omega);have h4:1000000000^191*1000000000=1000000000^192:=(Nat.pow_succ ..).symm;have h5:1000000000^192≤1000000000^200:=ed (by omega) (by omega);omega
   have a4:=wT Wp (jn hb) (jn (n:=2) (by decide)) (by omega);have eq3:((x+a/x:Nat):Int)/((2:Nat):Int)=(((x+a/x)/2:Nat):Int):=rfl;have eq4:((x+a/x:Nat):Int)%((2:Nat):Int)=(((x+a/x)%2:Nat):Int):=rfl;rw[eq3,eq4]at a4;have sy:Sm (((x+a/x)/2:Nat):Int):=jn (by omega);have hc:=up (yr sy sx);rw[N0]at hn;generalize hy:(x+a/x)/2=y at *;rw[qL,qL,qL,qL]at hq;rw[qL,qL,qL]at a5;rw[qL,qL,qL,qL]at a4;rw[qL,qL]at hc;refine⟨_,_,_,_,_,hq,_,_,a5,_,_,_,_,_,a4,_,hc,?_⟩;unfold Ql;refine brd (fun h3=>?_) (fun h3=>?_)
   ·have:x≤y:=by
     rcases en y x with h4|h4
     ·rw[if_pos (by omega)]at h3;omega
     ·exact h4
    rw[if_pos this]at hn;rw[←hn,qL]
   ·have h4:y<x:=by
     rcases en y x with h4|h4
     ·exact h4
     ·exfalso;apply h3;rw[if_neg (by omega)];split<;>omega
    rw[if_neg (by omega)]at hn;have yp:0<y:=by rw[←hy];exact Nx ap hx0
    refine⟨⟨y,yp,by omega,(X5 y).symm,hn⟩,?_⟩;have m1:=YS y;have m2:=YS x;rw[X5]at m1 m2;rw[m1,m2];exact h4
theorem fdN (a m:Nat):W0 (a:Int) (m:Int)=((a/m:Nat):Int):=by
 rw[Int.fdiv_eq_ediv_of_nonneg _ (by omega)];exact(Int.natCast_ediv a m).symm
theorem fd32 (a:Nat):W0 (a:Int) 4294967296=((a/4294967296:Nat):Int):=fdN a 4294967296
theorem fd16 (a:Nat):W0 (a:Int) 65536=((a/65536:Nat):Int):=fdN a 65536
theorem Dl (a:Nat) (ha:a<18446744073709551616):bits .and .u64 (a:Int) 4294967295=((a%4294967296:Nat):Int):=by
 have h:=bits_and_u64_nat a 4294967295 ha (by omega);have e:a&&&4294967295=a%4294967296:=er a 32;rw[e]at h;exact h
theorem m8 (a:Nat) (ha:a<18446744073709551616):bits .and .u64 (a:Int) 65535=((a%65536:Nat):Int):=by
 have h:=bits_and_u64_nat a 65535 ha (by omega);have e:a&&&65535=a%65536:=er a 16;rw[e]at h;exact h
theorem or48 {a b:Nat} (ha:a<65536) (hb:b<281474976710656):bits .or .u64 (Ts .u64 ((a:Int)*281474976710656)) (b:Int)=((a*281474976710656+b:Nat):Int):=by
 rw[xS];have e:(a:Int)*281474976710656=((a*281474976710656:Nat):Int):=by omega
 rw[e,bits_or_u64_nat _ _ (by omega) (by omega)];have h:=Nat.two_pow_add_eq_or_of_lt (i:=48) (b:=b) hb a;rw[Nat.mul_comm a,show(281474976710656:Nat)=2^48 from rfl,←h]
theorem m9 {x y:Nat} (hx:x<18446744073709551616) (hy:y<18446744073709551616):qc CC 330 [.c (.int .u64 (x:Int)),.c (.int .u64 (y:Int))] [.c (.int .u64 ((x*y/18446744073709551616:Nat):Int)),.c (.int .u64 ((x*y%18446744073709551616:Nat):Int))]:=by
 refine wpG Tryz.func330 ((Dk ..).mpr ?_);obtain⟨bd,bt,bw,hhi⟩:=Go.Lib.mul64_hi x y hx hy;have ba:=V1 (a:=x/4294967296) (b:=y/4294967296) (by omega) (by omega);have bb:=V1 (a:=x/4294967296) (b:=y%4294967296) (by omega) (by omega);have bc:=V1 (a:=x%4294967296) (b:=y/4294967296) (by omega) (by omega);have wN:∀a:Nat,a<18446744073709551616→U3.wrap (a:Int)=(a:Int):=fun a h=>xS
 have wM:∀a:Nat,U3.wrap (a:Int)=((a%18446744073709551616:Nat):Int):=fun a=>by simp[Ts,U0,T1]
 have a4:∀a b:Nat,(a:Int)*(b:Int)=((a*b:Nat):Int):=fun a b=>(W2 a b).symm
 have a3:∀a b:Nat,(a:Int)+(b:Int)=((a+b:Nat):Int):=fun a b=>(Int.natCast_add a b).symm
 have bb':x/4294967296*(y%4294967296)<18446744073709551616:=by omega
 have bc':x%4294967296*(y/4294967296)<18446744073709551616:=by omega
 have ba':x/4294967296*(y/4294967296)<18446744073709551616:=by omega
 have bh1:x/4294967296*(y/4294967296)+(x/4294967296*(y%4294967296)+x%4294967296*(y%4294967296)/4294967296)/4294967296<18446744073709551616:=by omega
 have bh:x/4294967296*(y/4294967296)+(x/4294967296*(y%4294967296)+x%4294967296*(y%4294967296)/4294967296)/4294967296+((x/4294967296*(y%4294967296)+x%4294967296*(y%4294967296)/4294967296)%4294967296+x%4294967296*(y/4294967296))/4294967296<18446744073709551616:=by omega
 refine⟨by omega,by omega,by omega,by omega,by omega,?_⟩;simp only[fd32,Dl x hx,Dl y hy,a4,a3,wN _ bd,wN _ bb',wN _ bt,Dl _ bt,wN _ bc',wN _ bw,wN _ ba',wN _ bh1,wN _ bh,wM (x*y)];rw[hhi]
end Eng
end
section
namespace Eng
open Go Go.Proofs Rl
set_option maxRecDepth 100000
theorem cAbs {x:Int} (hx:FB x):qc CC 331 [aI x] [.c (.int .u64 (x.natAbs:Int))]:=by
 refine wpG Tryz.func331 ((dM ..).mpr ?_);unfold FB at hx;refine brd (fun h=>?_) (fun h=>?_)
 ·have e:Ts .u64 (0-Ts .u64 x)=(x.natAbs:Int):=by simp[Ts,U0,T1];omega
  rw[e]
 ·have e:Ts .u64 x=(x.natAbs:Int):=by rw[xS];omega
  rw[e]
theorem Dm {x y:Int} (h:decide (x<0)=decide (y<0)):x*y=((x.natAbs*y.natAbs:Nat):Int):=by
 rw[←Int.natAbs_mul];have h:=decide_eq_decide.1 h;have h2:0≤x*y:=by
  rcases bx x 0 with k|k
  ·exact Int.mul_nonneg_of_nonpos_of_nonpos (by omega) (by have:=h.1 k;omega)
  ·exact Int.mul_nonneg k (by
    rcases bx y 0 with l|l
    ·have:=h.2 l;omega
    ·exact l)
 omega
theorem A1 {x y:Int} (h:¬decide (x<0)=decide (y<0)):x*y= -((x.natAbs*y.natAbs:Nat):Int):=by
 have h1:decide (-x<0)=decide (y<0)∨x=0:=by
  by_cases k:x=0
  ·exact .inr k
  ·refine .inl (decide_eq_decide.2 ?_);have h:¬(x<0↔y<0):=fun e=>h (decide_eq_decide.2 e)
   constructor<;>intro l
   ·rcases bx y 0 with m|m
    ·exact m
    ·exact absurd ⟨fun a=>by omega,fun a=>by omega⟩ h
   ·rcases bx x 0 with m|m
    ·exact absurd ⟨fun _=>l,fun _=>m⟩ h
    ·omega
 rcases h1 with h1|h1
 ·have:=Dm h1;rw[Int.neg_mul,cc]at this;omega
 ·subst h1;simp
theorem nq {q:Nat} (k:¬q>2305843009213693952):¬((q:Int)>2305843009213693952):=by omega
theorem yq {q:Nat} (k:q>2305843009213693952):(q:Int)>2305843009213693952:=by omega
theorem ne0 {a:Nat} {X:Prop} (k:a=0) (h:((a:Int) !=0)=true):X:=by subst k;simp at h
theorem eq0 {a:Nat} {X:Prop} (k:¬a=0) (h:((a:Int) !=0)=false):X:=by
 simp at h;omega
theorem ar0 {P q:Nat} (hq:P/65536=q) (hr:P%65536=0):(q:Int)*65536≤(P:Int)∧(P:Int)≤(q:Int)*65536:=by omega
theorem ar1 {P q:Nat} (hq:P/65536=q):(q:Int)*65536≤(P:Int)∧(P:Int)≤((q:Int)+1)*65536:=by omega
theorem ar2 {P q:Nat} (hq:P/65536=q) (hr:P%65536=0): -(q:Int)*65536≤ -(P:Int)∧ -(P:Int)≤ -(q:Int)*65536:=by omega
theorem ar3 {P q:Nat} (hq:P/65536=q): -((q:Int)+1)*65536≤ -(P:Int)∧ -(P:Int)≤ -(q:Int)*65536:=by omega
theorem wq1 {q:Nat} (k:¬q>2305843009213693952):Ts .i64 (q:Int)=q:=zr
theorem wq2 {q:Nat} (k:¬q>2305843009213693952):Ts .i64 ((q:Int)+1)=q+1:=zr
theorem wq3 {q:Nat} (k:¬q>2305843009213693952):Ts .i64 (0-(q:Int))= -q:=by rw[zr];omega
theorem wq4 {q:Nat} (k:¬q>2305843009213693952):Ts .i64 (0-((q:Int)+1))= -(q+1):=by rw[zr];omega
theorem oA {q:Nat} {l u Z:Int} (_:l= -(q+1)∧u= -q∨l= -q∧u= -q∨l=q∧u=q+1∨l=q∧u=q) (hb:l*65536≤Z∧Z≤u*65536)
 (hk:(decide (l≥ -2305843009213693952)&&decide (u≤2305843009213693952))=true):FB l∧FB u∧l≤u∧l*65536≤Z∧Z≤u*65536:=by
 simp only[Aw,decide_eq_true_eq]at hk;unfold FB;omega
theorem oB (l u:Int):br (toB (Lm (decide (l≥ -2305843009213693952)))) ([aI l,aI u,aB (decide (u≤2305843009213693952))]=[aI l,aI u,eOk (decide (l≥ -2305843009213693952)&&decide (u≤2305843009213693952))])
 ([aI l,aI u,aB false]=[aI l,aI u,eOk (decide (l≥ -2305843009213693952)&&decide (u≤2305843009213693952))]):=by
 refine brd (fun h=>?_) (fun h=>?_)
 ·rw[decide_eq_true h,F0];rfl
 ·rw[decide_eq_false h,Dd];rfl
theorem G3 {x y:Int} (hx:FB x) (hy:FB y):∃l u ok,qc CC 283 [aI x,aI y] [aI l,aI u,eOk ok]∧(ok=true→FB l∧FB u∧l≤u∧l*65536≤x*y∧x*y≤u*65536):=by
 have h1:=cAbs hx;have h2:=cAbs hy;have h3:=m9 (x:=x.natAbs) (y:=y.natAbs) (by unfold FB at hx;omega) (by unfold FB at hy;omega);have s1:= @Dm x y;have s2:= @A1 x y;generalize x.natAbs*y.natAbs=P at h3 s1 s2;have e1:=fd16 (P/18446744073709551616);have e2:=fd16 (P%18446744073709551616);have e4:bits .and .u64 ((P%18446744073709551616:Nat):Int) 65535=((P%65536:Nat):Int):=by rw[m8 _ (by omega)];congr 1;omega
 by_cases k1:¬P/18446744073709551616/65536=0
 ·refine⟨0,0,false,?_,by simp⟩;refine wpG Tryz.func283 ((km ..).mpr ?_);refine⟨_,h1,_,h2,_,_,h3,by omega,?_⟩;rw[e1];exact brb (fun _=>rfl) (fun h=>eq0 k1 h)
 have k1:=Classical.not_not.1 k1;have e3:bits .or .u64 (Ts .u64 (((P/18446744073709551616:Nat):Int)*281474976710656)) (((P%18446744073709551616/65536:Nat)):Int)=((P/65536:Nat):Int):=by rw[or48 (by omega) (by omega)];congr 1;omega
 by_cases k2:P/65536>2305843009213693952
 ·refine⟨0,0,false,?_,by simp⟩;refine wpG Tryz.func283 ((km ..).mpr ?_);refine⟨_,h1,_,h2,_,_,h3,by omega,?_⟩;simp only[e1,e2,e3,e4];exact brb (fun h=>ne0 k1 h) (fun _=>⟨by decide,by decide,brd (fun _=>rfl) (fun h=>absurd (yq k2) h)⟩)
 generalize hq:P/65536=q at *;have w1:=wq1 k2;have w2:=wq2 k2;have w3:=wq3 k2;have w4:=wq4 k2;have k3:=nq k2;by_cases hr:P%65536=0
 ·by_cases hs:decide (x<0)=decide (y<0)
  ·refine⟨q,q,_,?_,oA (.inr (.inr (.inr ⟨rfl,rfl⟩))) (by rw[s1 hs];exact ar0 hq hr)⟩;refine wpG Tryz.func283 ((km ..).mpr ?_);refine⟨_,h1,_,h2,_,_,h3,by omega,?_⟩;simp only[e1,e2,e3,e4,w1,w2,w3,w4];refine brb (fun h=>ne0 k1 h) (fun _=>⟨by decide,by decide,brd (fun h=>absurd h k3) (fun _=>brb (fun h=>ne0 hr h) (fun _=>brb (fun h=>by rw[hs]at h;simp at h) (fun _=>oB _ _)))⟩)
  ·refine⟨-q, -q,_,?_,oA (.inr (.inl ⟨rfl,rfl⟩)) (by rw[s2 hs];exact ar2 hq hr)⟩;refine wpG Tryz.func283 ((km ..).mpr ?_);refine⟨_,h1,_,h2,_,_,h3,by omega,?_⟩;simp only[e1,e2,e3,e4,w1,w2,w3,w4];refine brb (fun h=>ne0 k1 h) (fun _=>⟨by decide,by decide,brd (fun h=>absurd h k3) (fun _=>brb (fun h=>ne0 hr h) (fun _=>brb (fun _=>oB _ _) (fun h=>absurd (by simpa using h) hs)))⟩)
 ·by_cases hs:decide (x<0)=decide (y<0)
  ·refine⟨q,q+1,_,?_,oA (.inr (.inr (.inl ⟨rfl,rfl⟩))) (by rw[s1 hs];exact ar1 hq)⟩;refine wpG Tryz.func283 ((km ..).mpr ?_);refine⟨_,h1,_,h2,_,_,h3,by omega,?_⟩;simp only[e1,e2,e3,e4,w1,w2,w3,w4];refine brb (fun h=>ne0 k1 h) (fun _=>⟨by decide,by decide,brd (fun h=>absurd h k3) (fun _=>brb (fun _=>brb (fun h=>by rw[hs]at h;simp at h) (fun _=>oB _ _)) (fun h=>eq0 hr h))⟩)
  ·refine⟨-(q+1), -q,_,?_,oA (.inl ⟨rfl,rfl⟩) (by rw[s2 hs];exact ar3 hq)⟩;refine wpG Tryz.func283 ((km ..).mpr ?_);refine⟨_,h1,_,h2,_,_,h3,by omega,?_⟩;simp only[e1,e2,e3,e4,w1,w2,w3,w4];refine brb (fun h=>ne0 k1 h) (fun _=>⟨by decide,by decide,?_⟩);refine brd (fun h=>absurd h k3) (fun _=>?_);refine brb (fun _=>?_) (fun h=>eq0 hr h);refine brb (fun _=>?_) (fun h=>absurd (by simpa using h) hs);generalize-((q:Int)+1)=l;generalize-(q:Int)=u;exact oB l u
end Eng
end
section
namespace Eng
open Go Go.Proofs Rl
set_option maxRecDepth 100000
theorem brF {X Y:Prop} (h:X):br (toB (Lm !false)) X Y:=h
theorem brT {X Y:Prop} (h:Y):br (toB (Lm !true)) X Y:=h
def IvB (a b:Int):Prop:=FB a∧FB b∧a≤b
theorem IvB.zero:IvB 0 0:=⟨⟨by omega,by omega⟩,⟨by omega,by omega⟩,by omega⟩
theorem A2 {a b:Int} (hab:a≤b):∃c d ok,qc CC 282 [aI a,aI b] [eIv c d,eOk ok]∧IvB c d∧(ok=true→c=a∧d=b):=by
 obtain⟨c,d,ok,h1,h2,h3⟩:=dU (a:=a) (b:=b);refine⟨c,d,ok,h1,?_,fun h=>⟨(h2 h).1,(h2 h).2.1⟩⟩;cases ok with
 |true=>obtain⟨rfl,rfl,k1,k2⟩:=h2 rfl;exact⟨⟨k1,by omega⟩,⟨by omega,k2⟩,hab⟩
 |false=>obtain⟨rfl,rfl⟩:=h3 rfl;exact .zero
theorem A3 {a0 b0 a1 b1:Int} (h:IvB a0 b0) (k:IvB a1 b1):∃c d ok,qc CC 240 [eIv a0 b0,eIv a1 b1] [eIv c d,eOk ok]∧IvB c d∧(ok=true→∀x y,inI a0 b0 x→inI a1 b1 y→inI c d (x+y)):=by
 obtain⟨c,d,ok,h1,h2,h3⟩:=A2 (a:=a0+a1) (b:=b0+b1) (by have:=h.2.2;have:=k.2.2;omega);refine⟨c,d,ok,?_,h2,fun e x y hx hy=>?_⟩
 ·obtain⟨h,h',_⟩:=h;obtain⟨k,k',_⟩:=k;unfold FB at h h' k k';refine wpG Tryz.func240 ((dK ..).mpr ?_);rw[zr (n:=a0+a1),zr (n:=b0+b1)];exact⟨_,_,_,h1,rfl⟩
 ·obtain⟨rfl,rfl⟩:=h3 e;exact dQ hx hy
theorem ui (a b:Int):∃n ok,qc CC 242 [eIv a b] [eI n,eOk ok]∧(ok=true→∀x,inI a b x→n=sg x):=by
 by_cases h1:a>0
 ·refine⟨1,true,?_,fun _ x hx=>(Xw (dT hx h1)).symm⟩;refine wpG Tryz.func242 ((Jy ..).mpr ?_);exact brd (fun _=>rfl) (fun k=>absurd h1 k)
 by_cases h2:b<0
 ·refine⟨-1,true,?_,fun _ x hx=>(K7 (Ax hx h2)).symm⟩;refine wpG Tryz.func242 ((Jy ..).mpr ?_);exact brd (fun k=>absurd k h1) (fun _=>brd (fun _=>rfl) (fun k=>absurd h2 k))
 by_cases h3:a=0
 ·refine⟨0,b==0,?_,fun e x hx=>?_⟩
  ·refine wpG Tryz.func242 ((Jy ..).mpr ?_);exact brd (fun k=>absurd k h1) (fun _=>brd (fun k=>absurd k h2) (fun _=>brb (fun _=>rfl) (fun k=>by subst h3;simp at k)))
  ·have e:=cp e;subst h3 e;rw[Ay hx,zL]
 ·refine⟨0,false,?_,by simp⟩;refine wpG Tryz.func242 ((Jy ..).mpr ?_);exact brd (fun k=>absurd k h1) (fun _=>brd (fun k=>absurd k h2) (fun _=>brb (fun k=>absurd (cp k) h3) (fun _=>rfl)))
theorem zI {x:Rat} {k:Nat} (hx:Hz k x) (h:k<300000:=by omega):∃c d ok,qc CC 239 [aR (q4 x)] [eIv c d,eOk ok]∧IvB c d∧(ok=true→inI c d (ofR x)):=by
 have h0:=bInt (n:=65536) (by omega) (by omega);have hz:Hz 5 ((65536:Int):Rat):=Hz.int (by decide);have hm:=hx.mul hz (l:=k+5);have h1:=Mx hx hz (by omega);have h2:=IV hm (by omega);have h3:=ox hm (by omega);have h4:=IV hm.neg (by omega);have e:x*((65536:Int):Rat)=x*65536:=by rfl
 rw[e]at h1 h2 h3 h4 hm;have f1:=gr (x*65536);have f2:=gr (-(x*65536));have sf:∀{y:Rat} {j:Nat},Hz j y→j<300010→Sm y.floor:=fun{y j} hy hj=>by have hs:=(hy.sr (by omega)).1.sm;rw[fS];exact el (Int.natAbs_ediv_le_natAbs _ _) hs
 have s1:=sf hm (by omega);have s2:=sf hm.neg (by omega);generalize (x*65536).floor=f at *;generalize (-(x*65536)).floor=g at *;have s3:Sm (-g):=by unfold Sm at s2 ⊢;rw[cc];exact s2
 have h5:=up (Y1 s2);have g1:=uh s1;have g2:=uh s3;rw[xJ]at h2 h4 h5 g1 g2;rw[xJ]at h5;have fg:f≤ -g:=by
  have:(f:Rat)≤((-g:Int):Rat):=by rw[fz];grind
  exact ft.1 this
 by_cases o1: -9223372036854775808≤f∧f≤9223372036854775807
 ·have i1:IW f=(f,true):=if_pos o1;rw[i1]at g1;by_cases o2: -9223372036854775808≤ -g∧ -g≤9223372036854775807
  ·have i2:IW (-g)=(-g,true):=if_pos o2;rw[i2]at g2;obtain⟨c,d,ok,p1,p2,p3⟩:=A2 fg;refine⟨c,d,ok,?_,p2,fun e=>?_⟩
   ·refine wpG Tryz.func239 ((QH ..).mpr ?_);exact⟨_,h0,_,h1,_,_,h2,_,_,g1,_,h3,_,_,h4,_,_,h5,_,_,g2,brT (brT ⟨_,_,_,p1,rfl⟩)⟩
   ·obtain⟨rfl,rfl⟩:=p3 e;exact dR f1 (by rw[fz];grind)
  ·have i2:IW (-g)=(0,false):=if_neg o2;rw[i2]at g2;refine⟨0,0,false,?_,.zero,by simp⟩;refine wpG Tryz.func239 ((QH ..).mpr ?_);exact⟨_,h0,_,h1,_,_,h2,_,_,g1,_,h3,_,_,h4,_,_,h5,_,_,g2,brT (brF rfl)⟩
 ·have i1:IW f=(0,false):=if_neg o1;rw[i1]at g1;refine⟨0,0,false,?_,.zero,by simp⟩;refine wpG Tryz.func239 ((QH ..).mpr ?_);exact⟨_,h0,_,h1,_,_,h2,_,_,g1,_,h3,_,_,h4,_,_,h5,_,_,g2,brF rfl⟩
end Eng
end
section
namespace Eng
open Go Go.Proofs Rl
set_option maxRecDepth 100000
theorem OA {a b:Nat} (h:a<b*b):qM a<b:=by
 rcases en (qM a) b with k|k
 ·exact k
 ·have:=fl k k;have:=(jJ a).1;omega
theorem IX {n:Int} (h0:0≤n) (hn:FB n):qc CC 325 [eI n] [eI (qM (n.toNat*65536):Int),eOk (decide (qM (n.toNat*65536)*qM (n.toNat*65536)=n.toNat*65536))]:=by
 unfold FB at hn;obtain⟨m,rfl⟩:=Int.eq_ofNat_of_zero_le h0;rw[be];have hb:m*65536<549755813889*549755813889:=by omega
 have hr:=OA hb;have h1:=up (xA (n:=(m:Int)) (by omega) (by omega));have h2:=up (xA (n:=65536) (by omega) (by omega));have sm1:Sm (m:Int):=UU (by omega) (by omega);have sm2:Sm 65536:=UU (by omega) (by omega);have h3:=up (wz sm1 sm2);have e3:(m:Int)*65536=((m*65536:Nat):Int):=by omega
 rw[e3]at h3;have hp:m*65536<1000000000^190:=ey (show m*65536<1000000000^3 by omega) (ed (by omega) (by omega));have h4:=m7 hp;have a3:Sm (qM (m*65536):Int):=UU (by omega) (by omega);have h5:=uh a3;have i5:IW (qM (m*65536):Int)=((qM (m*65536):Int),true):=if_pos ⟨by omega,by omega⟩;rw[i5]at h5;have h6:=up (wz a3 a3);have e6:(qM (m*65536):Int)*(qM (m*65536):Int)=((qM (m*65536)*qM (m*65536):Nat):Int):=(W2 _ _).symm;rw[e6]at h6;have hle:=(jJ (m*65536)).1;have sms:Sm ((m*65536:Nat):Int):=jn (eb hp (dn (by omega) (by omega)));have smq:Sm ((qM (m*65536)*qM (m*65536):Nat):Int):=jn (el hle (eb hp (dn (by omega) (by omega))));have h7:=up (yr smq sms);have e7:(Ql ((qM (m*65536)*qM (m*65536):Nat):Int) ((m*65536:Nat):Int)==0)=decide (qM (m*65536)*qM (m*65536)=m*65536):=by generalize qM (m*65536)*qM (m*65536)=a;rw[Bool.eq_iff_iff,beq_iff_eq,decide_eq_true_eq];unfold Ql;split<;>(try split)<;>omega
 refine wpG Tryz.func325 ((Df ..).mpr ?_);refine⟨_,_,h1,_,_,h2,_,_,h3,_,_,_,h4,_,_,h5,_,_,h6,_,h7,?_⟩;rw[e7];rfl
theorem dW {a b:Int} (h:IvB a b):∃c d ok,qc CC 275 [eIv a b] [eIv c d,eOk ok]∧IvB c d∧(ok=true→∀q:Rat,0≤q→inI a b (ofR q)→inI c d (jh q)):=by
 obtain⟨ha,hb,hab⟩:=h;by_cases h0:b<0
 ·refine⟨0,0,false,?_,.zero,by simp⟩;refine wpG Tryz.func275 ((G2 ..).mpr ?_);exact brd (fun _=>rfl) (fun k=>absurd h0 k)
 have hm:FB (max a 0):=by unfold FB at ha ⊢;omega
 have r1:=IX (n:=max a 0) (by omega) hm;have r2:=IX (n:=b) (by omega) hb;have q1:=jJ ((max a 0).toNat*65536);have q2:=jJ (b.toNat*65536);have a3:(max a 0).toNat*65536≤b.toNat*65536:=by omega
 obtain⟨N,hN⟩:∃N,N=(max a 0).toNat*65536:=⟨_,rfl⟩;obtain⟨M,hM⟩:∃M,M=b.toNat*65536:=⟨_,rfl⟩;rw[←hN]at r1 q1 a3;rw[←hM]at r2 q2 a3;have mono:qM N≤qM M:=by
  rcases en (qM M) (qM N)with k|k
  ·have:=fl (show qM M+1≤qM N from k) (show qM M+1≤qM N from k);omega
  ·exact k
 have hMb:M<549755813889*549755813889:=by unfold FB at hb;omega
 have hr:=OA hMb;have eL:((qM N:Int))*(qM N:Int)≤max a 0*65536:=by rw[←W2];omega
 by_cases hx:qM M*qM M=M
 ·obtain⟨c,d,ok,p1,p2,p3⟩:=A2 (a:=(qM N:Int)) (b:=(qM M:Int)) (by omega);refine⟨c,d,ok,?_,p2,fun e q hq hi=>?_⟩
  ·rw[decide_eq_true hx]at r2;refine wpG Tryz.func275 ((G2 ..).mpr ?_);cases hd:decide (a<0)with
   |true=>rw[show max a 0=0 by have:=of_decide_eq_true hd;omega]at r1;exact brd (fun k=>absurd k h0) (fun _=>⟨_,_,r1,_,_,r2,brb (fun k=>by simp at k) (fun _=>⟨_,_,_,p1,rfl⟩)⟩)
   |false=>rw[show max a 0=a by have:=of_decide_eq_false hd;omega]at r1;exact brd (fun k=>absurd k h0) (fun _=>⟨_,_,r1,_,_,r2,brb (fun k=>by simp at k) (fun _=>⟨_,_,_,p1,rfl⟩)⟩)
  ·obtain⟨rfl,rfl⟩:=p3 e;refine O9 hq hi (by omega) (by omega) eL ?_;rw[←W2];omega
 ·obtain⟨c,d,ok,p1,p2,p3⟩:=A2 (a:=(qM N:Int)) (b:=(qM M:Int)+1) (by omega);refine⟨c,d,ok,?_,p2,fun e q hq hi=>?_⟩
  ·rw[decide_eq_false hx]at r2;refine wpG Tryz.func275 ((G2 ..).mpr ?_);have w:=zr (n:=(qM M:Int)+1);cases hd:decide (a<0)with
   |true=>rw[show max a 0=0 by have:=of_decide_eq_true hd;omega]at r1;exact brd (fun k=>absurd k h0) (fun _=>⟨_,_,r1,_,_,r2,brb (fun _=>by rw[w];exact⟨_,_,_,p1,rfl⟩) (fun k=>by simp at k)⟩)
   |false=>rw[show max a 0=a by have:=of_decide_eq_false hd;omega]at r1;exact brd (fun k=>absurd k h0) (fun _=>⟨_,_,r1,_,_,r2,brb (fun _=>by rw[w];exact⟨_,_,_,p1,rfl⟩) (fun k=>by simp at k)⟩)
  ·obtain⟨rfl,rfl⟩:=p3 e;refine O9 hq hi (by omega) (by omega) eL ?_;have e2:((qM M:Int)+1)*((qM M:Int)+1)=(((qM M+1)*(qM M+1):Nat):Int):=by rw[W2];rfl
   rw[e2];omega
end Eng
end
section
namespace Eng
open Go Go.Proofs Rl
set_option maxRecDepth 100000
def mnI (a b:Int):Int:=match decide (a<b)with
 |true=>a
 |false=>b
def mxI (a b:Int):Int:=match decide (a<b)with
 |true=>b
 |false=>a
theorem mA (a b:Int):mnI a b=min a b:=by
 unfold mnI;cases h:decide (a<b)with
 |true=>have:=of_decide_eq_true h;show a=_;omega
 |false=>have:=of_decide_eq_false h;show b=_;omega
theorem mB (a b:Int):mxI a b=max a b:=by
 unfold mxI;cases h:decide (a<b)with
 |true=>have:=of_decide_eq_true h;show b=_;omega
 |false=>have:=of_decide_eq_false h;show a=_;omega
def loN (s:Nat→Int×Int×Bool):Nat→Int
 |0=>2305843009213693952
 |n+1=>mnI (s n).1 (loN s n)
def hiN (s:Nat→Int×Int×Bool):Nat→Int
 |0=> -2305843009213693952
 |n+1=>mxI (hiN s n) (s n).2.1
theorem mC {a0 b0 a1 b1:Int} {s:Nat→Int×Int×Bool}
 (hs:∀k j,k<2→j<2→qc CC 283 [aI (if k=0 then a0 else b0),aI (if j=0 then a1 else b1)] [.c (dI (s (2*k+j)).1),.c (dI (s (2*k+j)).2.1),eOk (s (2*k+j)).2.2])
 {R:List A} (hR:((∀m<4,(s m).2.2=true)→R=[eIv (loN s 4) (hiN s 4),eOk true])) (hR':(¬(∀m<4,(s m).2.2=true)→R=[eIv 0 0,eOk false])):
 qc CC 245 [eIv a0 b0,eIv a1 b1] R:=by
 refine qu (anns:=G7 ⟨[.slot 21 (.int .i64 0),.slot 6 (.int .i64 0),.slot 7 (.int .i64 0)],[],fun _ ds=>∃k:Nat,k≤2∧ds=[dI (k:Int),dI (loN s (2*k)),dI (hiN s (2*k))]∧∀m<2*k,(s m).2.2=true,fun ds=>(2-toI (nth .undef ds 0)).toNat⟩
  ⟨[.slot 31 (.int .i64 0),.slot 6 (.int .i64 0),.slot 7 (.int .i64 0)],[.slot 21 (.int .i64 0)],fun gs ds=>∃k j:Nat,k<2∧j≤2∧gs=[dI (k:Int)]∧ds=[dI (j:Int),dI (loN s (2*k+j)),dI (hiN s (2*k+j))]∧∀m<2*k+j,(s m).2.2=true,fun ds=>(2-toI (nth .undef ds 0)).toNat⟩) mixedT Tryz.func245 ?_
 show wpF _ _ _ _ [.ag [dI a0,dI b0],.ag [dI a1,dI b1]] _;rw[dV];refine⟨⟨0,by omega,rfl,by omega⟩,?_⟩;rintro i p q ⟨k,hk,he,a6⟩;simp only[dl,D.int.injEq,true_and,and_true]at he;obtain⟨rfl,rfl,rfl⟩:=he;refine brd (fun h=>?_) (fun h=>?_)
 ·have a3:k<2:=by omega
  refine⟨⟨by omega,h⟩,(if k=0 then a0 else b0),?_,⟨k,0,a3,by omega,rfl,rfl,a6⟩,?_⟩
  ·rw[be];rcases(by omega:k=0∨k=1)with rfl|rfl
   ·exact⟨rfl,ea 1⟩
   ·exact⟨rfl,ea 1⟩
  ·rintro j p q ⟨k',j',hk',hj',hg,he,a4⟩;simp only[dl,D.int.injEq,true_and,and_true]at he hg;obtain⟨rfl,rfl,rfl⟩:=he;obtain rfl:k=k':=by omega
   refine brd (fun h=>?_) (fun h=>?_)
   ·have a5:j'<2:=by omega
    refine⟨⟨by omega,h⟩,(if j'=0 then a1 else b1),?_,_,_,_,hs k j' a3 a5,?_⟩
    ·rw[be];rcases(by omega:j'=0∨j'=1)with rfl|rfl
     ·exact⟨rfl,ea 1⟩
     ·exact⟨rfl,ea 1⟩
    ·have w:Ts .i64 ((j':Int)+1)=((j'+1:Nat):Int):=by rw[zr];omega
     rw[w];cases hb:(s (2*k+j')).2.2 with
     |false=>refine brb (fun _=>?_) (fun h=>by simp at h);exact(hR' (fun g=>by rw[g _ (by omega)]at hb;simp at hb)).symm
     |true=>
      refine brb (fun h=>by simp at h) (fun _=>⟨⟨k,j'+1,a3,by omega,rfl,rfl,fun m hm=>?_⟩,?_⟩)
      ·rcases(by omega:m<2*k+j'∨m=2*k+j')with g|rfl
       ·exact a4 m g
       ·exact hb
      ·simp only[nth,toI];omega
   ·have a5:j'=2:=by omega
    subst a5;have w:Ts .i64 ((k:Int)+1)=((k+1:Nat):Int):=by rw[zr];omega
    rw[w];exact⟨⟨k+1,by omega,rfl,a4⟩,by simp only[nth,toI];omega⟩
 ·have a3:k=2:=by omega
  subst a3;exact(hR a6).symm
theorem IY {a0 b0 a1 b1:Int} (h:IvB a0 b0) (k:IvB a1 b1):∃c d ok,qc CC 245 [eIv a0 b0,eIv a1 b1] [eIv c d,eOk ok]∧IvB c d∧(ok=true→∀x y,inI a0 b0 x→inI a1 b1 y→inI c d (x*y)):=by
 obtain⟨l0,u0,o0,g0,f0⟩:=G3 h.1 k.1;obtain⟨l1,u1,o1,g1,f1⟩:=G3 h.1 k.2.1;obtain⟨l2,u2,o2,g2,f2⟩:=G3 h.2.1 k.1;obtain⟨l3,u3,o3,g3,f3⟩:=G3 h.2.1 k.2.1;obtain⟨s,a3,a4,a5,a6⟩:∃s:Nat→Int×Int×Bool,s 0=(l0,u0,o0)∧s 1=(l1,u1,o1)∧s 2=(l2,u2,o2)∧s 3=(l3,u3,o3):=
  ⟨fun n=>if n=0 then(l0,u0,o0)else if n=1 then(l1,u1,o1)else if n=2 then(l2,u2,o2)else(l3,u3,o3),rfl,rfl,rfl,rfl⟩
 have hs:∀k j,k<2→j<2→qc CC 283 [aI (if k=0 then a0 else b0),aI (if j=0 then a1 else b1)] [.c (dI (s (2*k+j)).1),.c (dI (s (2*k+j)).2.1),eOk (s (2*k+j)).2.2]:=by
  intro k j hk hj;rcases(by omega:k=0∨k=1)with rfl|rfl<;>rcases(by omega:j=0∨j=1)with rfl|rfl
  ·show qc _ _ _ [.c (dI (s 0).1),.c (dI (s 0).2.1),eOk (s 0).2.2];rw[a3];exact g0
  ·show qc _ _ _ [.c (dI (s 1).1),.c (dI (s 1).2.1),eOk (s 1).2.2];rw[a4];exact g1
  ·show qc _ _ _ [.c (dI (s 2).1),.c (dI (s 2).2.1),eOk (s 2).2.2];rw[a5];exact g2
  ·show qc _ _ _ [.c (dI (s 3).1),.c (dI (s 3).2.1),eOk (s 3).2.2];rw[a6];exact g3
 by_cases ha:∀m<4,(s m).2.2=true
 ·have e0:=f0 (by have:=ha 0 (by omega);rwa [a3]at this);have e1:=f1 (by have:=ha 1 (by omega);rwa [a4]at this);have e2:=f2 (by have:=ha 2 (by omega);rwa [a5]at this);have e3:=f3 (by have:=ha 3 (by omega);rwa [a6]at this);have eL:loN s 4=min l3 (min l2 (min l1 (min l0 2305843009213693952))):=by simp only[loN,mA,a3,a4,a5,a6]
  have eH:hiN s 4=max (max (max (max (-2305843009213693952) u0) u1) u2) u3:=by simp only[hiN,mB,a3,a4,a5,a6]
  refine⟨loN s 4,hiN s 4,true,mC hs (fun _=>rfl) (fun g=>absurd ha g),?_,fun _ x y hx hy=>?_⟩
  ·rw[eL,eH];unfold IvB FB at *;omega
  ·rw[eL,eH];refine dS hx hy ?_ ?_
   ·rintro p q (rfl|rfl) (rfl|rfl)<;>omega
   ·rintro p q (rfl|rfl) (rfl|rfl)<;>omega
 ·exact⟨0,0,false,mC hs (fun g=>absurd g ha) (fun _=>rfl),.zero,by simp⟩
end Eng
end
section
namespace Eng
open Go Go.Proofs
set_option maxRecDepth 100000
theorem dX (k ok:Bool) (a b:Int):H4 CB 279 [.bool k] [.ag [.int .i64 a,.int .i64 b],.c (.bool ok)] [.ag [.int .i64 a,.int .i64 b]] [.bool (k&&ok)]:=by
 refine Nh (tab:=noT) (lim:=1000) (n:=40) mixedT (fun _ _ _ h=>by simp[noT]at h) rfl fun g=>?_
 cases k<;>cases ok<;>kernel_rfl
def Dn:List D→List A→Bool
 |[.bool _],[.ag [.int .i64 _,.int .i64 _],.c (.bool _)]=>true
 |_,_=>false
def mD:List D→List A→List D
 |[.bool k],[_,.c (.bool ok)]=>[.bool (k&&ok)]
 |_,_=>[]
def dY:List D→List A→List A
 |_,[a,_]=>[a]
 |_,_=>[]
noncomputable def CQL:List (Nat×ZY):=[(279,Pq Dn mD dY)]
noncomputable def CQ:Cx:=CX CQL
instance:EffOk CQ:=xV (kY ⟨Ni (C:=CX CQL) Tryz.func279 (by simp[Tryz.f279]) (by decide) fun ds al h=>by
 unfold Dn at h;split at h
 ·exact H5 rfl rfl (dX _ _ _ _)
 ·simp at h,trivial⟩)
end Eng
end
section
open Go Go.Proofs Eng
namespace Eng
section
variable (Gv:Nat→List A→List A→Prop) (I0:List D→List D→Prop) (M0:List D→Nat) (I1:List D→List D→Prop) (M1:List D→Nat) (I2:List D→List D→Prop) (M2:List D→Nat) (I3:List D→List D→Prop) (M3:List D→Nat) (Q:List A→Prop)
theorem Do (r0:R4) (r1:R4) (r2:R4) (r3:R4) (r4:R4) (r5:R4):wpF CQ Gv an0 Tryz.f235 [.ag (rk r0 (rk r1 (rk r2 (rk r3 (rk r4 (rk r5 []))))))] Q=(∃i i_1 b,Gv 239 [aR r4] [F2 [dI i,dI i_1],aB b]∧true=true∧∃i_2 i_3 b1,Gv 275 [F2 [dI i,dI i_1]] [F2 [dI i_2,dI i_3],aB b1]∧true=true∧∃i i_4 b2,Gv 239 [aR r5] [F2 [dI i,dI i_4],aB b2]∧true=true∧∃i_5 i_6 b3,Gv 275 [F2 [dI i,dI i_4]] [F2 [dI i_5,dI i_6],aB b3]∧true=true∧bB (!(b&&b1&&b2&&b3)) (Q [aI (0:Int),aB false]) (∃i i_7 b4,Gv 239 [aR r1] [F2 [dI i,dI i_7],aB b4]∧true=true∧∃i_8 i_9 b5,Gv 245 [F2 [dI i,dI i_7],F2 [dI i_2,dI i_3]] [F2 [dI i_8,dI i_9],aB b5]∧true=true∧∃i i_10 b6,Gv 239 [aR r2] [F2 [dI i,dI i_10],aB b6]∧true=true∧∃i_11 i_12 b7,Gv 245 [F2 [dI i,dI i_10],F2 [dI i_5,dI i_6]] [F2 [dI i_11,dI i_12],aB b7]∧true=true∧∃i i_13 b8,Gv 239 [aR r3] [F2 [dI i,dI i_13],aB b8]∧true=true∧∃i_14 i_15 b9,Gv 245 [F2 [dI i_2,dI i_3],F2 [dI i_5,dI i_6]] [F2 [dI i_14,dI i_15],aB b9]∧true=true∧∃i_16 i_17 b10,Gv 245 [F2 [dI i,dI i_13],F2 [dI i_14,dI i_15]] [F2 [dI i_16,dI i_17],aB b10]∧true=true∧bB (!(b&&b1&&b2&&b3&&b4&&b5&&b6&&b7&&b8&&b9&&b10)) (Q [aI (0:Int),aB false]) (∃i i_18 b11,Gv 239 [aR r0] [F2 [dI i,dI i_18],aB b11]∧true=true∧∃i_19 i_20 b12,Gv 240 [F2 [dI i,dI i_18],F2 [dI i_8,dI i_9]] [F2 [dI i_19,dI i_20],aB b12]∧true=true∧∃i i_21 b13,Gv 240 [F2 [dI i_11,dI i_12],F2 [dI i_16,dI i_17]] [F2 [dI i,dI i_21],aB b13]∧true=true∧∃i_22 i_23 b14,Gv 240 [F2 [dI i_19,dI i_20],F2 [dI i,dI i_21]] [F2 [dI i_22,dI i_23],aB b14]∧true=true∧bB (!(b&&b1&&b2&&b3&&b4&&b5&&b6&&b7&&b8&&b9&&b10&&b11&&b12&&b13&&b14)) (Q [aI (0:Int),aB false]) (∃i b,Gv 242 [F2 [dI i_22,dI i_23]] [aI i,aB b]∧Q [aI i,aB b])))):=by kernel_rfl
end
end Eng
end
section
namespace Eng
open Go Go.Proofs Rl
set_option maxRecDepth 100000
theorem Dp {r:Rt} {i j k:Nat} (hr:HT i j k r) (nn:0≤r.c) (h:i<300000∧j<300000∧k<300000:=by omega):∃c d ok,qc CC 231 [eT r] [eIv c d,eOk ok]∧IvB c d∧(ok=true→inI c d (rv r)):=by
 obtain⟨a1,a2,oa,ga,ba,ia⟩:=zI hr.1;obtain⟨b1,b2,ob,gb,bb,ib⟩:=zI hr.2.1;obtain⟨c1,c2,oc,gc,bc,ic⟩:=zI hr.2.2;obtain⟨s1,s2,os,gs,bs,is⟩:=dW bc;obtain⟨m1,m2,om,gm,bm,im⟩:=IY bb bs;obtain⟨t1,t2,ot,gt,bt,it⟩:=A3 ba bm;have zz:IvB 0 0∧(false=true→inI 0 0 (rv r)):=⟨.zero,by simp⟩;cases oa with
 |false=>refine⟨a1,a2,false,?_,ba,by simp⟩;refine wpG Tryz.func231 ((vO ..).mpr ?_);exact⟨_,_,_,ga,brF rfl⟩
 |true=>
 by_cases h0:r.b=0
 ·refine⟨a1,a2,true,?_,ba,fun _=>?_⟩
  ·refine wpG Tryz.func231 ((vO ..).mpr ?_);refine⟨_,_,_,ga,brT ⟨_,wb r.b,brb (fun _=>rfl) (fun h=>?_)⟩⟩;rw[h0]at h;simp[sr]at h
  ·have:=ia rfl;unfold rv
   rwa [h0,xH,zml,ad0]
 have hs:∀{X:Prop},(sr r.b==0)=true→X:=fun h=>by rw[X0]at h;exact absurd (of_decide_eq_true h) h0
 cases ob with
 |false=>refine⟨0,0,false,?_,zz⟩;refine wpG Tryz.func231 ((vO ..).mpr ?_);exact⟨_,_,_,ga,brT ⟨_,wb r.b,brb hs (fun _=>⟨_,_,_,gb,_,_,_,gc,brF rfl⟩)⟩⟩
 |true=>
 cases oc with
 |false=>refine⟨0,0,false,?_,zz⟩;refine wpG Tryz.func231 ((vO ..).mpr ?_);exact⟨_,_,_,ga,brT ⟨_,wb r.b,brb hs (fun _=>⟨_,_,_,gb,_,_,_,gc,brT (brF rfl)⟩)⟩⟩
 |true=>
 cases os with
 |false=>refine⟨0,0,false,?_,zz⟩;refine wpG Tryz.func231 ((vO ..).mpr ?_);exact⟨_,_,_,ga,brT ⟨_,wb r.b,brb hs (fun _=>⟨_,_,_,gb,_,_,_,gc,brT (brT ⟨_,wb r.c,brd (fun _=>rfl) (fun _=>⟨_,_,_,gs,brF rfl⟩)⟩)⟩)⟩⟩
 |true=>
 have a3:∀{X:Prop},sr r.c<0→X:=fun h=>absurd (ZR.1 h) (by grind)
 cases om with
 |false=>refine⟨0,0,false,?_,zz⟩;refine wpG Tryz.func231 ((vO ..).mpr ?_);exact⟨_,_,_,ga,brT ⟨_,wb r.b,brb hs (fun _=>⟨_,_,_,gb,_,_,_,gc,brT (brT ⟨_,wb r.c,brd a3 (fun _=>⟨_,_,_,gs,brT ⟨_,_,_,gm,brF rfl⟩⟩)⟩)⟩)⟩⟩
 |true=>refine⟨t1,t2,ot,?_,bt,fun e=>it e _ _ (ia rfl) (im rfl _ _ (ib rfl) (is rfl _ nn (ic rfl)))⟩;refine wpG Tryz.func231 ((vO ..).mpr ?_);exact⟨_,_,_,ga,brT ⟨_,wb r.b,brb hs (fun _=>⟨_,_,_,gb,_,_,_,gc,brT (brT ⟨_,wb r.c,brd a3 (fun _=>⟨_,_,_,gs,brT ⟨_,_,_,gm,brT ⟨_,_,_,gt,rfl⟩⟩⟩)⟩)⟩)⟩⟩
theorem XI {a b m:Rat} {i j k:Nat} (ha:Hz i a) (hb:Hz j b) (hm:Hz k m) (h:2*i<360000∧2*j+k<360000:=by omega):
 qc CC 174 [aR (q4 a),aR (q4 b),aR (q4 m)] [aI (tw a b m)]:=by
 refine wpG Tryz.func174 ((Dg ..).mpr ?_);have h2:=hb.mul hb (l:=2*j);refine⟨_,wb a,_,wb b,_,wb m,?_⟩;rw[jm (KB b) (KB m)];unfold tw;refine brb (fun h1=>?_) (fun h1=>?_)
 ·rw[if_pos (.inl (cp h1))]
 have n1:¬sr b*sr m=0:=by simpa using h1
 refine brb (fun h3=>?_) (fun h3=>?_)
 ·rw[if_pos (.inr (cp h3))]
 have n3:¬sr a=sr b*sr m:=by simpa using h3
 rw[if_neg (by simp[n1,n3])];refine brb (fun h4=>?_) (fun h4=>?_)
 ·rw[if_pos (cp h4)]
 have n4:¬sr a=0:=by simpa using h4
 rw[if_neg n4];refine⟨_,Mx ha ha,_,Mx hb hb,_,Mx h2 hm,_,oy (ha.mul ha (l:=2*i)) (h2.mul hm (l:=2*j+k)),?_⟩;rw[jm (KB a) (KB _)]
theorem Dq {r s:Rt} {i j k:Nat} (hr:HT i j k r) (hs:HT i j k s) (ho:okT r) (hp:okT s) (h:i<300000∧j<300000∧k<300000:=by omega):
 ∃n ok,qc CC 173 [eT r,eT s] [eI n,eOk ok]∧(ok=true→n=sg (rv r-rv s)):=by
 obtain⟨a1,a2,oa,ga,_,ia⟩:=Dp hr ho.nn;obtain⟨b1,b2,ob,gb,_,ib⟩:=Dp hs hp.nn;cases oa with
 |false=>refine⟨0,false,?_,by simp⟩;refine wpG Tryz.func173 ((yH ..).mpr ?_);exact⟨_,_,_,ga,_,_,_,gb,brF rfl⟩
 |true=>
 cases ob with
 |false=>refine⟨0,false,?_,by simp⟩;refine wpG Tryz.func173 ((yH ..).mpr ?_);exact⟨_,_,_,ga,_,_,_,gb,brT (brF rfl)⟩
 |true=>
 by_cases h1:a2<b1
 ·refine⟨-1,true,?_,fun _=>(K7 (N2.2 (IU (ia rfl) (ib rfl) h1))).symm⟩;refine wpG Tryz.func173 ((yH ..).mpr ?_);exact⟨_,_,_,ga,_,_,_,gb,brT (brT (brd (fun _=>rfl) (fun k=>absurd h1 k)))⟩
 by_cases h2:a1>b2
 ·refine⟨1,true,?_,fun _=>(Xw (HM.2 (IU (ib rfl) (ia rfl) h2))).symm⟩;refine wpG Tryz.func173 ((yH ..).mpr ?_);exact⟨_,_,_,ga,_,_,_,gb,brT (brT (brd (fun k=>absurd k h1) (fun _=>brd (fun _=>rfl) (fun k=>absurd h2 k))))⟩
 ·refine⟨0,false,?_,by simp⟩;refine wpG Tryz.func173 ((yH ..).mpr ?_);exact⟨_,_,_,ga,_,_,_,gb,brT (brT (brd (fun k=>absurd k h1) (fun _=>brd (fun k=>absurd k h2) (fun _=>rfl))))⟩
end Eng
end
section
namespace Eng
open Go Go.Proofs Rl
set_option maxRecDepth 100000
theorem upQ {f:Nat} {al rs:List A} (h:qc CC f al rs):qc CQ f al rs:=wl rfl rfl h
theorem Dr {a b c d m n:Rat} {i:Nat} (ha:Hz i a) (hb:Hz i b) (hc:Hz i c) (hd:Hz i d) (hm:Hz i m) (hn:Hz i n) (hm0:0≤m) (hn0:0≤n) (h:i<300000:=by omega):
 ∃z ok,qc CC 235 [.ag (rk (q4 a) (rk (q4 b) (rk (q4 c) (rk (q4 d) (rk (q4 m) (rk (q4 n) []))))))] [eI z,eOk ok]∧(ok=true→z=sg (qv a b c d m n)):=by
 obtain⟨_,_,o1,g1,k1,i1⟩:=zI hm;obtain⟨_,_,o2,g2,k2,i2⟩:=dW k1;obtain⟨_,_,o3,g3,k3,i3⟩:=zI hn;obtain⟨_,_,o4,g4,k4,i4⟩:=dW k3;obtain⟨_,_,o5,g5,k5,i5⟩:=zI hb;obtain⟨_,_,o6,g6,k6,i6⟩:=IY k5 k2;obtain⟨_,_,o7,g7,k7,i7⟩:=zI hc;obtain⟨_,_,o8,g8,k8,i8⟩:=IY k7 k4;obtain⟨_,_,o9,g9,k9,i9⟩:=zI hd;obtain⟨_,_,p0,h0,l0,j0⟩:=IY k2 k4;obtain⟨_,_,p1,h1,l1,j1⟩:=IY k9 l0;obtain⟨_,_,p2,h2,l2,j2⟩:=zI ha;obtain⟨_,_,p3,h3,l3,j3⟩:=A3 l2 k6;obtain⟨_,_,p4,h4,l4,j4⟩:=A3 k8 l1;obtain⟨_,_,p5,h5,l5,j5⟩:=A3 l3 l4;obtain⟨z,oz,hz,iz⟩:=ui _ _;refine⟨if(o1&&o2&&o3&&o4&&o5&&o6&&o7&&o8&&o9&&p0&&p1&&p2&&p3&&p4&&p5)=true then z else 0,o1&&o2&&o3&&o4&&o5&&o6&&o7&&o8&&o9&&p0&&p1&&p2&&p3&&p4&&p5&&oz,?_,fun e=>?_⟩
 ·refine wl (C:=CQ) rfl rfl (qu (C:=CQ) (anns:=an0) mixedT Tryz.func235 ((Do ..).mpr ?_));refine⟨_,_,_,upQ g1,rfl,_,_,_,upQ g2,rfl,_,_,_,upQ g3,rfl,_,_,_,upQ g4,rfl,?_⟩;cases o1
  ·rfl
  cases o2
  ·rfl
  cases o3
  ·rfl
  cases o4
  ·rfl
  refine⟨_,_,_,upQ g5,rfl,_,_,_,upQ g6,rfl,_,_,_,upQ g7,rfl,_,_,_,upQ g8,rfl,_,_,_,upQ g9,rfl,_,_,_,upQ h0,rfl,_,_,_,upQ h1,rfl,?_⟩;cases o5
  ·rfl
  cases o6
  ·rfl
  cases o7
  ·rfl
  cases o8
  ·rfl
  cases o9
  ·rfl
  cases p0
  ·rfl
  cases p1
  ·rfl
  refine⟨_,_,_,upQ h2,rfl,_,_,_,upQ h3,rfl,_,_,_,upQ h4,rfl,_,_,_,upQ h5,rfl,?_⟩;cases p2
  ·rfl
  cases p3
  ·rfl
  cases p4
  ·rfl
  cases p5
  ·rfl
  exact⟨_,_,upQ hz,rfl⟩
 ·rw[Aw]at e;obtain⟨e,ez⟩:=e;rw[if_pos e];simp only[Aw]at e;obtain⟨⟨⟨⟨⟨⟨⟨⟨⟨⟨⟨⟨⟨⟨q1,q2⟩,q3⟩,q4⟩,q5⟩,q6⟩,q7⟩,q8⟩,q9⟩,r0⟩,r1⟩,r2⟩,r3⟩,r4⟩,r5⟩:=e;have vm:=i2 q2 _ hm0 (i1 q1);have vn:=i4 q4 _ hn0 (i3 q3);rw[iz ez _ (j5 r5 _ _ (j3 r3 _ _ (j2 r2) (i6 q6 _ _ (i5 q5) vm)) (j4 r4 _ _ (i8 q8 _ _ (i7 q7) vn) (j1 r1 _ _ (i9 q9) (j0 r0 _ _ vm vn))))];congr 1;unfold qv;generalize jh m=x;generalize jh n=y;obtain⟨x,rfl⟩:=x.rep;obtain⟨y,rfl⟩:=y.rep;exact xC fun n=>by simp only[xZ,jN,jO];grind
theorem My {x y:Rat} {j k:Nat} (hx:Hz j x) (hy:Hz k y) (h:j<360000∧k<360000:=by omega):qc CC 236 [aR (q4 x),aR (q4 y)] [aR (q4 (x+y))]:=by
 refine wpG Tryz.func236 ((dN ..).mpr ?_);exact⟨_,bAdd hx hy h,rfl⟩
theorem A4 {a b c d m n:Rat} {i j k:Nat} (ha:Hz i a) (hb:Hz j b) (hc:Hz j c) (hd:Hz 0 d) (hm:Hz k m) (hn:Hz k n) (hm0:0≤m) (hn0:0≤n) (h:4*i+(8*j+6*k)<299000:=by omega):
 qc CC 176 [.ag (rk (q4 a) (rk (q4 b) (rk (q4 c) (rk (q4 d) (rk (q4 m) (rk (q4 n) []))))))] [aI (qs a b c d m n)]:=by
 have ad:=hc.mul hc (l:=2*j);have al:=hd.mul hd (l:=0);have a4:=hm.mul al (l:=k);have hs:=ad.add a4 (l:=2*j+k+1);have an:=hn.mul hs (l:=2*j+2*k+1);have a6:=ha.mul ha (l:=2*i);have a8:=hb.mul hb (l:=2*j);have a3:=hm.mul a8 (l:=2*j+k);have ap:=a6.add a3 (l:=2*i+2*j+k+1);have hA:=ap.sub an (l:=2*i+4*j+3*k+3);have a7:=ha.mul hb (l:=i+j);have ag:=hc.mul hd (l:=j);have a5:=hn.mul ag (l:=k+j);have hB:=a7.sub a5 (l:=i+2*j+k+1);have hBB:=hB.add hB (l:=2*i+4*j+2*k+3);obtain⟨z,oz,gz,iz⟩:=Dr (i:=i+j+k) (ha.mono (by omega)) (hb.mono (by omega)) (hc.mono (by omega)) (hd.mono (by omega)) (hm.mono (by omega)) (hn.mono (by omega)) hm0 hn0;refine wpG Tryz.func176 ((As ..).mpr ?_);refine⟨_,wb m,?_⟩;refine brd (fun h=>absurd (ZR.1 h) (by grind)) (fun _=>?_);refine⟨_,wb n,?_⟩;refine brd (fun h=>absurd (ZR.1 h) (by grind)) (fun _=>?_);refine⟨_,_,gz,?_⟩;refine zH (fun e=>?_) (fun _=>?_)
 ·rw[iz e,co _ _ _ _ hm0 hn0]
 refine⟨_,XI ha hb hm (by omega),_,XI hc hd hm (by omega),_,wb n,?_⟩;rw[jm (eX _ _ _) (KB n)];unfold qs;refine brb (fun h1=>?_) (fun h1=>?_)
 ·rw[if_pos (.inl (cp h1))]
 have n1:¬tw c d m*sr n=0:=by simpa using h1
 refine brb (fun h3=>?_) (fun h3=>?_)
 ·rw[if_pos (.inr (cp h3))]
 have n3:¬tw a b m=tw c d m*sr n:=by simpa using h3
 rw[if_neg (by simp[n1,n3])];refine brb (fun h4=>?_) (fun h4=>?_)
 ·rw[if_pos (cp h4)]
 have n4:¬tw a b m=0:=by simpa using h4
 rw[if_neg n4];refine⟨_,Mx ha ha,_,Mx hb hb,_,Mx hm a8,_,My a6 a3,_,Mx hc hc,_,Mx hd hd,_,Mx hm al,_,My ad a4,_,Mx hn hs,_,fh ap an,
  _,Mx ha hb,_,Mx hc hd,_,Mx hn ag,_,fh a7 a5,_,My hB hB,_,XI hA hBB hm (by omega),?_⟩
 rw[jm (eX _ _ _) (eX _ _ _),NE,gp m (b*b),gp m (d*d)]
theorem Z8 {x:Rat} {k:Nat} (hx:Hz k x) (h:k<360000:=by omega):qc CC 237 [aR (q4 x)] [aR (q4 x)]:=by
 refine wpG Tryz.func237 ((Rq ..).mpr ?_);have:=ox hx.neg h;rw[Rat.neg_neg]at this;exact⟨_,ox hx h,_,this,rfl⟩
theorem mE {a b:Rat}:(sr (a-b)==0)=true↔a=b:=by
 rw[X0,decide_eq_true_eq];exact BD
theorem G4 {r s:Rt} {i j k:Nat} (hr:HT i j k r) (hs:HT i j k s) (ho:okT r) (hp:okT s) (h:8*i+(8*j+6*k)<298900:=by omega):
 qc CC 115 [.ag (kT r []),.ag (kT s [])] [aI (sg (rv r-rv s))]:=by
 obtain⟨z,oz,gz,iz⟩:=Dq hr hs ho hp;have a3:qc CC 177 [.ag (kT r []),.ag (kT s [])] [.ag (rk (q4 (r.a-s.a)) (rk (q4 r.b) (rk (q4 (-s.b)) (rk (q4 0) (rk (q4 r.c) (rk (q4 s.c) []))))))]:=by refine wpG Tryz.func177 ((dO ..).mpr ?_);exact⟨_,fh hr.1 hs.1,_,Z8 hr.2.1,_,ox hs.2.1,_,b0,_,Z8 hr.2.2,_,Z8 hs.2.2,rfl⟩
 have a6:=A4 (i:=2*i+1) (j:=j) (k:=k) (hr.1.sub hs.1 (by omega)) hr.2.1 hs.2.1.neg Hz.zero hr.2.2 hs.2.2 ho.nn hp.nn (by omega);rw[co _ _ _ _ ho.nn hp.nn,Iy]at a6;have a5:r.c=s.c→tw (r.a-s.a) (r.b-s.b) r.c=sg (rv r-rv s):=fun e=>by rw[HR _ _ ho.nn];congr 1;unfold rv;rw[←e];generalize jh r.c=x;obtain⟨x,rfl⟩:=x.rep;rw[kG,kG];exact xC fun n=>by simp only[xZ,z8,jN,jO];grind
 have a4:br (toB (Lm (sr (r.c-s.c)==0)))
  (∃x,qc CC 175 [aR (q4 r.a),aR (q4 s.a)] [aR x]∧∃x_1,qc CC 175 [aR (q4 r.b),aR (q4 s.b)] [aR x_1]∧∃i,qc CC 174 [aR x,aR x_1,aR (q4 r.c)] [aI i]∧[aI i]=[aI (sg (rv r-rv s))])
  (∃x x_1,qc CC 177 [.ag (kT r []),.ag (kT s [])] [.ag (pk x (rk x_1 []))]∧∃i,qc CC 176 [.ag (pk x (rk x_1 []))] [aI i]∧[aI i]=[aI (sg (rv r-rv s))]):=by
  refine brb (fun e=>?_) (fun _=>?_)
  ·have e:=mE.1 e;refine⟨_,fh hr.1 hs.1,_,fh hr.2.1 hs.2.1,_,XI (hr.1.sub hs.1 (l:=2*i+1)) (hr.2.1.sub hs.2.1 (l:=2*j+1)) hr.2.2 (by omega),?_⟩;rw[a5 e]
  ·exact⟨⟨_,_,_,_,_⟩,_,a3,_,a6,rfl⟩
 have a7:∃i b,qc CC 173 [.ag (kT r []),.ag (kT s [])] [aI i,aB b]∧br b ([aI i]=[aI (sg (rv r-rv s))])
  (∃i,qc CC 172 [aR (q4 r.c),aR (q4 s.c)] [aI i]∧br (toB (Lm (i==0)))
  (∃x,qc CC 175 [aR (q4 r.a),aR (q4 s.a)] [aR x]∧∃x_1,qc CC 175 [aR (q4 r.b),aR (q4 s.b)] [aR x_1]∧∃i,qc CC 174 [aR x,aR x_1,aR (q4 r.c)] [aI i]∧[aI i]=[aI (sg (rv r-rv s))])
  (∃x x_1,qc CC 177 [.ag (kT r []),.ag (kT s [])] [.ag (pk x (rk x_1 []))]∧∃i,qc CC 176 [.ag (pk x (rk x_1 []))] [aI i]∧[aI i]=[aI (sg (rv r-rv s))])):=by
  refine⟨_,_,gz,zH (fun e=>by rw[iz e]) (fun _=>⟨_,oy hr.2.2 hs.2.2,a4⟩)⟩
 refine wpG Tryz.func115 ((dP ..).mpr ?_);refine⟨_,wb r.b,?_⟩;rw[X0];refine brd (fun h1=>?_) (fun _=>a7);refine⟨_,wb s.b,?_⟩;rw[X0];refine brd (fun h2=>?_) (fun _=>a7);refine⟨_,oy hr.1 hs.1,?_⟩;unfold rv;rw[h1,h2,xH,zml,zml,ad0,ad0,Bo,kG]
theorem mF {r s:Rt} {i j k:Nat} (hr:HT i j k r) (hs:HT i j k s) (ho:okT r) (hp:okT s) (h:8*i+(8*j+6*k)<298900:=by omega):
 qc CC 171 [.ag (kT r []),.ag (kT s [])] [aB (sg (rv r-rv s)==0)]:=by
 refine wpG Tryz.func171 ((mq ..).mpr ?_);exact⟨_,G4 hr hs ho hp h,rfl⟩
theorem Jz:qc CC 60 [] [aR (q4 0)]:=by
 refine wpG Tryz.func60 ((At ..).mpr ?_);exact⟨_,b0,rfl⟩
theorem UV (a b c:Rat):qc CC 112 [aR (q4 a),aR (q4 b),aR (q4 c)] [.ag (kT (kI a b c) [])]:=by
 refine wpG Tryz.func112 ((Dh ..).mpr ?_);refine⟨_,wb b,?_⟩;rw[X0];unfold kI;refine brd (fun h=>?_) (fun h=>?_)
 ·rw[if_pos h];refine⟨_,Jz,?_⟩;rw[h];rfl
 ·rw[if_neg h];rfl
theorem UW (p:P5):qc CC 62 [aP (kP p)] [.ag (kT (xP p) [])]:=by
 refine wpG Tryz.func62 ((uc ..).mpr ?_);exact⟨_,_,_,UV _ _ _,rfl⟩
theorem Ds (p:P5):qc CC 116 [aP (kP p)] [.ag (kT (yP p) [])]:=by
 refine wpG Tryz.func116 ((ud ..).mpr ?_);exact⟨_,_,_,UV _ _ _,rfl⟩
end Eng
end
section
namespace Eng
open Go Go.Proofs Rl
set_option maxRecDepth 100000
theorem zw {x y:Rat} {j k:Nat} (hx:Hz j x) (hy:Hz k y) (h:j<360000∧k<360000:=by omega):qc CC 182 [aR (q4 x),aR (q4 y)] [aR (q4 (x*y))]:=by
 refine wpG Tryz.func182 ((Au ..).mpr ?_);exact⟨_,Mx hx hy h,rfl⟩
end Eng
end
section
open Go Go.Proofs Eng
namespace Eng
section
variable (Gv:Nat→List A→List A→Prop) (I0:List D→List D→Prop) (M0:List D→Nat) (I1:List D→List D→Prop) (M1:List D→Nat) (I2:List D→List D→Prop) (M2:List D→Nat) (I3:List D→List D→Prop) (M3:List D→Nat) (Q:List A→Prop)
theorem A5 (l0:List (List D)) (Q:List A→Prop):wpF CC Gv (fun _=>⟨[.slot 8 (.int .i64 0)],[],I0,M0⟩) Tryz.f54 [.c (.sl l0),.c (.fn 61)] Q=(I0 [] [dI (0:Int)]∧∀(i:Int),I0 [] [dI i]→bB (decide (i<(W1 l0.length))) (rO l0 i 4∧∃s i_1 i_2 es,cU l0 i 0 4 [Lr s,dI i_1,dI i_2,J9 es]∧∃b,Gv 61 [F2 [Lr s,dI i_1,dI i_2,J9 es]] [aB b]∧br b (Q [aI i]) (I0 [] [dI (Ts .i64 (i+1))]∧M0 [dI (Ts .i64 (i+1))]<M0 [dI i])) (Q [aI (-1:Int)])):=by kernel_rfl
theorem Dt (s0:List UInt8) (k0:Int) (d0:Int) (l0:List (List D)) (Q:List A→Prop):wpF CC Gv an0 Tryz.f61 [.ag [.str s0,.int .i64 k0,.int .i64 d0,.sl l0]] Q=(Q [aB (k0==4)]):=by kernel_rfl
theorem Du (l0:List (List D)) (x0:Int) (y0:Int) (u0:Int) (i0:Int) (Q:List A→Prop):wpF CC Gv an0 Tryz.f5 [.c (.sl l0),.ag [.int .i16 x0,.int .i16 y0,.int .u8 u0],.c (.int .i64 i0)] Q=(∃i es b,Gv 6 [aL l0] [F2 [dI i,J9 es],aB b]∧∃b1,Gv 7 [] [aB b1]∧bB (!b1) (∃b,Gv 7 [] [aB b]∧Q [aB b]) (bB (!b) (∃b,Gv 7 [] [aB b]∧Q [aB b]) (∃i_1,Gv 8 [F2 [dI i,J9 es]] [aI i_1]∧bB (i_1 !=0) (∃b,Gv 7 [] [aB b]∧Q [aB b]) (∃x x1,Gv 15 [F2 [J8 .i16 x0,J8 .i16 y0,J8 .u8 u0]] [aV x x1]∧∃i_2,Gv 16 [F2 [dI i,J9 es],aV x x1] [aI i_2]∧∃i_3,Gv 17 [F2 [dI i,J9 es],aV x x1] [aI i_3]∧bB (i_2==i_3) (∃b,Gv 18 [F2 [dI i,J9 es],aV x x1,aI i0] [aB b]∧∃b2,Gv 19 [F2 [dI i,J9 es],aV x x1,aI i0] [aB b2]∧Q [aB (b==b2)]) (Q [aB false]))))):=by kernel_rfl
end
end Eng
end
section
open Go Go.Proofs Eng
namespace Eng
section
variable (Gv:Nat→List A→List A→Prop) (I0:List D→List D→Prop) (M0:List D→Nat) (I1:List D→List D→Prop) (M1:List D→Nat) (I2:List D→List D→Prop) (M2:List D→Nat) (I3:List D→List D→Prop) (M3:List D→Nat) (Q:List A→Prop)
theorem Mz (t0:Int) (l0:List (List D)) (r0:R4) (r1:R4) (Q:List A→Prop):wpF CC Gv (fun _=>⟨[.slot 6 (.int .i64 0),.slot 5 (.int .i64 0)],[],I0,M0⟩) Tryz.f17 [.ag [.int .i64 t0,.sl l0],.ag (rk r0 (rk r1 []))] Q=(I0 [] [dI (0:Int),dI (0:Int)]∧∀(i i_1:Int),I0 [] [dI i,dI i_1]→bB (decide (i<(W1 l0.length))) (rO l0 i 4∧∃s i_2 i_3 es,cU l0 i 0 4 [Lr s,dI i_2,dI i_3,J9 es]∧∃x,Gv 39 [aV r0 r1] [aP x]∧∃i_4,Gv 38 [F2 [J9 es],aP x] [aI i_4]∧bB (i_2==4) (bB (decide (i_4<1)) (Q [aI t0]) (bB (i_2 !=4) (bB (decide (i_4≥0)) (I0 [] [dI (Ts .i64 (i+1)),dI (match decide (i_1<i_3)with|true=>i_3|false=>i_1)]∧M0 [dI (Ts .i64 (i+1)),dI (match decide (i_1<i_3)with|true=>i_3|false=>i_1)]<M0 [dI i,dI i_1]) (I0 [] [dI (Ts .i64 (i+1)),dI i_1]∧M0 [dI (Ts .i64 (i+1)),dI i_1]<M0 [dI i,dI i_1])) (I0 [] [dI (Ts .i64 (i+1)),dI i_1]∧M0 [dI (Ts .i64 (i+1)),dI i_1]<M0 [dI i,dI i_1]))) (bB (i_2 !=4) (bB (decide (i_4≥0)) (I0 [] [dI (Ts .i64 (i+1)),dI (match decide (i_1<i_3)with|true=>i_3|false=>i_1)]∧M0 [dI (Ts .i64 (i+1)),dI (match decide (i_1<i_3)with|true=>i_3|false=>i_1)]<M0 [dI i,dI i_1]) (I0 [] [dI (Ts .i64 (i+1)),dI i_1]∧M0 [dI (Ts .i64 (i+1)),dI i_1]<M0 [dI i,dI i_1])) (I0 [] [dI (Ts .i64 (i+1)),dI i_1]∧M0 [dI (Ts .i64 (i+1)),dI i_1]<M0 [dI i,dI i_1]))) (Q [aI i_1])):=by kernel_rfl
theorem M4 (t0:Int) (l0:List (List D)) (r0:R4) (r1:R4) (i0:Int) (Q:List A→Prop):wpF CC Gv an0 Tryz.f19 [.ag [.int .i64 t0,.sl l0],.ag (rk r0 (rk r1 [])),.c (.int .i64 i0)] Q=(bB (decide (i0≥Ts .i64 (0-t0))) (∃i,Gv 17 [F2 [dI t0,J9 l0],aV r0 r1] [aI i]∧Q [aB (decide (i0<Ts .i64 (0-i)))]) (Q [aB false])):=by kernel_rfl
theorem Dv (t0:Int) (l0:List (List D)) (r0:R4) (r1:R4) (Q:List A→Prop):wpF CC Gv (fun _=>⟨[.slot 32 (.int .i64 0),.slot 7 (.int .i64 0)],[],I0,M0⟩) Tryz.f16 [.ag [.int .i64 t0,.sl l0],.ag (rk r0 (rk r1 []))] Q=(∃x,Gv 35 [aV r0 r1] [aP x]∧∃i,Gv 36 [F2 [dI t0,J9 l0]] [aI i]∧bB (decide (i≥0)) (rO l0 i 4∧∃es,cU l0 i 3 1 [J9 es]∧∃i,Gv 37 [F2 [J9 es],aP x] [aI i]∧bB (i !=1) (Q [aI t0]) (I0 [] [dI (0:Int),dI (0:Int)]∧∀(i i_1:Int),I0 [] [dI i,dI i_1]→bB (decide (i<(W1 l0.length))) (rO l0 i 4∧∃s i_2 i_3 es,cU l0 i 0 4 [Lr s,dI i_2,dI i_3,J9 es]∧bB (i_2 !=4) (bB (decide (i_3>i_1)) (∃i_4,Gv 37 [F2 [J9 es],aP x] [aI i_4]∧bB (decide (i_4≥0)) (I0 [] [dI (Ts .i64 (i+1)),dI i_3]∧M0 [dI (Ts .i64 (i+1)),dI i_3]<M0 [dI i,dI i_1]) (I0 [] [dI (Ts .i64 (i+1)),dI i_1]∧M0 [dI (Ts .i64 (i+1)),dI i_1]<M0 [dI i,dI i_1])) (I0 [] [dI (Ts .i64 (i+1)),dI i_1]∧M0 [dI (Ts .i64 (i+1)),dI i_1]<M0 [dI i,dI i_1])) (I0 [] [dI (Ts .i64 (i+1)),dI i_1]∧M0 [dI (Ts .i64 (i+1)),dI i_1]<M0 [dI i,dI i_1])) (Q [aI i_1]))) (I0 [] [dI (0:Int),dI (0:Int)]∧∀(i i_1:Int),I0 [] [dI i,dI i_1]→bB (decide (i<(W1 l0.length))) (rO l0 i 4∧∃s i_2 i_3 es,cU l0 i 0 4 [Lr s,dI i_2,dI i_3,J9 es]∧bB (i_2 !=4) (bB (decide (i_3>i_1)) (∃i_4,Gv 37 [F2 [J9 es],aP x] [aI i_4]∧bB (decide (i_4≥0)) (I0 [] [dI (Ts .i64 (i+1)),dI i_3]∧M0 [dI (Ts .i64 (i+1)),dI i_3]<M0 [dI i,dI i_1]) (I0 [] [dI (Ts .i64 (i+1)),dI i_1]∧M0 [dI (Ts .i64 (i+1)),dI i_1]<M0 [dI i,dI i_1])) (I0 [] [dI (Ts .i64 (i+1)),dI i_1]∧M0 [dI (Ts .i64 (i+1)),dI i_1]<M0 [dI i,dI i_1])) (I0 [] [dI (Ts .i64 (i+1)),dI i_1]∧M0 [dI (Ts .i64 (i+1)),dI i_1]<M0 [dI i,dI i_1])) (Q [aI i_1]))):=by kernel_rfl
theorem Dw (t0:Int) (l0:List (List D)) (r0:R4) (r1:R4) (i0:Int) (Q:List A→Prop):wpF CC Gv an0 Tryz.f18 [.ag [.int .i64 t0,.sl l0],.ag (rk r0 (rk r1 [])),.c (.int .i64 i0)] Q=(bB (decide (i0≥Ts .i64 (0-t0))) (∃i,Gv 16 [F2 [dI t0,J9 l0],aV r0 r1] [aI i]∧Q [aB (decide (i0<Ts .i64 (0-i)))]) (Q [aB false])):=by kernel_rfl
theorem M5 (t0:Int) (l0:List (List D)) (Q:List A→Prop):wpF CC Gv an0 Tryz.f36 [.ag [.int .i64 t0,.sl l0]] Q=(∃i,Gv 54 [aL l0,Hu (D.fn 61)] [aI i]∧Q [aI i]):=by kernel_rfl
end
end Eng
end
section
namespace Eng
open Go Go.Proofs Rl
set_option maxRecDepth 100000
theorem Ft.ok.gc {f:Ft} (h:f.ok):∀c∈f.sh,Gc c:=fun c hc=>(h.2.1 c hc).1.1
theorem Dx {l:List It} (h:∀i∈l,i.ok) (hn:l.length≤3999999999999):∃(t:Int) (fs:List Ft) (b:Bool),qc CC 6 [aL (l.map kIt)] [ftA t fs,aB b]∧(b=true→t=12∧fs.length≤4∧(∀f∈fs,f.ok)):=by
 have hb:=Ms h hn;unfold VN at hb;by_cases hg:l.all (WO l.length)=true
 ·rw[if_pos hg]at hb;refine⟨12,l.map itF,decide (l.length≤4),?_,fun e=>⟨rfl,?_,fun f hf=>?_⟩⟩
  ·have he:(l.map fun i=>kFt (itF i))=(l.map itF).map kFt:=by rw[List.map_map];rfl
   rw[he]at hb;exact hb
  ·rw[List.length_map];exact of_decide_eq_true e
  ·obtain⟨i,hi,rfl⟩:=List.mem_map.1 hf;exact me (h i hi)
 ·rw[if_neg hg]at hb;exact⟨0,[],false,hb,by simp⟩
end Eng
end
section
open Go Go.Proofs Eng
namespace Eng
section
variable (Gv:Nat→List A→List A→Prop) (I0:List D→List D→Prop) (M0:List D→Nat) (I1:List D→List D→Prop) (M1:List D→Nat) (I2:List D→List D→Prop) (M2:List D→Nat) (I3:List D→List D→Prop) (M3:List D→Nat) (Q:List A→Prop)
theorem Ws (r0:R4) (a0:Int) (b0:Int) (k0:Bool):wpF CC Gv an0 Tryz.f238 [.ag (rk r0 []),.ag [.int .i64 a0,.int .i64 b0],.c (.bool k0)] Q=(∃i i_1 b,Gv 239 [aR r0] [F2 [dI i,dI i_1],aB b]∧bB (!k0) (Q [F2 [dI (0:Int),dI (0:Int)],aB false]) (bB (!b) (Q [F2 [dI (0:Int),dI (0:Int)],aB false]) (∃i_2 i_3 b,Gv 245 [F2 [dI i,dI i_1],F2 [dI a0,dI b0]] [F2 [dI i_2,dI i_3],aB b]∧Q [F2 [dI i_2,dI i_3],aB b]))):=by kernel_rfl
theorem A6 (r0:R4) (r1:R4) (r2:R4) (p0:P20):wpF CC Gv an0 Tryz.f178 [.ag (rk r0 (rk r1 (rk r2 []))),.ag (pk p0 [])] Q=(∃i i_1 b,Gv 231 [aT (P1 p0) (No p0) (Ls p0)] [F2 [dI i,dI i_1],aB b]∧∃i_2 i_3 b1,Gv 238 [aR r0,F2 [dI i,dI i_1],aB b] [F2 [dI i_2,dI i_3],aB b1]∧∃i i_4 b,Gv 231 [aT (Pl p0) (Lv p0) (Ls p0)] [F2 [dI i,dI i_4],aB b]∧∃i_5 i_6 b2,Gv 238 [aR r1,F2 [dI i,dI i_4],aB b] [F2 [dI i_5,dI i_6],aB b2]∧∃i i_7 b,Gv 239 [aR r2] [F2 [dI i,dI i_7],aB b]∧bB (!b1) (Q [aI (0:Int),aB false]) (bB (!b2) (Q [aI (0:Int),aB false]) (bB (!b) (Q [aI (0:Int),aB false]) (∃i_8 i_9 b,Gv 240 [F2 [dI i_2,dI i_3],F2 [dI i_5,dI i_6]] [F2 [dI i_8,dI i_9],aB b]∧bB (!b) (Q [aI (0:Int),aB false]) (∃i_10 i_11,Gv 241 [F2 [dI i,dI i_7]] [F2 [dI i_10,dI i_11]]∧∃i i_12 b,Gv 240 [F2 [dI i_8,dI i_9],F2 [dI i_10,dI i_11]] [F2 [dI i,dI i_12],aB b]∧bB (!b) (Q [aI (0:Int),aB false]) (∃i_13 b,Gv 242 [F2 [dI i,dI i_12]] [aI i_13,aB b]∧Q [aI i_13,aB b])))))):=by kernel_rfl
theorem dZ (r0:R4) (r1:R4):wpF CC Gv an0 Tryz.f181 [.ag (rk r0 []),.ag (rk r1 [])] Q=(∃x,Gv 233 [aR r0,aR r1] [aR x]∧Q [aR x]):=by kernel_rfl
theorem ec (r0:R4) (r1:R4):wpF CC Gv an0 Tryz.f180 [.ag (rk r0 []),.ag (rk r1 [])] Q=(∃x,Gv 175 [aR r0,aR r1] [aR x]∧Q [aR x]):=by kernel_rfl
theorem A7 (r0:R4) (r1:R4) (r2:R4):wpF CC Gv an0 Tryz.f179 [.ag (rk r0 []),.ag (rk r1 []),.ag (rk r2 [])] Q=(∃i,Gv 118 [aR r0] [aI i]∧∃i_1,Gv 118 [aR r1] [aI i_1]∧∃i_2,Gv 118 [aR r2] [aI i_2]∧bB (Ts .i64 (i_1*i_2)==0) (Q [aI i]) (bB (i==Ts .i64 (i_1*i_2)) (Q [aI i]) (bB (i==0) (Q [aI (Ts .i64 (i_1*i_2))]) (∃x,Gv 182 [aR r0,aR r0] [aR x]∧∃x1,Gv 182 [aR r1,aR r1] [aR x1]∧∃x2,Gv 182 [aR x1,aR r2] [aR x2]∧∃i_3,Gv 172 [aR x,aR x2] [aI i_3]∧Q [aI (Ts .i64 (i*i_3))])))):=by kernel_rfl
theorem G5 (r0:R4) (r1:R4) (r2:R4) (r3:R4):wpF CC Gv an0 Tryz.f244 [.ag (rk r0 []),.ag (rk r1 []),.ag (rk r2 []),.ag (rk r3 [])] Q=(∃i i_1 b,Gv 231 [aT r0 r1 r2] [F2 [dI i,dI i_1],aB b]∧∃i_2 i_3 b1,Gv 239 [aR r3] [F2 [dI i_2,dI i_3],aB b1]∧bB (!b) (Q [F2 [dI (0:Int),dI (0:Int)],aB false]) (bB (!b1) (Q [F2 [dI (0:Int),dI (0:Int)],aB false]) (∃i_4 i_5,Gv 241 [F2 [dI i_2,dI i_3]] [F2 [dI i_4,dI i_5]]∧∃i_6 i_7 b,Gv 240 [F2 [dI i,dI i_1],F2 [dI i_4,dI i_5]] [F2 [dI i_6,dI i_7],aB b]∧Q [F2 [dI i_6,dI i_7],aB b]))):=by kernel_rfl
theorem Dy (r0:R4) (r1:R4) (r2:R4) (p0:P20):wpF CC Gv an0 Tryz.f185 [.ag (rk r0 (rk r1 (rk r2 []))),.ag (pk p0 [])] Q=(∃i i_1 b,Gv 244 [aR (P1 p0),aR (No p0),aR (Ls p0),aR r0] [F2 [dI i,dI i_1],aB b]∧∃i_2 i_3 b1,Gv 244 [aR (Pl p0),aR (Lv p0),aR (Ls p0),aR r1] [F2 [dI i_2,dI i_3],aB b1]∧∃i_4 i_5 b2,Gv 239 [aR r2] [F2 [dI i_4,dI i_5],aB b2]∧bB (!b) (Q [aI (0:Int),aB false]) (bB (!b1) (Q [aI (0:Int),aB false]) (bB (!b2) (Q [aI (0:Int),aB false]) (∃i_6 i_7 b,Gv 245 [F2 [dI i,dI i_1],F2 [dI i,dI i_1]] [F2 [dI i_6,dI i_7],aB b]∧∃i i_8 b3,Gv 245 [F2 [dI i_2,dI i_3],F2 [dI i_2,dI i_3]] [F2 [dI i,dI i_8],aB b3]∧bB (!b) (Q [aI (0:Int),aB false]) (bB (!b3) (Q [aI (0:Int),aB false]) (∃i_9 i_10 b,Gv 240 [F2 [dI i_6,dI i_7],F2 [dI i,dI i_8]] [F2 [dI i_9,dI i_10],aB b]∧bB (!b) (Q [aI (0:Int),aB false]) (∃i i_11,Gv 241 [F2 [dI i_4,dI i_5]] [F2 [dI i,dI i_11]]∧∃i_12 i_13 b,Gv 240 [F2 [dI i_9,dI i_10],F2 [dI i,dI i_11]] [F2 [dI i_12,dI i_13],aB b]∧bB (!b) (Q [aI (0:Int),aB false]) (∃i b,Gv 242 [F2 [dI i_12,dI i_13]] [aI i,aB b]∧Q [aI i,aB b])))))))):=by kernel_rfl
theorem A8 (r0:R4) (r1:R4) (r2:R4) (p0:P20):wpF CC Gv an0 Tryz.f117 [.ag (rk r0 (rk r1 (rk r2 []))),.ag (pk p0 [])] Q=(∃i b,Gv 178 [aT r0 r1 r2,aP p0] [aI i,aB b]∧br b (Q [aI i]) (∃x,Gv 182 [aR r0,aR (P1 p0)] [aR x]∧∃x1,Gv 182 [aR r1,aR (Pl p0)] [aR x1]∧∃x2,Gv 181 [aR x,aR x1] [aR x2]∧∃x,Gv 180 [aR x2,aR r2] [aR x]∧∃x3,Gv 182 [aR r0,aR (No p0)] [aR x3]∧∃x4,Gv 182 [aR r1,aR (Lv p0)] [aR x4]∧∃x5,Gv 181 [aR x3,aR x4] [aR x5]∧∃i,Gv 179 [aR x,aR x5,aR (Ls p0)] [aI i]∧Q [aI i])):=by kernel_rfl
theorem Rs (r0:R4) (r1:R4) (r2:R4) (p0:P20):wpF CC Gv an0 Tryz.f120 [.ag (rk r0 (rk r1 (rk r2 []))),.ag (pk p0 [])] Q=(∃i b,Gv 185 [aT r0 r1 r2,aP p0] [aI i,aB b]∧br b (Q [aI (Ts .i64 (0-i))]) (∃x,Gv 180 [aR (P1 p0),aR r0] [aR x]∧∃x1,Gv 180 [aR (Pl p0),aR r1] [aR x1]∧∃x2,Gv 182 [aR x,aR x] [aR x2]∧∃x3,Gv 182 [aR x1,aR x1] [aR x3]∧∃x4,Gv 181 [aR x2,aR x3] [aR x4]∧∃x5,Gv 182 [aR (No p0),aR (No p0)] [aR x5]∧∃x6,Gv 182 [aR (Lv p0),aR (Lv p0)] [aR x6]∧∃x7,Gv 181 [aR x5,aR x6] [aR x7]∧∃x8,Gv 182 [aR (Ls p0),aR x7] [aR x8]∧∃x9,Gv 181 [aR x4,aR x8] [aR x9]∧∃x10,Gv 182 [aR x,aR (No p0)] [aR x10]∧∃x,Gv 182 [aR x1,aR (Lv p0)] [aR x]∧∃x11,Gv 181 [aR x10,aR x] [aR x11]∧∃x,Gv 180 [aR x9,aR r2] [aR x]∧∃x12,Gv 181 [aR x11,aR x11] [aR x12]∧∃i,Gv 179 [aR x,aR x12,aR (Ls p0)] [aI i]∧Q [aI (Ts .i64 (0-i))])):=by kernel_rfl
theorem Dz:wpF CC Gv an0 Tryz.f243 [] Q=(∃x,Gv 111 [aI (0:Int)] [aR x]∧Q [aR x]):=by kernel_rfl
theorem M6 (r0:R4):wpF CC Gv an0 Tryz.f184 [.ag (rk r0 [])] Q=(∃x,Gv 243 [] [aR x]∧∃x1,Gv 243 [] [aR x1]∧Q [aT r0 x x1]):=by kernel_rfl
theorem Ru (r0:R4) (r1:R4) (r2:R4) (r3:R4):wpF CC Gv an0 Tryz.f119 [.ag (rk r0 (rk r1 (rk r2 []))),.ag (rk r3 [])] Q=(∃x x1 x2,Gv 184 [aR r3] [aT x x1 x2]∧∃i,Gv 115 [aT r0 r1 r2,aT x x1 x2] [aI i]∧Q [aI i]):=by kernel_rfl
theorem mG (r0:R4) (r1:R4):wpF CC Gv an0 Tryz.f35 [.ag (rk r0 (rk r1 []))] Q=(∃x,Gv 60 [] [aR x]∧∃x1,Gv 60 [] [aR x1]∧∃x2,Gv 60 [] [aR x2]∧Q [F2 (rk r0 (rk x (rk r1 (rk x1 (rk x2 [])))))]):=by kernel_rfl
theorem A9 (c0:C66):wpF CC Gv an0 Tryz.f114 [.ag (ck c0 [])] Q=(bB (!C66.arc c0) (∃x x1 x2,Gv 62 [aP (Hx c0)] [aT x x1 x2]∧∃x3 x4 x5,Gv 62 [aP (Hv c0)] [aT x3 x4 x5]∧∃b,Gv 171 [aT x x1 x2,aT x3 x4 x5] [aB b]∧Q [aB b]) (Q [aB false])):=by kernel_rfl
theorem AA (c0:C66) (r0:R4) (r1:R4) (r2:R4):wpF CC Gv an0 Tryz.f113 [.ag (ck c0 []),.ag (rk r0 (rk r1 (rk r2 [])))] Q=(∃x x1 x2,Gv 62 [aP (Hx c0)] [aT x x1 x2]∧∃i,Gv 115 [aT x x1 x2,aT r0 r1 r2] [aI i]∧bB (decide (i≤0)) (∃x x3 x4,Gv 62 [aP (Hv c0)] [aT x x3 x4]∧∃i,Gv 115 [aT r0 r1 r2,aT x x3 x4] [aI i]∧Q [aB (decide (i≤0))]) (Q [aB false])):=by kernel_rfl
theorem D0 (c0:C66) (p0:P20):wpF CC Gv an0 Tryz.f63 [.ag (ck c0 []),.ag (pk p0 [])] Q=(∃x x1 x2,Gv 62 [aP p0] [aT x x1 x2]∧∃b,Gv 113 [aC c0,aT x x1 x2] [aB b]∧bB (!b) (Q [aI (0:Int),aI (1:Int)]) (∃b,Gv 114 [aC c0] [aB b]∧br b (∃x x3 x4,Gv 116 [aP p0] [aT x x3 x4]∧∃x5 x6 x7,Gv 116 [aP (Hv c0)] [aT x5 x6 x7]∧∃i,Gv 115 [aT x x3 x4,aT x5 x6 x7] [aI i]∧bB (decide (i>0)) (Q [aI (1:Int),aI (0:Int)]) (∃x x8 x9,Gv 116 [aP p0] [aT x x8 x9]∧∃x10 x11 x12,Gv 116 [aP (Hx c0)] [aT x10 x11 x12]∧∃i,Gv 115 [aT x x8 x9,aT x10 x11 x12] [aI i]∧bB (decide (i<0)) (Q [aI (-1:Int),aI (0:Int)]) (Q [aI (0:Int),aI (0:Int)]))) (bB (!C66.arc c0) (∃i,Gv 117 [aT (C66.la c0) (C66.lb c0) (C66.lc c0),aP p0] [aI i]∧∃i_1,Gv 118 [aR (C66.lb c0)] [aI i_1]∧Q [aI (Ts .i64 (i*i_1)),aI (0:Int)]) (∃x x3 x4,Gv 116 [aP p0] [aT x x3 x4]∧∃i,Gv 119 [aT x x3 x4,aR (Hy c0)] [aI i]∧bB (J7 c0) (bB (decide (i<0)) (Q [aI (-1:Int),aI (0:Int)]) (bB (J7 c0) (∃i,Gv 120 [aT (J3 c0) (Hy c0) (J4 c0),aP p0] [aI i]∧Q [aI (Ts .i64 (0-i)),aI (0:Int)]) (bB (decide (i>0)) (Q [aI (1:Int),aI (0:Int)]) (∃i,Gv 120 [aT (J3 c0) (Hy c0) (J4 c0),aP p0] [aI i]∧Q [aI i,aI (0:Int)])))) (bB (J7 c0) (∃i,Gv 120 [aT (J3 c0) (Hy c0) (J4 c0),aP p0] [aI i]∧Q [aI (Ts .i64 (0-i)),aI (0:Int)]) (bB (decide (i>0)) (Q [aI (1:Int),aI (0:Int)]) (∃i,Gv 120 [aT (J3 c0) (Hy c0) (J4 c0),aP p0] [aI i]∧Q [aI i,aI (0:Int)]))))))):=by kernel_rfl
theorem J0 (c0:C66) (r0:R4) (r1:R4) (r2:R4) (p0:P20):wpF CC Gv an0 Tryz.f64 [.ag (ck c0 []),.ag (rk r0 (rk r1 (rk r2 []))),.ag (pk p0 [])] Q=(∃b,Gv 114 [aC c0] [aB b]∧br b (Q [aI (0:Int),aB false]) (∃x x1 x2,Gv 62 [aP (Hv c0)] [aT x x1 x2]∧∃i,Gv 115 [aT r0 r1 r2,aT x x1 x2] [aI i]∧bB (decide (i≥0)) (Q [aI (0:Int),aB false]) (∃x x3 x4,Gv 62 [aP (Hx c0)] [aT x x3 x4]∧∃i,Gv 115 [aT r0 r1 r2,aT x x3 x4] [aI i]∧bB (decide (i<0)) (Q [aI (0:Int),aB false]) (∃i i_1,Gv 63 [aC c0,aP p0] [aI i,aI i_1]∧Q [aI i,aB (i_1==0)])))):=by kernel_rfl
theorem AB (l0:List (List D)) (p0:P20) (Q:List A→Prop):wpF CC Gv (fun _=>⟨[.slot 18 (.int .i64 0),.slot 6 (.int .i64 0)],[],I0,M0⟩) Tryz.f37 [.ag [.sl l0],.ag (pk p0 [])] Q=(∃x x1 x2,Gv 62 [aP p0] [aT x x1 x2]∧I0 [] [dI (0:Int),dI (0:Int)]∧∀(i i_1:Int),I0 [] [dI i,dI i_1]→bB (decide (i<(W1 l0.length))) (rO l0 i 66∧∃x3,cU l0 i 0 66 (ck x3 [])∧∃i_2 i_3,Gv 63 [aC x3,aP p0] [aI i_2,aI i_3]∧bB (i_3==0) (bB (i_2==0) (Q [aI (0:Int)]) (∃i_4 b,Gv 64 [aC x3,aT x x1 x2,aP p0] [aI i_4,aB b]∧br b (bB (decide (i_4>0)) (I0 [] [dI (Ts .i64 (i+1)),dI (Ts .i64 (i_1+1))]∧M0 [dI (Ts .i64 (i+1)),dI (Ts .i64 (i_1+1))]<M0 [dI i,dI i_1]) (I0 [] [dI (Ts .i64 (i+1)),dI i_1]∧M0 [dI (Ts .i64 (i+1)),dI i_1]<M0 [dI i,dI i_1])) (I0 [] [dI (Ts .i64 (i+1)),dI i_1]∧M0 [dI (Ts .i64 (i+1)),dI i_1]<M0 [dI i,dI i_1]))) (∃i_4 b,Gv 64 [aC x3,aT x x1 x2,aP p0] [aI i_4,aB b]∧br b (bB (decide (i_4>0)) (I0 [] [dI (Ts .i64 (i+1)),dI (Ts .i64 (i_1+1))]∧M0 [dI (Ts .i64 (i+1)),dI (Ts .i64 (i_1+1))]<M0 [dI i,dI i_1]) (I0 [] [dI (Ts .i64 (i+1)),dI i_1]∧M0 [dI (Ts .i64 (i+1)),dI i_1]<M0 [dI i,dI i_1])) (I0 [] [dI (Ts .i64 (i+1)),dI i_1]∧M0 [dI (Ts .i64 (i+1)),dI i_1]<M0 [dI i,dI i_1]))) ((2:Int)≠(0:Int)∧bB (Int.tmod i_1 (2:Int)==(1:Int)) (Q [aI (1:Int)]) (Q [aI (-1:Int)]))):=by kernel_rfl
theorem AC (l0:List (List D)) (p0:P20) (Q:List A→Prop):wpF CC Gv (fun _=>⟨[.slot 5 (.int .i64 0)],[],I0,M0⟩) Tryz.f65 [.c (.sl l0),.ag (pk p0 [])] Q=(I0 [] [dI (0:Int)]∧∀(i:Int),I0 [] [dI i]→bB (decide (i<(W1 l0.length))) (rO l0 i 66∧∃x,cU l0 i 0 66 (ck x [])∧∃b,Gv 121 [aC x,aP p0] [aB b]∧br b (Q [aB true]) (I0 [] [dI (Ts .i64 (i+1))]∧M0 [dI (Ts .i64 (i+1))]<M0 [dI i])) (Q [aB false])):=by kernel_rfl
theorem Rv (l0:List (List D)) (p0:P20) (Q:List A→Prop):wpF CC Gv (fun _=>⟨[.slot 7 (.int .i64 0),.slot 5 (.int .i64 0)],[],I0,M0⟩) Tryz.f38 [.ag [.sl l0],.ag (pk p0 [])] Q=(∃b,Gv 65 [aL l0,aP p0] [aB b]∧br b (Q [aI (0:Int)]) (∃x x1 x2,Gv 66 [aP p0] [aT x x1 x2]∧I0 [] [dI (0:Int),dI (-1:Int)]∧∀(i i_1:Int),I0 [] [dI i,dI i_1]→bB (decide (i<(W1 l0.length))) (rO l0 i 66∧∃x3,cU l0 i 0 66 (ck x3 [])∧∃b,Gv 67 [aC x3] [aB b]∧br b (I0 [] [dI (Ts .i64 (i+1)),dI i_1]∧M0 [dI (Ts .i64 (i+1)),dI i_1]<M0 [dI i,dI i_1]) (∃x4 x5 x6,Gv 66 [aP (Hx x3)] [aT x4 x5 x6]∧∃i_2,Gv 68 [aT x4 x5 x6,aT x x1 x2] [aI i_2]∧bB (decide (i_2>0)) (I0 [] [dI (Ts .i64 (i+1)),dI i_1]∧M0 [dI (Ts .i64 (i+1)),dI i_1]<M0 [dI i,dI i_1]) (∃x7 x8 x9,Gv 66 [aP (Hv x3)] [aT x7 x8 x9]∧∃i_3,Gv 68 [aT x x1 x2,aT x7 x8 x9] [aI i_3]∧bB (decide (i_3≥0)) (I0 [] [dI (Ts .i64 (i+1)),dI i_1]∧M0 [dI (Ts .i64 (i+1)),dI i_1]<M0 [dI i,dI i_1]) (∃i_4 i_5,Gv 69 [aC x3,aP p0] [aI i_4,aI i_5]∧bB (decide (i_4>0)) (I0 [] [dI (Ts .i64 (i+1)),dI (Ts .i64 (0-i_1))]∧M0 [dI (Ts .i64 (i+1)),dI (Ts .i64 (0-i_1))]<M0 [dI i,dI i_1]) (I0 [] [dI (Ts .i64 (i+1)),dI i_1]∧M0 [dI (Ts .i64 (i+1)),dI i_1]<M0 [dI i,dI i_1]))))) (Q [aI i_1]))):=by kernel_rfl
theorem AD (x0:Int) (y0:Int) (u0:Int) (Q:List A→Prop):wpF CC Gv an0 Tryz.f15 [.ag [.int .i16 x0,.int .i16 y0,.int .u8 u0]] Q=(∃x,Gv 34 [aI (Ts .i64 x0),aI (Ts .i64 (Ts .i64 u0+1))] [aR x]∧∃x1,Gv 34 [aI (Ts .i64 y0),aI (Ts .i64 (Ts .i64 u0+1))] [aR x1]∧Q [aV x x1]):=by kernel_rfl
end
end Eng
end
section
namespace Eng
open Go Go.Proofs Rl
set_option maxRecDepth 100000
theorem uj {a b:Int} (h:IvB a b):qc CC 241 [eIv a b] [eIv (-b) (-a)]∧IvB (-b) (-a):=by
 obtain⟨ha,hb,hab⟩:=h;unfold FB at ha hb;refine⟨?_,⟨by unfold FB;omega,by unfold FB;omega,by omega⟩⟩;refine wpG Tryz.func241 ((dL ..).mpr ?_);rw[zr (n:=0-b),zr (n:=0-a),cg,cg];rfl
theorem IZ {n:Rat} {k:Nat} (hn:Hz k n) {a b:Int} (h:IvB a b) (o:Bool) (hk:k<300000:=by omega):∃c d ok,qc CC 238 [aR (q4 n),eIv a b,eOk o] [eIv c d,eOk ok]∧IvB c d∧(ok=true→o=true∧∀x,inI a b x→inI c d (ofR n*x)):=by
 obtain⟨b1,b2,ob,gb,bb,ib⟩:=zI hn;obtain⟨m1,m2,om,gm,bm,im⟩:=IY bb h;cases o with
 |false=>refine⟨0,0,false,?_,.zero,by simp⟩;refine wpG Tryz.func238 ((Ws ..).mpr ?_);exact⟨_,_,_,gb,brF rfl⟩
 |true=>
 cases ob with
 |false=>refine⟨0,0,false,?_,.zero,by simp⟩;refine wpG Tryz.func238 ((Ws ..).mpr ?_);exact⟨_,_,_,gb,brT (brF rfl)⟩
 |true=>refine⟨m1,m2,om,?_,bm,fun e=>⟨rfl,fun x hx=>im e _ _ (ib rfl) hx⟩⟩;refine wpG Tryz.func238 ((Ws ..).mpr ?_);exact⟨_,_,_,gb,brT (brT ⟨_,_,_,gm,rfl⟩)⟩
theorem cPx {p:P5} {k:Nat} (hp:HP k p) (ho:okP p) (h:k<300000:=by omega):∃c d ok,qc CC 231 [.ag (rk (q4 p.x) (rk (q4 p.u) (rk (q4 p.c) [])))] [eIv c d,eOk ok]∧IvB c d∧(ok=true→inI c d (px p)):=
 Dp (r:=⟨p.x,p.u,p.c⟩) ⟨hp.1,hp.2.1,hp.2.2.2.2⟩ ho.nn
theorem cPy {p:P5} {k:Nat} (hp:HP k p) (ho:okP p) (h:k<300000:=by omega):∃c d ok,qc CC 231 [.ag (rk (q4 p.y) (rk (q4 p.v) (rk (q4 p.c) [])))] [eIv c d,eOk ok]∧IvB c d∧(ok=true→inI c d (py p)):=
 Dp (r:=⟨p.y,p.v,p.c⟩) ⟨hp.2.2.1,hp.2.2.2.1,hp.2.2.2.2⟩ ho.nn
theorem AE {l:Ln} {p:P5} (hl:HL l) (hp:HP 1300 p) (ho:okP p):∃n ok,qc CC 178 [.ag (kL l []),aP (kP p)] [eI n,eOk ok]∧(ok=true→n=sg (lnv l p)):=by
 obtain⟨_,_,o1,g1,k1,i1⟩:=cPx hp ho;obtain⟨_,_,o2,g2,k2,i2⟩:=IZ hl.1 k1 o1;obtain⟨_,_,o3,g3,k3,i3⟩:=cPy hp ho;obtain⟨_,_,o4,g4,k4,i4⟩:=IZ hl.2.1 k3 o3;obtain⟨_,_,o5,g5,k5,i5⟩:=zI hl.2.2;obtain⟨_,_,o6,g6,k6,i6⟩:=A3 k2 k4;obtain⟨g7,k7⟩:=uj k5;obtain⟨_,_,o8,g8,k8,i8⟩:=A3 k6 k7;obtain⟨z,oz,gz,iz⟩:=ui _ _;refine⟨if(o2&&o4&&o5&&o6&&o8)=true then z else 0,o2&&o4&&o5&&o6&&o8&&oz,?_,fun e=>?_⟩
 ·refine wpG Tryz.func178 ((A6 ..).mpr ?_);refine⟨_,_,_,g1,_,_,_,g2,_,_,_,g3,_,_,_,g4,_,_,_,g5,?_⟩;cases o2
  ·rfl
  cases o4
  ·rfl
  cases o5
  ·rfl
  refine⟨_,_,_,g6,?_⟩;cases o6
  ·rfl
  refine⟨_,_,g7,_,_,_,g8,?_⟩;cases o8
  ·rfl
  exact⟨_,_,gz,rfl⟩
 ·simp only[Aw]at e;obtain⟨⟨⟨⟨⟨e2,e4⟩,e5⟩,e6⟩,e8⟩,ez⟩:=e;obtain⟨e1,j2⟩:=i2 e2;obtain⟨e3,j4⟩:=i4 e4;rw[e2,e4,e5,e6,e8];exact iz ez _ (i8 e8 _ _ (i6 e6 _ _ (j2 _ (i1 e1)) (j4 _ (i3 e3))) (Mw (i5 e5)))
theorem vP {x y:Rat} {j k:Nat} (hx:Hz j x) (hy:Hz k y) (h:j<360000∧k<360000:=by omega):qc CC 181 [aR (q4 x),aR (q4 y)] [aR (q4 (x+y))]:=by
 refine wpG Tryz.func181 ((dZ ..).mpr ?_);exact⟨_,bAdd hx hy h,rfl⟩
theorem J1 {x y:Rat} {j k:Nat} (hx:Hz j x) (hy:Hz k y) (h:j<360000∧k<360000:=by omega):qc CC 180 [aR (q4 x),aR (q4 y)] [aR (q4 (x-y))]:=by
 refine wpG Tryz.func180 ((ec ..).mpr ?_);exact⟨_,fh hx hy h,rfl⟩
theorem OB {a b m:Rat} {i j k:Nat} (ha:Hz i a) (hb:Hz j b) (hm:Hz k m) (h:2*i<360000∧2*j+k<360000:=by omega):
 qc CC 179 [aR (q4 a),aR (q4 b),aR (q4 m)] [aI (tw a b m)]:=by
 refine wpG Tryz.func179 ((A7 ..).mpr ?_);have h2:=hb.mul hb (l:=2*j);refine⟨_,wb a,_,wb b,_,wb m,?_⟩;rw[jm (KB b) (KB m)];unfold tw;refine brb (fun h1=>?_) (fun h1=>?_)
 ·rw[if_pos (.inl (cp h1))]
 have n1:¬sr b*sr m=0:=by simpa using h1
 refine brb (fun h3=>?_) (fun h3=>?_)
 ·rw[if_pos (.inr (cp h3))]
 have n3:¬sr a=sr b*sr m:=by simpa using h3
 rw[if_neg (by simp[n1,n3])];refine brb (fun h4=>?_) (fun h4=>?_)
 ·rw[if_pos (cp h4)]
 have n4:¬sr a=0:=by simpa using h4
 rw[if_neg n4];refine⟨_,zw ha ha,_,zw hb hb,_,zw h2 hm,_,oy (ha.mul ha (l:=2*i)) (h2.mul hm (l:=2*j+k)),?_⟩;rw[jm (KB a) (KB _)]
theorem AF {l:Ln} {p:P5} (hl:HL l) (hp:HP 1300 p) (ho:okP p):qc CC 117 [.ag (kL l []),aP (kP p)] [aI (sg (lnv l p))]:=by
 obtain⟨z,oz,gz,iz⟩:=AE hl hp ho;have m1:=hl.1.mul hp.1 (l:=1345);have m2:=hl.2.1.mul hp.2.2.1 (l:=1345);have s1:=m1.add m2 (l:=2691);have s2:=s1.sub hl.2.2 (l:=2900);have m3:=hl.1.mul hp.2.1 (l:=1345);have m4:=hl.2.1.mul hp.2.2.2.1 (l:=1345);have s3:=m3.add m4 (l:=2691);refine wpG Tryz.func117 ((A8 ..).mpr ?_);refine⟨_,_,gz,zH (fun e=>by rw[iz e]) (fun _=>?_)⟩;refine⟨_,zw hl.1 hp.1,_,zw hl.2.1 hp.2.2.1,_,vP m1 m2,_,J1 s1 hl.2.2,_,zw hl.1 hp.2.1,_,zw hl.2.1 hp.2.2.2.1,_,vP m3 m4,_,OB s2 s3 hp.2.2.2.2,?_⟩;rw[HR _ _ ho.nn];have e:lnv l p=ofR (l.a*p.x+l.b*p.y-l.c)+ofR (l.a*p.u+l.b*p.v)*jh p.c:=by unfold lnv px py;generalize jh p.c=x;obtain⟨x,rfl⟩:=x.rep;simp only[kG,zn,qV];exact xC fun n=>by simp only[xZ,z8,jN,jO];grind
 rw[e]
theorem OC {a b c f:Rat} {k:Nat} (ha:Hz k a) (hb:Hz k b) (hc:Hz k c) (hf:Hz k f) (nn:0≤c) (h:k<300000:=by omega):∃l u ok,qc CC 244 [aR (q4 a),aR (q4 b),aR (q4 c),aR (q4 f)] [eIv l u,eOk ok]∧IvB l u∧(ok=true→inI l u (ofR a+ofR b*jh c-ofR f)):=by
 obtain⟨_,_,o1,g1,k1,i1⟩:=Dp (r:=⟨a,b,c⟩) ⟨ha,hb,hc⟩ nn;obtain⟨_,_,o2,g2,k2,i2⟩:=zI hf;obtain⟨g3,k3⟩:=uj k2;obtain⟨s,t,o4,g4,k4,i4⟩:=A3 k1 k3;cases o1 with
 |false=>refine⟨0,0,false,?_,.zero,by simp⟩;refine wpG Tryz.func244 ((G5 ..).mpr ?_);exact⟨_,_,_,g1,_,_,_,g2,brF rfl⟩
 |true=>
 cases o2 with
 |false=>refine⟨0,0,false,?_,.zero,by simp⟩;refine wpG Tryz.func244 ((G5 ..).mpr ?_);exact⟨_,_,_,g1,_,_,_,g2,brT (brF rfl)⟩
 |true=>refine⟨s,t,o4,?_,k4,fun e=>i4 e _ _ (i1 rfl) (Mw (i2 rfl))⟩;refine wpG Tryz.func244 ((G5 ..).mpr ?_);exact⟨_,_,_,g1,_,_,_,g2,brT (brT ⟨_,_,g3,_,_,_,g4,rfl⟩)⟩
theorem D1 {c:Ci} {p:P5} (hc:HC c) (hp:HP 1300 p) (ho:okP p):∃n ok,qc CC 185 [.ag (kC c []),aP (kP p)] [eI n,eOk ok]∧(ok=true→n=sg (civ c p)):=by
 obtain⟨_,_,o1,g1,k1,i1⟩:=OC hp.1 hp.2.1 hp.2.2.2.2 (show Hz 1300 c.x from hc.1.mono (by omega)) ho.nn;obtain⟨_,_,o2,g2,k2,i2⟩:=OC hp.2.2.1 hp.2.2.2.1 hp.2.2.2.2 (show Hz 1300 c.y from hc.2.1.mono (by omega)) ho.nn;obtain⟨_,_,o3,g3,k3,i3⟩:=zI hc.2.2;obtain⟨_,_,o4,g4,k4,i4⟩:=IY k1 k1;obtain⟨_,_,o5,g5,k5,i5⟩:=IY k2 k2;obtain⟨_,_,o6,g6,k6,i6⟩:=A3 k4 k5;obtain⟨g7,k7⟩:=uj k3;obtain⟨_,_,o8,g8,k8,i8⟩:=A3 k6 k7;obtain⟨z,oz,gz,iz⟩:=ui _ _;refine⟨if(o1&&o2&&o3&&o4&&o5&&o6&&o8)=true then z else 0,o1&&o2&&o3&&o4&&o5&&o6&&o8&&oz,?_,fun e=>?_⟩
 ·refine wpG Tryz.func185 ((Dy ..).mpr ?_);refine⟨_,_,_,g1,_,_,_,g2,_,_,_,g3,?_⟩;cases o1
  ·rfl
  cases o2
  ·rfl
  cases o3
  ·rfl
  refine⟨_,_,_,g4,_,_,_,g5,?_⟩;cases o4
  ·rfl
  cases o5
  ·rfl
  refine⟨_,_,_,g6,?_⟩;cases o6
  ·rfl
  refine⟨_,_,g7,_,_,_,g8,?_⟩;cases o8
  ·rfl
  exact⟨_,_,gz,rfl⟩
 ·simp only[Aw]at e;obtain⟨⟨⟨⟨⟨⟨⟨e1,e2⟩,e3⟩,e4⟩,e5⟩,e6⟩,e8⟩,ez⟩:=e;rw[e1,e2,e3,e4,e5,e6,e8];exact iz ez _ (i8 e8 _ _ (i6 e6 _ _ (i4 e4 _ _ (i1 e1) (i1 e1)) (i5 e5 _ _ (i2 e2) (i2 e2))) (Mw (i3 e3)))
theorem VQ {c:Ci} {p:P5} (hc:HC c) (hp:HP 1300 p) (ho:okP p):qc CC 120 [.ag (kC c []),aP (kP p)] [aI (-sg (civ c p))]:=by
 obtain⟨z,oz,gz,iz⟩:=D1 hc hp ho;have wn:∀x:Rl,Ts .i64 (0-sg x)= -sg x:=fun x=>by have:=Bw x;rw[zr];omega
 have u1:=hp.1.sub hc.1 (l:=1321);have v1:=hp.2.2.1.sub hc.2.1 (l:=1321);have uu:=u1.mul u1 (l:=2642);have vv:=v1.mul v1 (l:=2642);have q1:=uu.add vv (l:=5285);have ss:=hp.2.1.mul hp.2.1 (l:=2600);have tt:=hp.2.2.2.1.mul hp.2.2.2.1 (l:=2600);have q2:=ss.add tt (l:=5201);have q3:=hp.2.2.2.2.mul q2 (l:=6501);have q4:=q1.add q3 (l:=11787);have us:=u1.mul hp.2.1 (l:=2621);have vt:=v1.mul hp.2.2.2.1 (l:=2621);have cr:=us.add vt (l:=5243);have q5:=q4.sub hc.2.2 (l:=11808);have c2:=cr.add cr (l:=10487);refine wpG Tryz.func120 ((Rs ..).mpr ?_);refine⟨_,_,gz,zH (fun e=>by rw[iz e,wn]) (fun _=>?_)⟩;refine⟨_,J1 hp.1 hc.1,_,J1 hp.2.2.1 hc.2.1,_,zw u1 u1,_,zw v1 v1,_,vP uu vv,_,zw hp.2.1 hp.2.1,_,zw hp.2.2.2.1 hp.2.2.2.1,_,vP ss tt,_,zw hp.2.2.2.2 q2,_,vP q1 q3,
  _,zw u1 hp.2.1,_,zw v1 hp.2.2.2.1,_,vP us vt,_,J1 q4 hc.2.2,_,vP cr cr,_,OB q5 c2 hp.2.2.2.2,?_⟩
 rw[HR _ _ ho.nn];have e:civ c p=ofR ((p.x-c.x)*(p.x-c.x)+(p.y-c.y)*(p.y-c.y)+p.c*(p.u*p.u+p.v*p.v)-c.q)+ofR ((p.x-c.x)*p.u+(p.y-c.y)*p.v+((p.x-c.x)*p.u+(p.y-c.y)*p.v))*jh p.c:=by unfold civ px py;have h:=kH ho.nn;simp only[kG,zn,qV];rw[←h];generalize jh p.c=x;obtain⟨x,rfl⟩:=x.rep;exact xC fun n=>by simp only[xZ,z8,jN,jO];grind
 rw[e,wn]
end Eng
end
section
namespace Eng
open Go Go.Proofs Rl
set_option maxRecDepth 100000
theorem UX {x y:Rl}:sg (x-y)≤0↔x≤y:=by
 have:= @QE x y;constructor
 ·intro h k;exact absurd (this.2 k) (by omega)
 ·intro h;rcases bx 0 (sg (x-y))with k|k
  ·exact absurd (this.1 k) h
  ·exact k
theorem D2 {p q:P5}:jb p q≤0↔px p<px q∨(px p=px q∧py p≤py q):=by
 unfold jb;split
 ·rename_i h;rw[UX];have e:=jg (xe.1 h);exact⟨fun k=> .inr ⟨e,k⟩,fun k=>k.elim (fun k=>by rw[e]at k;exact absurd k (jY _)) (·.2)⟩
 ·rename_i h;rw[UX];constructor
  ·intro k;rcases lt_or_ge (px p) (px q)with l|l
   ·exact .inl l
   ·exact absurd (xe.2 (by rw[xD k l,sbs])) h
  ·rintro(k|⟨k, -⟩)
   ·exact le_of_lt k
   ·rw[k];exact zJ
theorem kZ {c:Cu} {x:Rl}:Qb c x=true↔px c.fr≤x∧x≤px c.tt:=by
 unfold Qb;rw[Aw,decide_eq_true_eq,decide_eq_true_eq,UX,UX]
theorem OD {c:Cu} {p:P5} (h:Qb c (px p)=true):xG c p=((xG c p).1,true):=by
 unfold xG;rw[if_neg (by rw[h];simp)];split
 ·split
  ·rfl
  ·split<;>rfl
 split
 ·rfl
 split
 ·split<;>rfl
 ·split<;>rfl
theorem XJ {c:Cu} {p:P5} (h:¬Qb c (px p)=true):xG c p=(0,false):=by
 unfold xG;rw[if_pos (by simpa using h)]
theorem AG {l:Ln} {p q:P5} (h:lnv l p=0) (hx:px p=px q) (hb:l.b=0):lnv l q=0:=by
 unfold lnv at h ⊢;rw[hb,xH,zml,ad0]at h ⊢;rw[←hx];exact h
theorem D3 {l:Ln} {p q:P5} (h:lnv l p=0) (k:lnv l q=0) (hx:px p=px q):l.b=0∨py p=py q:=by
 unfold lnv at h k;rw[hx]at h;have e:ofR l.b*(py p-py q)=(ofR l.a*px q+ofR l.b*py p-ofR l.c)-(ofR l.a*px q+ofR l.b*py q-ofR l.c):=by generalize py p=x;generalize py q=y;generalize px q=z;obtain⟨x,rfl⟩:=x.rep;obtain⟨y,rfl⟩:=y.rep;obtain⟨z,rfl⟩:=z.rep;exact xC fun n=>by simp only[xZ,z8,jN,jO];grind
 rw[h,k,sbs]at e;rcases mul_eq_zero e with e|e
 ·exact .inl (Q4.1 e)
 ·exact .inr (jg e)
theorem OE {c:Cu} (h:Mo c) (p:P5):yU c p=true↔xG c p=(0,true):=by
 obtain⟨hg,hlt,a5⟩:=h;obtain⟨s1,s2,hne⟩:=hg.sup;rcases Bx c.arc with ha|ha
 ·obtain⟨hx,hu,hlo⟩:=a5 ha;have hv:ya c=false:=by unfold ya;rw[ha];rfl
  unfold yU;rw[Aw,Aw,decide_eq_true_eq,decide_eq_true_eq];rw[show(Zl c p=true)=onS c p from rfl,jq ha];rcases Bx c.cw with hw|hw
  ·obtain⟨f1,t1⟩:=hu hw;have h0:0<(R1 c.ci).q:=(hg.circ ha).2;have a4:px (vZ c.tt)<px (vZ c.fr):=jr.2 hx;have a6:=df h0 (xX.2 f1) (xX.2 t1).1 a4;have o:∀x y,zS c x y=wV (R1 c.ci) (vZ c.fr) (vZ x) (vZ y):=fun x y=>by unfold zS;rw[if_pos ha,if_pos hw];rfl
   rw[o,o];constructor
   ·rintro⟨hc, -,k⟩;obtain⟨z1,z2⟩:=lU h0 (xX.2 f1) (xX.2 t1) a4 (Qp.2 hc) k;have e:=Ct h0 (xX.2 f1) a6 z1 (xX.2 t1) z2 (le_of_lt a4);rw[e,UX]at k;have a1:px c.fr≤px p:=fun l=>z2 (jr.2 l)
    have a2:px p≤px c.tt:=fun l=>k (jr.2 l)
    have a3:=xX.1 z1;unfold xG;rw[if_neg (by rw[kZ.2 ⟨a1,a2⟩];simp),if_neg (by rw[hv];simp),if_neg (by rw[ha];simp),if_pos hw];have n:¬sg (py p-ofR c.ci.y)<0:=fun l=>a3.2 (K8.1 (by have:=Bw (cY c.ci p);have l:sg (cY c.ci p)<0:=l;omega))
    rw[if_neg n,Wg.2 a3.1]
   ·intro k;by_cases hwb:Qb c (px p)=true
    ·obtain⟨a1,a2⟩:=kZ.1 hwb;unfold xG at k;rw[if_neg (by rw[hwb];simp),if_neg (by rw[hv];simp),if_neg (by rw[ha];simp),if_pos hw]at k;split at k
     ·simp at k
     ·rename_i n;have hc:=Wg.1 (congrArg Prod.fst k);have a3:upp c.ci p:=⟨hc,fun l=>n (by rw[show sg (py p-ofR c.ci.y)= -1 from K7 l];omega)⟩;have b1:px (vZ p)≤px (vZ c.fr):=fun l=>a1 (jr.1 l)
      refine⟨hc,Gn _ _ _,?_⟩;rw[Ct h0 (xX.2 f1) a6 (xX.2 a3) (xX.2 t1) b1 (le_of_lt a4),UX];exact fun l=>a2 (jr.1 l)
    ·rw[XJ hwb]at k;simp at k
  ·obtain⟨f1,t1⟩:=hlo hw;have o:∀x y,zS c x y=wV c.ci c.fr x y:=fun x y=>by unfold zS;rw[if_pos ha,if_neg (by rw[hw];simp)]
   rw[o,o];constructor
   ·rintro⟨hc, -,k⟩;obtain⟨z1,z2⟩:=IJ f1 t1 hx hc k;rw[Mc f1 z1 t1 z2 (le_of_lt hx),UX]at k;unfold xG;rw[if_neg (by rw[kZ.2 ⟨z2,k⟩];simp),if_neg (by rw[hv];simp),if_neg (by rw[ha];simp),if_neg (by rw[hw];simp)];have n:¬0<sg (py p-ofR c.ci.y):=fun l=>z1.2 (HQ.1 (by have:=Bw (cY c.ci p);have l:0<sg (cY c.ci p):=l;omega))
    rw[if_neg n,Wg.2 z1.1];rfl
   ·intro k;by_cases hwb:Qb c (px p)=true
    ·obtain⟨a1,a2⟩:=kZ.1 hwb;unfold xG at k;rw[if_neg (by rw[hwb];simp),if_neg (by rw[hv];simp),if_neg (by rw[ha];simp),if_neg (by rw[hw];simp)]at k;split at k
     ·simp at k
     ·rename_i n;have k1: -sg (civ c.ci p)=0:=congrArg Prod.fst k;have hc:=Wg.1 (show sg (civ c.ci p)=0 by omega);have hl:low c.ci p:=⟨hc,fun l=>n (by rw[show sg (py p-ofR c.ci.y)=1 from Xw l];omega)⟩;refine⟨hc,Gn _ _ _,?_⟩;rw[Mc f1 hl t1 a1 (le_of_lt hx),UX];exact a2
    ·rw[XJ hwb]at k;simp at k
 ·have o:∀x y,zS c x y=jb x y:=fun x y=>by unfold zS;rw[if_neg (by rw[ha];simp),if_neg (by omega)]
  have a7:∀q,Zl c q=true↔lnv c.ln q=0:=fun q=>by unfold Zl;rw[if_neg (by rw[ha];simp),beq_iff_eq,xe]
  rw[a7]at s1 s2;unfold yU;rw[Aw,Aw,decide_eq_true_eq,decide_eq_true_eq,o,o,D2,D2,a7];have vx:ya c=true↔px c.fr=px c.tt:=by unfold ya;rw[ha];simp only[Bool.not_false,F0,beq_iff_eq];exact Rd
  have ge:∀{x y:Rl},x<y∨x=y→x≤y:=fun h=>h.elim le_of_lt (fun e=>by rw[e];exact zJ)
  constructor
  ·rintro⟨hs,h1,h2⟩;have a1:px c.fr≤px p:=ge (h1.imp id (·.1));have a2:px p≤px c.tt:=ge (h2.imp id (·.1));unfold xG;rw[if_neg (by rw[kZ.2 ⟨a1,a2⟩];simp)];by_cases hv:ya c=true
   ·have e:=vx.1 hv;rw[if_pos hv];have y2:py p≤py c.tt:=h2.elim (fun l=>absurd l (by rw[←e];exact a1)) (·.2);have y1:py c.fr≤py p:=h1.elim (fun l=>absurd l (by rw[e];exact a2)) (·.2);rw[if_neg (by rw[QE];exact y2),if_neg (by rw[yA];exact y1)]
   ·rw[if_neg hv,if_pos ha,xe.2 hs,Int.zero_mul]
  ·intro k;by_cases hwb:Qb c (px p)=true
   ·obtain⟨a1,a2⟩:=kZ.1 hwb;unfold xG at k;rw[if_neg (by rw[hwb];simp)]at k;by_cases hv:ya c=true
    ·have e:=vx.1 hv;rw[if_pos hv]at k;split at k
     ·simp at k
     ·rename_i n1;split at k
      ·simp at k
      ·rename_i n2;rw[QE]at n1;rw[yA]at n2;have e1:px c.fr=px p:=xD a1 (by rw[e];exact a2);refine⟨?_,.inr ⟨e1,n2⟩,.inr ⟨by rw[←e1,e],n1⟩⟩;rcases D3 s1 s2 e with hb|hy
       ·exact AG s1 e1 hb
       ·have:=zR.2 (show Zk c.fr c.tt from⟨e,hy⟩);rw[hne]at this;cases this
    ·have hb:=LJ hg ha (by simpa using hv);rw[if_neg hv,if_pos ha]at k;have k1:sg (lnv c.ln p)*sr c.ln.b=0:=congrArg Prod.fst k;have hs:lnv c.ln p=0:=by
      rcases Int.mul_eq_zero.1 k1 with k|k
      ·exact xe.1 k
      ·rw[Bo,xe]at k;exact absurd (Q4.1 k) hb
     have le:∀{x y:Rl},x≤y→x<y∨x=y:=fun{x y} h=>(lt_or_ge x y).imp id (fun l=>xD h l)
     refine⟨hs,(le a1).imp id fun e=>⟨e,?_⟩,(le a2).imp id fun e=>⟨e,?_⟩⟩
     ·rw[(D3 s1 hs e).resolve_left hb];exact zJ
     ·rw[(D3 hs s2 e).resolve_left hb];exact zJ
   ·rw[XJ hwb]at k;simp at k
end Eng
end
