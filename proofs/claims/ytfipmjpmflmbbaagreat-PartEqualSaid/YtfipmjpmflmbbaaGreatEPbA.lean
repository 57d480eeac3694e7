/- The verification conditions of functions, printed by a program (vcg5.py) and checked by the kernel. -/
import Derived.Test.YtfipmjpmflmbbaaGreatPaA
import Derived.Test.YtfipmjpmflmbbaaGreatPaB
import Derived.Test.YtfipmjpmflmbbaaGreatPaC
import Derived.Test.YtfipmjpmflmbbaaGreatPaF
import Derived.Test.YtfipmjpmflmbbaaGreatPaG
import Derived.Test.YtfipmjpmflmbbaaGreatEngE
import Derived.Test.YtfipmjpmflmbbaaGreatEngA
import Derived.Test.YtfipmjpmflmbbaaGreatEngB
import Derived.KernelRfl
import Derived.Laws.Bits64b
import Derived.Lib.Mul64
import Derived.Deep.Slices
import Derived.OpenShut
import Derived.ChangeSame
import Derived.Carry
import Derived.RowKit
open Bool renaming true_and→Aw, and_eq_true→Bx, false_and→F0, and_false→F2, and_self→Hu
open Eng.A renaming ag→Hv, c→Hx
open Eng.D renaming sl→Hy, int→J3, str→J4, bool→J7
open Eng.D.int renaming injEq→J8
open Go.DataW renaming TrodAll→J9, Whole→Lm, trod→Lr, Trod→Ls
open Go.IntKind renaming wrap→Lv, signed→No, bits→P1, u64→U0
open Go.Lib renaming half_mul_le→U3
open Go.Value renaming okWide→V1
open Int renaming toNat→W0, ofNat→W1, fdiv→W2, ofNat_eq_natCast→be, natCast_mul→bv, toNat_natCast→bx, tdiv→ca, lt_or_le→cb, natAbs_neg→cc
open LawfulBEq renaming eq_of_beq→cg
open List renaming take→cp, drop→cv, drop_eq_getElem_cons→c3, length→c4, drop_of_length_le→c5, append_nil→c9, getElem_mem→dc, getElem?_eq_getElem→dk, range→dl, length_cons→dn, drop_zero→ea, take_of_length_le→eb, mem_map→ed, length_replicate→el, length_append→en, length_map→ey, replicate→ft, mem_range→fx, drop_drop→fz, take_add→fR
open List.cons renaming injEq→fS
open Nat renaming eq_of_beq_eq_true→gp, pow_lt_pow_right→gq, le_refl→gr, lt_trans→h8, pow_le_pow_right→h9, lt_of_le_of_lt→hC, lt_or_ge→hD, and_two_pow_sub_one_eq_mod→hE, beq→hG, add_right_cancel_iff→hP, zero_le→hQ, one_mul→hS, add_mul→hU, lt_of_lt_of_le→hX, mul_le_mul→hY, zero_mul→ie, mul_comm→ik, le_trans→ix, add_zero→iy
open Option.some renaming injEq→kk
open Rat renaming intCast_le_intCast→ks, intCast_mul→ky, mul_comm→lg, intCast_lt_intCast→lh, intCast_neg→ll, intCast_add→lm, floor_def→lp, le_total→lr, floor_le→ls
set_option maxRecDepth 1000000
section
namespace Eng
open Go Go.Proofs
section
variable (Gv:Nat→List A→List A→Prop) (I0:List D→List D→Prop) (M0:List D→Nat) (I1:List D→List D→Prop) (M1:List D→Nat) (I2:List D→List D→Prop) (M2:List D→Nat) (I3:List D→List D→Prop) (M3:List D→Nat) (Q:List A→Prop)
theorem Zy (i0:Int) (i1:Int):wpF CC Gv an0 Tryz.f282 [.c (.int .i64 i0),.c (.int .i64 i1)] Q=(bB (decide (i0<(-2305843009213693952:Int))) (Q [Hv [dI (0:Int),dI (0:Int)],aB false]) (bB (decide (i1>2305843009213693952)) (Q [Hv [dI (0:Int),dI (0:Int)],aB false]) (Q [Hv [dI i0,dI i1],aB true]))):=by kernel_rfl
theorem QA (r0:R4):wpF CC Gv an0 Tryz.f239 [.ag (rk r0 [])] Q=(∃x,Gv 111 [aI (65536:Int)] [aR x]∧∃x1,Gv 232 [aR r0,aR x] [aR x1]∧∃b es,Gv 281 [aR x1] [aZ b es]∧∃i b1,Gv 280 [aZ b es] [aI i,aB b1]∧∃x,Gv 234 [aR x1] [aR x]∧∃b es,Gv 281 [aR x] [aZ b es]∧∃b2 e1,Gv 278 [aZ b es] [aZ b2 e1]∧∃i_1 b,Gv 280 [aZ b2 e1] [aI i_1,aB b]∧bB (!b1) (Q [Hv [dI (0:Int),dI (0:Int)],aB false]) (bB (!b) (Q [Hv [dI (0:Int),dI (0:Int)],aB false]) (∃i_2 i_3 b,Gv 282 [aI i,aI i_1] [Hv [dI i_2,dI i_3],aB b]∧Q [Hv [dI i_2,dI i_3],aB b]))):=by kernel_rfl
theorem dG (a0:Int) (b0:Int) (a1:Int) (b1:Int):wpF CC Gv an0 Tryz.f240 [.ag [.int .i64 a0,.int .i64 b0],.ag [.int .i64 a1,.int .i64 b1]] Q=(∃i i_1 b,Gv 282 [aI (Lv .i64 (a0+a1)),aI (Lv .i64 (b0+b1))] [Hv [dI i,dI i_1],aB b]∧Q [Hv [dI i,dI i_1],aB b]):=by kernel_rfl
theorem dH (i0:Int):wpF CC Gv an0 Tryz.f331 [.c (.int .i64 i0)] Q=(bB (decide (i0<0)) (Q [Hx (J3 .u64 (Lv .u64 (0-Lv .u64 i0)))]) (Q [Hx (J3 .u64 (Lv .u64 i0))])):=by kernel_rfl
theorem kg (i0:Int) (i1:Int):wpF CC Gv an0 Tryz.f283 [.c (.int .i64 i0),.c (.int .i64 i1)] Q=(∃i,Gv 331 [aI i0] [Hx (J3 .u64 i)]∧∃i_1,Gv 331 [aI i1] [Hx (J3 .u64 i_1)]∧∃i_2 i_3,Gv 330 [Hx (J3 .u64 i),Hx (J3 .u64 i_1)] [Hx (J3 .u64 i_2),Hx (J3 .u64 i_3)]∧(0:Int)≤(16:Int)∧bB (W2 i_2 (65536:Int) !=(0:Int)) (Q [aI (0:Int),aI (0:Int),aB false]) ((0:Int)≤(48:Int)∧(0:Int)≤(16:Int)∧bB (decide (bits .or .u64 (Lv .u64 (i_2*281474976710656)) (W2 i_3 (65536:Int))>2305843009213693952)) (Q [aI (0:Int),aI (0:Int),aB false]) (bB (bits .and .u64 (i_3) (65535:Int) !=(0:Int)) (bB (!decide (i0<0)==decide (i1<0)) (bB (decide (Lv .i64 (0-Lv .i64 (Lv .i64 (bits .or .u64 (Lv .u64 (i_2*281474976710656)) (W2 i_3 (65536:Int)))+1))≥(-2305843009213693952:Int))) (Q [aI (Lv .i64 (0-Lv .i64 (Lv .i64 (bits .or .u64 (Lv .u64 (i_2*281474976710656)) (W2 i_3 (65536:Int)))+1))),aI (Lv .i64 (0-Lv .i64 (bits .or .u64 (Lv .u64 (i_2*281474976710656)) (W2 i_3 (65536:Int))))),aB (decide (Lv .i64 (0-Lv .i64 (bits .or .u64 (Lv .u64 (i_2*281474976710656)) (W2 i_3 (65536:Int))))≤2305843009213693952))]) (Q [aI (Lv .i64 (0-Lv .i64 (Lv .i64 (bits .or .u64 (Lv .u64 (i_2*281474976710656)) (W2 i_3 (65536:Int)))+1))),aI (Lv .i64 (0-Lv .i64 (bits .or .u64 (Lv .u64 (i_2*281474976710656)) (W2 i_3 (65536:Int))))),aB false])) (bB (decide (Lv .i64 (bits .or .u64 (Lv .u64 (i_2*281474976710656)) (W2 i_3 (65536:Int)))≥(-2305843009213693952:Int))) (Q [aI (Lv .i64 (bits .or .u64 (Lv .u64 (i_2*281474976710656)) (W2 i_3 (65536:Int)))),aI (Lv .i64 (Lv .i64 (bits .or .u64 (Lv .u64 (i_2*281474976710656)) (W2 i_3 (65536:Int)))+1)),aB (decide (Lv .i64 (Lv .i64 (bits .or .u64 (Lv .u64 (i_2*281474976710656)) (W2 i_3 (65536:Int)))+1)≤2305843009213693952))]) (Q [aI (Lv .i64 (bits .or .u64 (Lv .u64 (i_2*281474976710656)) (W2 i_3 (65536:Int)))),aI (Lv .i64 (Lv .i64 (bits .or .u64 (Lv .u64 (i_2*281474976710656)) (W2 i_3 (65536:Int)))+1)),aB false]))) (bB (!decide (i0<0)==decide (i1<0)) (bB (decide (Lv .i64 (0-Lv .i64 (bits .or .u64 (Lv .u64 (i_2*281474976710656)) (W2 i_3 (65536:Int))))≥(-2305843009213693952:Int))) (Q [aI (Lv .i64 (0-Lv .i64 (bits .or .u64 (Lv .u64 (i_2*281474976710656)) (W2 i_3 (65536:Int))))),aI (Lv .i64 (0-Lv .i64 (bits .or .u64 (Lv .u64 (i_2*281474976710656)) (W2 i_3 (65536:Int))))),aB (decide (Lv .i64 (0-Lv .i64 (bits .or .u64 (Lv .u64 (i_2*281474976710656)) (W2 i_3 (65536:Int))))≤2305843009213693952))]) (Q [aI (Lv .i64 (0-Lv .i64 (bits .or .u64 (Lv .u64 (i_2*281474976710656)) (W2 i_3 (65536:Int))))),aI (Lv .i64 (0-Lv .i64 (bits .or .u64 (Lv .u64 (i_2*281474976710656)) (W2 i_3 (65536:Int))))),aB false])) (bB (decide (Lv .i64 (bits .or .u64 (Lv .u64 (i_2*281474976710656)) (W2 i_3 (65536:Int)))≥(-2305843009213693952:Int))) (Q [aI (Lv .i64 (bits .or .u64 (Lv .u64 (i_2*281474976710656)) (W2 i_3 (65536:Int)))),aI (Lv .i64 (bits .or .u64 (Lv .u64 (i_2*281474976710656)) (W2 i_3 (65536:Int)))),aB (decide (Lv .i64 (bits .or .u64 (Lv .u64 (i_2*281474976710656)) (W2 i_3 (65536:Int)))≤2305843009213693952))]) (Q [aI (Lv .i64 (bits .or .u64 (Lv .u64 (i_2*281474976710656)) (W2 i_3 (65536:Int)))),aI (Lv .i64 (bits .or .u64 (Lv .u64 (i_2*281474976710656)) (W2 i_3 (65536:Int)))),aB false])))))):=by kernel_rfl
theorem Df (i0:Int):wpF CC Gv an0 Tryz.f325 [.c (.int .i64 i0)] Q=(∃b es,Gv 170 [aI i0] [aZ b es]∧∃b1 e1,Gv 170 [aI (65536:Int)] [aZ b1 e1]∧∃b2 e2,Gv 230 [aZ b es,aZ b1 e1] [aZ b2 e2]∧∃b es i,Gv 338 [aZ b2 e2] [aZ b es,aI i]∧∃i b3,Gv 280 [aZ b es] [aI i,aB b3]∧∃b4 e3,Gv 230 [aZ b es,aZ b es] [aZ b4 e3]∧∃i_1,Gv 229 [aZ b4 e3,aZ b2 e2] [aI i_1]∧Q [aI i,aB (i_1==0)]):=by kernel_rfl
theorem G3 (a0:Int) (b0:Int):wpF CC Gv an0 Tryz.f275 [.ag [.int .i64 a0,.int .i64 b0]] Q=(bB (decide (b0<0)) (Q [Hv [dI (0:Int),dI (0:Int)],aB false]) (∃i b,Gv 325 [aI (match decide (a0<0)with|true=>(0:Int)|false=>a0)] [aI i,aB b]∧∃i_1 b,Gv 325 [aI b0] [aI i_1,aB b]∧bB (!b) (∃i_2 i_3 b,Gv 282 [aI i,aI (Lv .i64 (i_1+1))] [Hv [dI i_2,dI i_3],aB b]∧Q [Hv [dI i_2,dI i_3],aB b]) (∃i_2 i_3 b,Gv 282 [aI i,aI i_1] [Hv [dI i_2,dI i_3],aB b]∧Q [Hv [dI i_2,dI i_3],aB b]))):=by kernel_rfl
theorem vM (r0:R4) (r1:R4) (r2:R4):wpF CC Gv an0 Tryz.f231 [.ag (rk r0 (rk r1 (rk r2 [])))] Q=(∃i i_1 b,Gv 239 [aR r0] [Hv [dI i,dI i_1],aB b]∧bB (!b) (Q [Hv [dI i,dI i_1],aB b]) (∃i_2,Gv 118 [aR r1] [aI i_2]∧bB (i_2==0) (Q [Hv [dI i,dI i_1],aB b]) (∃i_3 i_4 b,Gv 239 [aR r1] [Hv [dI i_3,dI i_4],aB b]∧∃i_5 i_6 b1,Gv 239 [aR r2] [Hv [dI i_5,dI i_6],aB b1]∧bB (!b) (Q [Hv [dI (0:Int),dI (0:Int)],aB false]) (bB (!b1) (Q [Hv [dI (0:Int),dI (0:Int)],aB false]) (∃i_7,Gv 118 [aR r2] [aI i_7]∧bB (decide (i_7<0)) (Q [Hv [dI (0:Int),dI (0:Int)],aB false]) (∃i_8 i_9 b,Gv 275 [Hv [dI i_5,dI i_6]] [Hv [dI i_8,dI i_9],aB b]∧bB (!b) (Q [Hv [dI (0:Int),dI (0:Int)],aB false]) (∃i_10 i_11 b,Gv 245 [Hv [dI i_3,dI i_4],Hv [dI i_8,dI i_9]] [Hv [dI i_10,dI i_11],aB b]∧bB (!b) (Q [Hv [dI (0:Int),dI (0:Int)],aB false]) (∃i_12 i_13 b,Gv 240 [Hv [dI i,dI i_1],Hv [dI i_10,dI i_11]] [Hv [dI i_12,dI i_13],aB b]∧Q [Hv [dI i_12,dI i_13],aB b])))))))):=by kernel_rfl
theorem Jy (a0:Int) (b0:Int):wpF CC Gv an0 Tryz.f242 [.ag [.int .i64 a0,.int .i64 b0]] Q=(bB (decide (a0>0)) (Q [aI (1:Int),aB true]) (bB (decide (b0<0)) (Q [aI (-1:Int),aB true]) (bB (a0==0) (Q [aI (0:Int),aB (b0==0)]) (Q [aI (0:Int),aB false])))):=by kernel_rfl
theorem Dg (r0:R4) (r1:R4) (r2:R4):wpF CC Gv an0 Tryz.f174 [.ag (rk r0 []),.ag (rk r1 []),.ag (rk r2 [])] Q=(∃i,Gv 118 [aR r0] [aI i]∧∃i_1,Gv 118 [aR r1] [aI i_1]∧∃i_2,Gv 118 [aR r2] [aI i_2]∧bB (Lv .i64 (i_1*i_2)==0) (Q [aI i]) (bB (i==Lv .i64 (i_1*i_2)) (Q [aI i]) (bB (i==0) (Q [aI (Lv .i64 (i_1*i_2))]) (∃x,Gv 232 [aR r0,aR r0] [aR x]∧∃x1,Gv 232 [aR r1,aR r1] [aR x1]∧∃x2,Gv 232 [aR x1,aR r2] [aR x2]∧∃i_3,Gv 172 [aR x,aR x2] [aI i_3]∧Q [aI (Lv .i64 (i*i_3))])))):=by kernel_rfl
theorem yE (r0:R4) (r1:R4) (r2:R4) (r3:R4) (r4:R4) (r5:R4):wpF CC Gv an0 Tryz.f173 [.ag (rk r0 (rk r1 (rk r2 []))),.ag (rk r3 (rk r4 (rk r5 [])))] Q=(∃i i_1 b,Gv 231 [aT r0 r1 r2] [Hv [dI i,dI i_1],aB b]∧∃i_2 i_3 b1,Gv 231 [aT r3 r4 r5] [Hv [dI i_2,dI i_3],aB b1]∧bB (!b) (Q [aI (0:Int),aB false]) (bB (!b1) (Q [aI (0:Int),aB false]) (bB (decide (i_1<i_2)) (Q [aI (-1:Int),aB true]) (bB (decide (i>i_3)) (Q [aI (1:Int),aB true]) (Q [aI (0:Int),aB false]))))):=by kernel_rfl
theorem Ao (r0:R4) (r1:R4) (r2:R4) (r3:R4) (r4:R4) (r5:R4):wpF CC Gv an0 Tryz.f176 [.ag (rk r0 (rk r1 (rk r2 (rk r3 (rk r4 (rk r5 []))))))] Q=(∃i,Gv 118 [aR r4] [aI i]∧bB (decide (i<0)) (Q [aI (0:Int)]) (∃i,Gv 118 [aR r5] [aI i]∧bB (decide (i<0)) (Q [aI (0:Int)]) (∃i b,Gv 235 [Hv (rk r0 (rk r1 (rk r2 (rk r3 (rk r4 (rk r5 []))))))] [aI i,aB b]∧br b (Q [aI i]) (∃i,Gv 174 [aR r0,aR r1,aR r4] [aI i]∧∃i_1,Gv 174 [aR r2,aR r3,aR r4] [aI i_1]∧∃i_2,Gv 118 [aR r5] [aI i_2]∧bB (Lv .i64 (i_1*i_2)==0) (Q [aI i]) (bB (i==Lv .i64 (i_1*i_2)) (Q [aI i]) (bB (i==0) (Q [aI (Lv .i64 (i_1*i_2))]) (∃x,Gv 232 [aR r0,aR r0] [aR x]∧∃x1,Gv 232 [aR r1,aR r1] [aR x1]∧∃x2,Gv 232 [aR r4,aR x1] [aR x2]∧∃x3,Gv 236 [aR x,aR x2] [aR x3]∧∃x,Gv 232 [aR r2,aR r2] [aR x]∧∃x4,Gv 232 [aR r3,aR r3] [aR x4]∧∃x5,Gv 232 [aR r4,aR x4] [aR x5]∧∃x6,Gv 236 [aR x,aR x5] [aR x6]∧∃x,Gv 232 [aR r5,aR x6] [aR x]∧∃x7,Gv 175 [aR x3,aR x] [aR x7]∧∃x,Gv 232 [aR r0,aR r1] [aR x]∧∃x8,Gv 232 [aR r2,aR r3] [aR x8]∧∃x9,Gv 232 [aR r5,aR x8] [aR x9]∧∃x10,Gv 175 [aR x,aR x9] [aR x10]∧∃x,Gv 236 [aR x10,aR x10] [aR x]∧∃i_3,Gv 174 [aR x7,aR x,aR r4] [aI i_3]∧Q [aI (Lv .i64 (i*i_3))]))))))):=by kernel_rfl
theorem dJ (r0:R4) (r1:R4):wpF CC Gv an0 Tryz.f236 [.ag (rk r0 []),.ag (rk r1 [])] Q=(∃x,Gv 233 [aR r0,aR r1] [aR x]∧Q [aR x]):=by kernel_rfl
theorem dK (r0:R4) (r1:R4) (r2:R4) (r3:R4) (r4:R4) (r5:R4):wpF CC Gv an0 Tryz.f177 [.ag (rk r0 (rk r1 (rk r2 []))),.ag (rk r3 (rk r4 (rk r5 [])))] Q=(∃x,Gv 175 [aR r0,aR r3] [aR x]∧∃x1,Gv 237 [aR r1] [aR x1]∧∃x2,Gv 234 [aR r4] [aR x2]∧∃x3,Gv 111 [aI (0:Int)] [aR x3]∧∃x4,Gv 237 [aR r2] [aR x4]∧∃x5,Gv 237 [aR r5] [aR x5]∧Q [Hv (rk x (rk x1 (rk x2 (rk x3 (rk x4 (rk x5 []))))))]):=by kernel_rfl
theorem Rm (r0:R4):wpF CC Gv an0 Tryz.f237 [.ag (rk r0 [])] Q=(∃x,Gv 234 [aR r0] [aR x]∧∃x1,Gv 234 [aR x] [aR x1]∧Q [aR x1]):=by kernel_rfl
theorem dL (r0:R4) (r1:R4) (r2:R4) (r3:R4) (r4:R4) (r5:R4):wpF CC Gv an0 Tryz.f115 [.ag (rk r0 (rk r1 (rk r2 []))),.ag (rk r3 (rk r4 (rk r5 [])))] Q=(∃i,Gv 118 [aR r1] [aI i]∧bB (i==0) (∃i,Gv 118 [aR r4] [aI i]∧bB (i==0) (∃i,Gv 172 [aR r0,aR r3] [aI i]∧Q [aI i]) (∃i b,Gv 173 [aT r0 r1 r2,aT r3 r4 r5] [aI i,aB b]∧br b (Q [aI i]) (∃i,Gv 172 [aR r2,aR r5] [aI i]∧bB (i==0) (∃x,Gv 175 [aR r0,aR r3] [aR x]∧∃x1,Gv 175 [aR r1,aR r4] [aR x1]∧∃i,Gv 174 [aR x,aR x1,aR r2] [aI i]∧Q [aI i]) (∃x x1,Gv 177 [aT r0 r1 r2,aT r3 r4 r5] [Hv (pk x (rk x1 []))]∧∃i,Gv 176 [Hv (pk x (rk x1 []))] [aI i]∧Q [aI i])))) (∃i b,Gv 173 [aT r0 r1 r2,aT r3 r4 r5] [aI i,aB b]∧br b (Q [aI i]) (∃i,Gv 172 [aR r2,aR r5] [aI i]∧bB (i==0) (∃x,Gv 175 [aR r0,aR r3] [aR x]∧∃x1,Gv 175 [aR r1,aR r4] [aR x1]∧∃i,Gv 174 [aR x,aR x1,aR r2] [aI i]∧Q [aI i]) (∃x x1,Gv 177 [aT r0 r1 r2,aT r3 r4 r5] [Hv (pk x (rk x1 []))]∧∃i,Gv 176 [Hv (pk x (rk x1 []))] [aI i]∧Q [aI i])))):=by kernel_rfl
theorem Dh (r0:R4) (r1:R4) (r2:R4):wpF CC Gv an0 Tryz.f112 [.ag (rk r0 []),.ag (rk r1 []),.ag (rk r2 [])] Q=(∃i,Gv 118 [aR r1] [aI i]∧bB (i==0) (∃x,Gv 60 [] [aR x]∧Q [aT r0 r1 x]) (Q [aT r0 r1 r2])):=by kernel_rfl
theorem uh (p0:P20):wpF CC Gv an0 Tryz.f62 [.ag (pk p0 [])] Q=(∃x x1 x2,Gv 112 [aR (P20.x p0),aR (P20.u p0),aR (P20.c p0)] [aT x x1 x2]∧Q [aT x x1 x2]):=by kernel_rfl
theorem ui (p0:P20):wpF CC Gv an0 Tryz.f116 [.ag (pk p0 [])] Q=(∃x x1 x2,Gv 112 [aR (P20.y p0),aR (P20.v p0),aR (P20.c p0)] [aT x x1 x2]∧Q [aT x x1 x2]):=by kernel_rfl
theorem mp (p0:P20) (p1:P20):wpF CC Gv an0 Tryz.f104 [.ag (pk p0 []),.ag (pk p1 [])] Q=(∃i,Gv 162 [aP p0,aP p1] [aI i]∧Q [aB (i==0)]):=by kernel_rfl
theorem dM (p0:P20) (p1:P20):wpF CC Gv an0 Tryz.f162 [.ag (pk p0 []),.ag (pk p1 [])] Q=(∃x x1 x2,Gv 62 [aP p0] [aT x x1 x2]∧∃x3 x4 x5,Gv 62 [aP p1] [aT x3 x4 x5]∧∃i,Gv 115 [aT x x1 x2,aT x3 x4 x5] [aI i]∧bB (i !=0) (Q [aI i]) (∃x x6 x7,Gv 116 [aP p0] [aT x x6 x7]∧∃x8 x9 x10,Gv 116 [aP p1] [aT x8 x9 x10]∧∃i,Gv 115 [aT x x6 x7,aT x8 x9 x10] [aI i]∧Q [aI i])):=by kernel_rfl
theorem Ap:wpF CC Gv an0 Tryz.f60 [] Q=(∃x,Gv 111 [aI (0:Int)] [aR x]∧Q [aR x]):=by kernel_rfl
theorem dN (r0:R4) (r1:R4):wpF CC Gv an0 Tryz.f219 [.ag (rk r0 []),.ag (rk r1 [])] Q=(∃i,Gv 172 [aR r0,aR r1] [aI i]∧Q [aB (i==0)]):=by kernel_rfl
theorem Aq (r0:R4) (r1:R4):wpF CC Gv an0 Tryz.f182 [.ag (rk r0 []),.ag (rk r1 [])] Q=(∃x,Gv 232 [aR r0,aR r1] [aR x]∧Q [aR x]):=by kernel_rfl
theorem Ar (r0:R4) (r1:R4) (r2:R4) (r3:R4) (r4:R4) (r5:R4):wpF CC Gv an0 Tryz.f161 [.ag (rk r0 (rk r1 (rk r2 []))),.ag (rk r3 (rk r4 (rk r5 [])))] Q=(∃x,Gv 182 [aR r0,aR r4] [aR x]∧∃x1,Gv 182 [aR r3,aR r1] [aR x1]∧∃b,Gv 219 [aR x,aR x1] [aB b]∧br b (∃x,Gv 182 [aR r0,aR r5] [aR x]∧∃x2,Gv 182 [aR r3,aR r2] [aR x2]∧∃b,Gv 219 [aR x,aR x2] [aB b]∧br b (∃x,Gv 182 [aR r1,aR r5] [aR x]∧∃x3,Gv 182 [aR r4,aR r2] [aR x3]∧∃b,Gv 219 [aR x,aR x3] [aB b]∧Q [aB b]) (Q [aB false])) (Q [aB false])):=by kernel_rfl
theorem As (r0:R4) (r1:R4) (r2:R4) (r3:R4) (r4:R4) (r5:R4):wpF CC Gv an0 Tryz.f153 [.ag (rk r0 (rk r1 (rk r2 []))),.ag (rk r3 (rk r4 (rk r5 [])))] Q=(∃b,Gv 219 [aR r0,aR r3] [aB b]∧br b (∃b,Gv 219 [aR r1,aR r4] [aB b]∧br b (∃b,Gv 219 [aR r2,aR r5] [aB b]∧Q [aB b]) (Q [aB false])) (Q [aB false])):=by kernel_rfl
theorem At (c0:C66) (c1:C66):wpF CC Gv an0 Tryz.f103 [.ag (ck c0 []),.ag (ck c1 [])] Q=(bB (!C66.arc c0==C66.arc c1) (Q [aB false]) (bB (C66.arc c0) (∃b,Gv 153 [aT (C66.cx c0) (C66.cy c0) (C66.cq c0),aT (C66.cx c1) (C66.cy c1) (C66.cq c1)] [aB b]∧Q [aB b]) (∃b,Gv 161 [aT (C66.la c0) (C66.lb c0) (C66.lc c0),aT (C66.la c1) (C66.lb c1) (C66.lc c1)] [aB b]∧Q [aB b]))):=by kernel_rfl
theorem Di (c0:C66) (c1:C66):wpF CC Gv an0 Tryz.f57 [.ag (ck c0 []),.ag (ck c1 [])] Q=(∃b,Gv 103 [aC c0,aC c1] [aB b]∧br b (bB (C66.cw c0==C66.cw c1) (∃b,Gv 104 [aP (C66.fr c0),aP (C66.fr c1)] [aB b]∧br b (∃b,Gv 104 [aP (C66.tt c0),aP (C66.tt c1)] [aB b]∧Q [aB b]) (Q [aB false])) (Q [aB false])) (Q [aB false])):=by kernel_rfl
theorem Dj (r0:R4):wpF CC Gv an0 Tryz.f281 [.ag (rk r0 [])] Q=(∃b es b1 e1 i,Gv 329 [aZ (R4.b r0) (R4.l r0),aZ (R4.c r0) (R4.m r0)] [aZ b es,aZ b1 e1,aI i]∧Q [aZ b es]):=by kernel_rfl
end
end Eng
end
section
namespace Eng
namespace Rl
theorem Au {x y:Rl}:0≤y-x↔x≤y:=not_congr Np
theorem mq (x y z:Rl):x*(y-z)=x*y-x*z:=by
 obtain⟨x,rfl⟩:=x.rep;obtain⟨y,rfl⟩:=y.rep;obtain⟨z,rfl⟩:=z.rep;exact xD fun n=>by simp only[zi,zF,kA];grind
theorem uj (x y z:Rl): -x*(z-y)=x*(y-z):=by
 obtain⟨x,rfl⟩:=x.rep;obtain⟨y,rfl⟩:=y.rep;obtain⟨z,rfl⟩:=z.rep;exact xD fun n=>by simp only[zi,zF,kA];grind
theorem Rn {x y z:Rl} (hx:0≤x) (h:y≤z):x*y≤x*z:=by
 rw[←Au,←mq];exact AW hx (Au.2 h)
theorem O3 {x y z:Rl} (hx:x≤0) (h:y≤z):x*z≤x*y:=by
 rw[←Au,←mq,←uj];exact AW (fun k=>hx (j7.1 k)) (Au.2 h)
theorem mr {x y z w:Rl} (h:x≤y) (k:z≤w):x+z≤y+w:=by
 refine le_trans ((SY z).2 h) ?_;rw[adc y,adc y];exact(SY y).2 k
theorem mu {x:Rl} {a b c L:Rat} (h1:ofR a≤x) (h2:x≤ofR b) (l1:L≤a*c) (l2:L≤b*c):ofR L≤x*ofR c:=by
 rcases lr (a:=0) (b:=c)with h|h
 ·refine le_trans (jI.2 l1) ?_;rw[qX,mlc (ofR a),mlc x];exact Rn (jI.2 h) h1
 ·refine le_trans (jI.2 l2) ?_;rw[qX,mlc (ofR b),mlc x];exact O3 (jI.2 h) h2
theorem mw {x:Rl} {a b c H:Rat} (h1:ofR a≤x) (h2:x≤ofR b) (l1:a*c≤H) (l2:b*c≤H):x*ofR c≤ofR H:=by
 rcases lr (a:=0) (b:=c)with h|h
 ·refine le_trans ?_ (jI.2 l2);rw[qX,mlc (ofR b),mlc x];exact Rn (jI.2 h) h2
 ·refine le_trans ?_ (jI.2 l1);rw[qX,mlc (ofR a),mlc x];exact O3 (jI.2 h) h1
theorem uk {x y:Rl} {a b c d L:Rat} (h1:ofR a≤x) (h2:x≤ofR b) (h3:ofR c≤y) (h4:y≤ofR d) (l1:L≤a*c) (l2:L≤b*c) (l3:L≤a*d) (l4:L≤b*d):ofR L≤x*y:=by
 rcases le_total 0 x with h|h
 ·exact le_trans (mu h1 h2 l1 l2) (Rn h h3)
 ·exact le_trans (mu h1 h2 l3 l4) (O3 h h4)
theorem um {x y:Rl} {a b c d H:Rat} (h1:ofR a≤x) (h2:x≤ofR b) (h3:ofR c≤y) (h4:y≤ofR d) (l1:a*c≤H) (l2:b*c≤H) (l3:a*d≤H) (l4:b*d≤H):x*y≤ofR H:=by
 rcases le_total 0 x with h|h
 ·exact le_trans (Rn h h4) (mw h1 h2 l3 l4)
 ·exact le_trans (O3 h h3) (mw h1 h2 l1 l2)
theorem mz {x y:Rl} (hy:0≤y) (h:x*x≤y*y) (hx:0≤x):x≤y:=by
 rcases le_total x y with k|k
 ·exact k
 ·have h1:=Rn hx k;have h2:=Rn hy k;rw[mlc y x]at h2;have h3:x*x=y*y:=zy h (le_trans h2 h1);rw[Nr hx hy h3];exact jH
end Rl
open Rl
def inI (lo hi:Int) (x:Rl):Prop:=ofR ((lo:Rat)/65536)≤x∧x≤ofR ((hi:Rat)/65536)
theorem dO {a b c d:Int} {x y:Rl} (h:inI a b x) (k:inI c d y):inI (a+c) (b+d) (x+y):=by
 refine⟨?_,?_⟩
 ·have:=mr h.1 k.1;rw[←zG]at this;have e:((a+c:Int):Rat)/65536=(a:Rat)/65536+(c:Rat)/65536:=by rw[lm];grind
  rw[e];exact this
 ·have:=mr h.2 k.2;rw[←zG]at this;have e:((b+d:Int):Rat)/65536=(b:Rat)/65536+(d:Rat)/65536:=by rw[lm];grind
  rw[e];exact this
theorem dP {lo hi:Int} {x:Rat} (h1:(lo:Rat)≤x*65536) (h2:x*65536≤(hi:Rat)):inI lo hi (ofR x):=by
 refine⟨jI.2 ?_,jI.2 ?_⟩<;>grind
theorem dQ {a b c d L H:Int} {x y:Rl} (h:inI a b x) (k:inI c d y) (hL:∀p q,(p=a∨p=b)→(q=c∨q=d)→L*65536≤p*q) (hH:∀p q,(p=a∨p=b)→(q=c∨q=d)→p*q≤H*65536):inI L H (x*y):=by
 have cL:∀p q:Int,L*65536≤p*q→(L:Rat)/65536≤(p:Rat)/65536*((q:Rat)/65536):=fun p q h=>by
  have h1:=ks.2 h;rw[ky,ky]at h1
  grind
 have cH:∀p q:Int,p*q≤H*65536→(p:Rat)/65536*((q:Rat)/65536)≤(H:Rat)/65536:=fun p q h=>by
  have h1:=ks.2 h;rw[ky,ky]at h1
  grind
 exact⟨uk h.1 h.2 k.1 k.2 (cL _ _ (hL _ _ (.inl rfl) (.inl rfl))) (cL _ _ (hL _ _ (.inr rfl) (.inl rfl))) (cL _ _ (hL _ _ (.inl rfl) (.inr rfl))) (cL _ _ (hL _ _ (.inr rfl) (.inr rfl))),
  um h.1 h.2 k.1 k.2 (cH _ _ (hH _ _ (.inl rfl) (.inl rfl))) (cH _ _ (hH _ _ (.inr rfl) (.inl rfl))) (cH _ _ (hH _ _ (.inl rfl) (.inr rfl))) (cH _ _ (hH _ _ (.inr rfl) (.inr rfl)))⟩
theorem O4 {a b L H:Int} {c:Rat} (hc:0≤c) (h:inI a b (ofR c)) (hL0:0≤L) (hH0:0≤H) (hL:L*L≤max a 0*65536) (hH:b*65536≤H*H):inI L H (jJ c):=by
 have h1:=jI.1 h.1;have h2:=jI.1 h.2;have e:=wq hc;refine⟨mz (Zg c) ?_ (jI.2 ?_),mz (jI.2 ?_) ?_ (Zg c)⟩
 ·rw[e,←qX];refine jI.2 ?_;have k:=ks.2 hL;rw[ky,ky]at k;have k2:((max a 0:Int):Rat)≤c*65536:=by
   rcases Int.le_total a 0 with h|h
   ·rw[Int.max_eq_right h];grind
   ·rw[Int.max_eq_left h];grind
  grind
 ·have:=ks.2 hL0
  grind
 ·have:=ks.2 hH0
  grind
 ·rw[e,←qX];refine jI.2 ?_;have k:=ks.2 hH;rw[ky,ky]at k
  grind
theorem dR {a b:Int} {x:Rl} (h:inI a b x) (k:0<a):0<x:=by
 refine lt_of_lt_of_le (ZH.2 ?_) h.1;have:=lh.2 k
 grind
theorem Av {a b:Int} {x:Rl} (h:inI a b x) (k:b<0):x<0:=by
 refine lt_of_le_of_lt h.2 (ZH.2 ?_);have:=lh.2 k
 grind
theorem Ax {x:Rl} (h:inI 0 0 x):x=0:=by
 have h1:=h.1;have h2:=h.2;have e:((0:Int):Rat)/65536=0:=by grind
 rw[e]at h1 h2;exact zy h2 h1
theorem ID {a b c d:Int} {x y:Rl} (h:inI a b x) (k:inI c d y) (l:b<c):x<y:=by
 refine lt_of_le_of_lt h.2 (lt_of_lt_of_le (ZH.2 ?_) k.1);have:=lh.2 l
 grind
end Eng
end
section
namespace Eng
open Go Go.Proofs Rl
set_option maxRecDepth 100000
theorem vX (x:Rat):qe CC 118 [.ag (rk (q4 x) [])] [.c (.int .i64 (sr x))]:=by
 rw[←Ic];exact Jh x
theorem oB {x:Rat} {k:Nat} (hx:Hz k x) (h:k<360000:=by omega):qe CC 234 [.ag (rk (q4 x) [])] [.ag (rk (q4 (-x)) [])]:=TO (hx.sr h)
theorem bAdd {x y:Rat} {j k:Nat} (hx:Hz j x) (hy:Hz k y) (h:j<360000∧k<360000:=by omega):qe CC 233 [.ag (rk (q4 x) []),.ag (rk (q4 y) [])] [.ag (rk (q4 (x+y)) [])]:=TP Wk (hx.sr h.1) (hy.sr h.2)
theorem m0 {x y:Rat} {j k:Nat} (hx:Hz j x) (hy:Hz k y) (h:j<360000∧k<360000:=by omega):qe CC 175 [.ag (rk (q4 x) []),.ag (rk (q4 y) [])] [.ag (rk (q4 (x-y)) [])]:=SI Wk (hx.sr h.1) (hy.sr h.2)
theorem Mq {x y:Rat} {j k:Nat} (hx:Hz j x) (hy:Hz k y) (h:j<360000∧k<360000:=by omega):qe CC 232 [.ag (rk (q4 x) []),.ag (rk (q4 y) [])] [.ag (rk (q4 (x*y)) [])]:=SH Wk (hx.sr h.1) (hy.sr h.2)
theorem oC {x y:Rat} {j k:Nat} (hx:Hz j x) (hy:Hz k y) (h:j<360000∧k<360000:=by omega):qe CC 172 [.ag (rk (q4 x) []),.ag (rk (q4 y) [])] [.c (.int .i64 (sr (x-y)))]:=by
 rw[←Bu];exact SG (hx.sr h.1) (hy.sr h.2)
theorem bInt {n:Int} (h1: -9223372036854775808≤n) (h2:n<9223372036854775808):qe CC 111 [.c (.int .i64 n)] [.ag (rk (q4 (n:Rat)) [])]:=Xn h1 h2
theorem b0:qe CC 111 [.c (.int .i64 0)] [.ag (rk (q4 0) [])]:=bInt (n:=0) (by omega) (by omega)
theorem IE {x:Rat} {k:Nat} (hx:Hz k x) (h:k<360000:=by omega):qe CC 281 [.ag (rk (q4 x) [])] [qS x.floor]:=by
 refine wpG Tryz.func281 ((Dj ..).mpr ?_);have hp:=x.den_pos;have hs:=hx.sr h;have h:=wL Wk hs.1.sm hs.2.sm (by omega);have e:x.num/(x.den:Int)=x.floor:=by rw[lp]
 rw[e]at h;exact⟨_,_,_,_,_,h,rfl⟩
def FB (x:Int):Prop:= -2305843009213693952≤x∧x≤2305843009213693952
def eIv (a b:Int):A:= .ag [.int .i64 a,.int .i64 b]
def eOk (b:Bool):A:= .c (.bool b)
theorem dS {a b:Int}:∃c d ok,qe CC 282 [.c (.int .i64 a),.c (.int .i64 b)] [eIv c d,eOk ok]∧(ok=true→c=a∧d=b∧ -2305843009213693952≤c∧d≤2305843009213693952)∧(ok=false→c=0∧d=0):=by
 by_cases h:a< -2305843009213693952
 ·refine⟨0,0,false,?_,by simp,by simp⟩;refine wpG Tryz.func282 ((Zy ..).mpr ?_);exact brd (fun _=>rfl) (fun k=>absurd h k)
 by_cases h2:b>2305843009213693952
 ·refine⟨0,0,false,?_,by simp,by simp⟩;refine wpG Tryz.func282 ((Zy ..).mpr ?_);exact brd (fun k=>absurd k h) (fun _=>brd (fun _=>rfl) (fun k=>absurd h2 k))
 ·refine⟨a,b,true,?_,fun _=>⟨rfl,rfl,by omega,by omega⟩,by simp⟩;refine wpG Tryz.func282 ((Zy ..).mpr ?_);exact brd (fun k=>absurd k h) (fun _=>brd (fun k=>absurd k h2) (fun _=>rfl))
end Eng
end
section
open Go Go.Proofs Eng
namespace Eng
section
variable (Gv:Nat→List A→List A→Prop) (I0:List D→List D→Prop) (M0:List D→Nat) (I1:List D→List D→Prop) (M1:List D→Nat) (I2:List D→List D→Prop) (M2:List D→Nat) (I3:List D→List D→Prop) (M3:List D→Nat) (Q:List A→Prop)
theorem Dk (z0:Bool) (l0:List (List D)):wpF CC Gv (fun _=>⟨[.slot 4 (.int .u64 0),.slot 5 (.int .i64 0)],[],I0,M0⟩) Tryz.f280 [.ag [.bool z0,.sl l0]] Q=(∃b es,Gv 170 [aI (-9223372036854775808:Int)] [aZ b es]∧∃i,Gv 229 [aZ z0 l0,aZ b es] [aI i]∧bB (decide (i<0)) (Q [aI (0:Int),aB false]) (∃b es,Gv 170 [aI (9223372036854775807:Int)] [aZ b es]∧∃i,Gv 229 [aZ z0 l0,aZ b es] [aI i]∧bB (decide (i>0)) (Q [aI (0:Int),aB false]) (I0 [] [J3 .u64 0,dI (Lv .i64 ((W1 l0.length)-1))]∧∀(i i_1:Int),I0 [] [J3 .u64 i,dI i_1]→bB (decide (i_1≥0)) ((0≤i_1∧i_1<(W1 l0.length)∧c4 (nth [] l0 (W0 i_1))=1)∧∃i_2,cut (nth [] l0 (W0 i_1)) 0 1 [J3 .u32 i_2]∧I0 [] [J3 .u64 (Lv .u64 (Lv .u64 (i*1000000000)+Lv .u64 i_2)),dI (Lv .i64 (i_1-1))]∧M0 [J3 .u64 (Lv .u64 (Lv .u64 (i*1000000000)+Lv .u64 i_2)),dI (Lv .i64 (i_1-1))]<M0 [J3 .u64 i,dI i_1]) (br z0 (Q [aI (Lv .i64 (Lv .u64 (0-i))),aB true]) (Q [aI (Lv .i64 i),aB true]))))):=by kernel_rfl
theorem Ay (z0:Bool) (l0:List (List D)):wpF CC Gv (fun _=>⟨[.box 5 [(.bool false),(.slice none 0 0)]],[],I0,M0⟩) Tryz.f338 [.ag [.bool z0,.sl l0]] Q=(br z0 (Q [aZ false [],aI (7:Int)]) (bB ((W1 l0.length)==0) (Q [aZ false [],aI (0:Int)]) ((2:Int)≠(0:Int)∧(0≤Lv .i64 (ca (Lv .i64 ((W1 l0.length)+1)) (2:Int))∧Lv .i64 (ca (Lv .i64 ((W1 l0.length)+1)) (2:Int))≤Lv .i64 (ca (Lv .i64 ((W1 l0.length)+1)) (2:Int))∧room (W0 (Lv .i64 (ca (Lv .i64 ((W1 l0.length)+1)) (2:Int)))))∧(room (c4 (ft (W0 (Lv .i64 (ca (Lv .i64 ((W1 l0.length)+1)) (2:Int)))) [J3 .u32 0])+1)∧lens 1 [[J3 .u32 1]])∧∃b es,Gv 226 [aB false,aL (ft (W0 (Lv .i64 (ca (Lv .i64 ((W1 l0.length)+1)) (2:Int)))) [J3 .u32 0]++[[J3 .u32 1]])] [aZ b es]∧∃b1 e1,Gv 170 [aI (2:Int)] [aZ b1 e1]∧I0 [] [J7 b,Hy es]∧∀(b:Bool) (es:List (List D)),I0 [] [J7 b,Hy es]→∃b2 e2 b3 e3 i,Gv 329 [aZ z0 l0,aZ b es] [aZ b2 e2,aZ b3 e3,aI i]∧∃b4 e4,Gv 277 [aZ b es,aZ b2 e2] [aZ b4 e4]∧∃b5 e5 b6 e6 i,Gv 329 [aZ b4 e4,aZ b1 e1] [aZ b5 e5,aZ b6 e6,aI i]∧∃i,Gv 229 [aZ b5 e5,aZ b es] [aI i]∧bB (decide (i≥0)) (Q [aZ b es,aI (0:Int)]) (I0 [] [J7 b5,Hy e5]∧M0 [J7 b5,Hy e5]<M0 [J7 b,Hy es])))):=by kernel_rfl
theorem dT (a0:Int) (b0:Int) (a1:Int) (b1:Int):wpF CC Gv (Vd ⟨[.slot 21 (.int .i64 0),.slot 6 (.int .i64 0),.slot 7 (.int .i64 0)],[],I0,M0⟩ ⟨[.slot 31 (.int .i64 0),.slot 6 (.int .i64 0),.slot 7 (.int .i64 0)],[.slot 21 (.int .i64 0)],I1,M1⟩) Tryz.f245 [.ag [.int .i64 a0,.int .i64 b0],.ag [.int .i64 a1,.int .i64 b1]] Q=(I0 [] [dI (0:Int),dI (2305843009213693952:Int),dI (-2305843009213693952:Int)]∧∀(i i_1 i_2:Int),I0 [] [dI i,dI i_1,dI i_2]→bB (decide (i<2)) ((0≤i∧i<2)∧∃i_3,cut (nth [] [[dI a0],[dI b0]] (W0 i)) 0 1 [dI i_3]∧I1 [dI i] [dI (0:Int),dI i_1,dI i_2]∧∀(i_4 i_5 i_6:Int),I1 [dI i] [dI i_4,dI i_5,dI i_6]→bB (decide (i_4<2)) ((0≤i_4∧i_4<2)∧∃i_7,cut (nth [] [[dI a1],[dI b1]] (W0 i_4)) 0 1 [dI i_7]∧∃i_8 i_9 b,Gv 283 [aI i_3,aI i_7] [aI i_8,aI i_9,aB b]∧bB (!b) (Q [Hv [dI (0:Int),dI (0:Int)],aB false]) (I1 [dI i] [dI (Lv .i64 (i_4+1)),dI (match decide (i_8<i_5)with|true=>i_8|false=>i_5),dI (match decide (i_6<i_9)with|true=>i_9|false=>i_6)]∧M1 [dI (Lv .i64 (i_4+1)),dI (match decide (i_8<i_5)with|true=>i_8|false=>i_5),dI (match decide (i_6<i_9)with|true=>i_9|false=>i_6)]<M1 [dI i_4,dI i_5,dI i_6])) (I0 [] [dI (Lv .i64 (i+1)),dI i_5,dI i_6]∧M0 [dI (Lv .i64 (i+1)),dI i_5,dI i_6]<M0 [dI i,dI i_1,dI i_2])) (Q [Hv [dI i_1,dI i_2],aB true])):=by kernel_rfl
theorem Dl (x0:Int) (y0:Int):wpF CC Gv an0 Tryz.f330 [.c (.int .u64 x0),.c (.int .u64 y0)] Q=((0:Int)≤(32:Int)∧(0:Int)≤(32:Int)∧(0:Int)≤(32:Int)∧(0:Int)≤(32:Int)∧(0:Int)≤(32:Int)∧Q [Hx (J3 .u64 (Lv .u64 (Lv .u64 (Lv .u64 (W2 x0 4294967296*W2 y0 (4294967296:Int))+W2 (Lv .u64 (Lv .u64 (W2 x0 4294967296*bits .and .u64 (y0) (4294967295:Int))+W2 (Lv .u64 (bits .and .u64 (x0) 4294967295*bits .and .u64 (y0) (4294967295:Int))) (4294967296:Int))) (4294967296:Int))+W2 (Lv .u64 (bits .and .u64 (Lv .u64 (Lv .u64 (W2 x0 4294967296*bits .and .u64 (y0) (4294967295:Int))+W2 (Lv .u64 (bits .and .u64 (x0) 4294967295*bits .and .u64 (y0) (4294967295:Int))) (4294967296:Int))) 4294967295+Lv .u64 (bits .and .u64 (x0) 4294967295*W2 y0 (4294967296:Int)))) (4294967296:Int)))),Hx (J3 .u64 (Lv .u64 (x0*y0)))]):=by kernel_rfl
end
end Eng
end
section
namespace Eng
open Go Go.Proofs Rl
set_option maxRecDepth 100000
theorem Az (x:Nat) (r:List Nat):val r≤val (x::r):=by
 show val r≤x+1000000000*val r;omega
theorem Wn:∀(l:List Nat) (k:Nat),val (l.drop k)≤val l
 |[],k=>by simp
 |x::r,0=>gr _
 |x::r,k+1=>ix (Wn r k) (Az x r)
def IF (z:Int):Int×Bool:=if-9223372036854775808≤z∧z≤9223372036854775807 then(z,true)else(0,false)
theorem UR {z:Int} (h1: -9223372036854775808≤z) (h2:z≤9223372036854775808):Sm z:=by
 unfold Sm Vk;have h3:z.natAbs<1000000000^3:=by omega
 exact hX h3 (SA (by omega) (by omega))
theorem uo {z:Int} (hz:Sm z):qe CC 280 [qS z] [.c (.int .i64 (IF z).1),.c (.bool (IF z).2)]:=by
 have hlen:=hz.len;refine qw (anns:=fun _=>⟨[.slot 4 (.int .u64 0),.slot 5 (.int .i64 0)],[],fun _ ds=> -9223372036854775808≤z∧z≤9223372036854775807∧∃k:Nat,k≤(lim z.natAbs).length∧ds=[.int .u64 (val ((lim z.natAbs).drop k):Int),.int .i64 ((k:Int)-1)],fun ds=>(toI (nth .undef ds 1)+1).toNat⟩) mixedT Tryz.func280 ?_;have s1:Sm (-9223372036854775808):=UR (by omega) (by omega);have s2:Sm 9223372036854775807:=UR (by omega) (by omega);have h1:=up (xz (n:= -9223372036854775808) (by omega) (by omega));have h2:=up (xz (n:=9223372036854775807) (by omega) (by omega));have c1:=up (yk hz s1);have c2:=up (yk hz s2);rw[xF]at h1 h2 c1 c2;rw[xF (-9223372036854775808)]at c1;rw[xF 9223372036854775807]at c2;rw[xF,Dk];have l1:Qi z (-9223372036854775808)<0↔z< -9223372036854775808:=by unfold Qi;split<;>(try split)<;>omega
 have l2:Qi z 9223372036854775807>0↔9223372036854775807<z:=by unfold Qi;split<;>(try split)<;>omega
 unfold IF;refine⟨_,_,h1,_,c1,brd (fun h=>?_) (fun h=>⟨_,_,h2,_,c2,brd (fun g=>?_) (fun g=>?_)⟩)⟩
 ·have:=l1.1 h;rw[if_neg (by omega)]
 ·have:=l2.1 g;rw[if_neg (by omega)]
 ·have h:=mt l1.2 h;have g:=mt l2.2 g;rw[if_pos ⟨by omega,by omega⟩];have hl:=qh z.natAbs;have hv:=qj z.natAbs;generalize lim z.natAbs=l at *;simp only[be,qi];refine⟨⟨by omega,by omega,l.length,gr _,by rw[List.drop_length,zJ];rfl⟩,?_⟩;rintro n m ⟨_,_,k,hk,he⟩;simp only[fS,J8,true_and,and_true]at he;obtain⟨rfl,rfl⟩:=he;refine brd (fun h=>?_) (fun h=>?_)
  ·have a3:k-1<l.length:=by omega
   have ht:((k:Int)-1).toNat=k-1:=by omega
   rw[ht];have hd:val (l.drop (k-1))=l[k-1]+1000000000*val (l.drop k):=by rw[c3 a3,show k-1+1=k by omega];rfl
   have hle:=Wn l (k-1);have hx:=hl.get a3;have hw:Lv .u64 (Lv .u64 ((val (l.drop k):Int)*1000000000)+Lv .u64 (l[k-1]:Int))=(val (l.drop (k-1)):Int):=by rw[xO (n:=(val (l.drop k):Int)*1000000000),xO (n:=(l[k-1]:Int)),xO];omega
   have a4:Lv .i64 ((k:Int)-1-1)=((k-1:Nat):Int)-1:=by rw[zJ];omega
   refine⟨⟨by omega,by omega,qC a3⟩,_,qG a3,⟨by omega,by omega,k-1,by omega,by rw[hw,a4]⟩,?_⟩;rw[a4];simp only[nth,toI];omega
  ·have a3:k=0:=by omega
   subst a3;rw[ea,hv];by_cases hn:z<0
   ·rw[decide_eq_true hn];refine zQ (fun _=>?_) (fun h=>by simp at h);have e:Lv .i64 (Lv .u64 (0-((z.natAbs:Nat):Int)))=z:=by simp[Lv,P1,No];omega
    rw[e]
   ·rw[decide_eq_false hn];refine zQ (fun h=>by simp at h) (fun _=>?_);have e:Lv .i64 ((z.natAbs:Nat):Int)=z:=by rw[zJ];omega
    rw[e]
theorem m6 {a:Nat} (ha:a<1000000000^190):qe CC 338 [qS (a:Int)] [qS (qM a:Int),.c (.int .i64 0)]:=by
 refine qw (anns:=fun _=>⟨[.box 5 [(.bool false),(.slice none 0 0)]],[],fun _ ds=>∃x:Nat,0<x∧x<1000000000^191∧ds=cI (x:Int)∧Te a x=qM a,msZ⟩) mixedT Tryz.func338 ?_;rw[qL,Ay,YQ];have hL:(lim a).length≤190:=qy ha;have hav:a<10^(9*(lim a).length):=by
  have:=qW (qh a)
  rwa [qj,l7]at this
 refine zQ (fun h=>by simp at h) (fun _=>?_);refine brb (fun h=>?_) (fun h=>?_)
 ·have h0:lim a=[]:=by apply List.eq_nil_of_length_eq_zero;have:=cg h;simp only[be]at this;omega
  obtain rfl:=Qx.1 h0;have:qM 0=0:=by unfold qM;rw[Te];rfl
  rw[this];rfl
 ·have hp:0<(lim a).length:=by
   rcases Nat.eq_zero_or_pos (lim a).length with h0|h0
   ·rw[h0]at h;simp at h
   ·exact h0
  have ap:0<a:=qK.1 hp;have hk:Lv .i64 (ca (Lv .i64 ((W1 (lim a).length)+1)) 2)=(((lim a).length+1)/2:Nat):=by simp only[be];rw[zJ (n:=(((lim a).length:Nat):Int)+1),Int.tdiv_eq_ediv_of_nonneg (by omega),zJ];omega
  rw[hk,bx,N7];generalize hkk:((lim a).length+1)/2=k at *;have h2:=up (xz (n:=2) (by omega) (by omega));have hg:=up (Vh false (Vu k) (by rw[en,el];simp;omega));rw[N8,F0]at hg;have a3:1000000000^k<1000000000^191:=gq (by omega) (by omega);refine⟨by omega,⟨by omega,by omega,by unfold room;omega⟩,⟨by rw[el];unfold room;omega,fun e he=>by simp at he;subst he;rfl⟩,_,_,hg,_,_,h2,⟨1000000000^k,Nat.pow_pos (by omega),a3,by rw[X1],?_⟩,?_⟩
  ·rw[l7,←hkk];exact Vn hav
  ·rintro b es ⟨x,hx0,hx,he,hn⟩;obtain⟨rfl,rfl⟩:=l6 he;have sx:Sm (x:Int):=ji (h8 hx (gq (by omega) (by omega)));have sa:Sm (a:Int):=ji (h8 ha (gq (by omega) (by omega)));have hq:=wL Wk sa sx (by omega);have eq1:(a:Int)/(x:Int)=((a/x:Nat):Int):=rfl;have eq2:(a:Int)%(x:Int)=((a%x:Nat):Int):=rfl;rw[eq1,eq2]at hq;have hqa:a/x≤a:=Nat.div_le_self _ _;have sq:Sm ((a/x:Nat):Int):=ji (hC hqa (h8 ha (gq (by omega) (by omega))));have a5:=up (Za sx sq);have e1:(x:Int)+((a/x:Nat):Int)=((x+a/x:Nat):Int):=by omega
   rw[e1]at a5;have hb:x+a/x<1000000000^200:=by have h3:1000000000^190≤1000000000^191:=h9 (by omega) (by omega);have h4:1000000000^191*1000000000=1000000000^192:=(Nat.pow_succ ..).symm;have h5:1000000000^192≤1000000000^200:=h9 (by omega) (by omega);omega
   have a4:=wL Wk (ji hb) (ji (n:=2) (by decide)) (by omega);have eq3:((x+a/x:Nat):Int)/((2:Nat):Int)=(((x+a/x)/2:Nat):Int):=rfl;have eq4:((x+a/x:Nat):Int)%((2:Nat):Int)=(((x+a/x)%2:Nat):Int):=rfl;rw[eq3,eq4]at a4;have sy:Sm (((x+a/x)/2:Nat):Int):=ji (by omega);have hc:=up (yk sy sx);rw[Nm]at hn;generalize hy:(x+a/x)/2=y at *;rw[qL,qL,qL,qL]at hq;rw[qL,qL,qL]at a5;rw[qL,qL,qL,qL]at a4;rw[qL,qL]at hc;refine⟨_,_,_,_,_,hq,_,_,a5,_,_,_,_,_,a4,_,hc,?_⟩;unfold Qi;refine brd (fun h3=>?_) (fun h3=>?_)
   ·have:x≤y:=by
     rcases hD y x with h4|h4
     ·rw[if_pos (by omega)]at h3;omega
     ·exact h4
    rw[if_pos this]at hn;rw[←hn,qL]
   ·have h4:y<x:=by
     rcases hD y x with h4|h4
     ·exact h4
     ·exfalso;apply h3;rw[if_neg (by omega)];split<;>omega
    rw[if_neg (by omega)]at hn;have yp:0<y:=by rw[←hy];exact Nj ap hx0
    refine⟨⟨y,yp,by omega,(X1 y).symm,hn⟩,?_⟩;have m1:=YP y;have m2:=YP x;rw[X1]at m1 m2;rw[m1,m2];exact h4
theorem fdN (a m:Nat):W2 (a:Int) (m:Int)=((a/m:Nat):Int):=by
 rw[Int.fdiv_eq_ediv_of_nonneg _ (by omega)];exact(Int.natCast_ediv a m).symm
theorem fd32 (a:Nat):W2 (a:Int) 4294967296=((a/4294967296:Nat):Int):=fdN a 4294967296
theorem fd16 (a:Nat):W2 (a:Int) 65536=((a/65536:Nat):Int):=fdN a 65536
theorem Dm (a:Nat) (ha:a<18446744073709551616):bits .and .u64 (a:Int) 4294967295=((a%4294967296:Nat):Int):=by
 have h:=bits_and_u64_nat a 4294967295 ha (by omega);have e:a&&&4294967295=a%4294967296:=hE a 32;rw[e]at h;exact h
theorem m7 (a:Nat) (ha:a<18446744073709551616):bits .and .u64 (a:Int) 65535=((a%65536:Nat):Int):=by
 have h:=bits_and_u64_nat a 65535 ha (by omega);have e:a&&&65535=a%65536:=hE a 16;rw[e]at h;exact h
theorem or48 {a b:Nat} (ha:a<65536) (hb:b<281474976710656):bits .or .u64 (Lv .u64 ((a:Int)*281474976710656)) (b:Int)=((a*281474976710656+b:Nat):Int):=by
 rw[xO];have e:(a:Int)*281474976710656=((a*281474976710656:Nat):Int):=by omega
 rw[e,bits_or_u64_nat _ _ (by omega) (by omega)];have h:=Nat.two_pow_add_eq_or_of_lt (i:=48) (b:=b) hb a;rw[ik a,show(281474976710656:Nat)=2^48 from rfl,←h]
theorem m8 {x y:Nat} (hx:x<18446744073709551616) (hy:y<18446744073709551616):qe CC 330 [.c (.int .u64 (x:Int)),.c (.int .u64 (y:Int))] [.c (.int .u64 ((x*y/18446744073709551616:Nat):Int)),.c (.int .u64 ((x*y%18446744073709551616:Nat):Int))]:=by
 refine wpG Tryz.func330 ((Dl ..).mpr ?_);obtain⟨bd,bt,bw,hhi⟩:=Go.Lib.mul64_hi x y hx hy;have ba:=U3 (a:=x/4294967296) (b:=y/4294967296) (by omega) (by omega);have bb:=U3 (a:=x/4294967296) (b:=y%4294967296) (by omega) (by omega);have bc:=U3 (a:=x%4294967296) (b:=y/4294967296) (by omega) (by omega);have wN:∀a:Nat,a<18446744073709551616→U0.wrap (a:Int)=(a:Int):=fun a h=>xO
 have wM:∀a:Nat,U0.wrap (a:Int)=((a%18446744073709551616:Nat):Int):=fun a=>by simp[Lv,P1,No]
 have a4:∀a b:Nat,(a:Int)*(b:Int)=((a*b:Nat):Int):=fun a b=>(bv a b).symm
 have a3:∀a b:Nat,(a:Int)+(b:Int)=((a+b:Nat):Int):=fun a b=>(Int.natCast_add a b).symm
 have bb':x/4294967296*(y%4294967296)<18446744073709551616:=by omega
 have bc':x%4294967296*(y/4294967296)<18446744073709551616:=by omega
 have ba':x/4294967296*(y/4294967296)<18446744073709551616:=by omega
 have bh1:x/4294967296*(y/4294967296)+(x/4294967296*(y%4294967296)+x%4294967296*(y%4294967296)/4294967296)/4294967296<18446744073709551616:=by omega
 have bh:x/4294967296*(y/4294967296)+(x/4294967296*(y%4294967296)+x%4294967296*(y%4294967296)/4294967296)/4294967296+((x/4294967296*(y%4294967296)+x%4294967296*(y%4294967296)/4294967296)%4294967296+x%4294967296*(y/4294967296))/4294967296<18446744073709551616:=by omega
 refine⟨by omega,by omega,by omega,by omega,by omega,?_⟩;simp only[fd32,Dm x hx,Dm y hy,a4,a3,wN _ bd,wN _ bb',wN _ bt,Dm _ bt,wN _ bc',wN _ bw,wN _ ba',wN _ bh1,wN _ bh,wM (x*y)];rw[hhi]
end Eng
end
section
namespace Eng
open Go Go.Proofs Rl
set_option maxRecDepth 100000
theorem cAbs {x:Int} (hx:FB x):qe CC 331 [.c (.int .i64 x)] [.c (.int .u64 (x.natAbs:Int))]:=by
 refine wpG Tryz.func331 ((dH ..).mpr ?_);unfold FB at hx;refine brd (fun h=>?_) (fun h=>?_)
 ·have e:Lv .u64 (0-Lv .u64 x)=(x.natAbs:Int):=by simp[Lv,P1,No];omega
  rw[e]
 ·have e:Lv .u64 x=(x.natAbs:Int):=by rw[xO];omega
  rw[e]
theorem Dn {x y:Int} (h:decide (x<0)=decide (y<0)):x*y=((x.natAbs*y.natAbs:Nat):Int):=by
 rw[←Int.natAbs_mul];have h:=decide_eq_decide.1 h;have h2:0≤x*y:=by
  rcases cb x 0 with k|k
  ·exact Int.mul_nonneg_of_nonpos_of_nonpos (by omega) (by have:=h.1 k;omega)
  ·exact Int.mul_nonneg k (by
    rcases cb y 0 with l|l
    ·have:=h.2 l;omega
    ·exact l)
 omega
theorem A0 {x y:Int} (h:¬decide (x<0)=decide (y<0)):x*y= -((x.natAbs*y.natAbs:Nat):Int):=by
 have h1:decide (-x<0)=decide (y<0)∨x=0:=by
  by_cases k:x=0
  ·exact .inr k
  ·refine .inl (decide_eq_decide.2 ?_);have h:¬(x<0↔y<0):=fun e=>h (decide_eq_decide.2 e)
   constructor<;>intro l
   ·rcases cb y 0 with m|m
    ·exact m
    ·exact absurd ⟨fun a=>by omega,fun a=>by omega⟩ h
   ·rcases cb x 0 with m|m
    ·exact absurd ⟨fun _=>l,fun _=>m⟩ h
    ·omega
 rcases h1 with h1|h1
 ·have:=Dn h1;rw[Int.neg_mul,cc]at this;omega
 ·subst h1;simp
theorem nq {q:Nat} (k:¬q>2305843009213693952):¬((q:Int)>2305843009213693952):=by omega
theorem yq {q:Nat} (k:q>2305843009213693952):(q:Int)>2305843009213693952:=by omega
theorem ne0 {a:Nat} {X:Prop} (k:a=0) (h:((a:Int) !=0)=true):X:=by subst k;simp at h
theorem eq0 {a:Nat} {X:Prop} (k:¬a=0) (h:((a:Int) !=0)=false):X:=by
 simp at h;omega
theorem ar0 {P q:Nat} (hq:P/65536=q) (hr:P%65536=0):(q:Int)*65536≤(P:Int)∧(P:Int)≤(q:Int)*65536:=by omega
theorem ar1 {P q:Nat} (hq:P/65536=q):(q:Int)*65536≤(P:Int)∧(P:Int)≤((q:Int)+1)*65536:=by omega
theorem ar2 {P q:Nat} (hq:P/65536=q) (hr:P%65536=0): -(q:Int)*65536≤ -(P:Int)∧ -(P:Int)≤ -(q:Int)*65536:=by omega
theorem ar3 {P q:Nat} (hq:P/65536=q): -((q:Int)+1)*65536≤ -(P:Int)∧ -(P:Int)≤ -(q:Int)*65536:=by omega
theorem wq1 {q:Nat} (k:¬q>2305843009213693952):Lv .i64 (q:Int)=q:=zJ
theorem wq2 {q:Nat} (k:¬q>2305843009213693952):Lv .i64 ((q:Int)+1)=q+1:=zJ
theorem wq3 {q:Nat} (k:¬q>2305843009213693952):Lv .i64 (0-(q:Int))= -q:=by rw[zJ];omega
theorem wq4 {q:Nat} (k:¬q>2305843009213693952):Lv .i64 (0-((q:Int)+1))= -(q+1):=by rw[zJ];omega
theorem oD {q:Nat} {l u Z:Int} (_:l= -(q+1)∧u= -q∨l= -q∧u= -q∨l=q∧u=q+1∨l=q∧u=q) (hb:l*65536≤Z∧Z≤u*65536)
 (hk:(decide (l≥ -2305843009213693952)&&decide (u≤2305843009213693952))=true):FB l∧FB u∧l≤u∧l*65536≤Z∧Z≤u*65536:=by
 simp only[Bx,decide_eq_true_eq]at hk;unfold FB;omega
theorem oE (l u:Int):br (toB (J7 (decide (l≥ -2305843009213693952)))) ([Hx (.int .i64 l),Hx (.int .i64 u),Hx (.bool (decide (u≤2305843009213693952)))]=[.c (.int .i64 l),.c (.int .i64 u),eOk (decide (l≥ -2305843009213693952)&&decide (u≤2305843009213693952))])
 ([Hx (.int .i64 l),Hx (.int .i64 u),Hx (.bool false)]=[.c (.int .i64 l),.c (.int .i64 u),eOk (decide (l≥ -2305843009213693952)&&decide (u≤2305843009213693952))]):=by
 refine brd (fun h=>?_) (fun h=>?_)
 ·rw[decide_eq_true h,Aw];rfl
 ·rw[decide_eq_false h,F0];rfl
theorem G4 {x y:Int} (hx:FB x) (hy:FB y):∃l u ok,qe CC 283 [.c (.int .i64 x),.c (.int .i64 y)] [.c (.int .i64 l),.c (.int .i64 u),eOk ok]∧(ok=true→FB l∧FB u∧l≤u∧l*65536≤x*y∧x*y≤u*65536):=by
 have h1:=cAbs hx;have h2:=cAbs hy;have h3:=m8 (x:=x.natAbs) (y:=y.natAbs) (by unfold FB at hx;omega) (by unfold FB at hy;omega);have s1:= @Dn x y;have s2:= @A0 x y;generalize x.natAbs*y.natAbs=P at h3 s1 s2;have e1:=fd16 (P/18446744073709551616);have e2:=fd16 (P%18446744073709551616);have e4:bits .and .u64 ((P%18446744073709551616:Nat):Int) 65535=((P%65536:Nat):Int):=by rw[m7 _ (by omega)];congr 1;omega
 by_cases k1:¬P/18446744073709551616/65536=0
 ·refine⟨0,0,false,?_,by simp⟩;refine wpG Tryz.func283 ((kg ..).mpr ?_);refine⟨_,h1,_,h2,_,_,h3,by omega,?_⟩;rw[e1];exact brb (fun _=>rfl) (fun h=>eq0 k1 h)
 have k1:=Classical.not_not.1 k1;have e3:bits .or .u64 (Lv .u64 (((P/18446744073709551616:Nat):Int)*281474976710656)) (((P%18446744073709551616/65536:Nat)):Int)=((P/65536:Nat):Int):=by rw[or48 (by omega) (by omega)];congr 1;omega
 by_cases k2:P/65536>2305843009213693952
 ·refine⟨0,0,false,?_,by simp⟩;refine wpG Tryz.func283 ((kg ..).mpr ?_);refine⟨_,h1,_,h2,_,_,h3,by omega,?_⟩;simp only[e1,e2,e3,e4];exact brb (fun h=>ne0 k1 h) (fun _=>⟨by decide,by decide,brd (fun _=>rfl) (fun h=>absurd (yq k2) h)⟩)
 generalize hq:P/65536=q at *;have w1:=wq1 k2;have w2:=wq2 k2;have w3:=wq3 k2;have w4:=wq4 k2;have k3:=nq k2;by_cases hr:P%65536=0
 ·by_cases hs:decide (x<0)=decide (y<0)
  ·refine⟨q,q,_,?_,oD (.inr (.inr (.inr ⟨rfl,rfl⟩))) (by rw[s1 hs];exact ar0 hq hr)⟩;refine wpG Tryz.func283 ((kg ..).mpr ?_);refine⟨_,h1,_,h2,_,_,h3,by omega,?_⟩;simp only[e1,e2,e3,e4,w1,w2,w3,w4];refine brb (fun h=>ne0 k1 h) (fun _=>⟨by decide,by decide,brd (fun h=>absurd h k3) (fun _=>brb (fun h=>ne0 hr h) (fun _=>brb (fun h=>by rw[hs]at h;simp at h) (fun _=>oE _ _)))⟩)
  ·refine⟨-q, -q,_,?_,oD (.inr (.inl ⟨rfl,rfl⟩)) (by rw[s2 hs];exact ar2 hq hr)⟩;refine wpG Tryz.func283 ((kg ..).mpr ?_);refine⟨_,h1,_,h2,_,_,h3,by omega,?_⟩;simp only[e1,e2,e3,e4,w1,w2,w3,w4];refine brb (fun h=>ne0 k1 h) (fun _=>⟨by decide,by decide,brd (fun h=>absurd h k3) (fun _=>brb (fun h=>ne0 hr h) (fun _=>brb (fun _=>oE _ _) (fun h=>absurd (by simpa using h) hs)))⟩)
 ·by_cases hs:decide (x<0)=decide (y<0)
  ·refine⟨q,q+1,_,?_,oD (.inr (.inr (.inl ⟨rfl,rfl⟩))) (by rw[s1 hs];exact ar1 hq)⟩;refine wpG Tryz.func283 ((kg ..).mpr ?_);refine⟨_,h1,_,h2,_,_,h3,by omega,?_⟩;simp only[e1,e2,e3,e4,w1,w2,w3,w4];refine brb (fun h=>ne0 k1 h) (fun _=>⟨by decide,by decide,brd (fun h=>absurd h k3) (fun _=>brb (fun _=>brb (fun h=>by rw[hs]at h;simp at h) (fun _=>oE _ _)) (fun h=>eq0 hr h))⟩)
  ·refine⟨-(q+1), -q,_,?_,oD (.inl ⟨rfl,rfl⟩) (by rw[s2 hs];exact ar3 hq)⟩;refine wpG Tryz.func283 ((kg ..).mpr ?_);refine⟨_,h1,_,h2,_,_,h3,by omega,?_⟩;simp only[e1,e2,e3,e4,w1,w2,w3,w4];refine brb (fun h=>ne0 k1 h) (fun _=>⟨by decide,by decide,?_⟩);refine brd (fun h=>absurd h k3) (fun _=>?_);refine brb (fun _=>?_) (fun h=>eq0 hr h);refine brb (fun _=>?_) (fun h=>absurd (by simpa using h) hs);generalize-((q:Int)+1)=l;generalize-(q:Int)=u;exact oE l u
end Eng
end
section
namespace Eng
open Go Go.Proofs Rl
set_option maxRecDepth 100000
theorem brF {X Y:Prop} (h:X):br (toB (J7 !false)) X Y:=h
theorem brT {X Y:Prop} (h:Y):br (toB (J7 !true)) X Y:=h
def IvB (a b:Int):Prop:=FB a∧FB b∧a≤b
theorem IvB.zero:IvB 0 0:=⟨⟨by omega,by omega⟩,⟨by omega,by omega⟩,by omega⟩
theorem A1 {a b:Int} (hab:a≤b):∃c d ok,qe CC 282 [.c (.int .i64 a),.c (.int .i64 b)] [eIv c d,eOk ok]∧IvB c d∧(ok=true→c=a∧d=b):=by
 obtain⟨c,d,ok,h1,h2,h3⟩:=dS (a:=a) (b:=b);refine⟨c,d,ok,h1,?_,fun h=>⟨(h2 h).1,(h2 h).2.1⟩⟩;cases ok with
 |true=>obtain⟨rfl,rfl,k1,k2⟩:=h2 rfl;exact⟨⟨k1,by omega⟩,⟨by omega,k2⟩,hab⟩
 |false=>obtain⟨rfl,rfl⟩:=h3 rfl;exact .zero
theorem oF {a0 b0 a1 b1:Int} (h:IvB a0 b0) (k:IvB a1 b1):∃c d ok,qe CC 240 [eIv a0 b0,eIv a1 b1] [eIv c d,eOk ok]∧IvB c d∧(ok=true→∀x y,inI a0 b0 x→inI a1 b1 y→inI c d (x+y)):=by
 obtain⟨c,d,ok,h1,h2,h3⟩:=A1 (a:=a0+a1) (b:=b0+b1) (by have:=h.2.2;have:=k.2.2;omega);refine⟨c,d,ok,?_,h2,fun e x y hx hy=>?_⟩
 ·obtain⟨h,h',_⟩:=h;obtain⟨k,k',_⟩:=k;unfold FB at h h' k k';refine wpG Tryz.func240 ((dG ..).mpr ?_);rw[zJ (n:=a0+a1),zJ (n:=b0+b1)];exact⟨_,_,_,h1,rfl⟩
 ·obtain⟨rfl,rfl⟩:=h3 e;exact dO hx hy
theorem cSgn (a b:Int):∃n ok,qe CC 242 [eIv a b] [eI n,eOk ok]∧(ok=true→∀x,inI a b x→n=sg x):=by
 by_cases h1:a>0
 ·refine⟨1,true,?_,fun _ x hx=>(ZI (dR hx h1)).symm⟩;refine wpG Tryz.func242 ((Jy ..).mpr ?_);exact brd (fun _=>rfl) (fun k=>absurd h1 k)
 by_cases h2:b<0
 ·refine⟨-1,true,?_,fun _ x hx=>(Vo (Av hx h2)).symm⟩;refine wpG Tryz.func242 ((Jy ..).mpr ?_);exact brd (fun k=>absurd k h1) (fun _=>brd (fun _=>rfl) (fun k=>absurd h2 k))
 by_cases h3:a=0
 ·refine⟨0,b==0,?_,fun e x hx=>?_⟩
  ·refine wpG Tryz.func242 ((Jy ..).mpr ?_);exact brd (fun k=>absurd k h1) (fun _=>brd (fun k=>absurd k h2) (fun _=>brb (fun _=>rfl) (fun k=>by subst h3;simp at k)))
  ·have e:=cg e;subst h3 e;rw[Ax hx,zH]
 ·refine⟨0,false,?_,by simp⟩;refine wpG Tryz.func242 ((Jy ..).mpr ?_);exact brd (fun k=>absurd k h1) (fun _=>brd (fun k=>absurd k h2) (fun _=>brb (fun k=>absurd (cg k) h3) (fun _=>rfl)))
theorem ke {x:Rat} {k:Nat} (hx:Hz k x) (h:k<300000:=by omega):∃c d ok,qe CC 239 [.ag (rk (q4 x) [])] [eIv c d,eOk ok]∧IvB c d∧(ok=true→inI c d (ofR x)):=by
 have h0:=bInt (n:=65536) (by omega) (by omega);have hz:Hz 5 ((65536:Int):Rat):=Hz.int (by decide);have hm:=hx.mul hz (l:=k+5);have h1:=Mq hx hz (by omega);have h2:=IE hm (by omega);have h3:=oB hm (by omega);have h4:=IE hm.neg (by omega);have e:x*((65536:Int):Rat)=x*65536:=by rfl
 rw[e]at h1 h2 h3 h4 hm;have f1:=ls (x*65536);have f2:=ls (-(x*65536));have sf:∀{y:Rat} {j:Nat},Hz j y→j<300010→Sm y.floor:=fun{y j} hy hj=>by have hs:=(hy.sr (by omega)).1.sm;rw[lp];exact hC (Int.natAbs_ediv_le_natAbs _ _) hs
 have s1:=sf hm (by omega);have s2:=sf hm.neg (by omega);generalize (x*65536).floor=f at *;generalize (-(x*65536)).floor=g at *;have s3:Sm (-g):=by unfold Sm at s2 ⊢;rw[cc];exact s2
 have h5:=up (Yy s2);have g1:=uo s1;have g2:=uo s3;rw[xF]at h2 h4 h5 g1 g2;rw[xF]at h5;have fg:f≤ -g:=by
  have:(f:Rat)≤((-g:Int):Rat):=by rw[ll];grind
  exact ks.1 this
 by_cases o1: -9223372036854775808≤f∧f≤9223372036854775807
 ·have i1:IF f=(f,true):=if_pos o1;rw[i1]at g1;by_cases o2: -9223372036854775808≤ -g∧ -g≤9223372036854775807
  ·have i2:IF (-g)=(-g,true):=if_pos o2;rw[i2]at g2;obtain⟨c,d,ok,p1,p2,p3⟩:=A1 fg;refine⟨c,d,ok,?_,p2,fun e=>?_⟩
   ·refine wpG Tryz.func239 ((QA ..).mpr ?_);exact⟨_,h0,_,h1,_,_,h2,_,_,g1,_,h3,_,_,h4,_,_,h5,_,_,g2,brT (brT ⟨_,_,_,p1,rfl⟩)⟩
   ·obtain⟨rfl,rfl⟩:=p3 e;exact dP f1 (by rw[ll];grind)
  ·have i2:IF (-g)=(0,false):=if_neg o2;rw[i2]at g2;refine⟨0,0,false,?_,.zero,by simp⟩;refine wpG Tryz.func239 ((QA ..).mpr ?_);exact⟨_,h0,_,h1,_,_,h2,_,_,g1,_,h3,_,_,h4,_,_,h5,_,_,g2,brT (brF rfl)⟩
 ·have i1:IF f=(0,false):=if_neg o1;rw[i1]at g1;refine⟨0,0,false,?_,.zero,by simp⟩;refine wpG Tryz.func239 ((QA ..).mpr ?_);exact⟨_,h0,_,h1,_,_,h2,_,_,g1,_,h3,_,_,h4,_,_,h5,_,_,g2,brF rfl⟩
end Eng
end
section
namespace Eng
open Go Go.Proofs Rl
set_option maxRecDepth 100000
theorem O5 {a b:Nat} (h:a<b*b):qM a<b:=by
 rcases hD (qM a) b with k|k
 ·exact k
 ·have:=hY k k;have:=(jC a).1;omega
theorem IG {n:Int} (h0:0≤n) (hn:FB n):qe CC 325 [eI n] [eI (qM (n.toNat*65536):Int),eOk (decide (qM (n.toNat*65536)*qM (n.toNat*65536)=n.toNat*65536))]:=by
 unfold FB at hn;obtain⟨m,rfl⟩:=Int.eq_ofNat_of_zero_le h0;rw[bx];have hb:m*65536<549755813889*549755813889:=by omega
 have hr:=O5 hb;have h1:=up (xz (n:=(m:Int)) (by omega) (by omega));have h2:=up (xz (n:=65536) (by omega) (by omega));have sm1:Sm (m:Int):=UR (by omega) (by omega);have sm2:Sm 65536:=UR (by omega) (by omega);have h3:=up (wo sm1 sm2);have e3:(m:Int)*65536=((m*65536:Nat):Int):=by omega
 rw[e3]at h3;have hp:m*65536<1000000000^190:=hX (show m*65536<1000000000^3 by omega) (h9 (by omega) (by omega));have h4:=m6 hp;have a3:Sm (qM (m*65536):Int):=UR (by omega) (by omega);have h5:=uo a3;have i5:IF (qM (m*65536):Int)=((qM (m*65536):Int),true):=if_pos ⟨by omega,by omega⟩;rw[i5]at h5;have h6:=up (wo a3 a3);have e6:(qM (m*65536):Int)*(qM (m*65536):Int)=((qM (m*65536)*qM (m*65536):Nat):Int):=(bv _ _).symm;rw[e6]at h6;have hle:=(jC (m*65536)).1;have sms:Sm ((m*65536:Nat):Int):=ji (h8 hp (gq (by omega) (by omega)));have smq:Sm ((qM (m*65536)*qM (m*65536):Nat):Int):=ji (hC hle (h8 hp (gq (by omega) (by omega))));have h7:=up (yk smq sms);have e7:(Qi ((qM (m*65536)*qM (m*65536):Nat):Int) ((m*65536:Nat):Int)==0)=decide (qM (m*65536)*qM (m*65536)=m*65536):=by generalize qM (m*65536)*qM (m*65536)=a;rw[Bool.eq_iff_iff,beq_iff_eq,decide_eq_true_eq];unfold Qi;split<;>(try split)<;>omega
 refine wpG Tryz.func325 ((Df ..).mpr ?_);refine⟨_,_,h1,_,_,h2,_,_,h3,_,_,_,h4,_,_,h5,_,_,h6,_,h7,?_⟩;rw[e7];rfl
theorem dU {a b:Int} (h:IvB a b):∃c d ok,qe CC 275 [eIv a b] [eIv c d,eOk ok]∧IvB c d∧(ok=true→∀q:Rat,0≤q→inI a b (ofR q)→inI c d (jJ q)):=by
 obtain⟨ha,hb,hab⟩:=h;by_cases h0:b<0
 ·refine⟨0,0,false,?_,.zero,by simp⟩;refine wpG Tryz.func275 ((G3 ..).mpr ?_);exact brd (fun _=>rfl) (fun k=>absurd h0 k)
 have hm:FB (max a 0):=by unfold FB at ha ⊢;omega
 have r1:=IG (n:=max a 0) (by omega) hm;have r2:=IG (n:=b) (by omega) hb;have q1:=jC ((max a 0).toNat*65536);have q2:=jC (b.toNat*65536);have a3:(max a 0).toNat*65536≤b.toNat*65536:=by omega
 obtain⟨N,hN⟩:∃N,N=(max a 0).toNat*65536:=⟨_,rfl⟩;obtain⟨M,hM⟩:∃M,M=b.toNat*65536:=⟨_,rfl⟩;rw[←hN]at r1 q1 a3;rw[←hM]at r2 q2 a3;have mono:qM N≤qM M:=by
  rcases hD (qM M) (qM N)with k|k
  ·have:=hY (show qM M+1≤qM N from k) (show qM M+1≤qM N from k);omega
  ·exact k
 have hMb:M<549755813889*549755813889:=by unfold FB at hb;omega
 have hr:=O5 hMb;have eL:((qM N:Int))*(qM N:Int)≤max a 0*65536:=by rw[←bv];omega
 by_cases hx:qM M*qM M=M
 ·obtain⟨c,d,ok,p1,p2,p3⟩:=A1 (a:=(qM N:Int)) (b:=(qM M:Int)) (by omega);refine⟨c,d,ok,?_,p2,fun e q hq hi=>?_⟩
  ·rw[decide_eq_true hx]at r2;refine wpG Tryz.func275 ((G3 ..).mpr ?_);cases hd:decide (a<0)with
   |true=>rw[show max a 0=0 by have:=of_decide_eq_true hd;omega]at r1;exact brd (fun k=>absurd k h0) (fun _=>⟨_,_,r1,_,_,r2,brb (fun k=>by simp at k) (fun _=>⟨_,_,_,p1,rfl⟩)⟩)
   |false=>rw[show max a 0=a by have:=of_decide_eq_false hd;omega]at r1;exact brd (fun k=>absurd k h0) (fun _=>⟨_,_,r1,_,_,r2,brb (fun k=>by simp at k) (fun _=>⟨_,_,_,p1,rfl⟩)⟩)
  ·obtain⟨rfl,rfl⟩:=p3 e;refine O4 hq hi (by omega) (by omega) eL ?_;rw[←bv];omega
 ·obtain⟨c,d,ok,p1,p2,p3⟩:=A1 (a:=(qM N:Int)) (b:=(qM M:Int)+1) (by omega);refine⟨c,d,ok,?_,p2,fun e q hq hi=>?_⟩
  ·rw[decide_eq_false hx]at r2;refine wpG Tryz.func275 ((G3 ..).mpr ?_);have w:=zJ (n:=(qM M:Int)+1);cases hd:decide (a<0)with
   |true=>rw[show max a 0=0 by have:=of_decide_eq_true hd;omega]at r1;exact brd (fun k=>absurd k h0) (fun _=>⟨_,_,r1,_,_,r2,brb (fun _=>by rw[w];exact⟨_,_,_,p1,rfl⟩) (fun k=>by simp at k)⟩)
   |false=>rw[show max a 0=a by have:=of_decide_eq_false hd;omega]at r1;exact brd (fun k=>absurd k h0) (fun _=>⟨_,_,r1,_,_,r2,brb (fun _=>by rw[w];exact⟨_,_,_,p1,rfl⟩) (fun k=>by simp at k)⟩)
  ·obtain⟨rfl,rfl⟩:=p3 e;refine O4 hq hi (by omega) (by omega) eL ?_;have e2:((qM M:Int)+1)*((qM M:Int)+1)=(((qM M+1)*(qM M+1):Nat):Int):=by rw[bv];rfl
   rw[e2];omega
end Eng
end
section
namespace Eng
open Go Go.Proofs Rl
set_option maxRecDepth 100000
def mnI (a b:Int):Int:=match decide (a<b)with
 |true=>a
 |false=>b
def mxI (a b:Int):Int:=match decide (a<b)with
 |true=>b
 |false=>a
theorem m9 (a b:Int):mnI a b=min a b:=by
 unfold mnI;cases h:decide (a<b)with
 |true=>have:=of_decide_eq_true h;show a=_;omega
 |false=>have:=of_decide_eq_false h;show b=_;omega
theorem mA (a b:Int):mxI a b=max a b:=by
 unfold mxI;cases h:decide (a<b)with
 |true=>have:=of_decide_eq_true h;show b=_;omega
 |false=>have:=of_decide_eq_false h;show a=_;omega
def loN (s:Nat→Int×Int×Bool):Nat→Int
 |0=>2305843009213693952
 |n+1=>mnI (s n).1 (loN s n)
def hiN (s:Nat→Int×Int×Bool):Nat→Int
 |0=> -2305843009213693952
 |n+1=>mxI (hiN s n) (s n).2.1
theorem mB {a0 b0 a1 b1:Int} {s:Nat→Int×Int×Bool}
 (hs:∀k j,k<2→j<2→qe CC 283 [.c (.int .i64 (if k=0 then a0 else b0)),.c (.int .i64 (if j=0 then a1 else b1))] [.c (.int .i64 (s (2*k+j)).1),.c (.int .i64 (s (2*k+j)).2.1),eOk (s (2*k+j)).2.2])
 {R:List A} (hR:((∀m<4,(s m).2.2=true)→R=[eIv (loN s 4) (hiN s 4),eOk true])) (hR':(¬(∀m<4,(s m).2.2=true)→R=[eIv 0 0,eOk false])):
 qe CC 245 [eIv a0 b0,eIv a1 b1] R:=by
 refine qw (anns:=Vd ⟨[.slot 21 (.int .i64 0),.slot 6 (.int .i64 0),.slot 7 (.int .i64 0)],[],fun _ ds=>∃k:Nat,k≤2∧ds=[.int .i64 (k:Int),.int .i64 (loN s (2*k)),.int .i64 (hiN s (2*k))]∧∀m<2*k,(s m).2.2=true,fun ds=>(2-toI (nth .undef ds 0)).toNat⟩
  ⟨[.slot 31 (.int .i64 0),.slot 6 (.int .i64 0),.slot 7 (.int .i64 0)],[.slot 21 (.int .i64 0)],fun gs ds=>∃k j:Nat,k<2∧j≤2∧gs=[.int .i64 (k:Int)]∧ds=[.int .i64 (j:Int),.int .i64 (loN s (2*k+j)),.int .i64 (hiN s (2*k+j))]∧∀m<2*k+j,(s m).2.2=true,fun ds=>(2-toI (nth .undef ds 0)).toNat⟩) mixedT Tryz.func245 ?_
 show wpF _ _ _ _ [.ag [.int .i64 a0,.int .i64 b0],.ag [.int .i64 a1,.int .i64 b1]] _;rw[dT];refine⟨⟨0,by omega,rfl,by omega⟩,?_⟩;rintro i p q ⟨k,hk,he,a6⟩;simp only[fS,J8,true_and,and_true]at he;obtain⟨rfl,rfl,rfl⟩:=he;refine brd (fun h=>?_) (fun h=>?_)
 ·have a3:k<2:=by omega
  refine⟨⟨by omega,h⟩,(if k=0 then a0 else b0),?_,⟨k,0,a3,by omega,rfl,rfl,a6⟩,?_⟩
  ·rw[bx];rcases(by omega:k=0∨k=1)with rfl|rfl
   ·exact⟨rfl,gr 1⟩
   ·exact⟨rfl,gr 1⟩
  ·rintro j p q ⟨k',j',hk',hj',hg,he,a4⟩;simp only[fS,J8,true_and,and_true]at he hg;obtain⟨rfl,rfl,rfl⟩:=he;obtain rfl:k=k':=by omega
   refine brd (fun h=>?_) (fun h=>?_)
   ·have a5:j'<2:=by omega
    refine⟨⟨by omega,h⟩,(if j'=0 then a1 else b1),?_,_,_,_,hs k j' a3 a5,?_⟩
    ·rw[bx];rcases(by omega:j'=0∨j'=1)with rfl|rfl
     ·exact⟨rfl,gr 1⟩
     ·exact⟨rfl,gr 1⟩
    ·have w:Lv .i64 ((j':Int)+1)=((j'+1:Nat):Int):=by rw[zJ];omega
     rw[w];cases hb:(s (2*k+j')).2.2 with
     |false=>refine brb (fun _=>?_) (fun h=>by simp at h);exact(hR' (fun g=>by rw[g _ (by omega)]at hb;simp at hb)).symm
     |true=>
      refine brb (fun h=>by simp at h) (fun _=>⟨⟨k,j'+1,a3,by omega,rfl,rfl,fun m hm=>?_⟩,?_⟩)
      ·rcases(by omega:m<2*k+j'∨m=2*k+j')with g|rfl
       ·exact a4 m g
       ·exact hb
      ·simp only[nth,toI];omega
   ·have a5:j'=2:=by omega
    subst a5;have w:Lv .i64 ((k:Int)+1)=((k+1:Nat):Int):=by rw[zJ];omega
    rw[w];exact⟨⟨k+1,by omega,rfl,a4⟩,by simp only[nth,toI];omega⟩
 ·have a3:k=2:=by omega
  subst a3;exact(hR a6).symm
theorem mC {a0 b0 a1 b1:Int} (h:IvB a0 b0) (k:IvB a1 b1):∃c d ok,qe CC 245 [eIv a0 b0,eIv a1 b1] [eIv c d,eOk ok]∧IvB c d∧(ok=true→∀x y,inI a0 b0 x→inI a1 b1 y→inI c d (x*y)):=by
 obtain⟨l0,u0,o0,g0,f0⟩:=G4 h.1 k.1;obtain⟨l1,u1,o1,g1,f1⟩:=G4 h.1 k.2.1;obtain⟨l2,u2,o2,g2,f2⟩:=G4 h.2.1 k.1;obtain⟨l3,u3,o3,g3,f3⟩:=G4 h.2.1 k.2.1;obtain⟨s,a3,a4,a5,a6⟩:∃s:Nat→Int×Int×Bool,s 0=(l0,u0,o0)∧s 1=(l1,u1,o1)∧s 2=(l2,u2,o2)∧s 3=(l3,u3,o3):=
  ⟨fun n=>if n=0 then(l0,u0,o0)else if n=1 then(l1,u1,o1)else if n=2 then(l2,u2,o2)else(l3,u3,o3),rfl,rfl,rfl,rfl⟩
 have hs:∀k j,k<2→j<2→qe CC 283 [.c (.int .i64 (if k=0 then a0 else b0)),.c (.int .i64 (if j=0 then a1 else b1))] [.c (.int .i64 (s (2*k+j)).1),.c (.int .i64 (s (2*k+j)).2.1),eOk (s (2*k+j)).2.2]:=by
  intro k j hk hj;rcases(by omega:k=0∨k=1)with rfl|rfl<;>rcases(by omega:j=0∨j=1)with rfl|rfl
  ·show qe _ _ _ [.c (.int .i64 (s 0).1),.c (.int .i64 (s 0).2.1),eOk (s 0).2.2];rw[a3];exact g0
  ·show qe _ _ _ [.c (.int .i64 (s 1).1),.c (.int .i64 (s 1).2.1),eOk (s 1).2.2];rw[a4];exact g1
  ·show qe _ _ _ [.c (.int .i64 (s 2).1),.c (.int .i64 (s 2).2.1),eOk (s 2).2.2];rw[a5];exact g2
  ·show qe _ _ _ [.c (.int .i64 (s 3).1),.c (.int .i64 (s 3).2.1),eOk (s 3).2.2];rw[a6];exact g3
 by_cases ha:∀m<4,(s m).2.2=true
 ·have e0:=f0 (by have:=ha 0 (by omega);rwa [a3]at this);have e1:=f1 (by have:=ha 1 (by omega);rwa [a4]at this);have e2:=f2 (by have:=ha 2 (by omega);rwa [a5]at this);have e3:=f3 (by have:=ha 3 (by omega);rwa [a6]at this);have eL:loN s 4=min l3 (min l2 (min l1 (min l0 2305843009213693952))):=by simp only[loN,m9,a3,a4,a5,a6]
  have eH:hiN s 4=max (max (max (max (-2305843009213693952) u0) u1) u2) u3:=by simp only[hiN,mA,a3,a4,a5,a6]
  refine⟨loN s 4,hiN s 4,true,mB hs (fun _=>rfl) (fun g=>absurd ha g),?_,fun _ x y hx hy=>?_⟩
  ·rw[eL,eH];unfold IvB FB at *;omega
  ·rw[eL,eH];refine dQ hx hy ?_ ?_
   ·rintro p q (rfl|rfl) (rfl|rfl)<;>omega
   ·rintro p q (rfl|rfl) (rfl|rfl)<;>omega
 ·exact⟨0,0,false,mB hs (fun g=>absurd g ha) (fun _=>rfl),.zero,by simp⟩
end Eng
end
section
namespace Eng
open Go Go.Proofs
set_option maxRecDepth 100000
theorem dV (k ok:Bool) (a b:Int):Hw CB 279 [.bool k] [.ag [.int .i64 a,.int .i64 b],.c (.bool ok)] [.ag [.int .i64 a,.int .i64 b]] [.bool (k&&ok)]:=by
 refine MT (tab:=noT) (lim:=1000) (n:=40) mixedT (fun _ _ _ h=>by simp[noT]at h) rfl fun g=>?_
 cases k<;>cases ok<;>kernel_rfl
def Do:List D→List A→Bool
 |[.bool _],[.ag [.int .i64 _,.int .i64 _],.c (.bool _)]=>true
 |_,_=>false
def mD:List D→List A→List D
 |[.bool k],[_,.c (.bool ok)]=>[.bool (k&&ok)]
 |_,_=>[]
def dW:List D→List A→List A
 |_,[a,_]=>[a]
 |_,_=>[]
noncomputable def CQL:List (Nat×ZV):=[(279,Pa Do mD dW)]
noncomputable def CQ:Cx:=CX CQL
instance:EffOk CQ:=xI (jR ⟨MU (C:=CX CQL) Tryz.func279 (by simp[Tryz.f279]) (by decide) fun ds al h=>by
 unfold Do at h;split at h
 ·exact H0 rfl rfl (dV _ _ _ _)
 ·simp at h,trivial⟩)
end Eng
end
section
open Go Go.Proofs Eng
namespace Eng
section
variable (Gv:Nat→List A→List A→Prop) (I0:List D→List D→Prop) (M0:List D→Nat) (I1:List D→List D→Prop) (M1:List D→Nat) (I2:List D→List D→Prop) (M2:List D→Nat) (I3:List D→List D→Prop) (M3:List D→Nat) (Q:List A→Prop)
theorem Dp (r0:R4) (r1:R4) (r2:R4) (r3:R4) (r4:R4) (r5:R4):wpF CQ Gv an0 Tryz.f235 [.ag (rk r0 (rk r1 (rk r2 (rk r3 (rk r4 (rk r5 []))))))] Q=(∃i i_1 b,Gv 239 [aR r4] [Hv [dI i,dI i_1],aB b]∧true=true∧∃i_2 i_3 b1,Gv 275 [Hv [dI i,dI i_1]] [Hv [dI i_2,dI i_3],aB b1]∧true=true∧∃i i_4 b2,Gv 239 [aR r5] [Hv [dI i,dI i_4],aB b2]∧true=true∧∃i_5 i_6 b3,Gv 275 [Hv [dI i,dI i_4]] [Hv [dI i_5,dI i_6],aB b3]∧true=true∧bB (!(b&&b1&&b2&&b3)) (Q [aI (0:Int),aB false]) (∃i i_7 b4,Gv 239 [aR r1] [Hv [dI i,dI i_7],aB b4]∧true=true∧∃i_8 i_9 b5,Gv 245 [Hv [dI i,dI i_7],Hv [dI i_2,dI i_3]] [Hv [dI i_8,dI i_9],aB b5]∧true=true∧∃i i_10 b6,Gv 239 [aR r2] [Hv [dI i,dI i_10],aB b6]∧true=true∧∃i_11 i_12 b7,Gv 245 [Hv [dI i,dI i_10],Hv [dI i_5,dI i_6]] [Hv [dI i_11,dI i_12],aB b7]∧true=true∧∃i i_13 b8,Gv 239 [aR r3] [Hv [dI i,dI i_13],aB b8]∧true=true∧∃i_14 i_15 b9,Gv 245 [Hv [dI i_2,dI i_3],Hv [dI i_5,dI i_6]] [Hv [dI i_14,dI i_15],aB b9]∧true=true∧∃i_16 i_17 b10,Gv 245 [Hv [dI i,dI i_13],Hv [dI i_14,dI i_15]] [Hv [dI i_16,dI i_17],aB b10]∧true=true∧bB (!(b&&b1&&b2&&b3&&b4&&b5&&b6&&b7&&b8&&b9&&b10)) (Q [aI (0:Int),aB false]) (∃i i_18 b11,Gv 239 [aR r0] [Hv [dI i,dI i_18],aB b11]∧true=true∧∃i_19 i_20 b12,Gv 240 [Hv [dI i,dI i_18],Hv [dI i_8,dI i_9]] [Hv [dI i_19,dI i_20],aB b12]∧true=true∧∃i i_21 b13,Gv 240 [Hv [dI i_11,dI i_12],Hv [dI i_16,dI i_17]] [Hv [dI i,dI i_21],aB b13]∧true=true∧∃i_22 i_23 b14,Gv 240 [Hv [dI i_19,dI i_20],Hv [dI i,dI i_21]] [Hv [dI i_22,dI i_23],aB b14]∧true=true∧bB (!(b&&b1&&b2&&b3&&b4&&b5&&b6&&b7&&b8&&b9&&b10&&b11&&b12&&b13&&b14)) (Q [aI (0:Int),aB false]) (∃i b,Gv 242 [Hv [dI i_22,dI i_23]] [aI i,aB b]∧Q [aI i,aB b])))):=by kernel_rfl
end
end Eng
end
section
namespace Eng
open Go Go.Proofs Rl
set_option maxRecDepth 100000
theorem mE {r:Rt} {i j k:Nat} (hr:HT i j k r) (nn:0≤r.c) (h:i<300000∧j<300000∧k<300000:=by omega):∃c d ok,qe CC 231 [eT r] [eIv c d,eOk ok]∧IvB c d∧(ok=true→inI c d (rv r)):=by
 obtain⟨a1,a2,oa,ga,ba,ia⟩:=ke hr.1;obtain⟨b1,b2,ob,gb,bb,ib⟩:=ke hr.2.1;obtain⟨c1,c2,oc,gc,bc,ic⟩:=ke hr.2.2;obtain⟨s1,s2,os,gs,bs,is⟩:=dU bc;obtain⟨m1,m2,om,gm,bm,im⟩:=mC bb bs;obtain⟨t1,t2,ot,gt,bt,it⟩:=oF ba bm;have zz:IvB 0 0∧(false=true→inI 0 0 (rv r)):=⟨.zero,by simp⟩;cases oa with
 |false=>refine⟨a1,a2,false,?_,ba,by simp⟩;refine wpG Tryz.func231 ((vM ..).mpr ?_);exact⟨_,_,_,ga,brF rfl⟩
 |true=>
 by_cases h0:r.b=0
 ·refine⟨a1,a2,true,?_,ba,fun _=>?_⟩
  ·refine wpG Tryz.func231 ((vM ..).mpr ?_);refine⟨_,_,_,ga,brT ⟨_,vX r.b,brb (fun _=>rfl) (fun h=>?_)⟩⟩;rw[h0]at h;simp[sr]at h
  ·have:=ia rfl;unfold rv
   rwa [h0,xR,zml,ad0]
 have hs:∀{X:Prop},(sr r.b==0)=true→X:=fun h=>by rw[QE]at h;exact absurd (of_decide_eq_true h) h0
 cases ob with
 |false=>refine⟨0,0,false,?_,zz⟩;refine wpG Tryz.func231 ((vM ..).mpr ?_);exact⟨_,_,_,ga,brT ⟨_,vX r.b,brb hs (fun _=>⟨_,_,_,gb,_,_,_,gc,brF rfl⟩)⟩⟩
 |true=>
 cases oc with
 |false=>refine⟨0,0,false,?_,zz⟩;refine wpG Tryz.func231 ((vM ..).mpr ?_);exact⟨_,_,_,ga,brT ⟨_,vX r.b,brb hs (fun _=>⟨_,_,_,gb,_,_,_,gc,brT (brF rfl)⟩)⟩⟩
 |true=>
 cases os with
 |false=>refine⟨0,0,false,?_,zz⟩;refine wpG Tryz.func231 ((vM ..).mpr ?_);exact⟨_,_,_,ga,brT ⟨_,vX r.b,brb hs (fun _=>⟨_,_,_,gb,_,_,_,gc,brT (brT ⟨_,vX r.c,brd (fun _=>rfl) (fun _=>⟨_,_,_,gs,brF rfl⟩)⟩)⟩)⟩⟩
 |true=>
 have a3:∀{X:Prop},sr r.c<0→X:=fun h=>absurd (ZO.1 h) (by grind)
 cases om with
 |false=>refine⟨0,0,false,?_,zz⟩;refine wpG Tryz.func231 ((vM ..).mpr ?_);exact⟨_,_,_,ga,brT ⟨_,vX r.b,brb hs (fun _=>⟨_,_,_,gb,_,_,_,gc,brT (brT ⟨_,vX r.c,brd a3 (fun _=>⟨_,_,_,gs,brT ⟨_,_,_,gm,brF rfl⟩⟩)⟩)⟩)⟩⟩
 |true=>refine⟨t1,t2,ot,?_,bt,fun e=>it e _ _ (ia rfl) (im rfl _ _ (ib rfl) (is rfl _ nn (ic rfl)))⟩;refine wpG Tryz.func231 ((vM ..).mpr ?_);exact⟨_,_,_,ga,brT ⟨_,vX r.b,brb hs (fun _=>⟨_,_,_,gb,_,_,_,gc,brT (brT ⟨_,vX r.c,brd a3 (fun _=>⟨_,_,_,gs,brT ⟨_,_,_,gm,brT ⟨_,_,_,gt,rfl⟩⟩⟩)⟩)⟩)⟩⟩
theorem XI {a b m:Rat} {i j k:Nat} (ha:Hz i a) (hb:Hz j b) (hm:Hz k m) (h:2*i<360000∧2*j+k<360000:=by omega):
 qe CC 174 [.ag (rk (q4 a) []),.ag (rk (q4 b) []),.ag (rk (q4 m) [])] [.c (.int .i64 (tw a b m))]:=by
 refine wpG Tryz.func174 ((Dg ..).mpr ?_);have h2:=hb.mul hb (l:=2*j);refine⟨_,vX a,_,vX b,_,vX m,?_⟩;rw[wx (HM b) (HM m)];unfold tw;refine brb (fun h1=>?_) (fun h1=>?_)
 ·rw[if_pos (.inl (cg h1))]
 have n1:¬sr b*sr m=0:=by simpa using h1
 refine brb (fun h3=>?_) (fun h3=>?_)
 ·rw[if_pos (.inr (cg h3))]
 have n3:¬sr a=sr b*sr m:=by simpa using h3
 rw[if_neg (by simp[n1,n3])];refine brb (fun h4=>?_) (fun h4=>?_)
 ·rw[if_pos (cg h4)]
 have n4:¬sr a=0:=by simpa using h4
 rw[if_neg n4];refine⟨_,Mq ha ha,_,Mq hb hb,_,Mq h2 hm,_,oC (ha.mul ha (l:=2*i)) (h2.mul hm (l:=2*j+k)),?_⟩;rw[wx (HM a) (HM _)]
theorem Dq {r s:Rt} {i j k:Nat} (hr:HT i j k r) (hs:HT i j k s) (ho:okT r) (hp:okT s) (h:i<300000∧j<300000∧k<300000:=by omega):
 ∃n ok,qe CC 173 [eT r,eT s] [eI n,eOk ok]∧(ok=true→n=sg (rv r-rv s)):=by
 obtain⟨a1,a2,oa,ga,_,ia⟩:=mE hr ho.nn;obtain⟨b1,b2,ob,gb,_,ib⟩:=mE hs hp.nn;cases oa with
 |false=>refine⟨0,false,?_,by simp⟩;refine wpG Tryz.func173 ((yE ..).mpr ?_);exact⟨_,_,_,ga,_,_,_,gb,brF rfl⟩
 |true=>
 cases ob with
 |false=>refine⟨0,false,?_,by simp⟩;refine wpG Tryz.func173 ((yE ..).mpr ?_);exact⟨_,_,_,ga,_,_,_,gb,brT (brF rfl)⟩
 |true=>
 by_cases h1:a2<b1
 ·refine⟨-1,true,?_,fun _=>(Vo (Np.2 (ID (ia rfl) (ib rfl) h1))).symm⟩;refine wpG Tryz.func173 ((yE ..).mpr ?_);exact⟨_,_,_,ga,_,_,_,gb,brT (brT (brd (fun _=>rfl) (fun k=>absurd h1 k)))⟩
 by_cases h2:a1>b2
 ·refine⟨1,true,?_,fun _=>(ZI (HG.2 (ID (ib rfl) (ia rfl) h2))).symm⟩;refine wpG Tryz.func173 ((yE ..).mpr ?_);exact⟨_,_,_,ga,_,_,_,gb,brT (brT (brd (fun k=>absurd k h1) (fun _=>brd (fun _=>rfl) (fun k=>absurd h2 k))))⟩
 ·refine⟨0,false,?_,by simp⟩;refine wpG Tryz.func173 ((yE ..).mpr ?_);exact⟨_,_,_,ga,_,_,_,gb,brT (brT (brd (fun k=>absurd k h1) (fun _=>brd (fun k=>absurd k h2) (fun _=>rfl))))⟩
end Eng
end
section
namespace Eng
open Go Go.Proofs Rl
set_option maxRecDepth 100000
theorem upQ {f:Nat} {al rs:List A} (h:qe CC f al rs):qe CQ f al rs:=jT rfl rfl h
theorem Dr {a b c d m n:Rat} {i:Nat} (ha:Hz i a) (hb:Hz i b) (hc:Hz i c) (hd:Hz i d) (hm:Hz i m) (hn:Hz i n) (hm0:0≤m) (hn0:0≤n) (h:i<300000:=by omega):
 ∃z ok,qe CC 235 [.ag (rk (q4 a) (rk (q4 b) (rk (q4 c) (rk (q4 d) (rk (q4 m) (rk (q4 n) []))))))] [eI z,eOk ok]∧(ok=true→z=sg (qv a b c d m n)):=by
 obtain⟨_,_,o1,g1,k1,i1⟩:=ke hm;obtain⟨_,_,o2,g2,k2,i2⟩:=dU k1;obtain⟨_,_,o3,g3,k3,i3⟩:=ke hn;obtain⟨_,_,o4,g4,k4,i4⟩:=dU k3;obtain⟨_,_,o5,g5,k5,i5⟩:=ke hb;obtain⟨_,_,o6,g6,k6,i6⟩:=mC k5 k2;obtain⟨_,_,o7,g7,k7,i7⟩:=ke hc;obtain⟨_,_,o8,g8,k8,i8⟩:=mC k7 k4;obtain⟨_,_,o9,g9,k9,i9⟩:=ke hd;obtain⟨_,_,p0,h0,l0,j0⟩:=mC k2 k4;obtain⟨_,_,p1,h1,l1,j1⟩:=mC k9 l0;obtain⟨_,_,p2,h2,l2,j2⟩:=ke ha;obtain⟨_,_,p3,h3,l3,j3⟩:=oF l2 k6;obtain⟨_,_,p4,h4,l4,j4⟩:=oF k8 l1;obtain⟨_,_,p5,h5,l5,j5⟩:=oF l3 l4;obtain⟨z,oz,hz,iz⟩:=cSgn _ _;refine⟨if(o1&&o2&&o3&&o4&&o5&&o6&&o7&&o8&&o9&&p0&&p1&&p2&&p3&&p4&&p5)=true then z else 0,o1&&o2&&o3&&o4&&o5&&o6&&o7&&o8&&o9&&p0&&p1&&p2&&p3&&p4&&p5&&oz,?_,fun e=>?_⟩
 ·refine jT (C:=CQ) rfl rfl (qw (C:=CQ) (anns:=an0) mixedT Tryz.func235 ((Dp ..).mpr ?_));refine⟨_,_,_,upQ g1,rfl,_,_,_,upQ g2,rfl,_,_,_,upQ g3,rfl,_,_,_,upQ g4,rfl,?_⟩;cases o1
  ·rfl
  cases o2
  ·rfl
  cases o3
  ·rfl
  cases o4
  ·rfl
  refine⟨_,_,_,upQ g5,rfl,_,_,_,upQ g6,rfl,_,_,_,upQ g7,rfl,_,_,_,upQ g8,rfl,_,_,_,upQ g9,rfl,_,_,_,upQ h0,rfl,_,_,_,upQ h1,rfl,?_⟩;cases o5
  ·rfl
  cases o6
  ·rfl
  cases o7
  ·rfl
  cases o8
  ·rfl
  cases o9
  ·rfl
  cases p0
  ·rfl
  cases p1
  ·rfl
  refine⟨_,_,_,upQ h2,rfl,_,_,_,upQ h3,rfl,_,_,_,upQ h4,rfl,_,_,_,upQ h5,rfl,?_⟩;cases p2
  ·rfl
  cases p3
  ·rfl
  cases p4
  ·rfl
  cases p5
  ·rfl
  exact⟨_,_,upQ hz,rfl⟩
 ·rw[Bx]at e;obtain⟨e,ez⟩:=e;rw[if_pos e];simp only[Bx]at e;obtain⟨⟨⟨⟨⟨⟨⟨⟨⟨⟨⟨⟨⟨⟨q1,q2⟩,q3⟩,q4⟩,q5⟩,q6⟩,q7⟩,q8⟩,q9⟩,r0⟩,r1⟩,r2⟩,r3⟩,r4⟩,r5⟩:=e;have vm:=i2 q2 _ hm0 (i1 q1);have vn:=i4 q4 _ hn0 (i3 q3);rw[iz ez _ (j5 r5 _ _ (j3 r3 _ _ (j2 r2) (i6 q6 _ _ (i5 q5) vm)) (j4 r4 _ _ (i8 q8 _ _ (i7 q7) vn) (j1 r1 _ _ (i9 q9) (j0 r0 _ _ vm vn))))];congr 1;unfold qv;generalize jJ m=x;generalize jJ n=y;obtain⟨x,rfl⟩:=x.rep;obtain⟨y,rfl⟩:=y.rep;exact xD fun n=>by simp only[zi,kA,jZ];grind
theorem Mr {x y:Rat} {j k:Nat} (hx:Hz j x) (hy:Hz k y) (h:j<360000∧k<360000:=by omega):qe CC 236 [.ag (rk (q4 x) []),.ag (rk (q4 y) [])] [.ag (rk (q4 (x+y)) [])]:=by
 refine wpG Tryz.func236 ((dJ ..).mpr ?_);exact⟨_,bAdd hx hy h,rfl⟩
theorem A2 {a b c d m n:Rat} {i j k:Nat} (ha:Hz i a) (hb:Hz j b) (hc:Hz j c) (hd:Hz 0 d) (hm:Hz k m) (hn:Hz k n) (hm0:0≤m) (hn0:0≤n) (h:4*i+(8*j+6*k)<299000:=by omega):
 qe CC 176 [.ag (rk (q4 a) (rk (q4 b) (rk (q4 c) (rk (q4 d) (rk (q4 m) (rk (q4 n) []))))))] [.c (.int .i64 (qs a b c d m n))]:=by
 have a9:=hc.mul hc (l:=2*j);have ag:=hd.mul hd (l:=0);have a4:=hm.mul ag (l:=k);have hs:=a9.add a4 (l:=2*j+k+1);have al:=hn.mul hs (l:=2*j+2*k+1);have a6:=ha.mul ha (l:=2*i);have a8:=hb.mul hb (l:=2*j);have a3:=hm.mul a8 (l:=2*j+k);have an:=a6.add a3 (l:=2*i+2*j+k+1);have hA:=an.sub al (l:=2*i+4*j+3*k+3);have a7:=ha.mul hb (l:=i+j);have ad:=hc.mul hd (l:=j);have a5:=hn.mul ad (l:=k+j);have hB:=a7.sub a5 (l:=i+2*j+k+1);have hBB:=hB.add hB (l:=2*i+4*j+2*k+3);obtain⟨z,oz,gz,iz⟩:=Dr (i:=i+j+k) (ha.mono (by omega)) (hb.mono (by omega)) (hc.mono (by omega)) (hd.mono (by omega)) (hm.mono (by omega)) (hn.mono (by omega)) hm0 hn0;refine wpG Tryz.func176 ((Ao ..).mpr ?_);refine⟨_,vX m,?_⟩;refine brd (fun h=>absurd (ZO.1 h) (by grind)) (fun _=>?_);refine⟨_,vX n,?_⟩;refine brd (fun h=>absurd (ZO.1 h) (by grind)) (fun _=>?_);refine⟨_,_,gz,?_⟩;refine zQ (fun e=>?_) (fun _=>?_)
 ·rw[iz e,bP _ _ _ _ hm0 hn0]
 refine⟨_,XI ha hb hm (by omega),_,XI hc hd hm (by omega),_,vX n,?_⟩;rw[wx (eS _ _ _) (HM n)];unfold qs;refine brb (fun h1=>?_) (fun h1=>?_)
 ·rw[if_pos (.inl (cg h1))]
 have n1:¬tw c d m*sr n=0:=by simpa using h1
 refine brb (fun h3=>?_) (fun h3=>?_)
 ·rw[if_pos (.inr (cg h3))]
 have n3:¬tw a b m=tw c d m*sr n:=by simpa using h3
 rw[if_neg (by simp[n1,n3])];refine brb (fun h4=>?_) (fun h4=>?_)
 ·rw[if_pos (cg h4)]
 have n4:¬tw a b m=0:=by simpa using h4
 rw[if_neg n4];refine⟨_,Mq ha ha,_,Mq hb hb,_,Mq hm a8,_,Mr a6 a3,_,Mq hc hc,_,Mq hd hd,_,Mq hm ag,_,Mr a9 a4,_,Mq hn hs,_,m0 an al,
  _,Mq ha hb,_,Mq hc hd,_,Mq hn ad,_,m0 a7 a5,_,Mr hB hB,_,XI hA hBB hm (by omega),?_⟩
 rw[wx (eS _ _ _) (eS _ _ _),N2,lg m (b*b),lg m (d*d)]
theorem Zz {x:Rat} {k:Nat} (hx:Hz k x) (h:k<360000:=by omega):qe CC 237 [.ag (rk (q4 x) [])] [.ag (rk (q4 x) [])]:=by
 refine wpG Tryz.func237 ((Rm ..).mpr ?_);have:=oB hx.neg h;rw[Rat.neg_neg]at this;exact⟨_,oB hx h,_,this,rfl⟩
theorem mF {a b:Rat}:(sr (a-b)==0)=true↔a=b:=by
 rw[QE,decide_eq_true_eq];exact Ru
theorem Ds {r s:Rt} {i j k:Nat} (hr:HT i j k r) (hs:HT i j k s) (ho:okT r) (hp:okT s) (h:8*i+(8*j+6*k)<298900:=by omega):
 qe CC 115 [.ag (kT r []),.ag (kT s [])] [.c (.int .i64 (sg (rv r-rv s)))]:=by
 obtain⟨z,oz,gz,iz⟩:=Dq hr hs ho hp;have a3:qe CC 177 [.ag (kT r []),.ag (kT s [])] [.ag (rk (q4 (r.a-s.a)) (rk (q4 r.b) (rk (q4 (-s.b)) (rk (q4 0) (rk (q4 r.c) (rk (q4 s.c) []))))))]:=by refine wpG Tryz.func177 ((dK ..).mpr ?_);exact⟨_,m0 hr.1 hs.1,_,Zz hr.2.1,_,oB hs.2.1,_,b0,_,Zz hr.2.2,_,Zz hs.2.2,rfl⟩
 have a6:=A2 (i:=2*i+1) (j:=j) (k:=k) (hr.1.sub hs.1 (by omega)) hr.2.1 hs.2.1.neg Hz.zero hr.2.2 hs.2.2 ho.nn hp.nn (by omega);rw[bP _ _ _ _ ho.nn hp.nn,Id]at a6;have a5:r.c=s.c→tw (r.a-s.a) (r.b-s.b) r.c=sg (rv r-rv s):=fun e=>by rw[Pm _ _ ho.nn];congr 1;unfold rv;rw[←e];generalize jJ r.c=x;obtain⟨x,rfl⟩:=x.rep;rw[vC,vC];exact xD fun n=>by simp only[zi,zF,kA,jZ];grind
 have a4:br (toB (J7 (sr (r.c-s.c)==0)))
  (∃x,qe CC 175 [.ag (rk (q4 r.a) []),.ag (rk (q4 s.a) [])] [.ag (rk x [])]∧∃x_1,qe CC 175 [.ag (rk (q4 r.b) []),.ag (rk (q4 s.b) [])] [.ag (rk x_1 [])]∧∃i,qe CC 174 [.ag (rk x []),.ag (rk x_1 []),.ag (rk (q4 r.c) [])] [.c (.int .i64 i)]∧[Hx (.int .i64 i)]=[.c (.int .i64 (sg (rv r-rv s)))])
  (∃x x_1,qe CC 177 [.ag (kT r []),.ag (kT s [])] [.ag (pk x (rk x_1 []))]∧∃i,qe CC 176 [.ag (pk x (rk x_1 []))] [.c (.int .i64 i)]∧[Hx (.int .i64 i)]=[.c (.int .i64 (sg (rv r-rv s)))]):=by
  refine brb (fun e=>?_) (fun _=>?_)
  ·have e:=mF.1 e;refine⟨_,m0 hr.1 hs.1,_,m0 hr.2.1 hs.2.1,_,XI (hr.1.sub hs.1 (l:=2*i+1)) (hr.2.1.sub hs.2.1 (l:=2*j+1)) hr.2.2 (by omega),?_⟩;rw[a5 e]
  ·exact⟨⟨_,_,_,_,_⟩,_,a3,_,a6,rfl⟩
 have a7:∃i b,qe CC 173 [.ag (kT r []),.ag (kT s [])] [.c (.int .i64 i),.c (.bool b)]∧br b ([Hx (.int .i64 i)]=[.c (.int .i64 (sg (rv r-rv s)))])
  (∃i,qe CC 172 [.ag (rk (q4 r.c) []),.ag (rk (q4 s.c) [])] [.c (.int .i64 i)]∧br (toB (J7 (i==0)))
  (∃x,qe CC 175 [.ag (rk (q4 r.a) []),.ag (rk (q4 s.a) [])] [.ag (rk x [])]∧∃x_1,qe CC 175 [.ag (rk (q4 r.b) []),.ag (rk (q4 s.b) [])] [.ag (rk x_1 [])]∧∃i,qe CC 174 [.ag (rk x []),.ag (rk x_1 []),.ag (rk (q4 r.c) [])] [.c (.int .i64 i)]∧[Hx (.int .i64 i)]=[.c (.int .i64 (sg (rv r-rv s)))])
  (∃x x_1,qe CC 177 [.ag (kT r []),.ag (kT s [])] [.ag (pk x (rk x_1 []))]∧∃i,qe CC 176 [.ag (pk x (rk x_1 []))] [.c (.int .i64 i)]∧[Hx (.int .i64 i)]=[.c (.int .i64 (sg (rv r-rv s)))])):=by
  refine⟨_,_,gz,zQ (fun e=>by rw[iz e]) (fun _=>⟨_,oC hr.2.2 hs.2.2,a4⟩)⟩
 refine wpG Tryz.func115 ((dL ..).mpr ?_);refine⟨_,vX r.b,?_⟩;rw[QE];refine brd (fun h1=>?_) (fun _=>a7);refine⟨_,vX s.b,?_⟩;rw[QE];refine brd (fun h2=>?_) (fun _=>a7);refine⟨_,oC hr.1 hs.1,?_⟩;unfold rv;rw[h1,h2,xR,zml,zml,ad0,ad0,EM,vC]
theorem A3:qe CC 60 [] [.ag (rk (q4 0) [])]:=by
 refine wpG Tryz.func60 ((Ap ..).mpr ?_);exact⟨_,b0,rfl⟩
theorem US (a b c:Rat):qe CC 112 [.ag (rk (q4 a) []),.ag (rk (q4 b) []),.ag (rk (q4 c) [])] [.ag (kT (kD a b c) [])]:=by
 refine wpG Tryz.func112 ((Dh ..).mpr ?_);refine⟨_,vX b,?_⟩;rw[QE];unfold kD;refine brd (fun h=>?_) (fun h=>?_)
 ·rw[if_pos h];refine⟨_,A3,?_⟩;rw[h];rfl
 ·rw[if_neg h];rfl
theorem mG (p:P5):qe CC 62 [.ag (pk (kP p) [])] [.ag (kT (xP p) [])]:=by
 refine wpG Tryz.func62 ((uh ..).mpr ?_);exact⟨_,_,_,US _ _ _,rfl⟩
theorem mH (p:P5):qe CC 116 [.ag (pk (kP p) [])] [.ag (kT (yP p) [])]:=by
 refine wpG Tryz.func116 ((ui ..).mpr ?_);exact⟨_,_,_,US _ _ _,rfl⟩
theorem dX {p q:P5} {k:Nat} (hp:HP k p) (hq:HP k q) (ho:okP p) (hr:okP q) (h:k≤12000:=by omega):
 qe CC 162 [.ag (pk (kP p) []),.ag (pk (kP q) [])] [.c (.int .i64 (ja p q))]:=by
 refine wpG Tryz.func162 ((dM ..).mpr ?_);have h1:=Ds hp.tx hq.tx (ZP ho) (ZP hr);have h2:=Ds hp.ty hq.ty (ZQ ho) (ZQ hr);rw[WE,WE]at h1;rw[Lc,Lc]at h2;refine⟨_,_,_,mG p,_,_,_,mG q,_,h1,?_⟩;unfold ja;refine brb (fun h=>?_) (fun h=>?_)
 ·rw[if_neg (by simpa using h)]
 ·rw[if_pos (by simpa using h)];exact⟨_,_,_,mH p,_,_,_,mH q,_,h2,rfl⟩
theorem mI {p q:P5} {k:Nat} (hp:HP k p) (hq:HP k q) (ho:okP p) (hr:okP q) (h:k≤12000:=by omega):
 qe CC 104 [.ag (pk (kP p) []),.ag (pk (kP q) [])] [.c (.bool (kO p q))]:=by
 refine wpG Tryz.func104 ((mp ..).mpr ?_);exact⟨_,dX hp hq ho hr h,rfl⟩
end Eng
end
section
namespace Eng
open Go Go.Proofs Rl
set_option maxRecDepth 100000
theorem yY {x y:Rat} {j k:Nat} (hx:Hz j x) (hy:Hz k y) (h:j<360000∧k<360000:=by omega):qe CC 182 [.ag (rk (q4 x) []),.ag (rk (q4 y) [])] [.ag (rk (q4 (x*y)) [])]:=by
 refine wpG Tryz.func182 ((Aq ..).mpr ?_);exact⟨_,Mq hx hy h,rfl⟩
theorem Z0 {x y:Rat} {j k:Nat} (hx:Hz j x) (hy:Hz k y) (h:j<360000∧k<360000:=by omega):qe CC 219 [.ag (rk (q4 x) []),.ag (rk (q4 y) [])] [.c (.bool (decide (x=y)))]:=by
 refine wpG Tryz.func219 ((dN ..).mpr ?_);refine⟨_,oC hx hy h,?_⟩;rw[QE,decide_eq_decide.2 Ru]
theorem UT {l m:Ln} (hl:HL l) (hm:HL m):qe CC 161 [.ag (kL l []),.ag (kL m [])] [.c (.bool (EO l m))]:=by
 refine wpG Tryz.func161 ((Ar ..).mpr ?_);unfold EO;refine⟨_,yY hl.1 hm.2.1,_,yY hm.1 hl.2.1,_,Z0 (hl.1.mul hm.2.1 (l:=90)) (hm.1.mul hl.2.1 (l:=90)),?_⟩;rw[lg m.a l.b];refine zQ (fun h1=>?_) (fun h1=>?_)
 ·rw[h1];refine⟨_,yY hl.1 hm.2.2,_,yY hm.1 hl.2.2,_,Z0 (hl.1.mul hm.2.2 (l:=250)) (hm.1.mul hl.2.2 (l:=250)),?_⟩;rw[lg m.a l.c];refine zQ (fun h2=>?_) (fun h2=>?_)
  ·rw[h2];refine⟨_,yY hl.2.1 hm.2.2,_,yY hm.2.1 hl.2.2,_,Z0 (hl.2.1.mul hm.2.2 (l:=250)) (hm.2.1.mul hl.2.2 (l:=250)),?_⟩;rw[lg m.b l.c];rfl
  ·rw[h2];rfl
 ·rw[h1];rfl
theorem WH {c d:Ci} (hc:HC c) (hd:HC d):qe CC 153 [.ag (kC c []),.ag (kC d [])] [.c (.bool (Rr c d))]:=by
 refine wpG Tryz.func153 ((As ..).mpr ?_);unfold Rr;refine⟨_,Z0 hc.1 hd.1,?_⟩;refine zQ (fun h1=>?_) (fun h1=>?_)
 ·rw[h1];refine⟨_,Z0 hc.2.1 hd.2.1,?_⟩;refine zQ (fun h2=>?_) (fun h2=>?_)
  ·rw[h2];exact⟨_,Z0 hc.2.2 hd.2.2,rfl⟩
  ·rw[h2];rfl
 ·rw[h1];rfl
theorem A4 {c d:Cu} (hc:Gs c) (hd:Gs d):qe CC 103 [.ag (ck (kU c) []),.ag (ck (kU d) [])] [.c (.bool (zL c d))]:=by
 refine wpG Tryz.func103 ((At ..).mpr ?_);obtain⟨arc,ln,ci,cw,fr,tt,jk⟩:=c;obtain⟨a3,ln2,ci2,cw2,fr2,tt2,jk2⟩:=d;unfold zL;cases arc with
 |false=>
  have h1:HL ln:=by rcases hc.2 with h|h;cases h.1;exact h.2.1
  cases a3 with
  |false=>
   have h2:HL ln2:=by rcases hd.2 with h|h;cases h.1;exact h.2.1
   refine brb (fun h=>by cases h) (fun _=>brb (fun h=>by cases h) (fun _=>⟨_,UT h1 h2,rfl⟩))
  |true=>exact brb (fun _=>rfl) (fun h=>by cases h)
 |true=>
  have h1:HC ci:=by rcases hc.2 with h|h;exact h.2.1;cases h.1
  cases a3 with
  |false=>exact brb (fun _=>rfl) (fun h=>by cases h)
  |true=>
   have h2:HC ci2:=by rcases hd.2 with h|h;exact h.2.1;cases h.1
   refine brb (fun h=>by cases h) (fun _=>brb (fun _=>⟨_,WH h1 h2,rfl⟩) (fun h=>by cases h))
theorem IH {p q:P5} (hp:Gp p) (hq:Gp q):qe CC 104 [.ag (pk (kP p) []),.ag (pk (kP q) [])] [.c (.bool (kO p q))]:=mI hp.1 hq.1 hp.2 hq.2
theorem Ro {c d:Cu} (hc:Gc c) (hd:Gc d):qe CC 57 [.ag (ck (kU c) []),.ag (ck (kU d) [])] [.c (.bool (eqC c d))]:=by
 refine wpG Tryz.func57 ((Di ..).mpr ?_);have h1:=IH hc.2.1 hd.2.1;have h2:=IH hc.2.2 hd.2.2;rw[←kH,←kH]at h1;rw[←vG,←vG]at h2;refine⟨_,A4 hc.1 hd.1,?_⟩;unfold eqC;rw[ZY,ZY];refine zQ (fun h=>?_) (fun h=>?_)
 ·rw[h,Aw];refine brb (fun h=>?_) (fun h=>?_)
  ·rw[h,Aw];refine⟨_,h1,?_⟩;refine zQ (fun h=>?_) (fun h=>?_)
   ·rw[h,Aw];exact⟨_,h2,rfl⟩
   ·rw[h];rfl
  ·rw[h];rfl
 ·rw[h];rfl
end Eng
end
section
open Go Go.Proofs Eng
namespace Eng
section
variable (Gv:Nat→List A→List A→Prop) (I0:List D→List D→Prop) (M0:List D→Nat) (I1:List D→List D→Prop) (M1:List D→Nat) (I2:List D→List D→Prop) (M2:List D→Nat) (I3:List D→List D→Prop) (M3:List D→Nat) (Q:List A→Prop)
theorem Ak (l0:List (List D)) (s0:List UInt8):wpF CC Gv (fun _=>⟨[.slot 8 (.int .i64 0)],[],I0,M0⟩) Tryz.f54 [.c (.sl l0),.c (.clo 55 [.ptr [.str s0]])] Q=(I0 [] [dI (0:Int)]∧∀(i:Int),I0 [] [dI i]→bB (decide (i<(W1 l0.length))) (rO l0 i 4∧∃s i_1 i_2 es,cU l0 i 0 4 [J4 s,dI i_1,dI i_2,Hy es]∧∃b,Gv 55 [Hv [J4 s,dI i_1,dI i_2,Hy es],Hx (D.ptr [J4 s0])] [aB b]∧br b (Q [aI i]) (I0 [] [dI (Lv .i64 (i+1))]∧M0 [dI (Lv .i64 (i+1))]<M0 [dI i])) (Q [aI (-1:Int)])):=by kernel_rfl
theorem Da (s0:List UInt8) (k0:Int) (d0:Int) (l0:List (List D)) (s1:List UInt8):wpF CC Gv an0 Tryz.f55 [.ag [.str s0,.int .i64 k0,.int .i64 d0,.sl l0],.c (.ptr [.str s1])] Q=(∃s,cut [J4 s1] 0 1 [J4 s]∧Q [aB (s0==s)]):=by kernel_rfl
theorem dC (l0:List (List D)) (l1:List (List D)) (Q:List A→Prop):wpF CC Gv (fun _=>⟨[.slot 17 (.int .i64 0)],[],I0,M0⟩) Tryz.f30 [.c (.sl l0),.c (.sl l1),.c (.fn 31)] Q=(bB ((W1 l0.length) !=(W1 l1.length)) (Q [aB false]) (I0 [] [dI (0:Int)]∧∀(i:Int),I0 [] [dI i]→bB (decide (i<(W1 l0.length))) (rO l0 i 4∧∃s i_1 i_2 es,cU l0 i 0 4 [J4 s,dI i_1,dI i_2,Hy es]∧rO l1 i 4∧∃s1 i_3 i_4 e1,cU l1 i 0 4 [J4 s1,dI i_3,dI i_4,Hy e1]∧∃b,Gv 31 [Hv [J4 s,dI i_1,dI i_2,Hy es],Hv [J4 s1,dI i_3,dI i_4,Hy e1]] [aB b]∧bB (!b) (Q [aB false]) (I0 [] [dI (Lv .i64 (i+1))]∧M0 [dI (Lv .i64 (i+1))]<M0 [dI i])) (Q [aB true]))):=by kernel_rfl
theorem dD (s0:List UInt8) (k0:Int) (d0:Int) (l0:List (List D)) (s1:List UInt8) (k1:Int) (d1:Int) (l1:List (List D)) (Q:List A→Prop):wpF CC Gv an0 Tryz.f31 [.ag [.str s0,.int .i64 k0,.int .i64 d0,.sl l0],.ag [.str s1,.int .i64 k1,.int .i64 d1,.sl l1]] Q=(bB (s0==s1) (bB (k0==k1) (bB (d0==d1) (∃b,Gv 32 [Hv [Hy l0],Hv [Hy l1]] [aB b]∧Q [aB b]) (Q [aB false])) (Q [aB false])) (Q [aB false])):=by kernel_rfl
theorem Db (l0:List (List D)) (l1:List (List D)):wpF CC Gv an0 Tryz.f32 [.ag [.sl l0],.ag [.sl l1]] Q=(∃b,Gv 56 [aL l0,aL l1,Hx (D.fn 57)] [aB b]∧Q [aB b]):=by kernel_rfl
theorem dE (l0:List (List D)) (l1:List (List D)) (Q:List A→Prop):wpF CC Gv (fun _=>⟨[.slot 17 (.int .i64 0)],[],I0,M0⟩) Tryz.f56 [.c (.sl l0),.c (.sl l1),.c (.fn 57)] Q=(bB ((W1 l0.length) !=(W1 l1.length)) (Q [aB false]) (I0 [] [dI (0:Int)]∧∀(i:Int),I0 [] [dI i]→bB (decide (i<(W1 l0.length))) (rO l0 i 66∧∃x,cU l0 i 0 66 (ck x [])∧rO l1 i 66∧∃x1,cU l1 i 0 66 (ck x1 [])∧∃b,Gv 57 [aC x,aC x1] [aB b]∧bB (!b) (Q [aB false]) (I0 [] [dI (Lv .i64 (i+1))]∧M0 [dI (Lv .i64 (i+1))]<M0 [dI i])) (Q [aB true]))):=by kernel_rfl
theorem Rj (l0:List (List D)) (s0:List UInt8):wpF CC Gv (fun _=>⟨[.slot 64 (.int .i64 0)],[],I0,M0⟩) Tryz.f3 [.c (.sl l0),.c (.str s0)] Q=(∃i es b,Gv 6 [aL l0] [Hv [dI i,Hy es],aB b]∧∃b1,Gv 7 [] [aB b1]∧bB (!b1) (∃b,Gv 7 [] [aB b]∧Q [aB b]) (bB (!b) (∃b,Gv 7 [] [aB b]∧Q [aB b]) (∃i_1,Gv 8 [Hv [dI i,Hy es]] [aI i_1]∧bB (i_1 !=0) (∃b,Gv 7 [] [aB b]∧Q [aB b]) (∃e1,Gv 9 [Hv [dI i,Hy es]] [aL e1]∧∃e2,Gv 10 [Hv [dI i,Hy es]] [aL e2]∧∃i_2 i_3,Gv 11 [Hv [dI i,Hy es],Hx (J4 s0)] [aI i_2,aI i_3]∧∃i_4 i_5,Gv 12 [Hv [dI i,Hy es],Hx (J4 s0)] [aI i_4,aI i_5]∧bB ((W1 e1.length) !=(W1 e2.length)) (Q [aB false]) (bB (i_2 !=i_4) (Q [aB false]) (bB (i_3 !=i_5) (Q [aB false]) (I0 [] [dI (0:Int)]∧∀(i:Int),I0 [] [dI i]→bB (decide (i<(W1 e1.length))) (rO e1 i 1∧∃i_6,cU e1 i 0 1 [dI i_6]∧rO e2 i 1∧∃i_7,cU e2 i 0 1 [dI i_7]∧bB (i_6 !=i_7) (Q [aB false]) (I0 [] [dI (Lv .i64 (i+1))]∧M0 [dI (Lv .i64 (i+1))]<M0 [dI i])) (Q [aB true])))))))):=by kernel_rfl
theorem Dc (l0:List (List D)) (l1:List (List D)) (b0:Bool) (Q:List A→Prop):wpF CC Gv an0 Tryz.f4 [.c (.sl l0),.c (.sl l1),.c (.bool b0)] Q=(∃i es b,Gv 6 [aL l0] [Hv [dI i,Hy es],aB b]∧∃i_1 e1 b1,Gv 6 [aL l1] [Hv [dI i_1,Hy e1],aB b1]∧∃b2,Gv 7 [] [aB b2]∧bB (!b2) (∃b,Gv 7 [] [aB b]∧Q [aB b]) (bB (!b) (∃b,Gv 7 [] [aB b]∧Q [aB b]) (bB (!b1) (∃b,Gv 7 [] [aB b]∧Q [aB b]) (br b0 (∃b,Gv 13 [Hv [dI i,Hy es],Hv [dI i,Hy es]] [aB b]∧∃b3,Gv 14 [Hv [dI i,Hy es],Hv [dI i,Hy es]] [aB b3]∧bB (b==b3) (∃b,Gv 13 [Hv [dI i,Hy es],Hv [dI i,Hy es]] [aB b]∧Q [aB b]) (Q [aB false])) (∃b,Gv 13 [Hv [dI i,Hy es],Hv [dI i_1,Hy e1]] [aB b]∧∃b3,Gv 14 [Hv [dI i,Hy es],Hv [dI i_1,Hy e1]] [aB b3]∧bB (b==b3) (∃b,Gv 13 [Hv [dI i,Hy es],Hv [dI i,Hy es]] [aB b]∧Q [aB b]) (Q [aB false])))))):=by kernel_rfl
end
end Eng
end
section
open Go Go.Proofs Eng
namespace Eng
section
variable (Gv:Nat→List A→List A→Prop) (I0:List D→List D→Prop) (M0:List D→Nat) (I1:List D→List D→Prop) (M1:List D→Nat) (I2:List D→List D→Prop) (M2:List D→Nat) (I3:List D→List D→Prop) (M3:List D→Nat) (Q:List A→Prop)
theorem UN (t0:Int) (l0:List (List D)):wpF CC Gv (Vd ⟨[.slot 4 (.int .i64 0),.own 3 57 1],[],I0,M0⟩ ⟨[.slot 6 (.int .i64 0)],[.slot 4 (.int .i64 0),.slot 5 (.int .i64 0),.own 3 57 1],I1,M1⟩) Tryz.f10 [.ag [.int .i64 t0,.sl l0]] Q=(I0 [] [dI (0:Int),Hy []]∧∀(i:Int) (es:List (List D)),I0 [] [dI i,Hy es]→bB (decide (i<(W1 l0.length))) (rO l0 i 4∧∃i_1,cU l0 i 2 1 [dI i_1]∧I1 [dI i,dI i_1,Hy es] [dI (0:Int)]∧∀(i_2:Int),I1 [dI i,dI i_1,Hy es] [dI i_2]→bB (decide (i_2<(W1 es.length))) ((0≤i_2∧i_2<(W1 es.length))∧∃i_3,cU es i_2 0 1 [dI i_3]∧bB (decide (i_3<i_1)) (I1 [dI i,dI i_1,Hy es] [dI (Lv .i64 (i_2+1))]∧M1 [dI (Lv .i64 (i_2+1))]<M1 [dI i_2]) (bB (i_2==(W1 es.length)) ((0≤i_2∧i_2≤(W1 es.length))∧(0≤i_2∧i_2≤(W1 es.length)∧(W1 es.length)≤(W1 es.length))∧(room (1+c4 (cp (W0 (W1 es.length)-W0 i_2) (cv (W0 i_2) es)))∧lens 1 (cp (W0 (W1 es.length)-W0 i_2) (cv (W0 i_2) es)))∧(room (c4 (cp (W0 i_2) es)+c4 ([dI i_1]::(([])++(cp (W0 (W1 es.length)-W0 i_2) (cv (W0 i_2) es)))))∧lens 1 ([dI i_1]::(([])++(cp (W0 (W1 es.length)-W0 i_2) (cv (W0 i_2) es)))))∧I0 [] [dI (Lv .i64 (i+1)),Hy (cp (W0 i_2) es++[dI i_1]::(([])++(cp (W0 (W1 es.length)-W0 i_2) (cv (W0 i_2) es))))]∧M0 [dI (Lv .i64 (i+1)),Hy (cp (W0 i_2) es++[dI i_1]::(([])++(cp (W0 (W1 es.length)-W0 i_2) (cv (W0 i_2) es))))]<M0 [dI i,Hy es]) ((0≤i_2∧i_2<(W1 es.length))∧∃i_4,cU es i_2 0 1 [dI i_4]∧bB (i_4 !=i_1) ((0≤i_2∧i_2≤(W1 es.length))∧(0≤i_2∧i_2≤(W1 es.length)∧(W1 es.length)≤(W1 es.length))∧(room (1+c4 (cp (W0 (W1 es.length)-W0 i_2) (cv (W0 i_2) es)))∧lens 1 (cp (W0 (W1 es.length)-W0 i_2) (cv (W0 i_2) es)))∧(room (c4 (cp (W0 i_2) es)+c4 ([dI i_1]::(([])++(cp (W0 (W1 es.length)-W0 i_2) (cv (W0 i_2) es)))))∧lens 1 ([dI i_1]::(([])++(cp (W0 (W1 es.length)-W0 i_2) (cv (W0 i_2) es)))))∧I0 [] [dI (Lv .i64 (i+1)),Hy (cp (W0 i_2) es++[dI i_1]::(([])++(cp (W0 (W1 es.length)-W0 i_2) (cv (W0 i_2) es))))]∧M0 [dI (Lv .i64 (i+1)),Hy (cp (W0 i_2) es++[dI i_1]::(([])++(cp (W0 (W1 es.length)-W0 i_2) (cv (W0 i_2) es))))]<M0 [dI i,Hy es]) (I0 [] [dI (Lv .i64 (i+1)),Hy es]∧M0 [dI (Lv .i64 (i+1)),Hy es]<M0 [dI i,Hy es])))) (bB (i_2==(W1 es.length)) ((0≤i_2∧i_2≤(W1 es.length))∧(0≤i_2∧i_2≤(W1 es.length)∧(W1 es.length)≤(W1 es.length))∧(room (1+c4 (cp (W0 (W1 es.length)-W0 i_2) (cv (W0 i_2) es)))∧lens 1 (cp (W0 (W1 es.length)-W0 i_2) (cv (W0 i_2) es)))∧(room (c4 (cp (W0 i_2) es)+c4 ([dI i_1]::(([])++(cp (W0 (W1 es.length)-W0 i_2) (cv (W0 i_2) es)))))∧lens 1 ([dI i_1]::(([])++(cp (W0 (W1 es.length)-W0 i_2) (cv (W0 i_2) es)))))∧I0 [] [dI (Lv .i64 (i+1)),Hy (cp (W0 i_2) es++[dI i_1]::(([])++(cp (W0 (W1 es.length)-W0 i_2) (cv (W0 i_2) es))))]∧M0 [dI (Lv .i64 (i+1)),Hy (cp (W0 i_2) es++[dI i_1]::(([])++(cp (W0 (W1 es.length)-W0 i_2) (cv (W0 i_2) es))))]<M0 [dI i,Hy es]) ((0≤i_2∧i_2<(W1 es.length))∧∃i_3,cU es i_2 0 1 [dI i_3]∧bB (i_3 !=i_1) ((0≤i_2∧i_2≤(W1 es.length))∧(0≤i_2∧i_2≤(W1 es.length)∧(W1 es.length)≤(W1 es.length))∧(room (1+c4 (cp (W0 (W1 es.length)-W0 i_2) (cv (W0 i_2) es)))∧lens 1 (cp (W0 (W1 es.length)-W0 i_2) (cv (W0 i_2) es)))∧(room (c4 (cp (W0 i_2) es)+c4 ([dI i_1]::(([])++(cp (W0 (W1 es.length)-W0 i_2) (cv (W0 i_2) es)))))∧lens 1 ([dI i_1]::(([])++(cp (W0 (W1 es.length)-W0 i_2) (cv (W0 i_2) es)))))∧I0 [] [dI (Lv .i64 (i+1)),Hy (cp (W0 i_2) es++[dI i_1]::(([])++(cp (W0 (W1 es.length)-W0 i_2) (cv (W0 i_2) es))))]∧M0 [dI (Lv .i64 (i+1)),Hy (cp (W0 i_2) es++[dI i_1]::(([])++(cp (W0 (W1 es.length)-W0 i_2) (cv (W0 i_2) es))))]<M0 [dI i,Hy es]) (I0 [] [dI (Lv .i64 (i+1)),Hy es]∧M0 [dI (Lv .i64 (i+1)),Hy es]<M0 [dI i,Hy es])))) (Q [aL es])):=by kernel_rfl
theorem Mm (t0:Int) (l0:List (List D)) (t1:Int) (l1:List (List D)) (Q:List A→Prop):wpF CC Gv (fun _=>⟨[.slot 5 (.int .i64 0)],[],I0,M0⟩) Tryz.f14 [.ag [.int .i64 t0,.sl l0],.ag [.int .i64 t1,.sl l1]] Q=(bB (t0 !=t1) (Q [aB false]) (bB ((W1 l0.length) !=(W1 l1.length)) (Q [aB false]) (I0 [] [dI (0:Int)]∧∀(i:Int),I0 [] [dI i]→bB (decide (i<(W1 l0.length))) (rO l0 i 4∧∃s i_1 i_2 es,cU l0 i 0 4 [J4 s,dI i_1,dI i_2,Hy es]∧rO l1 i 4∧∃s1 i_3 i_4 e1,cU l1 i 0 4 [J4 s1,dI i_3,dI i_4,Hy e1]∧bB (!s==s1) (Q [aB false]) (bB (i_1 !=i_3) (Q [aB false]) (bB (i_2 !=i_4) (Q [aB false]) (∃b,Gv 33 [Hv [Hy es],Hv [Hy e1]] [aB b]∧bB (!b) (Q [aB false]) (I0 [] [dI (Lv .i64 (i+1))]∧M0 [dI (Lv .i64 (i+1))]<M0 [dI i]))))) (Q [aB true])))):=by kernel_rfl
theorem Ab (t0:Int) (l0:List (List D)) (s0:List UInt8):wpF CC Gv an0 Tryz.f11 [.ag [.int .i64 t0,.sl l0],.c (.str s0)] Q=(∃i,Gv 29 [Hv [dI t0,Hy l0],Hx (J4 s0)] [aI i]∧bB (decide (i≥0)) (Q [aI i,aI (0:Int)]) (Q [aI (0:Int),aI (4:Int)])):=by kernel_rfl
theorem Ac (t0:Int) (l0:List (List D)) (s0:List UInt8):wpF CC Gv an0 Tryz.f29 [.ag [.int .i64 t0,.sl l0],.c (.str s0)] Q=(∃i,Gv 54 [aL l0,Hx (D.clo 55 [D.ptr [J4 s0]])] [aI i]∧Q [aI i]):=by kernel_rfl
theorem CN (t0:Int) (l0:List (List D)) (t1:Int) (l1:List (List D)) (Q:List A→Prop):wpF CC Gv an0 Tryz.f13 [.ag [.int .i64 t0,.sl l0],.ag [.int .i64 t1,.sl l1]] Q=(bB (t0==t1) (∃b,Gv 30 [aL l0,aL l1,Hx (D.fn 31)] [aB b]∧Q [aB b]) (Q [aB false])):=by kernel_rfl
end
end Eng
end
section
namespace Eng
open Go Go.Proofs Rl
set_option maxRecDepth 100000
theorem dY:∀a b:List Cu,a.length≠b.length→ZN a b=false:=by
 intro a
 induction a with
 |nil=>intro b h;cases b with
  |nil=>simp at h
  |cons _ _=>rfl
 |cons c r ih=>intro b h;cases b with
  |nil=>rfl
  |cons d s=>simp only[dn,ne_eq,hP]at h;simp only[ZN,ih s h,F2]
theorem Dt {a b:Nat} (h:((W1 a) !=(W1 b))=false):a=b:=by
 have:¬((W1 a) !=(W1 b))=true:=by rw[h];simp
 simp only[bne_iff_ne,ne_eq,Decidable.not_not,be]at this;omega
theorem dZ {l m:List Cu} (hl:∀c∈l,Gc c) (hm:∀c∈m,Gc c) (hn:l.length≤6000000):qe CC 56 [.c (.sl (kUs l)),.c (.sl (kUs m)),.c (.fn 57)] [.c (.bool (ZN l m))]:=by
 have hv:=dE (qe CC) (FU l.length fun k=>ZN (l.drop k) (m.drop k)=ZN l m) (zP 10000000) (kUs l) (kUs m) (· =[.c (.bool (ZN l m))]);refine gOk Tryz.func56 hv ?_;clear hv;rw[qu,qu];refine brb (fun h=>?_) (fun h=>?_)
 ·have h:l.length≠m.length:=fun e=>by rw[e]at h;simp at h
  rw[dY l m h]
 ·have hlen:=Dt h;refine⟨⟨0,hQ _,rfl,rfl⟩,?_⟩;rintro _ ⟨k,hk,he,hd⟩;simp only[fS,J8,and_true]at he;rw[he.2];refine brd (fun h3=>?_) (fun h3=>?_)
  ·have a3:k<l.length:=by simp only[be]at h3;omega
   have a4:k<m.length:=by omega
   have ok1:=xj a3;have ok2:=xj a4;refine⟨ok1,_,xf a3,ok2,_,xf a4,_,Ro (hl _ (dc a3)) (hm _ (dc a4)),?_⟩;rw[c3 a3,c3 a4]at hd;cases hb:eqC l[k] m[k]with
   |false=>refine brb (fun _=>?_) (fun h=>by cases h);rw[←hd];simp only[ZN,hb,F0]
   |true=>refine brb (fun h=>by cases h) (fun _=>?_);refine⟨⟨k+1,a3,by rw[wI];rfl,?_⟩,qt⟩;rw[←hd];simp only[ZN,hb,Aw]
  ·have a3:k=l.length:=by simp only[be]at h3;omega
   rw[a3,c5 (gr _),c5 (by omega)]at hd;rw[←hd];rfl
theorem Du {l m:List Cu} (hl:∀c∈l,Gc c) (hm:∀c∈m,Gc c) (hn:l.length≤6000000):qe CC 32 [.ag [.sl (kUs l)],.ag [.sl (kUs m)]] [.c (.bool (ZN l m))]:=by
 refine wpG Tryz.func32 ((Db ..).mpr ?_);exact⟨_,dZ hl hm hn,rfl⟩
noncomputable def Rp (f g:Ft):Bool:=f.nm==g.nm&&(f.kd==g.kd&&(f.dp==g.dp&&ZN f.sh g.sh))
noncomputable def wU:List Ft→List Ft→Bool
 |[],[]=>true
 |f::r,g::s=>Rp f g&&wU r s
 |_,_=>false
theorem O6:∀a b:List Ft,a.length≠b.length→wU a b=false:=by
 intro a
 induction a with
 |nil=>intro b h;cases b with
  |nil=>simp at h
  |cons _ _=>rfl
 |cons c r ih=>intro b h;cases b with
  |nil=>rfl
  |cons d s=>simp only[dn,ne_eq,hP]at h;simp only[wU,ih s h,F2]
theorem Ft.ok.gc {f:Ft} (h:f.ok):∀c∈f.sh,Gc c:=fun c hc=>(h.2.1 c hc).1.1
theorem ec {f g:Ft} (hf:f.ok) (hg:g.ok):qe CC 31 [.ag (kFt f),.ag (kFt g)] [.c (.bool (Rp f g))]:=by
 have hv:=dD (qe CC) f.nm f.kd f.dp (kUs f.sh) g.nm g.kd g.dp (kUs g.sh) (· =[.c (.bool (Rp f g))]);refine gOk Tryz.func31 hv ?_;clear hv;unfold Rp;refine brb (fun h=>?_) (fun h=>?_)
 ·rw[h,Aw];refine brb (fun h=>?_) (fun h=>?_)
  ·rw[h,Aw];refine brb (fun h=>?_) (fun h=>?_)
   ·rw[h,Aw];exact⟨_,Du hf.gc hg.gc (by have:=hf.2.2;omega),rfl⟩
   ·rw[h];rfl
  ·rw[h];rfl
 ·rw[h];rfl
theorem ee {l m:List Ft} (hl:∀f∈l,f.ok) (hm:∀f∈m,f.ok) (hn:l.length≤6000000):qe CC 30 [.c (.sl (l.map kFt)),.c (.sl (m.map kFt)),.c (.fn 31)] [.c (.bool (wU l m))]:=by
 have hv:=dC (qe CC) (FU l.length fun k=>wU (l.drop k) (m.drop k)=wU l m) (zP 10000000) (l.map kFt) (m.map kFt) (· =[.c (.bool (wU l m))]);refine gOk Tryz.func30 hv ?_;clear hv;rw[qY,qY];refine brb (fun h=>?_) (fun h=>?_)
 ·have h:l.length≠m.length:=fun e=>by rw[e]at h;simp at h
  rw[O6 l m h]
 ·have hlen:=Dt h;refine⟨⟨0,hQ _,rfl,rfl⟩,?_⟩;rintro _ ⟨k,hk,he,hd⟩;simp only[fS,J8,and_true]at he;rw[he.2];refine brd (fun h3=>?_) (fun h3=>?_)
  ·have a3:k<l.length:=by simp only[be]at h3;omega
   have a4:k<m.length:=by omega
   have ok1:=vW zk a3;have ok2:=vW zk a4;refine⟨ok1,_,_,_,_,y8 zk a3,ok2,_,_,_,_,y8 zk a4,_,ec (hl _ (dc a3)) (hm _ (dc a4)),?_⟩;rw[c3 a3,c3 a4]at hd;cases hb:Rp l[k] m[k]with
   |false=>refine brb (fun _=>?_) (fun h=>by cases h);rw[←hd];simp only[wU,hb,F0]
   |true=>refine brb (fun h=>by cases h) (fun _=>?_);refine⟨⟨k+1,a3,by rw[wI];rfl,?_⟩,qt⟩;rw[←hd];simp only[wU,hb,Aw]
  ·have a3:k=l.length:=by simp only[be]at h3;omega
   rw[a3,c5 (gr _),c5 (by omega)]at hd;rw[←hd];rfl
theorem Wo {t u:Int} {l m:List Ft} (hl:∀f∈l,f.ok) (hm:∀f∈m,f.ok) (hn:l.length≤6000000):qe CC 13 [ftA t l,ftA u m] [.c (.bool (t==u&&wU l m))]:=by
 have hv:=CN (qe CC) t (l.map kFt) u (m.map kFt) (· =[.c (.bool (t==u&&wU l m))]);refine gOk Tryz.func13 hv ?_;clear hv;refine brb (fun h=>?_) (fun h=>?_)
 ·rw[h,Aw];exact⟨_,ee hl hm hn,rfl⟩
 ·rw[h];rfl
theorem Wp {t u:Int} {l m:List Ft} (hl:∀f∈l,f.ok) (hm:∀f∈m,f.ok) (hn:l.length≤6000000):qe CC 14 [ftA t l,ftA u m] [.c (.bool (t==u&&wU l m))]:=by
 have hv:=Mm (qe CC) (FU l.length fun k=>wU (l.drop k) (m.drop k)=wU l m) (zP 10000000) t (l.map kFt) u (m.map kFt) (· =[.c (.bool (t==u&&wU l m))]);refine gOk Tryz.func14 hv ?_;clear hv;rw[qY,qY];refine brb (fun h=>?_) (fun h=>?_)
 ·have h:(t==u)=false:=by simpa using h
  rw[h];rfl
 have h:(t==u)=true:=by simpa using h
 rw[h,Aw];refine brb (fun h=>?_) (fun h=>?_)
 ·have h:l.length≠m.length:=fun e=>by rw[e]at h;simp at h
  rw[O6 l m h]
 ·have hlen:=Dt h;refine⟨⟨0,hQ _,rfl,rfl⟩,?_⟩;rintro _ ⟨k,hk,he,hd⟩;simp only[fS,J8,and_true]at he;rw[he.2];refine brd (fun h3=>?_) (fun h3=>?_)
  ·have a3:k<l.length:=by simp only[be]at h3;omega
   have a4:k<m.length:=by omega
   have ok1:=vW zk a3;have ok2:=vW zk a4;rw[c3 a3,c3 a4]at hd;have hf:=hl _ (dc a3);have hg:=hm _ (dc a4);refine⟨ok1,_,_,_,_,y8 zk a3,ok2,_,_,_,_,y8 zk a4,?_⟩;have no:Rp l[k] m[k]=false→[Hx (.bool false)]=[.c (.bool (wU l m))]:=fun e=>by rw[←hd];simp only[wU,e,F0]
   refine brb (fun h=>no ?_) (fun h1=>brb (fun h=>no ?_) (fun h2=>brb (fun h=>no ?_) (fun h3=>⟨_,Q9 hf.gc hg.gc (by have:=hf.2.2;omega),brb (fun h=>no ?_) (fun h4=>?_)⟩)))
   ·have h:(l[k].nm==m[k].nm)=false:=by simpa using h
    unfold Rp;rw[h];rfl
   ·have h:(l[k].kd==m[k].kd)=false:=by simpa using h
    unfold Rp;rw[h];simp
   ·have h:(l[k].dp==m[k].dp)=false:=by simpa using h
    unfold Rp;rw[h];simp
   ·have h:ZN l[k].sh m[k].sh=false:=by simpa using h
    unfold Rp;rw[h];simp
   ·have hb:Rp l[k] m[k]=true:=by
     have h1:(l[k].nm==m[k].nm)=true:=by simpa using h1
     have h2:(l[k].kd==m[k].kd)=true:=by simpa using h2
     have h3:(l[k].dp==m[k].dp)=true:=by simpa using h3
     have h4:ZN l[k].sh m[k].sh=true:=by simpa using h4
     unfold Rp;rw[h1,h2,h3,h4];rfl
    refine⟨⟨k+1,a3,by rw[wI];rfl,?_⟩,qt⟩;rw[←hd];simp only[wU,hb,Aw]
  ·have a3:k=l.length:=by simp only[be]at h3;omega
   rw[a3,c5 (gr _),c5 (by omega)]at hd;rw[←hd];rfl
theorem UU (p:P5):kO p p=true:=by
 unfold kO ja;have e:∀x:Rl,sg (x-x)=0:=fun x=>xT.2 (by obtain⟨x,rfl⟩:=x.rep;exact xD fun n=>by simp only[zi,zF,jZ];grind)
 rw[e,e];rfl
theorem A5 (c:Cu):eqC c c=true:=by
 unfold eqC zL Rr EO;rw[UU,UU];cases c.arc<;>simp[lg]
theorem UV:∀l:List Cu,ZN l l=true
 |[]=>rfl
 |c::r=>by simp only[ZN,A5,UV r,Hu]
theorem VN:∀l:List Ft,wU l l=true
 |[]=>rfl
 |f::r=>by simp only[wU,Rp,UV,VN r,beq_self_eq_true,Hu]
theorem UW {l:List It} (h:∀i∈l,i.ok) (hn:l.length≤3999999999999):∃(t:Int) (fs:List Ft) (b:Bool),qe CC 6 [.c (.sl (l.map kIt))] [ftA t fs,.c (.bool b)]∧(b=true→t=12∧fs.length≤4∧(∀f∈fs,f.ok)):=by
 have hb:=Wf h hn;unfold We at hb;by_cases hg:l.all (Wd l.length)=true
 ·rw[if_pos hg]at hb;refine⟨12,l.map itF,decide (l.length≤4),?_,fun e=>⟨rfl,?_,fun f hf=>?_⟩⟩
  ·have he:(l.map fun i=>kFt (itF i))=(l.map itF).map kFt:=by rw[List.map_map];rfl
   rw[he]at hb;exact hb
  ·rw[ey];exact of_decide_eq_true e
  ·obtain⟨i,hi,rfl⟩:=ed.1 hf;exact I4 (h i hi)
 ·rw[if_neg hg]at hb;exact⟨0,[],false,hb,by simp⟩
theorem Dv (hA:qe CC 7 [] [.c (.bool true)]) {l m:List It} (h:∀i∈l,i.ok) (hn:l.length≤3999999999999) (h':∀i∈m,i.ok) (hn':m.length≤3999999999999) {s:Bool}:qe CC 4 [.c (.sl (l.map kIt)),.c (.sl (m.map kIt)),.c (.bool s)] [.c (.bool true)]:=by
 obtain⟨t,fs,b,hb,hok⟩:=UW h hn;obtain⟨t',gs,b',hb',a4⟩:=UW h' hn';have hv:=Dc (qe CC) (l.map kIt) (m.map kIt) s (· =[.c (.bool true)]);refine gOk Tryz.func4 hv ?_;clear hv;refine⟨_,_,_,hb,_,_,_,hb',true,hA,brb (fun h=>by cases h) fun _=>brb (fun _=>⟨true,hA,rfl⟩) fun h1=>brb (fun _=>⟨true,hA,rfl⟩) fun h2=>?_⟩;have h1:b=true:=by simpa using h1
 have h2:b'=true:=by simpa using h2
 obtain⟨-,hl,hf⟩:=hok h1;obtain⟨-,hl',a5⟩:=a4 h2;have a3:=Wo (t:=t) (u:=t) hf hf (by omega);rw[VN,Bool.and_true,beq_self_eq_true]at a3;refine zQ (fun _=>?_) (fun _=>?_)
 ·exact⟨_,Wo hf hf (by omega),_,Wp hf hf (by omega),brb (fun _=>⟨true,a3,rfl⟩) (fun h=>by simp at h)⟩
 ·exact⟨_,Wo hf a5 (by omega),_,Wp hf a5 (by omega),brb (fun _=>⟨true,a3,rfl⟩) (fun h=>by simp at h)⟩
end Eng
end
section
namespace Eng
open Go Go.RowKit Go.ChangeShapes Go.WideShapes Go.Deep
inductive CT where
 |int (k:IntKind)
 |bool
 |str
 |sl (es:List CT)
def XJ (f:TypeId→Option (List CT)) (P:Program):List Field→Nat→Option (List CT)
 |[],_=>some []
 |x::r,off=>match f x.type with
  |some T=>match hG x.offset off&&hG (P.cellsOf x.type) T.length with
   |true=>match XJ f P r (off+T.length)with
    |some R=>some (T++R)
    |none=>none
   |false=>none
  |none=>none
def oG:Nat→List CT→List CT
 |0,_=>[]
 |n+1,T=>T++oG n T
def zI (P:Program):Nat→TypeId→Option (List CT)
 |0,_=>none
 |m+1,t=>match P.underlying t with
  |some (.int k)=>some [.int k]
  |some .bool=>some [.bool]
  |some .string=>some [.str]
  |some (.struct fs)=>match XJ (zI P m) P fs.toList 0 with
   |some T=>match hG (P.cellsOf t) T.length with
    |true=>some T
    |false=>none
   |none=>none
  |some (.array n e)=>match zI P m e with
   |some T=>match hG (P.cellsOf e) T.length&&hG (P.cellsOf t) (n*T.length)with
    |true=>some (oG n T)
    |false=>none
   |none=>none
  |some (.slice e)=>match zI P m e with
   |some T=>match hG (P.cellsOf e) T.length&&Nat.blt 0 T.length with
    |true=>some [.sl T]
    |false=>none
   |none=>none
  |_=>none
mutual
def Th:CT→D→Prop
 | .int k,d=>∃n,d= .int k n∧(Lit.int k n).wf=true
 | .bool,d=>∃b,d= .bool b
 | .str,d=>∃s,d= .str s∧s.length≤maxLen
 | .sl T,d=>∃es:List (List D),d= .sl es∧es.length≤maxLen∧∀r∈es,vY T r
def vY:List CT→List D→Prop
 |[],ds=>ds=[]
 |T::Ts,ds=>∃d r,ds=d::r∧Th T d∧vY Ts r
end
theorem QB:∀{T:List CT} {ds:List D},vY T ds→ds.length=T.length
 |[],ds,h=>by simp only[vY]at h;rw[h];rfl
 |_::T,ds,h=>by simp only[vY]at h;obtain⟨d,r,rfl,_,h2⟩:=h;simp[QB h2]
theorem QC:∀{T R:List CT} {ds es:List D},vY T ds→vY R es→vY (T++R) (ds++es)
 |[],R,ds,es,h,h'=>by simp only[vY]at h;rw[h];exact h'
 |_::T,R,ds,es,h,h'=>by simp only[vY]at h;obtain⟨d,r,rfl,h1,h2⟩:=h;show vY (_::(T++R)) (d::(r++es));rw[vY];exact⟨d,r++es,rfl,h1,QC h2 h'⟩
theorem VO {size:Nat} (hs:0<size):∀{es:List (List D)},(∀r∈es,r.length=size)→∀j,j<es.length*size→nth .undef es.flatten j=nth .undef (nth [] es (j/size)) (j%size)
 |[],_,j,h=>by simp at h
 |r::es,hr,j,h=>by
  have hl:=hr r (by simp);rw[List.flatten_cons];by_cases hj:j<size
  ·rw[Nat.div_eq_of_lt hj,Nat.mod_eq_of_lt hj];rw[qF,qF,List.getElem?_append_left (by omega)];rfl
  ·have h2:=VO hs (es:=es) (fun r hr'=>hr r (by simp[hr'])) (j-size) (by
    rw[dn,hU,hS]at h;omega)
   have e1:j/size=(j-size)/size+1:=by rw[←Nat.div_eq_sub_div hs (by omega)]
   have e2:j%size=(j-size)%size:=Nat.mod_eq_sub_mod (by omega);rw[e1,e2];show _=nth .undef (nth [] es ((j-size)/size)) ((j-size)%size);rw[←h2,qF,qF,List.getElem?_append_right (by omega),hl]
section
variable {H:Type} {enc:TypeId×Value→H} {P:Program} {w:World} {base:Nat} {spare:Nat→Bool} {held:Bool}
theorem Wq {f:TypeId→Option (List CT)} {F:Nat→Prop} {n:Nat} {cs:List Value}
 (hf:∀t T us x,f t=some T→Lr enc P w base spare held n t us=some x→∃ds,All2 (CD w F) ds us∧vY T ds):
 ∀(fs:List Field) (off:Nat) (T:List CT),XJ f P fs off=some T→(∀x∈fs,∃y,Lr enc P w base spare held n x.type ((cs.drop x.offset).take (P.cellsOf x.type))=some y)→
  ∃ds,All2 (CD w F) ds ((cs.drop off).take T.length)∧vY T ds
 |[],off,T,h,_=>by simp only[XJ,kk]at h;subst h;exact⟨[],by simp[All2],by simp[vY]⟩
 |x::fs,off,T,h,hy=>by
  simp only[XJ]at h;split at h
  ·rename_i T1 h1;split at h
   ·rename_i hb;rw[Bx]at hb;have e1:=gp hb.1;have e2:=gp hb.2;split at h
    ·rename_i R hR;simp only[kk]at h;subst h;obtain⟨y,hy1⟩:=hy x (by simp);rw[e1,e2]at hy1;obtain⟨ds1,a1,b1⟩:=hf _ _ _ _ h1 hy1;obtain⟨ds2,a2,b2⟩:=Wq hf fs _ R hR (fun x hx=>hy x (by simp[hx]));refine⟨ds1++ds2,?_,QC b1 b2⟩;rw[en,fR,fz];exact All2.append a1 a2
    ·simp at h
   ·simp at h
  ·simp at h
theorem Ql {R:D→Value→Prop} {T:List CT} {cs:List Value}:∀(n k:Nat),(∀i,i<n→∃ds,All2 R ds ((cs.drop ((k+i)*T.length)).take T.length)∧vY T ds)→
 ∃ds,All2 R ds ((cs.drop (k*T.length)).take (n*T.length))∧vY (oG n T) ds
 |0,k,_=>⟨[],by simp[All2],by simp[oG,vY]⟩
 |n+1,k,h=>by
  obtain⟨d1,a1,b1⟩:=h 0 (by omega);obtain⟨d2,a2,b2⟩:=Ql n (k+1) (fun i hi=>by
   have:=h (i+1) (by omega);rw[show k+(i+1)=k+1+i by omega]at this;exact this)
  refine⟨d1++d2,?_,QC b1 b2⟩;rw[show(n+1)*T.length=T.length+n*T.length by rw[hU,hS,Nat.add_comm],fR,fz];rw[iy]at a1;rw[hU,hS]at a2;exact All2.append a1 a2
theorem XK {F:Nat→Prop} (hF:∀b,b<w.heap.size→F b):∀(m:Nat) (t:TypeId) (T:List CT) (fuel:Nat) (cs:List Value) (x:DataW H×List MemPlace),zI P m t=some T→
 Lr enc P w base spare held fuel t cs=some x→∃ds,All2 (CD w F) ds cs∧vY T ds
 |0,_,_,_,_,_,h,_=>by simp[zI]at h
 |m+1,t,T,fuel,cs,x,h,ht=>by
  simp only[zI]at h;split at h
  ·rename_i k hu;simp only[kk]at h;subst h;obtain⟨n,rfl,_,hw⟩:=DataW.trod_int hu ht;exact⟨[.int k n],⟨.int _ _,trivial⟩,by simp only[vY,Th];exact⟨_,_,rfl,⟨n,rfl,hw⟩,rfl⟩⟩
  ·rename_i hu;simp only[kk]at h;subst h;obtain⟨b,rfl,_⟩:=DataW.trod_bool hu ht;exact⟨[.bool b],⟨.bool _,trivial⟩,by simp only[vY,Th];exact⟨_,_,rfl,⟨b,rfl⟩,rfl⟩⟩
  ·rename_i hu;simp only[kk]at h;subst h;obtain⟨s,rfl,_,hs⟩:=DataW.trod_string hu ht;refine⟨[.str s.data.toList],⟨.str _,trivial⟩,?_⟩;simp only[vY,Th];refine⟨_,_,rfl,⟨_,rfl,?_⟩,rfl⟩;have:s.data.toList.length=s.size:=by simp
   rw[this];exact hs
  ·rename_i fs hu;split at h
   ·rename_i T' hT;split at h
    ·rename_i hc;simp only[kk]at h;subst h;have hc:=gp hc;obtain⟨xs,n,_,_,ag,b1,hf⟩:=DataW.trod_struct hu ht;obtain⟨ds,h1,h2⟩:=Wq (cs:=cs) (n:=n) (F:=F) (fun t T us x h1 h2=>XK hF m t T n us x h1 h2) fs.toList 0 T' hT (fun f hf'=>by
      obtain⟨i,hi,rfl⟩:=List.mem_iff_getElem.1 hf';have:=hf i fs[i] (Array.getElem?_eq_getElem (by simpa using hi));rw[dk (by rw[b1];simpa using hi)]at this;exact⟨_,this⟩)
     rw[ea,eb (by omega)]at h1;exact⟨ds,h1,h2⟩
    ·simp at h
   ·simp at h
  ·rename_i k e hu;split at h
   ·rename_i T' hT;split at h
    ·rename_i hc;simp only[kk]at h;subst h;rw[Bx]at hc;have ad:=gp hc.1;have a6:=gp hc.2;obtain⟨xs,n,_,_,ag,b1,hf⟩:=DataW.trod_array hu ht;obtain⟨ds,h1,h2⟩:=Ql (R:=CD w F) (T:=T') (cs:=cs) k 0 (fun i hi=>by
      have:=hf i hi;rw[dk (by omega),ad]at this;rw[Nat.zero_add];exact XK hF m e T' n _ _ hT this)
     rw[ie,ea,eb (by omega)]at h1;exact⟨ds,h1,h2⟩
    ·simp at h
   ·simp at h
  ·rename_i e hu;split at h
   ·rename_i T' hT;split at h
    ·rename_i hc;simp only[kk]at h;subst h;rw[Bx]at hc;have ad:=gp hc.1;have a6:=hc.2;rw[Nat.blt_eq]at a6;rcases open_slice hu ht with⟨rfl,_⟩|⟨a,a4,cap,k,n,Dd,Pl,rfl,_,hle,hcap,hk,_,hel⟩
     ·exact⟨[.sl []],⟨.nil _ _,trivial⟩,by simp only[vY,Th];exact⟨_,_,rfl,⟨[],rfl,by simp,by simp⟩,rfl⟩⟩
     ·by_cases hl0:a4=0
      ·subst hl0;exact⟨[.sl []],⟨.nil _ _,trivial⟩,by simp only[vY,Th];exact⟨_,_,rfl,⟨[],rfl,by simp,by simp⟩,rfl⟩⟩
      ·have hlk:a4≤k:=by rw[hk];split<;>omega
       have al:∀i,i<a4→∃ds,(∀j,j<T'.length→∃v,w.cell? (a.add (i*T'.length+j))=some v∧CD w F (nth .undef ds j) v)∧vY T' ds:=by intro i hi;obtain⟨us,h1,h2⟩:=hel i (by omega);obtain⟨ds,h3,h4⟩:=XK hF m e T' n us _ hT h2;refine⟨ds,fun j hj=>?_,h4⟩;rw[ad]at h1;obtain⟨_,hul,hc⟩:=World.cells?_some h1;have:=hc j hj;rw[add_add,dk (by omega)]at this;have h5:=All2.nth (.undef) undef ds us j h3 (by rw[QB h4];exact hj);rw[qo undef (show j<us.length by omega)]at h5;exact⟨_,this,h5⟩
       obtain⟨es,a9⟩:=choose_lt al;have an:a.spot=none:=by
        obtain⟨v,h1,_⟩:=(a9 0 (by omega)).1 0 a6;simp only[ie,iy,Addr.add,if_true]at h1;unfold World.cell? at h1;split at h1
        ·split at h1
         ·simp at h1
         ·rename_i hs;simpa using hs
        ·simp at h1
       obtain⟨b,o,sp⟩:=a;simp only at an;subst an;have a8:∀j,(⟨b,o,none⟩:Addr).add j=⟨b,o+j,none⟩:=by
        intro j;unfold Addr.add;by_cases hj:j=0
        ·subst hj;simp
        ·rw[if_neg hj]
       have hb:b<w.heap.size:=by
        obtain⟨v,h1,_⟩:=(a9 0 (by omega)).1 0 a6;rw[a8]at h1;unfold World.cell? at h1;split at h1
        ·rename_i hh;exact(Array.getElem?_eq_some_iff.1 hh).1
        ·simp at h1
       have a3:((dl a4).map es).length=a4:=by simp
       have a5:∀r∈(dl a4).map es,r.length=T'.length:=by intro r hr;simp only[ed,fx]at hr;obtain⟨i,hi,rfl⟩:=hr;exact QB (a9 i hi).2
       have a7:∀j,j<a4*T'.length→∃v,w.cell? ⟨b,o+j,none⟩=some v∧CD w F (nth .undef ((dl a4).map es).flatten j) v:=by
        intro j hj;have hi:j/T'.length<a4:=by rw[Nat.div_lt_iff_lt_mul a6];exact hj
        obtain⟨v,h1,h2⟩:=(a9 _ hi).1 (j%T'.length) (Nat.mod_lt _ a6);rw[a8,ik,Nat.div_add_mod]at h1;refine⟨v,h1,?_⟩;rw[VO a6 a5 j (by rw[a3];exact hj)];have:nth [] ((dl a4).map es) (j/T'.length)=es (j/T'.length):=by rw[qF];simp[hi]
        rw[this];exact h2
       obtain⟨vs,ap⟩:=choose_lt a7;refine⟨[.sl ((dl a4).map es)],⟨?_,trivial⟩,?_⟩
       ·have:=CD.sl (w:=w) (F:=F) ((dl a4).map es) b o cap T'.length vs (by rw[a3];exact hle) a5 (hF b hb) (fun j hj=>(ap j (by rw[a3]at hj;exact hj)).1) (fun j hj=>(ap j (by rw[a3]at hj;exact hj)).2);rw[a3]at this;exact this
       ·simp only[vY,Th];refine⟨_,_,rfl,⟨_,rfl,by rw[a3];omega,fun r hr=>?_⟩,rfl⟩;simp only[ed,fx]at hr;obtain⟨i,hi,rfl⟩:=hr;exact(a9 i hi).2
    ·simp at h
   ·simp at h
  ·simp at h
end
end Eng
end
section
namespace Eng
open Go Go.RowKit Go.WideShapes Go.ChangeShapes
section
variable {H:Type} {enc:TypeId×Value→H} {P:Program}
theorem Qm {f:Func} {s:ChangeSpec} {apart fresh handsOn again:Bool} {W W':World} {args:Array Value} {v:Value} {ds gs:List (DataW H)} {before pa pv:List MemPlace}
 (hW:Lm enc P f.params.toList s.vars apart W args.toList ds gs before)
 (hres:∀(b:Nat) (sp:Nat→Bool) (hd:Bool),J9 enc P W' b sp hd f.resultTypes.toList (v.resultList f.resultTypes.size) (s.fn H (ds++gs)).results [])
 (hargs:∀sp:Nat→Bool,(∀p∈before,sp p.block=true)→J9 enc P W' 0 sp true f.params.toList args.toList (s.fn H (ds++gs)).args pa)
 (hvars:∀sp:Nat→Bool,(∀p∈before,sp p.block=true)→DataW.TrodVars enc P W' sp s.vars (s.fn H (ds++gs)).vars pv)
 (hps:before=pa++pv) (hb:Below W.heap.size W W')
 (hok:∀(j:Nat) (t:TypeId) (r:Value),f.resultTypes[j]? =some t→(v.resultList f.resultTypes.size)[j]? =some r→V1 P W' .any 0 t r):
 s.post enc P f apart fresh handsOn again W args v W':=by
 have a5:∀p∈before,p.block<W.heap.size:=fun p hp=>hW.lt p hp
 have a3:∀p∈before,(fun b=>decide (b<W.heap.size)) p.block=true:=fun p hp=>by simpa using a5 p hp
 refine⟨ds,gs,before,[],pa,pv,hW,hres _ _ _,hargs _ a3,hvars _ a3,World.keptBut_mono (fun p hp=>⟨hp,?_⟩) (hb.frame (· ∈before)),fun _=>?_⟩
 ·rw[hps,List.mem_append]at hp;exact Or.inr hp
 ·obtain⟨_,_,_,_,_,hz,hn⟩:=hW;refine⟨hok,_,_,([]++pa)++pv,⟨[]++pa,pv,trodAll_append (hargs _ (fun _ _=>rfl)) (hres _ _ _),hvars _ (fun _ _=>rfl),rfl,?_,?_⟩,?_⟩
  ·intro b a6 hp;have a4:MemPlace.cell b a6∈before:=by rw[hps];simpa using hp
   rw[hb.frozen (a5 _ a4)];exact hz b a6 a4
  ·intro ha;have:=hn ha;rw[hps]at this
   simpa using this
  ·intro p hp _;rw[hps]
   simpa using hp
theorem vN (hl:laidOutB P=true) {W W':World} (hb:Below W.heap.size W W') {sp:Nat→Bool}:∀{ts:List TypeId} {vs:List Value} {ds:List (DataW H)} {ps:List MemPlace},
 (∀t∈ts,P.readableRec t=true∧t<P.types.size)→J9 enc P W 0 (fun _=>true) true ts vs ds ps→(∀x∈ps,x.block<W.heap.size)→(∀x∈ps,sp x.block=true)→
 J9 enc P W' 0 sp true ts vs ds ps
 |[],[],[],_,_,h,_,_=>h
 |t::ts,v::vs,d::ds,_,ht,h,hlt,hsp=>by obtain⟨p,q,h1,h2,rfl⟩:=h;refine⟨p,q,?_,vN hl hb (fun t' h'=>ht t' (by simp[h'])) h2 (fun x hx=>hlt x (by simp[hx])) (fun x hx=>hsp x (by simp[hx])),rfl⟩;exact WideElems.Trod_stays hl (ht t (by simp)).1 (ht t (by simp)).2 h1 (fun x hx=>hb.same (hlt x (by simp[hx]))) (fun x hx=>hsp x (by simp[hx]))
 |[],[],_::_,_,_,h,_,_=>h.elim
 |[],_::_,_,_,_,h,_,_=>by cases ‹List (DataW H)› <;>exact h.elim
 |_::_,[],_,_,_,h,_,_=>by cases ‹List (DataW H)› <;>exact h.elim
 |_::_,_::_,[],_,_,h,_,_=>h.elim
def Dw (P:Program) (m:Nat) (t:TypeId) (a:A):Prop:=
 ∃T,zI P m t=some T∧((wV P t=true∧∃ds,a= .ag ds∧vY T ds)∨(wV P t=false∧∃d,a= .c d∧vY T [d]))
theorem UX {n:Nat} {e t:TypeId} {w:World} {r:Reach} {b:Nat} {v:Value} (ht:P.underlying t=some (.array n e)) (h:V1 P w r b t v):∃cs,v= .agg cs∧cs.size=P.cellsOf t:=by
 simp only[V1,ht]at h;obtain⟨cs,h1,h2,_⟩:=h;exact⟨cs,h1,h2⟩
theorem A6 {w:World} {F:Nat→Prop} (hF:∀b,b<w.heap.size→F b) {m base b0:Nat} {r:Reach} {sp:Nat→Bool} {held:Bool} {t:TypeId} {T:List CT} {v:Value} {d:DataW H} {p:List MemPlace}
 (hT:zI P m t=some T) (hv:V1 P w r b0 t v) (h:Ls enc P w base sp held t v d p):∃a,CA w F a v∧Dw P m t a:=by
 obtain⟨a4,hf⟩:=h;obtain⟨ds,h1,h2⟩:=XK hF m t T a4 _ _ hT hf;have a3:v.cells= #[v]→wV P t=false→∃a,CA w F a v∧Dw P m t a:=by intro hc ht;rw[hc]at h1;have hl:=h1.length;simp only[List.length_singleton]at hl;obtain⟨d0,rfl⟩:=List.length_eq_one_iff.1 hl;exact⟨.c d0,h1.1,T,hT,.inr ⟨ht,d0,rfl,h2⟩⟩
 have ag:∀cs,v= .agg cs→wV P t=true→∃a,CA w F a v∧Dw P m t a:=by intro cs hc ht;subst hc;exact⟨.ag ds,⟨cs,rfl,h1⟩,T,hT,.inl ⟨ht,ds,rfl,h2⟩⟩
 cases m with
 |zero=>simp[zI]at hT
 |succ m=>
  simp only[zI]at hT;split at hT
  ·rename_i k hu;obtain⟨n,rfl⟩:=okWide_int hu hv;exact a3 rfl (by unfold wV;rw[hu])
  ·rename_i hu;obtain⟨b,rfl⟩:=okWide_bool hu hv;exact a3 rfl (by unfold wV;rw[hu])
  ·rename_i hu;obtain⟨s,rfl⟩:=okWide_string hu hv;exact a3 rfl (by unfold wV;rw[hu])
  ·rename_i fs hu;obtain⟨cs,rfl,_⟩:=okWide_struct hu hv;exact ag cs rfl (by unfold wV;rw[hu])
  ·rename_i n e hu;obtain⟨cs,rfl,_⟩:=UX hu hv;exact ag cs rfl (by unfold wV;rw[hu])
  ·rename_i e hu;obtain⟨a,len,cap,rfl⟩:=okWide_slice hu hv;exact a3 rfl (by unfold wV;rw[hu])
  ·simp at hT
theorem Wr {w:World} {F:Nat→Prop} (hF:∀b,b<w.heap.size→F b) {m base b0:Nat} {r:Reach} {sp:Nat→Bool} {held:Bool}:∀{ts:List TypeId} {vs:List Value} {ds:List (DataW H)} {ps:List MemPlace},
 (∀t∈ts,(zI P m t).isSome=true)→(∀(j:Nat) t v,ts[j]? =some t→vs[j]? =some v→V1 P w r b0 t v)→J9 enc P w base sp held ts vs ds ps→
 ∃as',All2 (CA w F) as' vs∧All2 (Dw P m) ts as'
 |[],[],[],_,_,_,_=>⟨[],trivial,trivial⟩
 |t::ts,v::vs,d::ds,_,ht,hv,h=>by obtain⟨p,q,h1,h2,rfl⟩:=h;obtain⟨T,hT⟩:=Option.isSome_iff_exists.1 (ht t (by simp));obtain⟨a,e1,e2⟩:=A6 hF hT (hv 0 t v rfl rfl) h1;obtain⟨as',e3,e4⟩:=Wr hF (fun t' h'=>ht t' (by simp[h'])) (fun j t' v' h3 h4=>hv (j+1) t' v' (by simpa using h3) (by simpa using h4)) h2;exact⟨a::as',⟨e1,e3⟩,⟨e2,e4⟩⟩
 |[],[],_::_,_,_,_,h=>h.elim
 |[],_::_,_,_,_,_,h=>by cases ‹List (DataW H)› <;>exact h.elim
 |_::_,[],_,_,_,_,h=>by cases ‹List (DataW H)› <;>exact h.elim
 |_::_,_::_,[],_,_,_,h=>h.elim
theorem oH {C:Cx} {f:Nat} {fn:Func} {s:ChangeSpec} {m bt:Nat} {apart fresh handsOn again:Bool} (hl:laidOutB C.P=true) (hbt:C.P.underlying bt=some .bool)
 (hres:fn.resultTypes= #[bt]) (hrd:∀t∈fn.params.toList,C.P.readableRec t=true∧t<C.P.types.size∧(zI C.P m t).isSome=true)
 (hvars:s.vars=[]) (hfn:∀ds:List (DataW H),ds.length=fn.params.size→s.fn H ds={results:=[.lit (.bool true)],args:=ds})
 (hg:∀al:List A,All2 (Dw C.P m) fn.params.toList al→qe C f al [.c (.bool true)])
 {W:World} {base:Nat} {args:Array Value} {ds gs:List (DataW H)} {before:List MemPlace} (hi:Inv C (fun b=>b<W.heap.size) W)
 (hval:∀(j:Nat) t v,fn.params[j]? =some t→args[j]? =some v→V1 C.P W .any base t v)
 (hW:Lm enc C.P fn.params.toList s.vars apart W args.toList ds gs before):
 Calls C.P f args W fun e W'=>∃v,e= .returned v∧s.post enc C.P fn apart fresh handsOn again W args v W':=by
 have hW':=hW;have hlt:∀p∈before,p.block<W.heap.size:=fun p hp=>hW.lt p hp
 obtain⟨p,q,hA,hV,rfl,hfz,hnd⟩:=hW;rw[hvars]at hV;have hgq:gs=[]∧q=[]:=by
  cases gs with
  |nil=>exact⟨rfl,hV⟩
  |cons g gs=>exact hV.elim
 obtain⟨rfl,rfl⟩:=hgq;have a3:ds.length=fn.params.size:=by
  have key:∀{ts:List TypeId} {vs:List Value} {ds:List (DataW H)} {ps:List MemPlace},J9 enc C.P W 0 (fun _=>true) true ts vs ds ps→ds.length=ts.length:=by
   intro ts
   induction ts with
   |nil=>intro vs ds ps h;cases vs<;>cases ds<;>first|rfl|exact h.elim
   |cons t ts ih=>
    intro vs ds ps h;cases vs with
    |nil=>cases ds<;>exact h.elim
    |cons v vs=>cases ds with
     |nil=>exact h.elim
     |cons d ds=>obtain⟨p,q,_,h2,_⟩:=h;simp[ih h2]
  rw[key hA];simp
 obtain⟨al,h1,h2⟩:=Wr (F:=fun b=>b<W.heap.size) (fun _ h=>h) (m:=m) (fun t ht=>(hrd t ht).2.2) (fun j t v h3 h4=>hval j t v (by simpa using h3) (by simpa using h4)) hA;have hc:=hg al h2 W (fun b=>b<W.heap.size) args.toList (fun _ h=>h) hi h1;have e0:args.toList.toArray=args:=by simp
 rw[e0]at hc;refine hc.mono fun e W' he=>?_
 obtain⟨hb,v,rfl,hr⟩:=he;have hv:v= .bool true:=by have hr:CD _ _ (.bool true) v:=hr;cases hr;rfl
 subst hv;refine⟨_,rfl,Qm (pa:=p++[]) (pv:=[]) hW' ?_ ?_ ?_ (by simp) hb ?_⟩
 ·intro b sp hd;rw[c9,hfn ds a3,hres];exact trodAll_mk1 (shut_bool hbt true)
 ·intro sp a4;rw[c9,hfn ds a3,c9];exact vN hl hb (fun t ht=>⟨(hrd t ht).1,(hrd t ht).2.1⟩) hA (fun x hx=>hlt x (by simp[hx])) (fun x hx=>a4 x (by simp[hx]))
 ·intro sp a4;rw[c9,hfn ds a3,hvars];rfl
 ·exact ok_one hres rfl (okWide_bool_mk hbt _)
end
end Eng
end
section
namespace Eng
open Go Go.RowKit Go.WideShapes Go.ChangeShapes Go.Deep
section
variable {H:Type} {enc:TypeId×Value→H} {P:Program}
theorem G5 {W:World} {F:Nat→Prop} {base:Nat} {sp:Nat→Bool} {held:Bool} {t e:TypeId} {v:Value} {d:DataW H} {p:List MemPlace} {es:List (List D)} (ht:P.underlying t=some (.slice e)) (h:Ls enc P W base sp held t v d p) (hv:CD W F (.sl es) v)
 (hw:(d.weights P t).all (· ≤reachBytes)=true):es.length*P.bytesOf e≤reachBytes:=by
 obtain⟨fuel,hf⟩:=h;obtain⟨ad,c,rfl,_⟩:=CD.slice_inv hv;have e0:(Value.slice ad es.length c).cells.toList=[.slice ad es.length c]:=rfl;rw[e0]at hf;rcases open_slice ht hf with⟨h1,_⟩|⟨a,len,cap,k,n,Dd,Pl,h1,_,hle,hcap,hk,hx,_⟩
 ·simp only[fS,and_true,Value.slice.injEq]at h1;rw[h1.2.1];simp
 ·simp only[fS,and_true,Value.slice.injEq]at h1;obtain⟨_,h2,_⟩:=h1;simp only[Prod.mk.injEq]at hx;rw[hx.1,DataW.weights,ht]at hw;simp only[List.all_cons,ey,List.length_range,Bx,decide_eq_true_eq]at hw;rw[h2];exact ix (Nat.mul_le_mul_right _ (by omega)) hw.1
theorem mJ {C:Cx} {K:List A→Prop} {f:Nat} {fn:Func} {s:ChangeSpec} {m bt:Nat} {apart fresh handsOn again:Bool} (hl:laidOutB C.P=true) (hbt:C.P.underlying bt=some .bool)
 (hres:fn.resultTypes= #[bt]) (hrd:∀t∈fn.params.toList,C.P.readableRec t=true∧t<C.P.types.size∧(zI C.P m t).isSome=true)
 (hvars:s.vars=[]) (hfn:∀ds:List (DataW H),ds.length=fn.params.size→s.fn H ds={results:=[.lit (.bool true)],args:=ds})
 (hg:∀al:List A,All2 (Dw C.P m) fn.params.toList al→K al→qe C f al [.c (.bool true)])
 {W:World} {base:Nat} {args:Array Value} {ds gs:List (DataW H)} {before:List MemPlace} (hi:Inv C (fun b=>b<W.heap.size) W)
 (hval:∀(j:Nat) t v,fn.params[j]? =some t→args[j]? =some v→V1 C.P W .any base t v)
 (hW:Lm enc C.P fn.params.toList s.vars apart W args.toList ds gs before)
 (hK:∀(al:List A) (p:List MemPlace),All2 (CA W (fun b=>b<W.heap.size)) al args.toList→J9 enc C.P W 0 (fun _=>true) true fn.params.toList args.toList ds p→K al):
 Calls C.P f args W fun e W'=>∃v,e= .returned v∧s.post enc C.P fn apart fresh handsOn again W args v W':=by
 have hW':=hW;have hlt:∀p∈before,p.block<W.heap.size:=fun p hp=>hW.lt p hp
 obtain⟨p,q,hA,hV,rfl,hfz,hnd⟩:=hW;rw[hvars]at hV;have hgq:gs=[]∧q=[]:=by
  cases gs with
  |nil=>exact⟨rfl,hV⟩
  |cons g gs=>exact hV.elim
 obtain⟨rfl,rfl⟩:=hgq;have a3:ds.length=fn.params.size:=by
  have key:∀{ts:List TypeId} {vs:List Value} {ds:List (DataW H)} {ps:List MemPlace},J9 enc C.P W 0 (fun _=>true) true ts vs ds ps→ds.length=ts.length:=by
   intro ts
   induction ts with
   |nil=>intro vs ds ps h;cases vs<;>cases ds<;>first|rfl|exact h.elim
   |cons t ts ih=>
    intro vs ds ps h;cases vs with
    |nil=>cases ds<;>exact h.elim
    |cons v vs=>cases ds with
     |nil=>exact h.elim
     |cons d ds=>obtain⟨p,q,_,h2,_⟩:=h;simp[ih h2]
  rw[key hA];simp
 obtain⟨al,h1,h2⟩:=Wr (F:=fun b=>b<W.heap.size) (fun _ h=>h) (m:=m) (fun t ht=>(hrd t ht).2.2) (fun j t v h3 h4=>hval j t v (by simpa using h3) (by simpa using h4)) hA;have hc:=hg al h2 (hK al _ h1 hA) W (fun b=>b<W.heap.size) args.toList (fun _ h=>h) hi h1;have e0:args.toList.toArray=args:=by simp
 rw[e0]at hc;refine hc.mono fun e W' he=>?_
 obtain⟨hb,v,rfl,hr⟩:=he;have hv:v= .bool true:=by have hr:CD _ _ (.bool true) v:=hr;cases hr;rfl
 subst hv;refine⟨_,rfl,Qm (pa:=p++[]) (pv:=[]) hW' ?_ ?_ ?_ (by simp) hb ?_⟩
 ·intro b sp hd;rw[c9,hfn ds a3,hres];exact trodAll_mk1 (shut_bool hbt true)
 ·intro sp a4;rw[c9,hfn ds a3,c9];exact vN hl hb (fun t ht=>⟨(hrd t ht).1,(hrd t ht).2.1⟩) hA (fun x hx=>hlt x (by simp[hx])) (fun x hx=>a4 x (by simp[hx]))
 ·intro sp a4;rw[c9,hfn ds a3,hvars];rfl
 ·exact ok_one hres rfl (okWide_bool_mk hbt _)
end
end Eng
end
