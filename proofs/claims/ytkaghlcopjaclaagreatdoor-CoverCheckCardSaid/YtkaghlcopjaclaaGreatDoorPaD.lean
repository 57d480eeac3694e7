import Derived.Test.YtkaghlcopjaclaaGreatDoorPaA
import Derived.Test.YtkaghlcopjaclaaGreatDoorPaC
import Derived.KernelRfl
open Bool renaming true_and->B0, false_or->Dd, and_eq_true->F0, eq_iff_iff->F2, true_or->Hu
open Eng renaming room->Hv
open Eng.A renaming ag->Hx
open Eng.C66 renaming fr->Hy, tt->HZ, arc->J3, cq->J4, lb->J5, cy->Lm, la->Lr, cx->Ls, lc->Lv, cw->No
open Eng.D renaming bool->Pl, sl->P1, int->Sz
open Eng.D.int renaming injEq->Ts
open Eng.D.sl renaming injEq->T1
open Eng.Hz renaming zero->U0, one->U3
open Go.IntKind renaming wrap->V1, i64->W0, u32->W1
open Int renaming toNat->W2, ofNat->W3, ofNat_eq_natCast->W4, toNat_natCast->aE, tdiv->ba, natAbs_natCast->bb, natCast_mul->bc, natAbs_mul->bd, le_refl->be
open LawfulBEq renaming eq_of_beq->bh
open List renaming take->bk, drop->bm, length->bs, getElem_mem->bv, getElem?_eq_getElem->bw, take_succ_eq_append_getElem->bx, replicate->b9, mem_singleton->cb, length_filter_le->cc, length_take->cf, length_cons->cg, drop_eq_getElem_cons->ch, mem_cons->cp, take_of_length_le->cr, length_nil->cv, append_nil->c4, take_length->c7, not_mem_nil->cH, length_drop->cL, mem_filter->dc, map_append->dk, length_map->dp, length_replicate->dv, length_append->dy, append_assoc->dA, map_take->ea, map_drop->eb, mem_map->ec
open List.cons renaming injEq->eg
open Nat renaming pow_lt_pow_right->el, le_refl->en, zero_le->er, lt_trans->et, le_trans->ew, le_mul_of_pos_right->ey, lt_of_le_of_lt->ez, eq_zero_or_pos->e0, mul_self_le_mul_self_iff->eH, pow_le_pow_right->fg, lt_or_ge->fl
open Option.some renaming inj->fs
open Rat renaming le_of_lt->ft, mul_eq_zero->fw, num_nonneg->fx, mul_nonneg->fz
set_option maxRecDepth 1000000
section
namespace Eng
open Go Go.Proofs
section
variable (Gv:Nat->List A->List A->Prop)(I0:List D->List D->Prop)(M0:List D->Nat)(I1:List D->List D->Prop)(M1:List D->Nat)(I2:List D->List D->Prop)(M2:List D->Nat)(I3:List D->List D->Prop)(M3:List D->Nat)(Q:List A->Prop)
theorem AC(r0:R4)(r1:R4):wpF CC Gv an0 Tryz.f284 [.ag (rk r0 []),.ag (rk r1 [])] Q=(∃x,Gv 8 [aR r0,aR r1] [aR x]/\Q [aR x]):=by kernel_rfl
theorem AD(r0:R4)(r1:R4):wpF CC Gv an0 Tryz.f283 [.ag (rk r0 []),.ag (rk r1 [])] Q=(∃x,Gv 55 [aR r0,aR r1] [aR x]/\Q [aR x]):=by kernel_rfl
theorem AE(r0:R4)(r1:R4):wpF CC Gv an0 Tryz.f276 [.ag (rk r0 []),.ag (rk r1 [])] Q=(∃x,Gv 114 [aR r0,aR r1] [aR x]/\Q [aR x]):=by kernel_rfl
theorem Jx(r0:R4)(r1:R4)(r2:R4)(r3:R4):wpF CC Gv an0 Tryz.f228 [.ag (rk r0 (rk r1 [])),.ag (rk r2 (rk r3 []))] Q=(∃x,Gv 283 [aR r1,aR r3] [aR x]/\∃x1,Gv 283 [aR r2,aR r0] [aR x1]/\∃i,Gv 36 [aR x] [aI i]/\bB (i==0) (∃i,Gv 36 [aR x1] [aI i]/\bB (i==0) (Q [Hx [Pl false,P1 [],Pl false,P1 [],Pl false,P1 [],Pl false,P1 [],Pl false,P1 [],Pl false,P1 []],aI (6:Int)]) (∃x2,Gv 276 [aR x,aR r0] [aR x2]/\∃x3,Gv 276 [aR x1,aR r1] [aR x3]/\∃x4,Gv 284 [aR x2,aR x3] [aR x4]/\Q [aT x x1 x4,aI (0:Int)])) (∃x2,Gv 276 [aR x,aR r0] [aR x2]/\∃x3,Gv 276 [aR x1,aR r1] [aR x3]/\∃x4,Gv 284 [aR x2,aR x3] [aR x4]/\Q [aT x x1 x4,aI (0:Int)])):=by kernel_rfl
theorem Re(r0:R4)(r1:R4)(r2:R4):wpF CC Gv an0 Tryz.f154 [.ag (rk r0 (rk r1 (rk r2 [])))] Q=(∃b,Gv 38 [aR r0] [aB b]/\br b (∃b,Gv 38 [aR r1] [aB b]/\br b (∃b,Gv 38 [aR r2] [aB b]/\br b (∃i,Gv 36 [aR r0] [aI i]/\bB (i !=0) (Q [aB true]) (∃i,Gv 36 [aR r1] [aI i]/\Q [aB (i !=0)])) (Q [aB false])) (Q [aB false])) (Q [aB false])):=by kernel_rfl
theorem UD(r0:R4)(r1:R4)(r2:R4):wpF CC Gv an0 Tryz.f153 [.ag (rk r0 (rk r1 (rk r2 [])))] Q=(∃b,Gv 38 [aR r0] [aB b]/\br b (∃b,Gv 38 [aR r1] [aB b]/\br b (∃b,Gv 38 [aR r2] [aB b]/\br b (∃i,Gv 36 [aR r2] [aI i]/\Q [aB (decide (i>0))]) (Q [aB false])) (Q [aB false])) (Q [aB false])):=by kernel_rfl
theorem G6(r0:R4)(r1:R4)(r2:R4)(r3:R4)(r4:R4)(r5:R4):wpF CC Gv an0 Tryz.f222 [.ag (rk r0 (rk r1 (rk r2 []))),.ag (rk r3 (rk r4 (rk r5 [])))] Q=(∃x,Gv 276 [aR r0,aR r4] [aR x]/\∃x1,Gv 276 [aR r1,aR r3] [aR x1]/\∃i,Gv 85 [aR x,aR x1] [aI i]/\bB (i==0) (∃x,Gv 276 [aR r0,aR r5] [aR x]/\∃x2,Gv 276 [aR r2,aR r3] [aR x2]/\∃i,Gv 85 [aR x,aR x2] [aI i]/\bB (i==0) (∃x,Gv 276 [aR r1,aR r5] [aR x]/\∃x3,Gv 276 [aR r2,aR r4] [aR x3]/\∃i,Gv 85 [aR x,aR x3] [aI i]/\Q [aB (i==0)]) (Q [aB false])) (Q [aB false])):=by kernel_rfl
theorem Wx(r0:R4)(r1:R4)(r2:R4)(r3:R4)(r4:R4)(r5:R4):wpF CC Gv an0 Tryz.f221 [.ag (rk r0 (rk r1 (rk r2 []))),.ag (rk r3 (rk r4 (rk r5 [])))] Q=(∃i,Gv 85 [aR r0,aR r3] [aI i]/\bB (i==0) (∃i,Gv 85 [aR r1,aR r4] [aI i]/\bB (i==0) (∃i,Gv 85 [aR r2,aR r5] [aI i]/\Q [aB (i==0)]) (Q [aB false])) (Q [aB false])):=by kernel_rfl
theorem Rf(r0:R4)(r1:R4)(r2:R4)(p0:P20):wpF CC Gv an0 Tryz.f268 [.ag (rk r0 (rk r1 (rk r2 []))),.ag (pk p0 [])] Q=(∃x,Gv 276 [aR r0,aR (P20.x p0)] [aR x]/\∃x1,Gv 276 [aR r1,aR (P20.y p0)] [aR x1]/\∃x2,Gv 284 [aR x,aR x1] [aR x2]/\∃x,Gv 283 [aR x2,aR r2] [aR x]/\∃x3,Gv 276 [aR r0,aR (P20.u p0)] [aR x3]/\∃x4,Gv 276 [aR r1,aR (P20.v p0)] [aR x4]/\∃x5,Gv 284 [aR x3,aR x4] [aR x5]/\∃x6 x7 x8 i,Gv 305 [aR x,aR x5,aR (P20.c p0)] [aT x6 x7 x8,aI i]/\Q [aT x6 x7 x8]):=by kernel_rfl
theorem C8(r0:R4)(r1:R4)(r2:R4)(p0:P20):wpF CC Gv an0 Tryz.f214 [.ag (rk r0 (rk r1 (rk r2 []))),.ag (pk p0 [])] Q=(∃x x1 x2,Gv 268 [aT r0 r1 r2,aP p0] [aT x x1 x2]/\∃i,Gv 267 [aT x x1 x2] [aI i]/\Q [aI i]):=by kernel_rfl
theorem Rg(r0:R4)(r1:R4)(r2:R4)(p0:P20):wpF CC Gv an0 Tryz.f270 [.ag (rk r0 (rk r1 (rk r2 []))),.ag (pk p0 [])] Q=(∃x x1 x2,Gv 306 [aP p0,aV r0 r1] [aT x x1 x2]/\∃x3,Gv 9 [aR r2] [aR x3]/\∃x4 x5 x6,Gv 269 [aT x x1 x2,aR x3] [aT x4 x5 x6]/\Q [aT x4 x5 x6]):=by kernel_rfl
theorem Mj(r0:R4)(r1:R4)(r2:R4)(p0:P20):wpF CC Gv an0 Tryz.f216 [.ag (rk r0 (rk r1 (rk r2 []))),.ag (pk p0 [])] Q=(∃x x1 x2,Gv 270 [aT r0 r1 r2,aP p0] [aT x x1 x2]/\∃i,Gv 267 [aT x x1 x2] [aI i]/\Q [aI (V1 .i64 (0-i))]):=by kernel_rfl
theorem AF(r0:R4)(r1:R4):wpF CC Gv an0 Tryz.f307 [.ag (rk r0 []),.ag (rk r1 [])] Q=(∃x,Gv 8 [aR r0,aR r1] [aR x]/\Q [aR x]):=by kernel_rfl
theorem AG(r0:R4)(r1:R4):wpF CC Gv an0 Tryz.f321 [.ag (rk r0 []),.ag (rk r1 [])] Q=(∃x,Gv 55 [aR r0,aR r1] [aR x]/\Q [aR x]):=by kernel_rfl
theorem AH(r0:R4)(r1:R4):wpF CC Gv an0 Tryz.f308 [.ag (rk r0 []),.ag (rk r1 [])] Q=(∃x,Gv 114 [aR r0,aR r1] [aR x]/\Q [aR x]):=by kernel_rfl
theorem AI(r0:R4):wpF CC Gv an0 Tryz.f272 [.ag (rk r0 [])] Q=(∃x,Gv 9 [aR r0] [aR x]/\Q [aR x]):=by kernel_rfl
theorem C9(r0:R4)(r1:R4):wpF CC Gv an0 Tryz.f319 [.ag (rk r0 []),.ag (rk r1 [])] Q=(∃x i,Gv 310 [aR r0,aR r1] [aR x,aI i]/\Q [aR x]):=by kernel_rfl
theorem Rh(r0:R4)(r1:R4)(r2:R4)(r3:R4)(r4:R4)(r5:R4):wpF CC Gv an0 Tryz.f322 [.ag (rk r0 (rk r1 (rk r2 []))),.ag (rk r3 (rk r4 (rk r5 [])))] Q=(∃x,Gv 308 [aR r0,aR r4] [aR x]/\∃x1,Gv 308 [aR r3,aR r1] [aR x1]/\∃x2,Gv 321 [aR x,aR x1] [aR x2]/\Q [aR x2]):=by kernel_rfl
theorem Ri(r0:R4)(r1:R4)(r2:R4)(r3:R4)(r4:R4)(r5:R4):wpF CC Gv an0 Tryz.f279 [.ag (rk r0 (rk r1 (rk r2 []))),.ag (rk r3 (rk r4 (rk r5 [])))] Q=(∃x,Gv 322 [aT r0 r1 r2,aT r3 r4 r5] [aR x]/\∃x1,Gv 308 [aR r2,aR r4] [aR x1]/\∃x2,Gv 308 [aR r5,aR r1] [aR x2]/\∃x3,Gv 321 [aR x1,aR x2] [aR x3]/\∃x4,Gv 308 [aR r0,aR r5] [aR x4]/\∃x5,Gv 308 [aR r3,aR r2] [aR x5]/\∃x6,Gv 321 [aR x4,aR x5] [aR x6]/\∃i,Gv 36 [aR x] [aI i]/\bB (i !=0) (∃x7,Gv 319 [aR x3,aR x] [aR x7]/\∃x8,Gv 319 [aR x6,aR x] [aR x8]/\∃x,Gv 91 [aV x7 x8] [aP x]/\Q [aL [(pk x [])],aI (0:Int)]) (∃i,Gv 36 [aR x3] [aI i]/\bB (i==0) (∃i,Gv 36 [aR x6] [aI i]/\bB (i==0) (Q [aL [],aI (10:Int)]) (Q [aL [],aI (0:Int)])) (Q [aL [],aI (0:Int)]))):=by kernel_rfl
theorem CE(r0:R4)(r1:R4)(r2:R4):wpF CC Gv an0 Tryz.f318 [.ag (rk r0 (rk r1 (rk r2 [])))] Q=(∃x,Gv 308 [aR r0,aR r0] [aR x]/\∃x1,Gv 308 [aR r1,aR r1] [aR x1]/\∃x2,Gv 307 [aR x,aR x1] [aR x2]/\Q [aR x2]):=by kernel_rfl
theorem Rj(r0:R4)(r1:R4)(r2:R4)(r3:R4)(r4:R4):wpF CC Gv an0 Tryz.f320 [.ag (rk r0 (rk r1 (rk r2 []))),.ag (rk r3 []),.ag (rk r4 [])] Q=(∃x,Gv 308 [aR r0,aR r3] [aR x]/\∃x1,Gv 308 [aR r1,aR r4] [aR x1]/\∃x2,Gv 307 [aR x,aR x1] [aR x2]/\∃x,Gv 321 [aR x2,aR r2] [aR x]/\Q [aR x]):=by kernel_rfl
theorem CG(r0:R4)(r1:R4)(r2:R4)(r3:R4)(r4:R4)(r5:R4):wpF CC Gv an0 Tryz.f317 [.ag (rk r0 (rk r1 (rk r2 []))),.ag (rk r3 (rk r4 (rk r5 [])))] Q=(∃x,Gv 320 [aT r0 r1 r2,aR r3,aR r4] [aR x]/\∃x1,Gv 318 [aT r0 r1 r2] [aR x1]/\∃x2,Gv 308 [aR x1,aR r5] [aR x2]/\∃x3,Gv 308 [aR x,aR x] [aR x3]/\∃x,Gv 321 [aR x2,aR x3] [aR x]/\Q [aR x]):=by kernel_rfl
theorem UE(r0:R4)(r1:R4)(r2:R4)(r3:R4)(r4:R4):wpF CC Gv an0 Tryz.f271 [.ag (rk r0 []),.ag (rk r1 []),.ag (rk r2 []),.ag (rk r3 []),.ag (rk r4 [])] Q=(∃x b,Gv 218 [aR r4] [aR x,aB b]/\br b (∃x1,Gv 308 [aR r1,aR x] [aR x1]/\∃x2,Gv 307 [aR r0,aR x1] [aR x2]/\∃x3,Gv 308 [aR r3,aR x] [aR x3]/\∃x,Gv 307 [aR r2,aR x3] [aR x]/\∃x4,Gv 91 [aV x2 x] [aP x4]/\Q [aP x4]) (Q [Hx (rk r0 (rk r1 (rk r2 (rk r3 (rk r4 [])))))])):=by kernel_rfl
theorem Wy(r0:R4)(r1:R4)(r2:R4)(r3:R4)(r4:R4)(r5:R4):wpF CC Gv an0 Tryz.f278 [.ag (rk r0 (rk r1 (rk r2 []))),.ag (rk r3 (rk r4 (rk r5 [])))] Q=(∃x,Gv 317 [aT r0 r1 r2,aT r3 r4 r5] [aR x]/\∃x1,Gv 318 [aT r0 r1 r2] [aR x1]/\∃i,Gv 36 [aR x] [aI i]/\bB (decide (i<0)) (Q [aL []]) (∃x2,Gv 320 [aT r0 r1 r2,aR r3,aR r4] [aR x2]/\∃x3,Gv 319 [aR x2,aR x1] [aR x3]/\∃x4,Gv 308 [aR x3,aR r0] [aR x4]/\∃x5,Gv 321 [aR r3,aR x4] [aR x5]/\∃x6,Gv 308 [aR x3,aR r1] [aR x6]/\∃x7,Gv 321 [aR r4,aR x6] [aR x7]/\∃i,Gv 36 [aR x] [aI i]/\bB (i==0) (∃x,Gv 91 [aV x5 x7] [aP x]/\Q [aL [(pk x [])]]) (∃x8,Gv 319 [aR r1,aR x1] [aR x8]/\∃x9,Gv 272 [aR r0] [aR x9]/\∃x10,Gv 319 [aR x9,aR x1] [aR x10]/\∃x11,Gv 272 [aR x8] [aR x11]/\∃x12,Gv 272 [aR x10] [aR x12]/\∃x13,Gv 271 [aR x5,aR x11,aR x7,aR x12,aR x] [aP x13]/\∃x14,Gv 271 [aR x5,aR x8,aR x7,aR x10,aR x] [aP x14]/\∃i,Gv 219 [aP x13,aP x14] [aI i]/\bB (decide (i>0)) (Q [aL [(pk x14 []),(pk x13 [])]]) (Q [aL [(pk x13 []),(pk x14 [])]])))):=by kernel_rfl
theorem CH(r0:R4)(r1:R4)(r2:R4)(r3:R4)(r4:R4)(r5:R4):wpF CC Gv an0 Tryz.f315 [.ag (rk r0 (rk r1 (rk r2 []))),.ag (rk r3 (rk r4 (rk r5 [])))] Q=(∃i,Gv 85 [aR r0,aR r3] [aI i]/\bB (i==0) (∃i,Gv 85 [aR r1,aR r4] [aI i]/\Q [aB (i==0)]) (Q [aB false])):=by kernel_rfl
theorem UF(r0:R4)(r1:R4)(r2:R4)(r3:R4)(r4:R4)(r5:R4):wpF CC Gv an0 Tryz.f316 [.ag (rk r0 (rk r1 (rk r2 []))),.ag (rk r3 (rk r4 (rk r5 [])))] Q=(∃b,Gv 315 [aT r0 r1 r2,aT r3 r4 r5] [aB b]/\br b (Q [Hx [Pl false,P1 [],Pl false,P1 [],Pl false,P1 [],Pl false,P1 [],Pl false,P1 [],Pl false,P1 []],aI (6:Int)]) (∃x,Gv 17 [aI (2:Int)] [aR x]/\∃x1,Gv 308 [aR r0,aR r0] [aR x1]/\∃x2,Gv 308 [aR r1,aR r1] [aR x2]/\∃x3,Gv 307 [aR x1,aR x2] [aR x3]/\∃x4,Gv 321 [aR x3,aR r2] [aR x4]/\∃x5,Gv 308 [aR r3,aR r3] [aR x5]/\∃x6,Gv 308 [aR r4,aR r4] [aR x6]/\∃x7,Gv 307 [aR x5,aR x6] [aR x7]/\∃x8,Gv 321 [aR x7,aR r5] [aR x8]/\∃x9,Gv 321 [aR r3,aR r0] [aR x9]/\∃x10,Gv 308 [aR x,aR x9] [aR x10]/\∃x11,Gv 321 [aR r4,aR r1] [aR x11]/\∃x12,Gv 308 [aR x,aR x11] [aR x12]/\∃x,Gv 321 [aR x8,aR x4] [aR x]/\Q [aT x10 x12 x,aI (0:Int)])):=by kernel_rfl
theorem UG(r0:R4)(r1:R4)(r2:R4)(r3:R4)(r4:R4)(r5:R4):wpF CC Gv an0 Tryz.f277 [.ag (rk r0 (rk r1 (rk r2 []))),.ag (rk r3 (rk r4 (rk r5 [])))] Q=(∃b,Gv 315 [aT r0 r1 r2,aT r3 r4 r5] [aB b]/\br b (∃i,Gv 85 [aR r2,aR r5] [aI i]/\bB (i==0) (Q [aL [],aI (10:Int)]) (Q [aL [],aI (0:Int)])) (∃x x1 x2 i,Gv 316 [aT r0 r1 r2,aT r3 r4 r5] [aT x x1 x2,aI i]/\∃es,Gv 278 [aT x x1 x2,aT r0 r1 r2] [aL es]/\Q [aL es,aI (0:Int)])):=by kernel_rfl
theorem kG(c0:C66)(c1:C66):wpF CC Gv an0 Tryz.f225 [.ag (ck c0 []),.ag (ck c1 [])] Q=(bB (J3 c0) (bB (J3 c1) (∃es i,Gv 277 [aT (Ls c0) (Lm c0) (J4 c0),aT (Ls c1) (Lm c1) (J4 c1)] [aL es,aI i]/\Q [aL es,aI i]) (bB (J3 c0) (∃es,Gv 278 [aT (Lr c1) (J5 c1) (Lv c1),aT (Ls c0) (Lm c0) (J4 c0)] [aL es]/\Q [aL es,aI (0:Int)]) (bB (J3 c1) (∃es,Gv 278 [aT (Lr c0) (J5 c0) (Lv c0),aT (Ls c1) (Lm c1) (J4 c1)] [aL es]/\Q [aL es,aI (0:Int)]) (∃es i,Gv 279 [aT (Lr c0) (J5 c0) (Lv c0),aT (Lr c1) (J5 c1) (Lv c1)] [aL es,aI i]/\Q [aL es,aI i])))) (bB (J3 c0) (∃es,Gv 278 [aT (Lr c1) (J5 c1) (Lv c1),aT (Ls c0) (Lm c0) (J4 c0)] [aL es]/\Q [aL es,aI (0:Int)]) (bB (J3 c1) (∃es,Gv 278 [aT (Lr c0) (J5 c0) (Lv c0),aT (Ls c1) (Lm c1) (J4 c1)] [aL es]/\Q [aL es,aI (0:Int)]) (∃es i,Gv 279 [aT (Lr c0) (J5 c0) (Lv c0),aT (Lr c1) (J5 c1) (Lv c1)] [aL es,aI i]/\Q [aL es,aI i])))):=by kernel_rfl
theorem G7(r0:R4)(r1:R4)(r2:R4):wpF CC Gv an0 Tryz.f217 [.ag (rk r0 (rk r1 (rk r2 [])))] Q=(∃x,Gv 17 [aI (1:Int)] [aR x]/\∃x1,Gv 17 [aI (0:Int)] [aR x1]/\∃x2,Gv 272 [aR x] [aR x2]/\∃x3,Gv 271 [aR r0,aR x2,aR r1,aR x1,aR r2] [aP x3]/\∃x4,Gv 271 [aR r0,aR x,aR r1,aR x1,aR r2] [aP x4]/\Q [aP x3,aP x4]):=by kernel_rfl
theorem Ze(r0:R4)(r1:R4)(r2:R4)(r3:R4):wpF CC Gv an0 Tryz.f163 [.ag (rk r0 (rk r1 [])),.ag (rk r2 (rk r3 []))] Q=(∃x x1 x2 i,Gv 228 [aV r0 r1,aV r2 r3] [aT x x1 x2,aI i]/\bB (i !=0) (Q [Hx [Pl false,Pl false,P1 [],Pl false,P1 [],Pl false,P1 [],Pl false,P1 [],Pl false,P1 [],Pl false,P1 [],Pl false,P1 [],Pl false,P1 [],Pl false,P1 [],Pl false,P1 [],Pl false,P1 [],Pl false,P1 [],Pl false,Pl false,P1 [],Pl false,P1 [],Pl false,P1 [],Pl false,P1 [],Pl false,P1 [],Pl false,P1 [],Pl false,P1 [],Pl false,P1 [],Pl false,P1 [],Pl false,P1 [],Pl false,P1 [],Pl false,P1 [],Pl false,P1 [],Pl false,P1 [],Pl false,P1 [],Pl false,P1 [],Pl false,P1 [],Pl false,P1 [],Pl false,P1 [],Pl false,P1 []],aI (6:Int)]) (∃x3,Gv 91 [aV r0 r1] [aP x3]/\∃x4,Gv 91 [aV r2 r3] [aP x4]/\Q [Hx (Pl false::(rk x (rk x1 (rk x2 (Pl false::(P1 []::(Pl false::(P1 []::(Pl false::(P1 []::(Pl false::(P1 []::(Pl false::(P1 []::(Pl false::(P1 []::(Pl false::(pk x3 (pk x4 []))))))))))))))))))),aI (0:Int)])):=by kernel_rfl
theorem Rk(r0:R4)(r1:R4)(r2:R4):wpF CC Gv an0 Tryz.f151 [.ag (rk r0 (rk r1 (rk r2 [])))] Q=(∃x x1,Gv 217 [aT r0 r1 r2] [aP x,aP x1]/\Q [aL [(Pl true::(Pl false::(P1 []::(Pl false::(P1 []::(Pl false::(P1 []::(Pl false::(P1 []::(Pl false::(P1 []::(Pl false::(P1 []::(rk r0 (rk r1 (rk r2 (Pl false::(pk x (pk x1 []))))))))))))))))))),(Pl true::(Pl false::(P1 []::(Pl false::(P1 []::(Pl false::(P1 []::(Pl false::(P1 []::(Pl false::(P1 []::(Pl false::(P1 []::(rk r0 (rk r1 (rk r2 (Pl false::(pk x1 (pk x [])))))))))))))))))))]]):=by kernel_rfl
theorem G8(c0:C66)(p0:P20):wpF CC Gv an0 Tryz.f155 [.ag (ck c0 []),.ag (pk p0 [])] Q=(bB (J3 c0) (∃i,Gv 216 [aT (Ls c0) (Lm c0) (J4 c0),aP p0] [aI i]/\Q [aB (i==0)]) (∃i,Gv 214 [aT (Lr c0) (J5 c0) (Lv c0),aP p0] [aI i]/\Q [aB (i==0)])):=by kernel_rfl
theorem Mk(c0:C66):wpF CC Gv an0 Tryz.f96 [.ag (ck c0 [])] Q=(∃b,Gv 152 [aP (Hy c0)] [aB b]/\bB (!b) (Q [aB false]) (∃b,Gv 152 [aP (HZ c0)] [aB b]/\bB (!b) (Q [aB false]) (bB (J3 c0) (∃b,Gv 153 [aT (Ls c0) (Lm c0) (J4 c0)] [aB b]/\bB (!b) (Q [aB false]) (bB (!J3 c0) (bB (No c0) (Q [aB false]) (∃b,Gv 154 [aT (Lr c0) (J5 c0) (Lv c0)] [aB b]/\bB (!b) (Q [aB false]) (∃b,Gv 155 [aC c0,aP (Hy c0)] [aB b]/\br b (∃b,Gv 155 [aC c0,aP (HZ c0)] [aB b]/\br b (∃b,Gv 156 [aP (Hy c0),aP (HZ c0)] [aB b]/\Q [aB (!b)]) (Q [aB false])) (Q [aB false])))) (∃b,Gv 155 [aC c0,aP (Hy c0)] [aB b]/\br b (∃b,Gv 155 [aC c0,aP (HZ c0)] [aB b]/\br b (∃b,Gv 156 [aP (Hy c0),aP (HZ c0)] [aB b]/\Q [aB (!b)]) (Q [aB false])) (Q [aB false])))) (bB (!J3 c0) (bB (No c0) (Q [aB false]) (∃b,Gv 154 [aT (Lr c0) (J5 c0) (Lv c0)] [aB b]/\bB (!b) (Q [aB false]) (∃b,Gv 155 [aC c0,aP (Hy c0)] [aB b]/\br b (∃b,Gv 155 [aC c0,aP (HZ c0)] [aB b]/\br b (∃b,Gv 156 [aP (Hy c0),aP (HZ c0)] [aB b]/\Q [aB (!b)]) (Q [aB false])) (Q [aB false])))) (∃b,Gv 155 [aC c0,aP (Hy c0)] [aB b]/\br b (∃b,Gv 155 [aC c0,aP (HZ c0)] [aB b]/\br b (∃b,Gv 156 [aP (Hy c0),aP (HZ c0)] [aB b]/\Q [aB (!b)]) (Q [aB false])) (Q [aB false])))))):=by kernel_rfl
theorem Ml(r0:R4)(r1:R4)(r2:R4)(p0:P20):wpF CC Gv an0 Tryz.f340 [.ag (rk r0 (rk r1 (rk r2 []))),.ag (pk p0 [])] Q=(∃x x1 x2,Gv 213 [aP p0] [aT x x1 x2]/\∃i,Gv 344 [aT x x1 x2,aR r1] [aI i]/\bB (decide (i>0)) (Q [aB true]) (bB (i==0) (∃x x3 x4,Gv 145 [aP p0] [aT x x3 x4]/\∃i,Gv 344 [aT x x3 x4,aR r0] [aI i]/\Q [aB (decide (i>0))]) (Q [aB false]))):=by kernel_rfl
theorem Mm(r0:R4)(r1:R4)(r2:R4)(p0:P20)(p1:P20):wpF CC Gv an0 Tryz.f323 [.ag (rk r0 (rk r1 (rk r2 []))),.ag (pk p0 []),.ag (pk p1 [])] Q=(∃b,Gv 340 [aT r0 r1 r2,aP p0] [aB b]/\∃b1,Gv 340 [aT r0 r1 r2,aP p1] [aB b1]/\bB (!b==b1) (br b1 (Q [aI (-1:Int)]) (Q [aI (1:Int)])) (∃x x1 x2,Gv 145 [aP p0] [aT x x1 x2]/\∃x3 x4 x5,Gv 145 [aP p1] [aT x3 x4 x5]/\∃i,Gv 147 [aT x x1 x2,aT x3 x4 x5] [aI i]/\br b (Q [aI (V1 .i64 (0-i))]) (Q [aI i]))):=by kernel_rfl
theorem Mn(r0:R4)(r1:R4)(r2:R4)(p0:P20)(p1:P20)(p2:P20):wpF CC Gv an0 Tryz.f280 [.ag (rk r0 (rk r1 (rk r2 []))),.ag (pk p0 []),.ag (pk p1 []),.ag (pk p2 [])] Q=(∃i,Gv 323 [aT r0 r1 r2,aP p1,aP p0] [aI i]/\∃i_1,Gv 323 [aT r0 r1 r2,aP p2,aP p0] [aI i_1]/\bB (!decide (i<0)==decide (i_1<0)) (bB (decide (i_1<0)) (Q [aI (-1:Int)]) (Q [aI (1:Int)])) (∃i,Gv 323 [aT r0 r1 r2,aP p1,aP p2] [aI i]/\Q [aI i])):=by kernel_rfl
theorem Mp(c0:C66)(p0:P20)(p1:P20):wpF CC Gv an0 Tryz.f227 [.ag (ck c0 []),.ag (pk p0 []),.ag (pk p1 [])] Q=(bB (!J3 c0) (∃i,Gv 219 [aP p0,aP p1] [aI i]/\∃i_1,Gv 219 [aP (Hy c0),aP (HZ c0)] [aI i_1]/\bB (decide (i_1>0)) (Q [aI (V1 .i64 (0-i))]) (Q [aI i])) (bB (!No c0) (∃i,Gv 280 [aT (Ls c0) (Lm c0) (J4 c0),aP (Hy c0),aP p0,aP p1] [aI i]/\Q [aI i]) (∃x,Gv 281 [aC c0] [aC x]/\∃x1,Gv 282 [aP p0] [aP x1]/\∃x2,Gv 282 [aP p1] [aP x2]/\∃i,Gv 280 [aT (Ls x) (Lm x) (J4 x),aP (Hy x),aP x1,aP x2] [aI i]/\Q [aI i]))):=by kernel_rfl
theorem Rm(p0:P20):wpF CC Gv an0 Tryz.f282 [.ag (pk p0 [])] Q=(∃x,Gv 9 [aR (P20.x p0)] [aR x]/\∃x1,Gv 9 [aR (P20.u p0)] [aR x1]/\Q [Hx (rk x (rk x1 (rk (P20.y p0) (rk (P20.v p0) (rk (P20.c p0) [])))))]):=by kernel_rfl
theorem UH(c0:C66):wpF CC Gv an0 Tryz.f281 [.ag (ck c0 [])] Q=(∃x,Gv 9 [aR (Ls c0)] [aR x]/\∃x1,Gv 282 [aP (Hy c0)] [aP x1]/\∃x2,Gv 282 [aP (HZ c0)] [aP x2]/\Q [Hx (Pl (J3 c0)::(rk (Lr c0) (rk (J5 c0) (rk (Lv c0) (rk x (rk (Lm c0) (rk (J4 c0) (Pl (!No c0)::(pk x1 (pk x2 []))))))))))]):=by kernel_rfl
theorem AJ(c0:C66)(p0:P20):wpF CC Gv an0 Tryz.f207 [.ag (ck c0 []),.ag (pk p0 [])] Q=(∃b,Gv 155 [aC c0,aP p0] [aB b]/\br b (∃i,Gv 227 [aC c0,aP (Hy c0),aP p0] [aI i]/\bB (decide (i<=0)) (∃i,Gv 227 [aC c0,aP p0,aP (HZ c0)] [aI i]/\Q [aB (decide (i<=0))]) (Q [aB false])) (Q [aB false])):=by kernel_rfl
theorem G9(c0:C66):wpF CC Gv an0 Tryz.f224 [.ag (ck c0 [])] Q=(bB (J3 c0) (Q [Hx (Pl (J3 c0)::(rk (Lr c0) (rk (J5 c0) (rk (Lv c0) (rk (Ls c0) (rk (Lm c0) (rk (J4 c0) (Pl (!No c0)::(pk (HZ c0) (pk (Hy c0) []))))))))))]) (Q [Hx (Pl (J3 c0)::(rk (Lr c0) (rk (J5 c0) (rk (Lv c0) (rk (Ls c0) (rk (Lm c0) (rk (J4 c0) (Pl false::(pk (HZ c0) (pk (Hy c0) []))))))))))])):=by kernel_rfl
theorem Rn(c0:C66)(c1:C66):wpF CC Gv an0 Tryz.f158 [.ag (ck c0 []),.ag (ck c1 [])] Q=(bB (!J3 c0==J3 c1) (Q [aB false]) (bB (J3 c0) (∃b,Gv 221 [aT (Ls c0) (Lm c0) (J4 c0),aT (Ls c1) (Lm c1) (J4 c1)] [aB b]/\Q [aB b]) (∃b,Gv 222 [aT (Lr c0) (J5 c0) (Lv c0),aT (Lr c1) (J5 c1) (Lv c1)] [aB b]/\Q [aB b]))):=by kernel_rfl
theorem Mq(c0:C66)(c1:C66):wpF CC Gv an0 Tryz.f159 [.ag (ck c0 []),.ag (ck c1 [])] Q=(∃b,Gv 158 [aC c0,aC c1] [aB b]/\br b (bB (No c0==No c1) (∃b,Gv 156 [aP (Hy c0),aP (Hy c1)] [aB b]/\br b (∃b,Gv 156 [aP (HZ c0),aP (HZ c1)] [aB b]/\Q [aB b]) (Q [aB false])) (Q [aB false])) (Q [aB false])):=by kernel_rfl
theorem Mr(c0:C66)(p0:P20):wpF CC Gv an0 Tryz.f223 [.ag (ck c0 []),.ag (pk p0 [])] Q=(∃b,Gv 207 [aC c0,aP p0] [aB b]/\br b (∃b,Gv 156 [aP (Hy c0),aP p0] [aB b]/\bB (!b) (∃b,Gv 156 [aP (HZ c0),aP p0] [aB b]/\Q [aB (!b)]) (Q [aB false])) (Q [aB false])):=by kernel_rfl
theorem Ro(c0:C66):wpF CC Gv an0 Tryz.f146 [.ag (ck c0 [])] Q=(bB (!J3 c0) (∃x x1 x2,Gv 145 [aP (Hy c0)] [aT x x1 x2]/\∃x3 x4 x5,Gv 145 [aP (HZ c0)] [aT x3 x4 x5]/\∃b,Gv 209 [aT x x1 x2,aT x3 x4 x5] [aB b]/\Q [aB b]) (Q [aB false])):=by kernel_rfl
theorem UI(c0:C66)(r0:R4)(r1:R4)(r2:R4):wpF CC Gv an0 Tryz.f212 [.ag (ck c0 []),.ag (rk r0 (rk r1 (rk r2 [])))] Q=(∃x x1 x2,Gv 145 [aP (Hy c0)] [aT x x1 x2]/\∃i,Gv 147 [aT x x1 x2,aT r0 r1 r2] [aI i]/\bB (decide (i<=0)) (∃x x3 x4,Gv 145 [aP (HZ c0)] [aT x x3 x4]/\∃i,Gv 147 [aT r0 r1 r2,aT x x3 x4] [aI i]/\Q [aB (decide (i<=0))]) (Q [aB false])):=by kernel_rfl
theorem Ms(c0:C66)(p0:P20):wpF CC Gv an0 Tryz.f148 [.ag (ck c0 []),.ag (pk p0 [])] Q=(∃x x1 x2,Gv 145 [aP p0] [aT x x1 x2]/\∃b,Gv 212 [aC c0,aT x x1 x2] [aB b]/\bB (!b) (Q [aI (0:Int),aI (1:Int)]) (∃b,Gv 146 [aC c0] [aB b]/\br b (∃x x3 x4,Gv 213 [aP p0] [aT x x3 x4]/\∃x5 x6 x7,Gv 213 [aP (HZ c0)] [aT x5 x6 x7]/\∃i,Gv 147 [aT x x3 x4,aT x5 x6 x7] [aI i]/\bB (decide (i>0)) (Q [aI (1:Int),aI (0:Int)]) (∃x x8 x9,Gv 213 [aP p0] [aT x x8 x9]/\∃x10 x11 x12,Gv 213 [aP (Hy c0)] [aT x10 x11 x12]/\∃i,Gv 147 [aT x x8 x9,aT x10 x11 x12] [aI i]/\bB (decide (i<0)) (Q [aI (-1:Int),aI (0:Int)]) (Q [aI (0:Int),aI (0:Int)]))) (bB (!J3 c0) (∃i,Gv 214 [aT (Lr c0) (J5 c0) (Lv c0),aP p0] [aI i]/\∃i_1,Gv 36 [aR (J5 c0)] [aI i_1]/\Q [aI (V1 .i64 (i*i_1)),aI (0:Int)]) (∃x x3 x4,Gv 213 [aP p0] [aT x x3 x4]/\∃i,Gv 215 [aT x x3 x4,aR (Lm c0)] [aI i]/\∃i_1,Gv 216 [aT (Ls c0) (Lm c0) (J4 c0),aP p0] [aI i_1]/\bB (No c0) (bB (decide (i<0)) (Q [aI (-1:Int),aI (0:Int)]) (Q [aI (V1 .i64 (0-i_1)),aI (0:Int)])) (bB (decide (i>0)) (Q [aI (1:Int),aI (0:Int)]) (Q [aI i_1,aI (0:Int)])))))):=by kernel_rfl
theorem Mt(c0:C66)(p0:P20):wpF CC Gv an0 Tryz.f274 [.ag (ck c0 []),.ag (pk p0 [])] Q=(∃b,Gv 146 [aC c0] [aB b]/\br b (Q [Hx [dI (2:Int),Pl false,P1 [],Pl false,P1 [],Pl false,P1 [],Pl false,P1 [],Pl false,P1 [],Pl false,P1 []]]) (bB (!J3 c0) (∃x,Gv 9 [aR (Lr c0)] [aR x]/\∃x1 i,Gv 310 [aR x,aR (J5 c0)] [aR x1,aI i]/\∃x x2 x3,Gv 265 [aR x1] [aT x x2 x3]/\Q [Hx (dI (0:Int)::(rk x (rk x2 (rk x3 []))))]) (∃x x1 x2,Gv 145 [aP p0] [aT x x1 x2]/\∃x3,Gv 9 [aR (Ls c0)] [aR x3]/\∃x4 x5 x6,Gv 269 [aT x x1 x2,aR x3] [aT x4 x5 x6]/\∃x x7 x8,Gv 213 [aP p0] [aT x x7 x8]/\∃x9,Gv 9 [aR (Lm c0)] [aR x9]/\∃x10 x11 x12,Gv 269 [aT x x7 x8,aR x9] [aT x10 x11 x12]/\∃i,Gv 267 [aT x10 x11 x12] [aI i]/\bB (i==0) (bB (No c0) (Q [Hx [dI (1:Int),Pl false,P1 [],Pl false,P1 [],Pl false,P1 [],Pl false,P1 [],Pl false,P1 [],Pl false,P1 []]]) (Q [Hx [dI (-1:Int),Pl false,P1 [],Pl false,P1 [],Pl false,P1 [],Pl false,P1 [],Pl false,P1 [],Pl false,P1 []]])) (∃x x13 x14 i,Gv 311 [aT x10 x11 x12] [aT x x13 x14,aI i]/\∃x15 x16 x17,Gv 313 [aT x4 x5 x6] [aT x15 x16 x17]/\∃x18 x19 x20 i,Gv 312 [aT x15 x16 x17,aT x x13 x14] [aT x18 x19 x20,aI i]/\Q [Hx (dI (0:Int)::(rk x18 (rk x19 (rk x20 []))))])))):=by kernel_rfl
theorem Rp(c0:C66)(c1:C66):wpF CC Gv an0 Tryz.f275 [.ag (ck c0 []),.ag (ck c1 [])] Q=(∃i,Gv 314 [aC c0] [aI i]/\∃i_1,Gv 314 [aC c1] [aI i_1]/\bB (i !=i_1) (bB (decide (i<i_1)) (Q [aI (-1:Int)]) (Q [aI (1:Int)])) (bB (i==0) (Q [aI (0:Int)]) (∃i_2,Gv 85 [aR (J4 c0),aR (J4 c1)] [aI i_2]/\Q [aI (V1 .i64 (V1 .i64 (0-i)*i_2))]))):=by kernel_rfl
theorem Rq(c0:C66):wpF CC Gv an0 Tryz.f314 [.ag (ck c0 [])] Q=(bB (!J3 c0) (Q [aI (0:Int)]) (bB (No c0) (Q [aI (-1:Int)]) (Q [aI (1:Int)]))):=by kernel_rfl
theorem Mu(c0:C66)(c1:C66):wpF CC Gv an0 Tryz.f220 [.ag (ck c0 []),.ag (ck c1 [])] Q=(∃b,Gv 156 [aP (Hy c0),aP (Hy c1)] [aB b]/\bB (!b) (Q [aI (0:Int),aI (1:Int)]) (∃i x x1 x2,Gv 274 [aC c0,aP (Hy c0)] [Hx (dI i::(rk x (rk x1 (rk x2 []))))]/\∃i_1 x3 x4 x5,Gv 274 [aC c1,aP (Hy c1)] [Hx (dI i_1::(rk x3 (rk x4 (rk x5 []))))]/\bB (i !=i_1) (bB (decide (i<i_1)) (Q [aI (-1:Int),aI (0:Int)]) (Q [aI (1:Int),aI (0:Int)])) (bB (i==2) (Q [aI (0:Int),aI (0:Int)]) (bB (i !=0) (∃i_2,Gv 85 [aR (J4 c0),aR (J4 c1)] [aI i_2]/\Q [aI (V1 .i64 (i*i_2)),aI (0:Int)]) (∃i,Gv 147 [aT x x1 x2,aT x3 x4 x5] [aI i]/\bB (i !=0) (Q [aI i,aI (0:Int)]) (∃i,Gv 275 [aC c0,aC c1] [aI i]/\Q [aI i,aI (0:Int)])))))):=by kernel_rfl
theorem GA(c0:C66)(c1:C66):wpF CC Gv an0 Tryz.f157 [.ag (ck c0 []),.ag (ck c1 [])] Q=(∃i,Gv 219 [aP (Hy c0),aP (Hy c1)] [aI i]/\bB (i !=0) (Q [aI i]) (∃i i_1,Gv 220 [aC c0,aC c1] [aI i,aI i_1]/\bB (i !=0) (Q [aI i]) (∃i,Gv 219 [aP (HZ c0),aP (HZ c1)] [aI i]/\Q [aI i]))):=by kernel_rfl
end
end Eng
end
section
open Go Go.Proofs Eng
namespace Eng
section
variable (Gv:Nat->List A->List A->Prop)(I0:List D->List D->Prop)(M0:List D->Nat)(I1:List D->List D->Prop)(M1:List D->Nat)(I2:List D->List D->Prop)(M2:List D->Nat)(I3:List D->List D->Prop)(M3:List D->Nat)(Q:List A->Prop)
theorem AK(z0:Bool)(l0:List (List D))(z1:Bool)(l1:List (List D)):wpF CC Gv an0 Tryz.f88 [.ag [.bool z0,.sl l0],.ag [.bool z1,.sl l1]] Q=(bB (z0==z1) (∃i,Gv 62 [aL l0,aL l1] [aI i]/\Q [aB (i==0)]) (Q [aB false])):=by kernel_rfl
theorem AL(z0:Bool)(l0:List (List D)):wpF CC Gv an0 Tryz.f273 [.ag [.bool z0,.sl l0]] Q=(∃b es i,Gv 309 [aZ z0 l0] [aZ b es,aI i]/\bB (i==0) (∃b1 e1,Gv 23 [aZ b es,aZ b es] [aZ b1 e1]/\∃b2,Gv 88 [aZ b1 e1,aZ z0 l0] [aB b2]/\Q [aZ b es,aB b2]) (Q [aZ b es,aB false])):=by kernel_rfl
theorem Oh(r0:R4):wpF CC Gv an0 Tryz.f218 [.ag (rk r0 [])] Q=(∃b es b1,Gv 273 [aZ (R4.b r0) (R4.l r0)] [aZ b es,aB b1]/\∃b2 e1 b3,Gv 273 [aZ (R4.c r0) (R4.m r0)] [aZ b2 e1,aB b3]/\bB (!b1) (Q [Hx [Pl false,P1 [],Pl false,P1 []],aB false]) (bB (!b3) (Q [Hx [Pl false,P1 [],Pl false,P1 []],aB false]) (Q [Hx [Pl b,P1 es,Pl b2,P1 e1],aB true]))):=by kernel_rfl
theorem CI(z0:Bool)(l0:List (List D)):wpF CC Gv (λ_=>⟨[.box 4 [(.bool false),(.slice none 0 0)]],[],I0,M0⟩) Tryz.f309 [.ag [.bool z0,.sl l0]] Q=(br z0 (Q [aZ false [],aI (7:Int)]) (bB ((W3 l0.length)==0) (Q [aZ false [],aI (0:Int)]) ((2:Int)≠(0:Int)/\(0<=V1 .i64 (ba (V1 .i64 ((W3 l0.length)+1)) (2:Int))/\V1 .i64 (ba (V1 .i64 ((W3 l0.length)+1)) (2:Int))<=V1 .i64 (ba (V1 .i64 ((W3 l0.length)+1)) (2:Int))/\room (W2 (V1 .i64 (ba (V1 .i64 ((W3 l0.length)+1)) (2:Int)))))/\(room (bs (b9 (W2 (V1 .i64 (ba (V1 .i64 ((W3 l0.length)+1)) (2:Int)))) [Sz .u32 0])+1)/\lens 1 [[Sz .u32 1]])/\∃b es,Gv 44 [aI (2:Int)] [aZ b es]/\I0 [] [Pl false,P1 (b9 (W2 (V1 .i64 (ba (V1 .i64 ((W3 l0.length)+1)) (2:Int)))) [Sz .u32 0]++[[Sz .u32 1]])]/\∀(b1:Bool) (e1:List (List D)),I0 [] [Pl b1,P1 e1]->∃b2 e2 b3 e3 i,Gv 60 [aZ z0 l0,aZ b1 e1] [aZ b2 e2,aZ b3 e3,aI i]/\∃b4 e4,Gv 25 [aZ b1 e1,aZ b2 e2] [aZ b4 e4]/\∃b5 e5 b6 e6 i,Gv 60 [aZ b4 e4,aZ b es] [aZ b5 e5,aZ b6 e6,aI i]/\∃i,Gv 143 [aZ b5 e5,aZ b1 e1] [aI i]/\bB (decide (i>=0)) (Q [aZ b1 e1,aI (0:Int)]) (I0 [] [Pl b5,P1 e5]/\M0 [Pl b5,P1 e5]<M0 [Pl b1,P1 e1])))):=by kernel_rfl
theorem Jy(r0:R4):wpF CC Gv an0 Tryz.f38 [.ag (rk r0 [])] Q=(∃b,Gv 87 [aZ (R4.b r0) (R4.l r0)] [aB b]/\bB (!b) (Q [aB false]) (∃b,Gv 87 [aZ (R4.c r0) (R4.m r0)] [aB b]/\bB (!b) (Q [aB false]) (∃i,Gv 58 [aZ (R4.c r0) (R4.m r0)] [aI i]/\bB (i !=1) (Q [aB false]) (∃b es,Gv 59 [aZ (R4.b r0) (R4.l r0),aZ (R4.c r0) (R4.m r0)] [aZ b es]/\∃b1 e1,Gv 46 [] [aZ b1 e1]/\∃b2,Gv 88 [aZ b es,aZ b1 e1] [aB b2]/\Q [aB b2])))):=by kernel_rfl
end
end Eng
end
section
namespace Eng
open Go Go.Proofs
set_option maxRecDepth 100000
theorem fk(a b:List Nat):raw (a++b)=raw a++raw b:=by unfold raw;rw[dk]
theorem fm(k:Nat):raw (b9 k 0)=b9 k [Sz .u32 0]:=by unfold raw;rw[List.map_replicate];rfl
theorem Oi(k:Nat):b9 k [Sz W1 (0:Int)]++[[Sz W1 (1:Int)]]=raw (b9 k 0++[1]):=by
 rw[fk,fm];rfl
theorem Yh(k:Nat):Limbs (b9 k 0++[1]):=by
 intro x hx;rw[List.mem_append]at hx;rcases hx with h|h
 .rw[(List.mem_replicate.1 h).2];omega
 .rw[cb.1 h];omega
theorem Oj(k:Nat):val (b9 k 0++[1])=1000000000^k:=by
 rw[qO,vY,dv];show 0+1000000000^k*1=_;omega
theorem jj{n:Nat}(h:n<1000000000^200):Sm (n:Int):=by
 unfold Sm VX;rw[bb];exact Nat.lt_of_lt_of_le h (B5 (by omega) (by omega))
theorem Zf(n:Nat):cI (n:Int)=[.bool false,.sl (raw (lim n))]:=by
 unfold cI;rw[bb,decide_eq_false (by omega)]
theorem qH(n:Nat):qM (n:Int)= .ag [.bool false,.sl (raw (lim n))]:=by unfold qM;rw[Zf]
def unr (l:List (List D)):Nat:=val (l.map λr=>(toI (nth .undef r 0)).toNat)
theorem fo(l:List Nat):unr (raw l)=val l:=by
 unfold unr raw;rw[List.map_map];congr 1;have:((λr:List D=>(toI (nth .undef r 0)).toNat)∘λ(x:Nat)=>[Sz .u32 (x:Int)])=id:=by funext x;rfl
 rw[this,List.map_id]
def msZ:List D->Nat
 |[_,.sl l]=>unr l
 |_=>0
theorem GB(x:Nat):msZ (cI (x:Int))=x:=by
 rw[Zf];show unr (raw (lim x))=x;rw[fo,qh]
theorem m7{b:Bool}{es:List (List D)}{x:Nat}(h:[Pl b,P1 es]=cI (x:Int)):b=false/\es=raw (lim x):=by
 rw[Zf]at h;simp only[eg,D.bool.injEq,T1,and_true]at h;exact h
theorem Wz(l:List Nat):(raw l).length=l.length:=by unfold raw;rw[dp]
theorem m8(n:Nat):1000000000^n=10^(9*n):=by
 rw[show(1000000000:Nat)=10^9 from rfl,<-Nat.pow_mul]
theorem AM(k:Nat):lim (1000000000^k)=b9 k 0++[1]:=by
 rw[<-Oj];exact Qj (Yh k) (.inr (by rw[List.getLast?_append];show(some 1:Option Nat)≠some 0;decide))
theorem CJ{a:Nat}(ha:a<1000000000^190):qa CC 309 [qM (a:Int)] [qM (qI a:Int),.c (.int .i64 0)]:=by
 refine qo (anns:=λ_=>⟨[.box 4 [(.bool false),(.slice none 0 0)]],[],λ_ ds=>∃x:Nat,0<x/\x<1000000000^191/\ds=cI (x:Int)/\TQ a x=qI a,msZ⟩) mixedT Tryz.func309 ?_;rw[qH,CI,Wz];have hL:(lim a).length<=190:=qq ha;have hav:a<10^(9*(lim a).length):=by
  have:=qQ (qe a)
  rwa [qh,m8]at this
 refine xG (λh=>by simp at h) (λ_=>?_);refine brb (λh=>?_) (λh=>?_)
 .have h0:lim a=[]:=by apply List.eq_nil_of_length_eq_zero;have:=bh h;simp only[W4]at this;omega
  obtain rfl:=vX.1 h0;have:qI 0=0:=by unfold qI;rw[TQ];rfl
  rw[this];rfl
 .have hp:0<(lim a).length:=by
   rcases e0 (lim a).length with h0|h0
   .rw[h0]at h;simp at h
   .exact h0
  have ap:0<a:=qB.1 hp;have hk:V1 .i64 (ba (V1 .i64 ((W3 (lim a).length)+1)) 2)=(((lim a).length+1)/2:Nat):=by simp only[W4];rw[xF (n:=(((lim a).length:Nat):Int)+1),Int.tdiv_eq_ediv_of_nonneg (by omega),xF];omega
  rw[hk,aE,Oi];generalize hkk:((lim a).length+1)/2=k at *;have h2:=zd (n:=2) (by omega) (by omega);have a3:1000000000^k<1000000000^191:=el (by omega) (by omega);refine⟨by omega,⟨by omega,by omega,by unfold room;omega⟩,⟨by rw[dv];unfold room;omega,λe he=>by simp at he;subst he;rfl⟩,_,_,h2,⟨1000000000^k,Nat.pow_pos (by omega),a3,by rw[Zf,AM],?_⟩,?_⟩
  .rw[m8,<-hkk];exact Ya hav
  .rintro b es ⟨x,hx0,hx,he,hn⟩;obtain⟨rfl,rfl⟩:=m7 he;have sx:Sm (x:Int):=jj (et hx (el (by omega) (by omega)));have sa:Sm (a:Int):=jj (et ha (el (by omega) (by omega)));have hq:=vp jT sa sx (by omega);have eq1:(a:Int)/(x:Int)=((a/x:Nat):Int):=rfl;have eq2:(a:Int)%(x:Int)=((a%x:Nat):Int):=rfl;rw[eq1,eq2]at hq;have hqa:a/x<=a:=Nat.div_le_self _ _;have sq:Sm ((a/x:Nat):Int):=jj (ez hqa (et ha (el (by omega) (by omega))));have a5:=Wg sx sq;have e1:(x:Int)+((a/x:Nat):Int)=((x+a/x:Nat):Int):=by omega
   rw[e1]at a5;have hb:x+a/x<1000000000^200:=by have h3:1000000000^190<=1000000000^191:=fg (by omega) (by omega);have h4:1000000000^191*1000000000=1000000000^192:=(Nat.pow_succ ..).symm;have h5:1000000000^192<=1000000000^200:=fg (by omega) (by omega);omega
   have a4:=vp jT (jj hb) (jj (n:=2) (by decide)) (by omega);have eq3:((x+a/x:Nat):Int)/((2:Nat):Int)=(((x+a/x)/2:Nat):Int):=rfl;have eq4:((x+a/x:Nat):Int)%((2:Nat):Int)=(((x+a/x)%2:Nat):Int):=rfl;rw[eq3,eq4]at a4;have sy:Sm (((x+a/x)/2:Nat):Int):=jj (by omega);have hc:=LL sy sx;rw[NP]at hn;generalize hy:(x+a/x)/2=y at *;rw[qH,qH,qH,qH]at hq;rw[qH,qH,qH]at a5;rw[qH,qH,qH,qH]at a4;rw[qH,qH]at hc;refine⟨_,_,_,_,_,hq,_,_,a5,_,_,_,_,_,a4,_,hc,?_⟩;unfold QA;refine brd (λh3=>?_) (λh3=>?_)
   .have:x<=y:=by
     rcases fl y x with h4|h4
     .rw[if_pos (by omega)]at h3;omega
     .exact h4
    rw[if_pos this]at hn;rw[<-hn,qH]
   .have h4:y<x:=by
     rcases fl y x with h4|h4
     .exact h4
     .exfalso;apply h3;rw[if_neg (by omega)];split<;>omega
    rw[if_neg (by omega)]at hn;have yp:0<y:=by rw[<-hy];exact NM ap hx0
    refine⟨⟨y,yp,by omega,(Zf y).symm,hn⟩,?_⟩;have m1:=GB y;have m2:=GB x;rw[Zf]at m1 m2;rw[m1,m2];exact h4
theorem Ok{x y:Int}(hx:Sm x)(hy:Sm y):qa CC 88 [qM x,qM y] [.c (.bool (decide (x=y)))]:=by
 refine qo (anns:=an0) mixedT Tryz.func88 ?_;rw[xn,xn,AK];have hc:=wj (x:=x.natAbs) (y:=y.natAbs) (ew hx.len (by omega)) (ew hy.len (by omega));refine brb (λh=>⟨_,hc,?_⟩) (λh=>?_)
 .rw[beq_iff_eq,decide_eq_decide]at h;have:(Zy x.natAbs y.natAbs==0)=decide (x=y):=by
   rw[F2,beq_iff_eq,decide_eq_true_eq];unfold Zy;split
   .omega
   .split<;>omega
  rw[this]
 .have:decide (x=y)=false:=by
   refine decide_eq_false λe=>?_
   subst e;simp at h
  rw[this]
theorem fp{n a b:Nat}(h:n<=10^a)(k:a<9*b):n<1000000000^b:=by
 rw[m8];exact ez h (el (by omega) k)
theorem GD{n:Nat}(h:n<=10^1300):n<1000000000^190:=fp h (by omega)
theorem AN(a:Nat):qI a<=a:=by
 have h:=(jY a).1;rcases e0 (qI a)with h0|h0
 .omega
 .exact ew (ey _ h0) h
theorem JX{a:Nat}(ha:a<=10^1300):qa CC 273 [qM (a:Int)] [qM (qI a:Int),.c (.bool (decide (qI a*qI a=a)))]:=by
 have h1:=CJ (GD ha);have sa:Sm (a:Int):=jj (et (GD ha) (el (by omega) (by omega)));have hr:qI a<=a:=AN a;have sr:Sm (qI a:Int):=jj (et (GD (ew hr ha)) (el (by omega) (by omega)));have srr:Sm ((qI a*qI a:Nat):Int):=jj (ez (jY a).1 (et (GD ha) (el (by omega) (by omega))));have h2:=jR sr sr;have e:(qI a:Int)*(qI a:Int)=((qI a*qI a:Nat):Int):=(bc _ _).symm;rw[e]at h2;have h3:=Ok srr sa;have e2:decide (((qI a*qI a:Nat):Int)=(a:Int))=decide (qI a*qI a=a):=decide_eq_decide.2 (by omega);rw[e2]at h3;rw[qH,qH]at *;refine wpG Tryz.func273 ((AL ..).mpr ?_);refine⟨_,_,_,h1,?_⟩;refine brb (λ_=>?_) (λh=>by simp at h);exact⟨_,_,h2,_,h3,rfl⟩
theorem W5{c s:Rat}(hc:Hz 1300 c)(h:sqQ c=some s):qa CC 218 [.ag (rk (q4 c) [])] [.ag (rk (q4 s) []),.c (.bool true)]:=by
 obtain⟨e,h0⟩:=JS h;obtain⟨e1,e2⟩:=NN s;rw[e]at e1 e2;have hn0:0<=s.num:=fx.2 h0;have f1:c.num=((s.num.natAbs*s.num.natAbs:Nat):Int):=by rw[e1,bc,Int.natAbs_mul_self']
 have b1:s.num.natAbs*s.num.natAbs<=10^1300:=by have:=hc.1;rw[f1,bb]at this;exact this
 have b2:s.den*s.den<=10^1300:=by have:=hc.2;rw[e2]at this;exact this
 have a1:=JX b1;have a2:=JX b2;rw[NO,decide_eq_true rfl]at a1 a2;have q1:qM (((s.num.natAbs*s.num.natAbs:Nat)):Int)= .ag [.bool (R4.b (q4 c)),.sl (R4.l (q4 c))]:=by rw[<-f1];rfl
 have q2:qM ((s.den*s.den:Nat):Int)= .ag [.bool (R4.c (q4 c)),.sl (R4.m (q4 c))]:=by rw[<-e2];rfl
 have q3:(s.num.natAbs:Int)=s.num:=by omega
 rw[q1,q3]at a1;rw[q2]at a2;refine wpG Tryz.func218 ((Oh ..).mpr ?_);exact⟨_,_,_,a1,_,_,_,a2,brb (λh=>by simp at h) (λ_=>brb (λh=>by simp at h) (λ_=>rfl))⟩
theorem Xb{c:Rat}(hc:Hz 1300 c)(h0:0<=c)(h:sqQ c=none):qa CC 218 [.ag (rk (q4 c) [])] [.ag (rk z4A []),.c (.bool false)]:=by
 have hn0:0<=c.num:=fx.2 h0;have a1:=JX hc.1;have a2:=JX hc.2;have q1:qM ((c.num.natAbs:Nat):Int)= .ag [.bool (R4.b (q4 c)),.sl (R4.l (q4 c))]:=by rw[show((c.num.natAbs:Nat):Int)=c.num by omega];rfl
 have q2:qM ((c.den:Nat):Int)= .ag [.bool (R4.c (q4 c)),.sl (R4.m (q4 c))]:=rfl;rw[q1]at a1;rw[q2]at a2;have key:¬(qI c.num.natAbs*qI c.num.natAbs=c.num.natAbs/\qI c.den*qI c.den=c.den):=by rintro⟨k1,k2⟩;unfold sqQ BQ LR at h;rw[if_neg (by omega),if_pos k1,if_pos k2]at h;simp at h
 refine wpG Tryz.func218 ((Oh ..).mpr ?_);refine⟨_,_,_,a1,_,_,_,a2,?_⟩;refine brb (λ_=>rfl) (λh1=>?_);refine brb (λ_=>rfl) (λh2=>?_);exact absurd ⟨by simpa using h1,by simpa using h2⟩ key
end Eng
end
section
namespace Eng
open Go Go.Proofs Rl
set_option maxRecDepth 100000
def HV (v:Vc):Prop:=Hz 20 v.x/\Hz 20 v.y
def HL (l:Ln):Prop:=Hz 45 l.a/\Hz 45 l.b/\Hz 205 l.c
def HC (c:Ci):Prop:=Hz 20 c.x/\Hz 20 c.y/\Hz 20 c.q
def kPs (l:List P5):List (List D):=l.map λp=>pk (kP p) []
theorem m9{p:P5}{v:Vc}{k:Nat}(h:HP k p)(hv:HV v)(hk:k=1300):HP 1321 (trP p v):=by
 subst hk;exact⟨h.1.add hv.1 (by omega),h.2.1.mono (by omega),h.2.2.1.add hv.2 (by omega),h.2.2.2.1.mono (by omega),h.2.2.2.2.mono (by omega)⟩
theorem Rr{p:P5}{v:Vc}(h:HP 1300 p)(hv:HV v):qa CC 333 [.ag (pk (kP p) []),.ag (kV v)] [.ag (pk (kP (trP p v)) [])]:=by
 refine wpG Tryz.func333 ((Ra ..).mpr ?_);exact⟨_,V2 h.1 hv.1,_,V2 h.2.2.1 hv.2,rfl⟩
theorem CK{v:Vc}(hv:HV v):qa CC 334 [.ag (kV v)] [.ag (kV ⟨-v.x, -v.y⟩)]:=by
 refine wpG Tryz.func334 ((Ct ..).mpr ?_);exact⟨_,TS hv.1,_,TS hv.2,rfl⟩
theorem HV.neg{v:Vc}(h:HV v):HV ⟨-v.x, -v.y⟩:=⟨h.1.neg,h.2.neg⟩
theorem W6{r:Rt}{j k l:Nat}(hr:HT j k l r)(h:2*j+2*k+2*l<170000:=by omega):
 qa CC 336 [.ag (kT r [])] [.ag (kT (ZH r r) [])]:=by
 refine wpG Tryz.func336 ((Mc ..).mpr ?_);exact⟨_,_,_,_,Oa hr hr (G4 r) (by omega),rfl⟩
theorem Ol{a b c:Rat}{j k l:Nat}(ha:Hz j a)(hb:Hz k b)(hc:Hz l c):HT j k l (JQ a b c):=by
 unfold JQ;split
 .exact⟨ha,U0,U0⟩
 .exact⟨ha,hb,hc⟩
theorem CL{r s:Rt}{j k l i m:Nat}(hr:HT j k l r)(hs:HT i m l s):Hz l (Zz r s):=by
 unfold Zz;split
 .exact hs.2.2
 .exact hr.2.2
theorem UJ{r s:Rt}{j k l i m a b:Nat}(hr:HT j k l r)(hs:HT i m l s)(h1:j+i+(k+m+l)+1<=a)(h2:j+m+(k+i)+1<=b):HT a b l (ZH r s):=
 Ol ((hr.1.mul hs.1 (en _)).add ((hr.2.1.mul hs.2.1 (en _)).mul (CL hr hs) (en _)) h1) ((hr.1.mul hs.2.1 (en _)).add (hr.2.1.mul hs.1 (en _)) h2) (CL hr hs)
theorem mA{r s:Rt}{j k l i m a b:Nat}(hr:HT j k l r)(hs:HT i m l s)(h1:j+i+1<=a)(h2:k+m+1<=b):HT a b l (iq r s):=
 Ol (hr.1.add hs.1 h1) (hr.2.1.add hs.2.1 h2) (CL hr hs)
theorem AO{r s:Rt}{j k l i m:Nat}(hr:HT j k l r)(hs:HT i m l s)(hc:Aa r s)(h:j+k+i+m+l<170000:=by omega):
 qa CC 335 [.ag (kT r []),.ag (kT s [])] [.ag (kT (iq r s) []),.c (.int .i64 0)]:=by
 refine wpG Tryz.func335 ((Au ..).mpr ?_);refine⟨_,_,Wp hr.2.2 hs.2.2 hc (by omega),?_⟩;refine brb (λh=>absurd h (by decide)) (λ_=>?_);exact⟨_,V2 hr.1 hs.1,_,V2 hr.2.1 hs.2.1,_,_,_,JU _ _ _,rfl⟩
theorem bp{p:P5}{v:Vc}(h:HP 1300 p)(hv:HV v):HT 15000 11000 1321 (sqP p v):=by
 have h1:=m9 h hv.neg rfl;have mx:=UJ (a:=7000) (b:=5300) h1.tx h1.tx (by omega) (by omega);have my:=UJ (a:=7000) (b:=5300) h1.ty h1.ty (by omega) (by omega);exact mA mx my (by omega) (by omega)
theorem Mv{p:P5}{v:Vc}(h:HP 1300 p)(ho:okP p)(hv:HV v):qa CC 306 [.ag (pk (kP p) []),.ag (kV v)] [.ag (kT (sqP p v) [])]:=by
 have h1:=m9 h hv.neg rfl;have mx:=UJ (a:=7000) (b:=5300) h1.tx h1.tx (by omega) (by omega);have my:=UJ (a:=7000) (b:=5300) h1.ty h1.ty (by omega) (by omega);refine wpG Tryz.func306 ((Me ..).mpr ?_);exact⟨_,_,CK hv,_,Rr h hv.neg,_,_,_,wu _,_,_,_,W6 h1.tx,_,_,_,QE _,_,_,_,W6 h1.ty,_,_,_,_,AO mx my (fj ho v),rfl⟩
theorem JY{x y:Rat}{j k:Nat}(hx:Hz j x)(hy:Hz k y)(h:j<360000/\k<360000:=by omega):qa CC 284 [.ag (rk (q4 x) []),.ag (rk (q4 y) [])] [.ag (rk (q4 (x+y)) [])]:=by
 refine wpG Tryz.func284 ((AC ..).mpr ?_);exact⟨_,V2 hx hy h,rfl⟩
theorem Zg{x y:Rat}{j k:Nat}(hx:Hz j x)(hy:Hz k y)(h:j<360000/\k<360000:=by omega):qa CC 283 [.ag (rk (q4 x) []),.ag (rk (q4 y) [])] [.ag (rk (q4 (x-y)) [])]:=by
 refine wpG Tryz.func283 ((AD ..).mpr ?_);exact⟨_,Sn hx hy h,rfl⟩
theorem zt{x y:Rat}{j k:Nat}(hx:Hz j x)(hy:Hz k y)(h:j<360000/\k<360000:=by omega):qa CC 276 [.ag (rk (q4 x) []),.ag (rk (q4 y) [])] [.ag (rk (q4 (x*y)) [])]:=by
 refine wpG Tryz.func276 ((AE ..).mpr ?_);exact⟨_,Zd hx hy h,rfl⟩
theorem GE{l m:Ln}(hl:HL l)(hm:HL m):qa CC 222 [.ag (kL l []),.ag (kL m [])] [.c (.bool (iu l m))]:=by
 refine wpG Tryz.func222 ((G6 ..).mpr ?_);unfold iu;refine⟨_,zt hl.1 hm.2.1,_,zt hl.2.1 hm.1,_,JA (hl.1.mul hm.2.1 (l:=90)) (hl.2.1.mul hm.1 (l:=90)),?_⟩;rw[Xp,decide_eq_decide.2 Cy];refine brb (λh1=>?_) (λh1=>?_)
 .rw[h1];refine⟨_,zt hl.1 hm.2.2,_,zt hl.2.2 hm.1,_,JA (hl.1.mul hm.2.2 (l:=250)) (hl.2.2.mul hm.1 (l:=250)),?_⟩;rw[Xp,decide_eq_decide.2 Cy];refine brb (λh2=>?_) (λh2=>?_)
  .rw[h2];refine⟨_,zt hl.2.1 hm.2.2,_,zt hl.2.2 hm.2.1,_,JA (hl.2.1.mul hm.2.2 (l:=250)) (hl.2.2.mul hm.2.1 (l:=250)),?_⟩;rw[Xp,decide_eq_decide.2 Cy];rfl
  .rw[h2];rfl
 .rw[h1];rfl
theorem W7{c d:Ci}(hc:HC c)(hd:HC d):qa CC 221 [.ag (kC c []),.ag (kC d [])] [.c (.bool (lT c d))]:=by
 refine wpG Tryz.func221 ((Wx ..).mpr ?_);unfold lT;refine⟨_,JA hc.1 hd.1,?_⟩;rw[Xp,decide_eq_decide.2 Cy];refine brb (λh1=>?_) (λh1=>?_)
 .rw[h1];refine⟨_,JA hc.2.1 hd.2.1,?_⟩;rw[Xp,decide_eq_decide.2 Cy];refine brb (λh2=>?_) (λh2=>?_)
  .rw[h2];refine⟨_,JA hc.2.2 hd.2.2,?_⟩;rw[Xp,decide_eq_decide.2 Cy];rfl
  .rw[h2];rfl
 .rw[h1];rfl
theorem bq{c s:Rat}{k:Nat}(h:sqQ c=some s)(hc:Hz k c):Hz k s:=by
 obtain⟨h1,_⟩:=JS h;obtain⟨e1,e2⟩:=NN s;rw[h1]at e1 e2;refine⟨?_,?_⟩
 .have:=hc.1;rw[e1,bd]at this;rcases e0 s.num.natAbs with h0|h0
  .rw[h0];exact er _
  .exact ew (ey _ h0) this
 .have:=hc.2;rw[e2]at this;exact ew (ey _ s.den_pos) this
theorem CN{a b c:Rat}{i j:Nat}(ha:Hz i a)(hb:Hz j b)(hc:Hz 1300 c)(h0:0<=c)(h:i+j<300000:=by omega):
 qa CC 305 [.ag (rk (q4 a) []),.ag (rk (q4 b) []),.ag (rk (q4 c) [])] [.ag (kT (Gu a b c) []),.c (.int .i64 0)]:=by
 refine wpG Tryz.func305 ((Cn ..).mpr ?_);refine⟨_,z8 c,?_⟩;refine brd (λh=>absurd (kv.1 h) (by grind)) (λ_=>?_);unfold Gu;cases hs:sqQ c with
 |none=>refine⟨_,_,Xb hc h0 hs,?_⟩;exact⟨_,_,_,JU a b c,rfl⟩
 |some s=>have hz:=bq hs hc;refine⟨_,_,W5 hc hs,?_⟩;exact⟨_,Zd hb hz,_,V2 ha (hb.mul hz (l:=j+1300)),_,_,_,kh _,rfl⟩
theorem fq{a b c:Rat}{i j:Nat}(ha:Hz i a)(hb:Hz j b)(hc:Hz 1300 c):HT (i+j+1301) j 1300 (Gu a b c):=by
 unfold Gu;cases hs:sqQ c with
 |none=>exact Ol (ha.mono (by omega)) hb hc
 |some s=>exact⟨ha.add (hb.mul (bq hs hc) (en _)) (by omega),U0,U0⟩
def valR (l:Ln) (p:P5):Rt:=Gu (l.a*p.x+l.b*p.y-l.c) (l.a*p.u+l.b*p.v) p.c
theorem Rs{l:Ln}{p:P5}(hl:HL l)(hp:HP 1300 p)(ho:okP p):qa CC 268 [.ag (kL l []),.ag (pk (kP p) [])] [.ag (kT (valR l p) [])]:=by
 refine wpG Tryz.func268 ((Rf ..).mpr ?_);have h1:=hl.1.mul hp.1 (l:=1345);have h2:=hl.2.1.mul hp.2.2.1 (l:=1345);have h3:=h1.add h2 (l:=2691);have h4:=h3.sub hl.2.2 (l:=2900);have h5:=hl.1.mul hp.2.1 (l:=1345);have h6:=hl.2.1.mul hp.2.2.2.1 (l:=1345);have h7:=h5.add h6 (l:=2691);exact⟨_,zt hl.1 hp.1,_,zt hl.2.1 hp.2.2.1,_,JY h1 h2,_,Zg h3 hl.2.2,_,zt hl.1 hp.2.1,_,zt hl.2.1 hp.2.2.2.1,_,JY h5 h6,_,_,_,_,CN h4 h7 hp.2.2.2.2 ho.nn,rfl⟩
theorem UK{l:Ln}{p:P5}(hl:HL l)(hp:HP 1300 p)(ho:okP p):qa CC 214 [.ag (kL l []),.ag (pk (kP p) [])] [.c (.int .i64 (sg (lnv l p)))]:=by
 refine wpG Tryz.func214 ((C8 ..).mpr ?_);have h1:=hl.1.mul hp.1 (l:=1345);have h2:=hl.2.1.mul hp.2.2.1 (l:=1345);have h4:=(h1.add h2 (l:=2691)).sub hl.2.2 (l:=2900);have h7:=(hl.1.mul hp.2.1 (l:=1345)).add (hl.2.1.mul hp.2.2.2.1 (l:=1345)) (l:=2691) (by omega);have hs:=yL (fq h4 h7 hp.2.2.2.2) (Ah _ _ ho.nn);rw[eB,<-mw]at hs;exact⟨_,_,_,Rs hl hp ho,_,hs,rfl⟩
theorem Ru{c:Ci}{p:P5}(hc:HC c)(hp:HP 1300 p)(ho:okP p):qa CC 270 [.ag (kC c []),.ag (pk (kP p) [])] [.ag (kT (BX (sqP p ⟨c.x,c.y⟩) (-c.q)) [])]:=by
 refine wpG Tryz.func270 ((Rg ..).mpr ?_);exact⟨_,_,_,Mv (v:=⟨c.x,c.y⟩) hp ho ⟨hc.1,hc.2.1⟩,_,TS hc.2.2,_,_,_,yg (bp hp ⟨hc.1,hc.2.1⟩) hc.2.2.neg,rfl⟩
theorem W8{a:Int}(h: -1<=a/\a<=1):V1 .i64 (0-a)= -a:=by
 have h1:a= -1\/a=0\/a=1:=by omega
 rcases h1 with rfl|rfl|rfl<;>rfl
theorem W9{c:Ci}{p:P5}(hc:HC c)(hp:HP 1300 p)(ho:okP p):qa CC 216 [.ag (kC c []),.ag (pk (kP p) [])] [.c (.int .i64 (-sg (civ c p)))]:=by
 refine wpG Tryz.func216 ((Mj ..).mpr ?_);have hs:=yL ((bp hp (v:=⟨c.x,c.y⟩) ⟨hc.1,hc.2.1⟩).add hc.2.2.neg (en _)) ((bo ho ⟨c.x,c.y⟩).1.add (-c.q));rw[<-m6 ho]at hs;refine⟨_,_,_,Ru hc hp ho,_,hs,?_⟩;rw[W8 (Ce _)]
end Eng
end
section
namespace Eng
open Go Go.Proofs Rl
set_option maxRecDepth 100000
theorem Qn{x y:Rat}{j k:Nat}(hx:Hz j x)(hy:Hz k y)(h:j<360000/\k<360000:=by omega):qa CC 307 [.ag (rk (q4 x) []),.ag (rk (q4 y) [])] [.ag (rk (q4 (x+y)) [])]:=by
 refine wpG Tryz.func307 ((AF ..).mpr ?_);exact⟨_,V2 hx hy h,rfl⟩
theorem je{x y:Rat}{j k:Nat}(hx:Hz j x)(hy:Hz k y)(h:j<360000/\k<360000:=by omega):qa CC 321 [.ag (rk (q4 x) []),.ag (rk (q4 y) [])] [.ag (rk (q4 (x-y)) [])]:=by
 refine wpG Tryz.func321 ((AG ..).mpr ?_);exact⟨_,Sn hx hy h,rfl⟩
theorem xa{x y:Rat}{j k:Nat}(hx:Hz j x)(hy:Hz k y)(h:j<360000/\k<360000:=by omega):qa CC 308 [.ag (rk (q4 x) []),.ag (rk (q4 y) [])] [.ag (rk (q4 (x*y)) [])]:=by
 refine wpG Tryz.func308 ((AH ..).mpr ?_);exact⟨_,Zd hx hy h,rfl⟩
theorem JZ{x:Rat}{j:Nat}(hx:Hz j x)(h:j<360000:=by omega):qa CC 272 [.ag (rk (q4 x) [])] [.ag (rk (q4 (-x)) [])]:=by
 refine wpG Tryz.func272 ((AI ..).mpr ?_);exact⟨_,TS hx h,rfl⟩
theorem yO{x y:Rat}{j k:Nat}(hx:Hz j x)(hy:Hz k y)(h0:y≠0)(h:j<360000/\k<360000:=by omega):qa CC 319 [.ag (rk (q4 x) []),.ag (rk (q4 y) [])] [.ag (rk (q4 (x/y)) [])]:=by
 refine wpG Tryz.func319 ((C9 ..).mpr ?_);exact⟨_,_,pJ hx hy h0 h,rfl⟩
theorem Rv{l m:Ln}(hl:HL l)(hm:HL m):qa CC 322 [.ag (kL l []),.ag (kL m [])] [.ag (rk (q4 (Ju l m)) [])]:=by
 refine wpG Tryz.func322 ((Rh ..).mpr ?_);exact⟨_,xa hl.1 hm.2.1,_,xa hm.1 hl.2.1,_,je (hl.1.mul hm.2.1 (l:=90)) (hm.1.mul hl.2.1 (l:=90)),rfl⟩
theorem WA{l m:Ln}(hl:HL l)(hm:HL m):Hz 181 (Ju l m):=(hl.1.mul hm.2.1 (l:=90)).sub (hm.1.mul hl.2.1 (l:=90)) (by omega)
theorem UL{l m:Ln}(hl:HL l)(hm:HL m):Hz 501 (BY l m):=(hl.2.2.mul hm.2.1 (l:=250)).sub (hm.2.2.mul hl.2.1 (l:=250)) (by omega)
theorem UM{l m:Ln}(hl:HL l)(hm:HL m):Hz 501 (BZ l m):=(hl.1.mul hm.2.2 (l:=250)).sub (hm.1.mul hl.2.2 (l:=250)) (by omega)
theorem Rw{l m:Ln}(hl:HL l)(hm:HL m):∃e,qa CC 279 [.ag (kL l []),.ag (kL m [])] [.c (.sl (kPs (Jv l m))),.c (.int .i64 e)]:=by
 have go:∀e,wpF CC (qa CC) an0 Tryz.f279 [.ag (kL l []),.ag (kL m [])] (· =[.c (.sl (kPs (Jv l m))),.c (.int .i64 e)])->qa CC 279 [.ag (kL l []),.ag (kL m [])] [.c (.sl (kPs (Jv l m))),.c (.int .i64 e)]:=λe h=>qo (anns:=an0) mixedT Tryz.func279 h
 refine⟨if Ju l m=0/\BY l m=0/\BZ l m=0 then 10 else 0,go _ ((Ri ..).mpr ?_)⟩;have hX:=UL hl hm;have hY:=UM hl hm;have hD:=WA hl hm;refine⟨_,Rv hl hm,_,xa hl.2.2 hm.2.1,_,xa hm.2.2 hl.2.1,_,je (hl.2.2.mul hm.2.1 (l:=250)) (hm.2.2.mul hl.2.1 (l:=250)),
  _,xa hl.1 hm.2.2,_,xa hm.1 hl.2.2,_,je (hl.1.mul hm.2.2 (l:=250)) (hm.1.mul hl.2.2 (l:=250)),_,z8 _,?_⟩
 rw[bne,Xp];unfold Jv;refine brb (λh=>?_) (λh=>?_)
 .have h0:Ju l m≠0:=by simpa using h
  rw[if_pos h0,if_neg (by simp[h0])];exact⟨_,yO hX hD h0,_,yO hY hD h0,_,ZK ⟨_,_⟩,rfl⟩
 .have h0:Ju l m=0:=by simpa using h
  rw[if_neg (by simp[h0])];refine⟨_,z8 _,?_⟩;rw[Xp];refine brd (λh1=>?_) (λh1=>?_)
  .refine⟨_,z8 _,?_⟩;rw[Xp];refine brd (λh2=>?_) (λh2=>?_)
   .rw[if_pos ⟨h0,h1,h2⟩];rfl
   .rw[if_neg (λk=>h2 k.2.2)];rfl
  .rw[if_neg (λk=>h1 k.2.1)];rfl
theorem UN{l:Ln}(hl:HL l):qa CC 318 [.ag (kL l [])] [.ag (rk (q4 (Hp l)) [])]:=by
 refine wpG Tryz.func318 ((CE ..).mpr ?_);exact⟨_,xa hl.1 hl.1,_,xa hl.2.1 hl.2.1,_,Qn (hl.1.mul hl.1 (l:=90)) (hl.2.1.mul hl.2.1 (l:=90)),rfl⟩
theorem Xc{l:Ln}(hl:HL l):Hz 181 (Hp l):=(hl.1.mul hl.1 (l:=90)).add (hl.2.1.mul hl.2.1 (l:=90)) (by omega)
theorem Yi{l:Ln}{x y:Rat}(hl:HL l)(hx:Hz 20 x)(hy:Hz 20 y):qa CC 320 [.ag (kL l []),.ag (rk (q4 x) []),.ag (rk (q4 y) [])] [.ag (rk (q4 (lU l x y)) [])]:=by
 refine wpG Tryz.func320 ((Rj ..).mpr ?_);have h1:=hl.1.mul hx (l:=65);have h2:=hl.2.1.mul hy (l:=65);exact⟨_,xa hl.1 hx,_,xa hl.2.1 hy,_,Qn h1 h2,_,je (h1.add h2 (l:=131)) hl.2.2,rfl⟩
theorem WB{l:Ln}{x y:Rat}(hl:HL l)(hx:Hz 20 x)(hy:Hz 20 y):Hz 337 (lU l x y):=
 ((hl.1.mul hx (l:=65)).add (hl.2.1.mul hy (l:=65)) (l:=131) (by omega)).sub hl.2.2 (by omega)
theorem CP{l:Ln}{c:Ci}(hl:HL l)(hc:HC c):qa CC 317 [.ag (kL l []),.ag (kC c [])] [.ag (rk (q4 (V0 l c)) [])]:=by
 refine wpG Tryz.func317 ((CG ..).mpr ?_);have hv:=WB hl hc.1 hc.2.1;exact⟨_,Yi hl hc.1 hc.2.1,_,UN hl,_,xa (Xc hl) hc.2.2,_,xa hv hv,_,je ((Xc hl).mul hc.2.2 (l:=201)) (hv.mul hv (l:=674)),rfl⟩
theorem Ka{l:Ln}{c:Ci}(hl:HL l)(hc:HC c):Hz 876 (V0 l c):=
 ((Xc hl).mul hc.2.2 (l:=201)).sub ((WB hl hc.1 hc.2.1).mul (WB hl hc.1 hc.2.1) (l:=674) (by omega)) (by omega)
theorem fu{s:Rat}{k:Nat}(h:Hz (2*k) (s*s)):Hz k s:=by
 obtain⟨e1,e2⟩:=NN s;have e:(10:Nat)^(2*k)=10^k*10^k:=by rw[Nat.two_mul,Nat.pow_add]
 refine⟨?_,?_⟩
 .have h1:=h.1;rw[e1,bd,e]at h1;exact eH.1 h1
 .have h1:=h.2;rw[e2,e]at h1;exact eH.1 h1
theorem Om{c s:Rat}{k:Nat}(h:sqQ c=some s)(hc:Hz (2*k) c):Hz k s:=by
 rw[<-(JS h).1]at hc;exact fu hc
theorem wF{x u y v c:Rat}(hx:Hz 600 x)(hu:Hz 250 u)(hy:Hz 600 y)(hv:Hz 250 v)(hc:Hz 876 c)(h0:0<=c):
 qa CC 271 [.ag (rk (q4 x) []),.ag (rk (q4 u) []),.ag (rk (q4 y) []),.ag (rk (q4 v) []),.ag (rk (q4 c) [])] [.ag (pk (kP (zr x u y v c)) [])]:=by
 refine wpG Tryz.func271 ((UE ..).mpr ?_);unfold zr;cases hs:sqQ c with
 |none=>exact⟨_,_,Xb (hc.mono (by omega)) h0 hs,rfl⟩
 |some s=>have hz:=Om (k:=438) hs hc;have h1:=hu.mul hz (l:=688);have h2:=hv.mul hz (l:=688);refine⟨_,_,W5 (hc.mono (by omega)) hs,?_⟩;exact⟨_,xa hu hz,_,Qn hx h1,_,xa hv hz,_,Qn hy h2,_,ZK ⟨_,_⟩,rfl⟩
theorem On{x u y v c:Rat}(hx:Hz 600 x)(hu:Hz 250 u)(hy:Hz 600 y)(hv:Hz 250 v)(hc:Hz 876 c):HP 1300 (zr x u y v c):=by
 unfold zr;cases hs:sqQ c with
 |none=>exact⟨hx.mono (by omega),hu.mono (by omega),hy.mono (by omega),hv.mono (by omega),hc.mono (by omega)⟩
 |some s=>have hz:=Om (k:=438) hs hc;exact⟨hx.add (hu.mul hz (l:=688)) (by omega),U0,hy.add (hv.mul hz (l:=688)) (by omega),U0,U0⟩
def okLn (l:Ln):Prop:=¬(l.a=0/\l.b=0)
theorem bu(x:Rat):0<=x*x:=by
 rcases Rat.le_total (a:=0) (b:=x)with h|h
 .exact fz h h
 .have:0<= -x:=by grind
  have:=fz this this
  grind
theorem okLn.norm{l:Ln}(h:okLn l):0<Hp l:=by
 unfold Hp;have h1:=bu l.a;have h2:=bu l.b;by_cases h3:l.a*l.a=0
 .by_cases h4:l.b*l.b=0
  .exfalso;apply h;constructor
   .have:=fw.1 h3;grind
   .have:=fw.1 h4;grind
  .grind
 .grind
theorem GF{l:Ln}{c:Ci}(hl:HL l)(hc:HC c)(h:okLn l):Hz 600 (Ab l c)/\Hz 600 (Ac l c)/\Hz 518 (e9 l c):=by
 have hn:Hp l≠0:=by have:=h.norm;grind
 have hk:=(WB hl hc.1 hc.2.1).div (Xc hl) hn (l:=518) (by omega);exact⟨hc.1.sub (hk.mul hl.1 (l:=563)) (by omega),hc.2.1.sub (hk.mul hl.2.1 (l:=563)) (by omega),hk⟩
theorem bz{l:Ln}(hl:HL l)(h:okLn l):Hz 250 (l.b/Hp l)/\Hz 250 (-l.a/Hp l):=by
 have hn:Hp l≠0:=by have:=h.norm;grind
 exact⟨hl.2.1.div (Xc hl) hn (by omega),hl.1.neg.div (Xc hl) hn (by omega)⟩
theorem bA{l:Ln}{c:Ci}(hl:HL l)(hc:HC c)(h:okLn l):HP 1300 (lcP l c)/\HP 1300 (lcQ l c):=by
 obtain⟨h1,h2,_⟩:=GF hl hc h;obtain⟨h3,h4⟩:=bz hl h;exact⟨On h1 h3.neg h2 h4.neg (Ka hl hc),On h1 h3 h2 h4 (Ka hl hc)⟩
theorem okLn.div{l:Ln}(h:okLn l):¬(l.b/Hp l=0/\ -l.a/Hp l=0):=by
 have hn:Hp l≠0:=by have:=h.norm;grind
 rintro⟨h1,h2⟩;apply h
 grind
theorem bC{l:Ln}{c:Ci}(h:okLn l)(h0:0<V0 l c):okP (lcP l c)/\okP (lcQ l c):=by
 have hd:=h.div;exact⟨G5 h0 (λk=>hd (by grind)),G5 h0 hd⟩
theorem wv{l:Ln}{c:Ci}(hl:HL l)(hc:HC c)(h:okLn l):qa CC 278 [.ag (kL l []),.ag (kC c [])] [.c (.sl (kPs (XX l c)))]:=by
 refine wpG Tryz.func278 ((Wy ..).mpr ?_);have hn:Hp l≠0:=by have:=h.norm;grind
 have hv:=WB hl hc.1 hc.2.1;have hN:=Xc hl;obtain⟨hX,hY,hk⟩:=GF hl hc h;obtain⟨hU,hV⟩:=bz hl h;refine⟨_,CP hl hc,_,UN hl,_,z8 _,?_⟩;unfold XX;refine brd (λh1=>?_) (λh1=>?_)
 .rw[if_pos (kv.1 h1)];rfl
 have n1:¬V0 l c<0:=λk=>h1 (kv.2 k)
 rw[if_neg n1];refine⟨_,Yi hl hc.1 hc.2.1,_,yO hv hN hn,_,xa hk hl.1,_,je hc.1 (hk.mul hl.1 (l:=563)),_,xa hk hl.2.1,_,je hc.2.1 (hk.mul hl.2.1 (l:=563)),_,z8 _,?_⟩;rw[Xp];refine brd (λh2=>?_) (λh2=>?_)
 .rw[if_pos h2];exact⟨_,ZK ⟨_,_⟩,rfl⟩
 rw[if_neg h2];have h3:0<V0 l c:=by grind
 obtain⟨hp,hq⟩:=bA hl hc h;obtain⟨op,oq⟩:=bC (c:=c) h h3;refine⟨_,yO hl.2.1 hN hn,_,JZ hl.1,_,yO hl.1.neg hN hn,_,JZ hU,_,JZ hV,_,wF hX hU.neg hY hV.neg (Ka hl hc) (ft h3),_,wF hX hU hY hV (Ka hl hc) (ft h3),_,G1 hp hq op oq,?_⟩;refine brd (λh4=>?_) (λh4=>?_)
 .have h5:0<zW (lcP l c) (lcQ l c):=h4;rw[if_pos h5];rfl
 .have h5:¬0<zW (lcP l c) (lcQ l c):=h4;rw[if_neg h5];rfl
theorem UO{c d:Ci}(hc:HC c)(hd:HC d):qa CC 315 [.ag (kC c []),.ag (kC d [])] [.c (.bool (decide (yH c d)))]:=by
 refine wpG Tryz.func315 ((CH ..).mpr ?_);refine⟨_,JA hc.1 hd.1,?_⟩;rw[Xp,decide_eq_decide.2 Cy];refine brd (λh1=>?_) (λh1=>?_)
 .refine⟨_,JA hc.2.1 hd.2.1,?_⟩;rw[Xp,decide_eq_decide.2 Cy];have:(c.y=d.y)↔yH c d:=⟨λk=>⟨h1,k⟩,λk=>k.2⟩;have e:decide (c.y=d.y)=decide (yH c d):=decide_eq_decide.2 this;exact congrArg (λb=>[A.c (Pl b)]) e
 .rw[decide_eq_false (p:=yH c d) (λk=>h1 k.1)]
theorem Oo{c d:Ci}(h:¬yH c d):okLn (Ad c d):=by
 intro k;apply h;obtain⟨k1,k2⟩:=k;have e1:2*(d.x-c.x)=0:=k1;have e2:2*(d.y-c.y)=0:=k2;exact⟨by grind,by grind⟩
theorem two_hz:Hz 1 2:=Hz.int (n:=2) (by decide)
theorem Oq{c d:Ci}(hc:HC c)(hd:HC d):HL (Ad c d):=by
 refine⟨two_hz.mul (hd.1.sub hc.1 (l:=41)) (by omega),two_hz.mul (hd.2.1.sub hc.2.1 (l:=41)) (by omega),?_⟩;exact(((hd.1.mul hd.1 (l:=40)).add (hd.2.1.mul hd.2.1 (l:=40)) (l:=81) (by omega)).sub hd.2.2 (l:=102)).sub
  (((hc.1.mul hc.1 (l:=40)).add (hc.2.1.mul hc.2.1 (l:=40)) (l:=81) (by omega)).sub hc.2.2 (l:=102)) (by omega)
theorem UP{c d:Ci}(hc:HC c)(hd:HC d)(h:¬yH c d):qa CC 316 [.ag (kC c []),.ag (kC d [])] [.ag (kL (Ad c d) []),.c (.int .i64 0)]:=by
 refine wpG Tryz.func316 ((UF ..).mpr ?_);refine⟨_,UO hc hd,?_⟩;rw[decide_eq_false h];refine xG (λk=>by simp at k) (λ_=>?_);have c1:=hc.1.mul hc.1 (l:=40);have c2:=hc.2.1.mul hc.2.1 (l:=40);have c3:=c1.add c2 (l:=81);have d1:=hd.1.mul hd.1 (l:=40);have d2:=hd.2.1.mul hd.2.1 (l:=40);have d3:=d1.add d2 (l:=81);exact⟨_,a2,_,xa hc.1 hc.1,_,xa hc.2.1 hc.2.1,_,Qn c1 c2,_,je c3 hc.2.2,_,xa hd.1 hd.1,_,xa hd.2.1 hd.2.1,_,Qn d1 d2,_,je d3 hd.2.2,
  _,je hd.1 hc.1,_,xa two_hz (hd.1.sub hc.1 (l:=41)),_,je hd.2.1 hc.2.1,_,xa two_hz (hd.2.1.sub hc.2.1 (l:=41)),_,je (d3.sub hd.2.2 (l:=102)) (c3.sub hc.2.2 (l:=102)),rfl⟩
theorem UQ{c d:Ci}(hc:HC c)(hd:HC d):∃e,qa CC 277 [.ag (kC c []),.ag (kC d [])] [.c (.sl (kPs (Qm c d))),.c (.int .i64 e)]:=by
 have go:∀e,wpF CC (qa CC) an0 Tryz.f277 [.ag (kC c []),.ag (kC d [])] (· =[.c (.sl (kPs (Qm c d))),.c (.int .i64 e)])->qa CC 277 [.ag (kC c []),.ag (kC d [])] [.c (.sl (kPs (Qm c d))),.c (.int .i64 e)]:=λe h=>qo (anns:=an0) mixedT Tryz.func277 h
 refine⟨if yH c d/\c.q=d.q then 10 else 0,go _ ((UG ..).mpr ?_)⟩;refine⟨_,UO hc hd,?_⟩;unfold Qm;refine xG (λh=>?_) (λh=>?_)
 .have h1:yH c d:=by simpa using h
  rw[if_pos h1];refine⟨_,JA hc.2.2 hd.2.2,?_⟩;rw[Xp,decide_eq_decide.2 Cy];refine brd (λh2=>?_) (λh2=>?_)
  .rw[if_pos ⟨h1,h2⟩];rfl
  .rw[if_neg (λk=>h2 k.2)];rfl
 .have h1:¬yH c d:=by simpa using h
  rw[if_neg h1,if_neg (λk=>h1 k.1)];exact⟨_,_,_,_,UP hc hd h1,_,wv (Oq hc hd) hc (Oo h1),rfl⟩
theorem Zh{c:Ci}(hc:HC c)(h:0<c.q):qa CC 217 [.ag (kC c [])] [.ag (pk (kP (jG c)) []),.ag (pk (kP (xX c)) [])]:=by
 refine wpG Tryz.func217 ((G7 ..).mpr ?_);have hq:Hz 876 c.q:=hc.2.2.mono (by omega);have hx:Hz 600 c.x:=hc.1.mono (by omega);have hy:Hz 600 c.y:=hc.2.1.mono (by omega);have h0:=ft h;exact⟨_,a1,_,a0,_,JZ (U3 (k:=0)),_,wF hx (U3.neg) hy U0 hq h0,_,wF hx U3 hy U0 hq h0,rfl⟩
theorem Kb{c:Ci}(hc:HC c)(h:0<c.q):(HP 1300 (jG c)/\okP (jG c))/\(HP 1300 (xX c)/\okP (xX c)):=by
 have hq:Hz 876 c.q:=hc.2.2.mono (by omega);have hx:Hz 600 c.x:=hc.1.mono (by omega);have hy:Hz 600 c.y:=hc.2.1.mono (by omega);exact⟨⟨On hx U3.neg hy U0 hq,G5 h (λk=>by grind)⟩,⟨On hx U3 hy U0 hq,G5 h (λk=>by grind)⟩⟩
end Eng
end
section
namespace Eng
open Go Go.Proofs Rl
set_option maxRecDepth 100000
def kU (c:Cu):C66:=match c.arc with
 |true=>⟨true,c.jk,c.jk,c.jk,q4 c.ci.x,q4 c.ci.y,q4 c.ci.q,c.cw,kP c.fr,kP c.tt⟩
 |false=>⟨false,q4 c.ln.a,q4 c.ln.b,q4 c.ln.c,c.jk,c.jk,c.jk,c.cw,kP c.fr,kP c.tt⟩
def kUs (l:List Cu):List (List D):=l.map λc=>ck (kU c) []
theorem jH(c:Cu):Hy (kU c)=kP c.fr:=by unfold kU;cases c.arc<;>rfl
theorem kH(c:Cu):HZ (kU c)=kP c.tt:=by unfold kU;cases c.arc<;>rfl
theorem vz(c:Cu):J3 (kU c)=c.arc:=by unfold kU;cases h:c.arc<;>rfl
theorem V3(c:Cu):No (kU c)=c.cw:=by unfold kU;cases c.arc<;>rfl
def Gp (p:P5):Prop:=HP 1300 p/\okP p
def Gs (c:Cu):Prop:=c.jk=z4A/\((c.arc=true/\HC c.ci/\0<c.ci.q)\/(c.arc=false/\HL c.ln/\okLn c.ln))
def Gc (c:Cu):Prop:=Gs c/\Gp c.fr/\Gp c.tt
theorem Gp.neg{p:P5}(h:Gp p):Gp (yz p):=⟨⟨h.1.1.neg,h.1.2.1.neg,h.1.2.2⟩,eC h.2⟩
theorem Gp.tx{p:P5}(h:Gp p):HT 1300 1300 1300 (xP p)/\okT (xP p):=⟨h.1.tx,QD h.2⟩
theorem Gp.ty{p:P5}(h:Gp p):HT 1300 1300 1300 (yP p)/\okT (yP p):=⟨h.1.ty,Za h.2⟩
theorem yQ{p q:P5}(hp:Gp p)(hq:Gp q):qa CC 219 [.ag (pk (kP p) []),.ag (pk (kP q) [])] [.c (.int .i64 (zW p q))]:=G1 hp.1 hq.1 hp.2 hq.2
theorem v6{p q:P5}(hp:Gp p)(hq:Gp q):qa CC 156 [.ag (pk (kP p) []),.ag (pk (kP q) [])] [.c (.bool (wU p q))]:=eQ hp.1 hq.1 hp.2 hq.2
theorem Mw{p q:P5}(hp:Gp p)(hq:Gp q):qa CC 147 [.ag (kT (xP p) []),.ag (kT (xP q) [])] [.c (.int .i64 (sg (px p-px q)))]:=by
 have:=wE hp.tx.1 hq.tx.1 hp.tx.2 hq.tx.2
 rwa [Zb,Zb]at this
theorem CR{p q:P5}(hp:Gp p)(hq:Gp q):qa CC 147 [.ag (kT (yP p) []),.ag (kT (yP q) [])] [.c (.int .i64 (sg (py p-py q)))]:=by
 have:=wE hp.ty.1 hq.ty.1 hp.ty.2 hq.ty.2
 rwa [Wn,Wn]at this
theorem mB(p q:P5): -1<=zW p q/\zW p q<=1:=by
 unfold zW;split
 .exact Ce _
 .exact Ce _
theorem yi{c:Cu}{p:P5}(hc:Gs c)(hp:Gp p):qa CC 155 [.ag (ck (kU c) []),.ag (pk (kP p) [])] [.c (.bool (Z0 c p))]:=by
 refine wpG Tryz.func155 ((G8 ..).mpr ?_);obtain⟨arc,ln,ci,cw,fr,tt,jk⟩:=c;unfold Z0;cases arc with
 |true=>
  have hc:HC ci:=by rcases hc.2 with h|h;exact h.2.1;cases h.1
  refine brb (λ_=>⟨_,W9 hc hp.1 hp.2,?_⟩) (λh=>by cases h);have e:(-sg (civ ci p)==0)=(sg (civ ci p)==0):=by rw[F2,beq_iff_eq,beq_iff_eq];omega
  rw[e];rfl
 |false=>
  have hc:HL ln:=by rcases hc.2 with h|h;cases h.1;exact h.2.1
  refine brb (λh=>by cases h) (λ_=>⟨_,UK hc hp.1 hp.2,?_⟩);rfl
theorem WC{c:Ci}{p:P5}(hc:HC c)(hp:Gp p):qa CC 340 [.ag (kC c []),.ag (pk (kP p) [])] [.c (.bool (upB c p))]:=by
 refine wpG Tryz.func340 ((Ml ..).mpr ?_);have h1:=Wq hp.ty.1 hp.ty.2 hc.2.1;have h2:=Wq hp.tx.1 hp.tx.2 hc.1;rw[Wn]at h1;rw[Zb]at h2;refine⟨_,_,_,QE p,_,h1,?_⟩;unfold upB;refine brd (λh=>?_) (λh=>?_)
 .rw[decide_eq_true (show 0<sg (py p-ofR c.y)from h)];rfl
 rw[decide_eq_false (show ¬0<sg (py p-ofR c.y)from h),Dd];refine brb (λh=>?_) (λh=>?_)
 .rw[h,B0];exact⟨_,_,_,wu p,_,h2,rfl⟩
 .rw[h];rfl
theorem Xd{c:Ci}{p q:P5}(hc:HC c)(hp:Gp p)(hq:Gp q):qa CC 323 [.ag (kC c []),.ag (pk (kP p) []),.ag (pk (kP q) [])] [.c (.int .i64 (qp c p q))]:=by
 refine wpG Tryz.func323 ((Mm ..).mpr ?_);refine⟨_,WC hc hp,_,WC hc hq,?_⟩;unfold qp;refine brb (λh=>?_) (λh=>?_)
 .have h1:¬upB c p=upB c q:=by simpa using h
  rw[if_neg h1];refine xG (λh2=>?_) (λh2=>?_)
  .rw[if_pos h2]
  .rw[if_neg (by rw[h2];simp)]
 .have h1:upB c p=upB c q:=by simpa using h
  rw[if_pos h1];refine⟨_,_,_,wu p,_,_,_,wu q,_,Mw hp hq,?_⟩;refine xG (λh2=>?_) (λh2=>?_)
  .rw[if_pos h2,W8 (Ce _)]
  .rw[if_neg (by rw[h2];simp)]
theorem WD{c:Ci}{f p q:P5}(hc:HC c)(hf:Gp f)(hp:Gp p)(hq:Gp q):qa CC 280 [.ag (kC c []),.ag (pk (kP f) []),.ag (pk (kP p) []),.ag (pk (kP q) [])] [.c (.int .i64 (vw c f p q))]:=by
 refine wpG Tryz.func280 ((Mn ..).mpr ?_);refine⟨_,Xd hc hp hf,_,Xd hc hq hf,?_⟩;unfold vw;refine brb (λh=>?_) (λh=>?_)
 .have h1:¬decide (qp c p f<0)=decide (qp c q f<0):=by simpa using h
  rw[if_neg h1];refine brd (λh2=>?_) (λh2=>?_)
  .rw[if_pos h2]
  .rw[if_neg h2]
 .have h1:decide (qp c p f<0)=decide (qp c q f<0):=by simpa using h
  rw[if_pos h1];exact⟨_,Xd hc hp hq,rfl⟩
theorem Qo{p:P5}(hp:Gp p):qa CC 282 [.ag (pk (kP p) [])] [.ag (pk (kP (yz p)) [])]:=by
 refine wpG Tryz.func282 ((Rm ..).mpr ?_);exact⟨_,TS hp.1.1,_,TS hp.1.2.1,rfl⟩
def mirC (c:Cu):Cu:={c with ci:=⟨-c.ci.x,c.ci.y,c.ci.q⟩,fr:=yz c.fr,tt:=yz c.tt,cw:=!c.cw}
theorem UR{c:Cu}(hc:Gc c)(ha:c.arc=true):qa CC 281 [.ag (ck (kU c) [])] [.ag (ck (kU (mirC c)) [])]:=by
 refine wpG Tryz.func281 ((UH ..).mpr ?_);obtain⟨arc,ln,ci,cw,fr,tt,jk⟩:=c;obtain⟨hs,hf,ht⟩:=hc;subst ha;have hc:HC ci:=by rcases hs.2 with h|h;exact h.2.1;cases h.1
 exact⟨_,TS hc.1,_,Qo hf,_,Qo ht,rfl⟩
theorem ww{c:Cu}{p q:P5}(hc:Gc c)(hp:Gp p)(hq:Gp q):qa CC 227 [.ag (ck (kU c) []),.ag (pk (kP p) []),.ag (pk (kP q) [])] [.c (.int .i64 (zZ c p q))]:=by
 have hm:=λha=>UR hc ha
 refine wpG Tryz.func227 ((Mp ..).mpr ?_);obtain⟨arc,ln,ci,cw,fr,tt,jk⟩:=c;obtain⟨hs,hf,ht⟩:=hc;unfold zZ;cases arc with
 |false=>
  refine brb (λ_=>?_) (λh=>by cases h);refine⟨_,yQ hp hq,_,yQ hf ht,?_⟩;rw[if_neg (by simp)];refine brd (λh=>?_) (λh=>?_)
  .rw[if_pos (show 0<zW fr tt from h),W8 (mB _ _)]
  .rw[if_neg (show ¬0<zW fr tt from h)]
 |true=>
  have hc:HC ci:=by rcases hs.2 with h|h;exact h.2.1;cases h.1
  refine brb (λh=>by cases h) (λ_=>?_);rw[if_pos rfl];cases cw with
  |false=>refine brb (λ_=>?_) (λh=>by cases h);exact⟨_,WD hc hf hp hq,rfl⟩
  |true=>refine brb (λh=>by cases h) (λ_=>?_);have hc2:HC ⟨-ci.x,ci.y,ci.q⟩:=⟨hc.1.neg,hc.2.1,hc.2.2⟩;exact⟨_,hm rfl,_,Qo hp,_,Qo hq,_,WD hc2 hf.neg hp.neg hq.neg,rfl⟩
theorem yj{c:Cu}{p:P5}(hc:Gc c)(hp:Gp p):qa CC 207 [.ag (ck (kU c) []),.ag (pk (kP p) [])] [.c (.bool (y5 c p))]:=by
 refine wpG Tryz.func207 ((AJ ..).mpr ?_);have h1:=ww hc hc.2.1 hp;have h2:=ww hc hp hc.2.2;rw[<-jH]at h1;rw[<-kH]at h2;refine⟨_,yi hc.1 hp,?_⟩;unfold y5;refine xG (λh=>?_) (λh=>?_)
 .rw[h,B0];refine⟨_,h1,?_⟩;refine brd (λh=>?_) (λh=>?_)
  .rw[decide_eq_true h,B0];exact⟨_,h2,rfl⟩
  .rw[decide_eq_false h];rfl
 .rw[h];rfl
theorem mC(c:Cu)(h:c.arc=false->c.cw=false):ck (kU (LV c)) []= .bool c.arc::(rk (kU c).la (rk (kU c).lb (rk (kU c).lc (rk (kU c).cx (rk (kU c).cy (rk (kU c).cq (.bool (c.arc&&!c.cw)::pk (kP c.tt) (pk (kP c.fr) [])))))))):=by
 obtain⟨arc,ln,ci,cw,fr,tt,jk⟩:=c;cases arc<;>rfl
theorem Gs.rev{c:Cu}(h:Gs c):Gs (LV c):=h
theorem Gc.rev{c:Cu}(h:Gc c):Gc (LV c):=⟨h.1.rev,h.2.2,h.2.1⟩
theorem ZM{c d:Cu}(hc:Gs c)(hd:Gs d):qa CC 158 [.ag (ck (kU c) []),.ag (ck (kU d) [])] [.c (.bool (jI c d))]:=by
 refine wpG Tryz.func158 ((Rn ..).mpr ?_);obtain⟨arc,ln,ci,cw,fr,tt,jk⟩:=c;obtain⟨a3,ln2,ci2,cw2,fr2,tt2,jk2⟩:=d;unfold jI;cases arc with
 |false=>
  have h1:HL ln:=by rcases hc.2 with h|h;cases h.1;exact h.2.1
  cases a3 with
  |false=>
   have h2:HL ln2:=by rcases hd.2 with h|h;cases h.1;exact h.2.1
   refine brb (λh=>by cases h) (λ_=>brb (λh=>by cases h) (λ_=>⟨_,GE h1 h2,rfl⟩))
  |true=>exact brb (λ_=>rfl) (λh=>by cases h)
 |true=>
  have h1:HC ci:=by rcases hc.2 with h|h;exact h.2.1;cases h.1
  cases a3 with
  |false=>exact brb (λ_=>rfl) (λh=>by cases h)
  |true=>
   have h2:HC ci2:=by rcases hd.2 with h|h;exact h.2.1;cases h.1
   refine brb (λh=>by cases h) (λ_=>brb (λ_=>⟨_,W7 h1 h2,rfl⟩) (λh=>by cases h))
theorem Mx{c d:Cu}(hc:Gc c)(hd:Gc d):qa CC 159 [.ag (ck (kU c) []),.ag (ck (kU d) [])] [.c (.bool (eqC c d))]:=by
 refine wpG Tryz.func159 ((Mq ..).mpr ?_);have h1:=v6 hc.2.1 hd.2.1;have h2:=v6 hc.2.2 hd.2.2;rw[<-jH,<-jH]at h1;rw[<-kH,<-kH]at h2;refine⟨_,ZM hc.1 hd.1,?_⟩;unfold eqC;rw[V3,V3];refine xG (λh=>?_) (λh=>?_)
 .rw[h,B0];refine brb (λh=>?_) (λh=>?_)
  .rw[h,B0];refine⟨_,h1,?_⟩;refine xG (λh=>?_) (λh=>?_)
   .rw[h,B0];exact⟨_,h2,rfl⟩
   .rw[h];rfl
  .rw[h];rfl
 .rw[h];rfl
theorem GG{c d:Cu}(hc:Gs c)(hd:Gs d):∃e,qa CC 225 [.ag (ck (kU c) []),.ag (ck (kU d) [])] [.c (.sl (kPs (QW c d))),.c (.int .i64 e)]:=by
 have go:∀e,wpF CC (qa CC) an0 Tryz.f225 [.ag (ck (kU c) []),.ag (ck (kU d) [])] (· =[.c (.sl (kPs (QW c d))),.c (.int .i64 e)])->qa CC 225 [.ag (ck (kU c) []),.ag (ck (kU d) [])] [.c (.sl (kPs (QW c d))),.c (.int .i64 e)]:=λe h=>qo (anns:=an0) mixedT Tryz.func225 h
 obtain⟨arc,ln,ci,cw,fr,tt,jk⟩:=c;obtain⟨a3,a4,a5,cw2,fr2,tt2,jk2⟩:=d;unfold QW at *;cases arc with
 |false=>
  have h1:HL ln/\okLn ln:=by rcases hc.2 with h|h;cases h.1;exact h.2
  cases a3 with
  |false=>
   have h2:HL a4/\okLn a4:=by rcases hd.2 with h|h;cases h.1;exact h.2
   obtain⟨e,he⟩:=Rw h1.1 h2.1;exact⟨e,go _ ((kG ..).mpr (brb (λh=>by cases h) (λ_=>brb (λh=>by cases h) (λ_=>brb (λh=>by cases h) (λ_=>⟨_,_,he,rfl⟩)))))⟩
  |true=>
   have h2:HC a5:=by rcases hd.2 with h|h;exact h.2.1;cases h.1
   exact⟨0,go _ ((kG ..).mpr (brb (λh=>by cases h) (λ_=>brb (λh=>by cases h) (λ_=>brb (λ_=>⟨_,wv h1.1 h2 h1.2,rfl⟩) (λh=>by cases h)))))⟩
 |true=>
  have h1:HC ci:=by rcases hc.2 with h|h;exact h.2.1;cases h.1
  cases a3 with
  |false=>
   have h2:HL a4/\okLn a4:=by rcases hd.2 with h|h;cases h.1;exact h.2
   exact⟨0,go _ ((kG ..).mpr (brb (λ_=>brb (λh=>by cases h) (λ_=>brb (λ_=>⟨_,wv h2.1 h1 h2.2,rfl⟩) (λh=>by cases h))) (λh=>by cases h)))⟩
  |true=>
   have h2:HC a5:=by rcases hd.2 with h|h;exact h.2.1;cases h.1
   obtain⟨e,he⟩:=UQ h1 h2;exact⟨e,go _ ((kG ..).mpr (brb (λ_=>brb (λ_=>⟨_,_,he,rfl⟩) (λh=>by cases h)) (λh=>by cases h)))⟩
end Eng
end
section
namespace Eng
open Go Go.Proofs Rl
set_option maxRecDepth 100000
def Gd (c:Cu):Prop:=Gc c/\Vm c=true
theorem Gd.sup{c:Cu}(h:Gd c):Z0 c c.fr=true/\Z0 c c.tt=true/\wU c.fr c.tt=false:=by
 have:=h.2;unfold Vm at this;simp only[F0,Bool.not_eq_true']at this;exact this.2
theorem Gd.cw{c:Cu}(h:Gd c)(ha:c.arc=false):c.cw=false:=by
 have:=h.2;unfold Vm at this;rw[ha]at this;simp only[F0]at this;have h1:=this.1;simp at h1;exact h1.1
theorem Gd.circ{c:Cu}(h:Gd c)(ha:c.arc=true):HC c.ci/\0<c.ci.q:=by
 rcases h.1.1.2 with k|k
 .exact k.2
 .rw[ha]at k;cases k.1
theorem Gd.line{c:Cu}(h:Gd c)(ha:c.arc=false):HL c.ln/\okLn c.ln:=by
 rcases h.1.1.2 with k|k
 .rw[ha]at k;cases k.1
 .exact k.2
theorem WE{c:Cu}{p:P5}(hc:Gc c)(hp:Gp p):qa CC 223 [.ag (ck (kU c) []),.ag (pk (kP p) [])] [.c (.bool (Vn c p))]:=by
 refine wpG Tryz.func223 ((Mr ..).mpr ?_);have h1:=v6 hc.2.1 hp;have h2:=v6 hc.2.2 hp;rw[<-jH]at h1;rw[<-kH]at h2;refine⟨_,yj hc hp,?_⟩;unfold Vn;refine xG (λh=>?_) (λh=>?_)
 .rw[h,B0];refine⟨_,h1,?_⟩;refine brb (λh=>?_) (λh=>?_)
  .rw[h,B0];exact⟨_,h2,rfl⟩
  .rw[h];rfl
 .rw[h];rfl
theorem ZN{c:Cu}(hc:Gc c):qa CC 146 [.ag (ck (kU c) [])] [.c (.bool (y6 c))]:=by
 refine wpG Tryz.func146 ((Ro ..).mpr ?_);have h1:=wu c.fr;have h2:=wu c.tt;rw[<-jH]at h1;rw[<-kH]at h2;have h3:=eP hc.2.1.tx.1 hc.2.2.tx.1 hc.2.1.tx.2 hc.2.2.tx.2;rw[Zb,Zb]at h3;rw[vz];unfold y6;refine brb (λh=>?_) (λh=>?_)
 .rw[h,B0];exact⟨_,_,_,h1,_,_,_,h2,_,h3,rfl⟩
 .rw[h];rfl
theorem US{c:Cu}{r:Rt}(hc:Gc c)(hr:HT 1300 1300 1300 r)(ho:okT r):qa CC 212 [.ag (ck (kU c) []),.ag (kT r [])] [.c (.bool (Qx c (rv r)))]:=by
 refine wpG Tryz.func212 ((UI ..).mpr ?_);have h1:=wu c.fr;have h2:=wu c.tt;rw[<-jH]at h1;rw[<-kH]at h2;have h3:=wE hc.2.1.tx.1 hr hc.2.1.tx.2 ho;have h4:=wE hr hc.2.2.tx.1 ho hc.2.2.tx.2;rw[Zb]at h3 h4;refine⟨_,_,_,h1,_,h3,?_⟩;unfold Qx;refine brd (λh=>?_) (λh=>?_)
 .rw[decide_eq_true h,B0];exact⟨_,_,_,h2,_,h4,rfl⟩
 .rw[decide_eq_false h];rfl
theorem My{c:Cu}{p:P5}(hc:Gc c)(hp:Gp p):∃e,qa CC 148 [.ag (ck (kU c) []),.ag (pk (kP p) [])] [.c (.int .i64 (xD c p).1),.c (.int .i64 e)]:=by
 have go:∀e,wpF CC (qa CC) an0 Tryz.f148 [.ag (ck (kU c) []),.ag (pk (kP p) [])] (· =[.c (.int .i64 (xD c p).1),.c (.int .i64 e)])->qa CC 148 [.ag (ck (kU c) []),.ag (pk (kP p) [])] [.c (.int .i64 (xD c p).1),.c (.int .i64 e)]:=λe h=>qo (anns:=an0) mixedT Tryz.func148 h
 refine⟨if Qx c (px p)=false then 1 else 0,go _ ((Ms ..).mpr ?_)⟩;have hw:=US hc hp.tx.1 hp.tx.2;rw[Zb]at hw;refine⟨_,_,_,wu p,_,hw,?_⟩;unfold xD;cases hb:Qx c (px p)with
 |false=>exact brb (λ_=>rfl) (λh=>by cases h)
 |true=>
  refine brb (λh=>by cases h) (λ_=>?_);rw[if_neg (show ¬(true=false)by simp),if_neg (show ¬(true=false)by simp)];refine⟨_,ZN hc,?_⟩;have h1:=QE c.fr;have h2:=QE c.tt;rw[<-jH]at h1;rw[<-kH]at h2;refine xG (λh=>?_) (λh=>?_)
  .rw[if_pos h];refine⟨_,_,_,QE p,_,_,_,h2,_,CR hp hc.2.2,?_⟩;refine brd (λh3=>?_) (λh3=>?_)
   .rw[if_pos (show 0<sg (py p-py c.tt)from h3)]
   .rw[if_neg (show ¬0<sg (py p-py c.tt)from h3)];refine⟨_,_,_,QE p,_,_,_,h1,_,CR hp hc.2.1,?_⟩;refine brd (λh4=>?_) (λh4=>?_)
    .rw[if_pos h4]
    .rw[if_neg h4]
  .rw[if_neg (by rw[h];simp),vz];cases ha:c.arc with
   |false=>
    refine brb (λ_=>?_) (λh=>by cases h);obtain⟨arc,ln,ci,cw,fr,tt,jk⟩:=c;subst ha;have hl:HL ln:=by rcases hc.1.2 with h|h;cases h.1;exact h.2.1
    refine⟨_,UK hl hp.1 hp.2,_,z8 _,?_⟩;rw[j9 (Ce _) (Wm _),if_pos rfl]
   |true=>
    refine brb (λh=>by cases h) (λ_=>?_);obtain⟨arc,ln,ci,cw,fr,tt,jk⟩:=c;subst ha;have hC:HC ci:=by rcases hc.1.2 with h|h;exact h.2.1;cases h.1
    have h5:=Mf hp.ty.1 hp.ty.2 hC.2.1;rw[Wn]at h5;refine⟨_,_,_,QE p,_,h5,_,W9 hC hp.1 hp.2,?_⟩;rw[if_neg (by simp)];cases cw with
    |true=>
     refine brb (λ_=>?_) (λh=>by cases h);rw[if_pos rfl];refine brd (λh3=>?_) (λh3=>?_)
     .rw[if_pos h3]
     .rw[if_neg h3];have hw2: -1<= -sg (civ ci p)/\ -sg (civ ci p)<=1:=by have:=Ce (civ ci p);omega
      rw[W8 hw2,Int.neg_neg]
    |false=>
     refine brb (λh=>by cases h) (λ_=>?_);rw[if_neg (by simp)];refine brd (λh3=>?_) (λh3=>?_)
     .rw[if_pos (show 0<sg (py p-ofR ci.y)from h3)]
     .rw[if_neg (show ¬0<sg (py p-ofR ci.y)from h3)]
def kS (s:Int×Rt):List D:= .int .i64 s.1::(if s.1=0 then kT s.2 []else rk z4A (rk z4A (rk z4A [])))
theorem Mz{c:Cu}(h:Gd c)(ha:c.arc=false)(hv:y6 c=false):c.ln.b≠0:=by
 intro hb;obtain⟨h1,h2,_⟩:=h.sup;unfold Z0 at h1 h2;rw[ha]at h1 h2;simp only[Bool.false_eq_true,if_false,beq_iff_eq]at h1 h2;rw[qY]at h1 h2;unfold lnv at h1 h2;rw[hb,xS,zml,ad0]at h1 h2;have e1:=jv h1;have e2:=jv h2;have e3:ofR c.ln.a*(px c.fr-px c.tt)=0:=by rw[show px c.fr-px c.tt=px c.fr+ -px c.tt from rfl,mld,Uz,e1,e2];exact adn _
 have ha0:ofR c.ln.a≠0:=λe=>(h.line ha).2 ⟨yG.1 e,hb⟩
 have e4:=(mul_eq_zero e3).resolve_left ha0;unfold y6 at hv;rw[ha,e4,zL]at hv;simp at hv
theorem bD{r:Rt}(hr:HT 1321 1300 1300 r)(ho:okT r)(h:rv r≠0):HT 7864 7843 1300 (ir r):=by
 have hn:=NZ (m:=6543) hr (by omega);have hn0:wT r≠0:=ho.norm λk=>h (ho.zero.2 k)
 have h1:=(U3 (k:=0)).div hn hn0 (l:=6543) (by omega);exact Ol (hr.1.mul h1 (by omega)) (hr.2.1.mul h1 (by omega)).neg hr.2.2
def slX (c:Cu) (p:P5):Rt:=lS (BX (xP p) (-c.ci.x))
def slY (c:Cu) (p:P5):Rt:=BX (yP p) (-c.ci.y)
theorem bE{c:Cu}{p:P5}(hC:HC c.ci)(hp:Gp p):HT 1321 1300 1300 (slX c p)/\okT (slX c p)/\((slX c p).b=0\/(slX c p).c=p.c):=by
 refine⟨(hp.tx.1.add hC.1.neg (by omega)).neg,(hp.tx.2.add _).neg,?_⟩;rcases mz p with h|h
 .left;show-(xP p).b=0;grind
 .right;exact h
theorem bF{c:Cu}{p:P5}(hC:HC c.ci)(hp:Gp p):HT 1321 1300 1300 (slY c p)/\okT (slY c p)/\((slY c p).b=0\/(slY c p).c=p.c)/\rv (slY c p)=py p-ofR c.ci.y:=by
 refine⟨hp.ty.1.add hC.2.1.neg (by omega),hp.ty.2.add _,?_,?_⟩
 .rcases m5 p with h|h
  .left;exact h
  .right;exact h
 .unfold slY;rw[aS,Wn,wl];rfl
theorem Ot{c:Cu}{p:P5}(h:Gd c)(hp:Gp p):HT 19700 18400 1300 (xC c p).2/\okT (xC c p).2:=by
 have hz:HT 19700 18400 1300 ⟨0,0,0⟩/\okT ⟨0,0,0⟩:=⟨⟨U0,U0,U0⟩,Wk 0⟩;unfold xC;split
 .exact hz
 rename_i hv;have hv:y6 c=false:=by simpa using hv
 split
 .rename_i ha;have hl:=h.line ha;have hb:=Mz h ha hv;exact⟨⟨hl.1.1.neg.div hl.1.2.1 hb (by omega),U0,U0⟩,Wk _⟩
 rename_i ha;have ha:c.arc=true:=by simpa using ha
 split
 .exact hz
 rename_i h0;have hC:=(h.circ ha).1;obtain⟨x1,x2,x3⟩:=bE hC hp;obtain⟨y1,y2,y3,y4⟩:=bF hC hp;have hne:rv (slY c p)≠0:=λe=>h0 (by rw[<-y4,e,zL])
 exact⟨UJ x1 (bD y1 y2 hne) (by omega) (by omega),Ww x2 (fi y2)⟩
theorem UT{c:Cu}{p:P5}(h0:(xC c p).1≠0)(h2:(xC c p).1≠2):c.arc=true:=by
 unfold xC at h0 h2;split at h2
 .exact absurd rfl h2
 rename_i hv;rw[if_neg hv]at h0;split at h0
 .exact absurd rfl h0
 .rename_i ha;simpa using ha
theorem WG{c:Cu}{p:P5}(h:Gd c)(hp:Gp p):qa CC 274 [.ag (ck (kU c) []),.ag (pk (kP p) [])] [.ag (kS (xC c p))]:=by
 have hn:=λha hv=>Mz h ha hv
 have hl:=λha=>h.line ha
 have hC:=λha=>h.circ ha
 have hx:=λha=>bE (c:=c) (p:=p) (hC ha).1 hp
 have hy:=λha=>bF (c:=c) (p:=p) (hC ha).1 hp
 refine wpG Tryz.func274 ((Mt ..).mpr ?_);refine⟨_,ZN h.1,?_⟩;unfold xC;refine xG (λhv=>?_) (λhv=>?_)
 .rw[if_pos hv];rfl
 rw[if_neg (by rw[hv];simp),vz];cases ha:c.arc with
 |false=>refine brb (λ_=>?_) (λh=>by cases h);rw[if_pos rfl];have hb:=hn ha hv;have hL:=(hl ha).1;clear hx hy hn hl hC h;obtain⟨arc,ln,ci,cw,fr,tt,jk⟩:=c;subst ha;exact⟨_,TS hL.1,_,_,pJ hL.1.neg hL.2.1 hb,_,_,_,kh _,rfl⟩
 |true=>
  refine brb (λh=>by cases h) (λ_=>?_);rw[if_neg (by simp)];obtain⟨x1,x2,x3⟩:=hx ha;obtain⟨y1,y2,y3,y4⟩:=hy ha;have hc:=(hC ha).1;clear hx hy hn hl hC h;obtain⟨arc,ln,ci,cw,fr,tt,jk⟩:=c;subst ha;have hs:=yL y1 y2;rw[y4]at hs;refine⟨_,_,_,wu p,_,TS hc.1,_,_,_,yg hp.tx.1 hc.1.neg,_,_,_,QE p,_,TS hc.2.1,_,_,_,yg hp.ty.1 hc.2.1.neg,_,hs,?_⟩;refine brb (λh0=>?_) (λh0=>?_)
  .rw[if_pos (bh h0)];cases cw with
   |true=>exact brb (λ_=>rfl) (λh=>by cases h)
   |false=>exact brb (λh=>by cases h) (λ_=>rfl)
  .have h0:sg (py p-ofR ci.y)≠0:=by simpa using h0
   rw[if_neg h0];have a3:rv (slY ⟨true,ln,ci,cw,fr,tt,jk⟩ p)≠0:=λe=>h0 (by rw[show py p-ofR ci.y=0 from y4▸e,zL])
   exact⟨_,_,_,_,A1 y1 y2 a3,_,_,_,A0 (hp.tx.1.add hc.1.neg (en _)),_,_,_,_,Oa x1 (bD y1 y2 a3) (Mi x3 (mu y3)),rfl⟩
theorem Yj(c:Cu):qa CC 314 [.ag (ck (kU c) [])] [.c (.int .i64 (y7 c))]:=by
 refine wpG Tryz.func314 ((Rq ..).mpr ?_);rw[vz,V3];unfold y7;cases c.arc with
 |false=>exact brb (λ_=>rfl) (λh=>by cases h)
 |true=>
  refine brb (λh=>by cases h) (λ_=>?_);cases c.cw with
  |true=>exact brb (λ_=>rfl) (λh=>by cases h)
  |false=>exact brb (λh=>by cases h) (λ_=>rfl)
theorem CS(c:Cu): -1<=y7 c/\y7 c<=1:=by
 unfold y7;split
 .omega
 .split<;>omega
theorem UU{c:Cu}(h:y7 c≠0):c.arc=true:=by
 unfold y7 at h;split at h
 .exact absurd rfl h
 .rename_i ha;simpa using ha
theorem AP{c:Cu}(h:c.arc=true):J4 (kU c)=q4 c.ci.q:=by unfold kU;rw[h]
theorem Rx{c d:Cu}(hc:Gd c)(hd:Gd d):qa CC 275 [.ag (ck (kU c) []),.ag (ck (kU d) [])] [.c (.int .i64 (eA c d))]:=by
 refine wpG Tryz.func275 ((Rp ..).mpr ?_);refine⟨_,Yj c,_,Yj d,?_⟩;unfold eA;refine brb (λh=>?_) (λh=>?_)
 .rw[if_neg (by simpa using h)];refine brd (λh1=>?_) (λh1=>?_)
  .rw[if_pos h1]
  .rw[if_neg h1]
 .have e:y7 c=y7 d:=by simpa using h
  rw[if_pos e];refine brb (λh1=>?_) (λh1=>?_)
  .rw[if_pos (bh h1)]
  .have n1:y7 c≠0:=by simpa using h1
   have a1:=UU n1;have a2:=UU (e▸n1);rw[if_neg n1,AP a1,AP a2];refine⟨_,JA (hc.circ a1).1.2.2 (hd.circ a2).1.2.2,?_⟩;have hw: -1<= -y7 c/\ -y7 c<=1:=by have:=CS c;omega
   rw[W8 (CS c),j9 hw (Wm _)]
theorem Ou(s:Int×Rt):∃x y z,kS s= .int .i64 s.1::rk x (rk y (rk z []))/\(s.1=0->rk x (rk y (rk z []))=kT s.2 []):=by
 unfold kS;by_cases h:s.1=0
 .rw[if_pos h];exact⟨_,_,_,rfl,λ_=>rfl⟩
 .rw[if_neg h];exact⟨_,_,_,rfl,λk=>absurd k h⟩
theorem fv(c:Cu)(p:P5): -1<=(xC c p).1/\(xC c p).1<=2:=by
 unfold xC;split
 .omega
 split
 .omega
 split
 .split<;>omega
 .omega
theorem M4{c d:Cu}(hc:Gd c)(hd:Gd d):∃e,qa CC 220 [.ag (ck (kU c) []),.ag (ck (kU d) [])] [.c (.int .i64 (Yb c d)),.c (.int .i64 e)]:=by
 have go:∀e,wpF CC (qa CC) an0 Tryz.f220 [.ag (ck (kU c) []),.ag (ck (kU d) [])] (· =[.c (.int .i64 (Yb c d)),.c (.int .i64 e)])->qa CC 220 [.ag (ck (kU c) []),.ag (ck (kU d) [])] [.c (.int .i64 (Yb c d)),.c (.int .i64 e)]:=λe h=>qo (anns:=an0) mixedT Tryz.func220 h
 refine⟨if wU c.fr d.fr=false then 1 else 0,go _ ((Mu ..).mpr ?_)⟩;have h1:=v6 hc.1.2.1 hd.1.2.1;rw[<-jH,<-jH]at h1;have s1:=WG hc hc.1.2.1;have s2:=WG hd hd.1.2.1;rw[<-jH]at s1 s2;obtain⟨x1,x2,x3,e1,k1⟩:=Ou (xC c c.fr);obtain⟨y1,y2,y3,e2,k2⟩:=Ou (xC d d.fr);rw[e1]at s1;rw[e2]at s2;refine⟨_,h1,?_⟩;unfold Yb;cases hb:wU c.fr d.fr with
 |false=>exact brb (λ_=>rfl) (λh=>by cases h)
 |true=>
  refine brb (λh=>by cases h) (λ_=>?_);rw[if_neg (show ¬(true=false)by simp),if_neg (show ¬(true=false)by simp)];refine⟨_,_,_,_,s1,_,_,_,_,s2,?_⟩;refine brb (λh=>?_) (λh=>?_)
  .rw[if_neg (by simpa using h)];refine brd (λh2=>?_) (λh2=>?_)
   .rw[if_pos h2]
   .rw[if_neg h2]
  .have e:(xC c c.fr).1=(xC d d.fr).1:=by simpa using h
   rw[if_pos e];refine brb (λh2=>?_) (λh2=>?_)
   .rw[if_pos (bh h2)]
   have n2:(xC c c.fr).1≠2:=by simpa using h2
   rw[if_neg n2];refine brb (λh3=>?_) (λh3=>?_)
   .have n3:(xC c c.fr).1≠0:=by simpa using h3
    have a1:=UT n3 n2;have a2:=UT (e▸n3) (e▸n2);rw[if_neg n3,AP a1,AP a2];refine⟨_,JA (hc.circ a1).1.2.2 (hd.circ a2).1.2.2,?_⟩;have hw: -1<=(xC c c.fr).1/\(xC c c.fr).1<=1:=by have:=fv c c.fr;omega
    rw[j9 hw (Wm _)]
   .have n3:(xC c c.fr).1=0:=by simpa using h3
    rw[if_pos n3,aT,aT,k1 n3,k2 (e▸n3)];obtain⟨t1,o1⟩:=Ot hc hc.1.2.1;obtain⟨t2,o2⟩:=Ot hd hd.1.2.1;refine⟨_,wE t1 t2 o1 o2,?_⟩;refine brb (λh4=>?_) (λh4=>?_)
    .rw[if_neg (by simpa using h4)]
    .rw[if_pos (by simpa using h4)];exact⟨_,Rx hc hd,rfl⟩
theorem Zi{c d:Cu}(hc:Gd c)(hd:Gd d):qa CC 157 [.ag (ck (kU c) []),.ag (ck (kU d) [])] [.c (.int .i64 (Ae c d))]:=by
 refine wpG Tryz.func157 ((GA ..).mpr ?_);have h1:=yQ hc.1.2.1 hd.1.2.1;have h2:=yQ hc.1.2.2 hd.1.2.2;rw[<-jH,<-jH]at h1;rw[<-kH,<-kH]at h2;obtain⟨e,h3⟩:=M4 hc hd;refine⟨_,h1,?_⟩;unfold Ae;refine brb (λh=>?_) (λh=>?_)
 .rw[if_neg (by simpa using h)]
 rw[if_pos (by simpa using h)];refine⟨_,_,h3,?_⟩;refine brb (λh=>?_) (λh=>?_)
 .rw[if_neg (by simpa using h)]
 rw[if_pos (by simpa using h)];exact⟨_,h2,rfl⟩
theorem yk{c:Cu}(h:c.arc=false->c.cw=false):qa CC 224 [.ag (ck (kU c) [])] [.ag (ck (kU (LV c)) [])]:=by
 rw[mC c h];refine qo (anns:=an0) mixedT Tryz.func224 ?_;rw[G9,vz,V3,jH,kH];cases ha:c.arc with
 |true=>exact brb (λ_=>rfl) (λh=>by cases h)
 |false=>exact brb (λh=>by cases h) (λ_=>rfl)
end Eng
end
section
open Go Go.Proofs Eng
namespace Eng
section
variable (Gv:Nat->List A->List A->Prop)(I0:List D->List D->Prop)(M0:List D->Nat)(I1:List D->List D->Prop)(M1:List D->Nat)(I2:List D->List D->Prop)(M2:List D->Nat)(I3:List D->List D->Prop)(M3:List D->Nat)(Q:List A->Prop)
theorem UV(J8:List D->List D->Prop)(J9:List D->List D->Prop)(c0:C66)(l0:List (List D))(Q:List A->Prop):wpF CC Gv (V7 (V7 (Vl ⟨[.slot 6 (.int .i64 0),.slot 5 (.slice none 0 0)],[],I0,M0⟩ ⟨[.slot 7 (.int .i64 0)],[.slot 6 (.int .i64 0),.slot 5 (.slice none 0 0)],I1,M1⟩) 8 ⟨[.slot 7 (.int .i64 0)],[.slot 6 (.int .i64 0),.slot 5 (.slice none 0 0)],J8,λ_=>0⟩) 9 ⟨[.slot 7 (.int .i64 0)],[.slot 6 (.int .i64 0),.slot 5 (.slice none 0 0)],J9,λ_=>0⟩) Tryz.f226 [.ag (ck c0 []),.c (.sl l0)] Q=(I0 [] [dI (0:Int),P1 []]/\∀(i:Int) (es:List (List D)),I0 [] [dI i,P1 es]->bB (decide (i<(W3 l0.length))) ((I1 [dI i,P1 es] [dI (0:Int)]/\∀(i_1:Int),I1 [dI i,P1 es] [dI i_1]->bB (decide (i_1<(W3 es.length))) (rO es i_1 20/\∃x,cU es i_1 0 20 (pk x [])/\rO l0 i 20/\∃x1,cU l0 i 0 20 (pk x1 [])/\∃i_2,Gv 227 [aC c0,aP x,aP x1] [aI i_2]/\bB (decide (i_2<0)) (I1 [dI i,P1 es] [dI (V1 .i64 (i_1+1))]/\M1 [dI (V1 .i64 (i_1+1))]<M1 [dI i_1]) (J8 [dI i,P1 es] [dI i_1])) (J8 [dI i,P1 es] [dI i_1]))/\∀(i_1:Int),J8 [dI i,P1 es] [dI i_1]->bB (decide (i_1<(W3 es.length))) (rO es i_1 20/\∃x,cU es i_1 0 20 (pk x [])/\rO l0 i 20/\∃x1,cU l0 i 0 20 (pk x1 [])/\∃b,Gv 156 [aP x,aP x1] [aB b]/\br b (I0 [] [dI (V1 .i64 (i+1)),P1 es]/\M0 [dI (V1 .i64 (i+1)),P1 es]<M0 [dI i,P1 es]) (J9 [dI i,P1 es] [dI i_1])) (J9 [dI i,P1 es] [dI i_1])/\∀(i_2:Int),J9 [dI i,P1 es] [dI i_2]->((0:Int)<=(0:Int)/\0<=i_2/\i_2<=(W3 es.length)/\lens 20 es)/\(room (0+bs (bm 0 (bk (W2 i_2) es)))/\lens 20 (bm 0 (bk (W2 i_2) es)))/\rO l0 i 20/\∃x,cU l0 i 0 20 (pk x [])/\(room (bs ([]++bm 0 (bk (W2 i_2) es))+1)/\lens 20 [(pk x [])])/\(0<=i_2/\i_2<=(W3 es.length)/\(W3 es.length)<=(W3 es.length)/\lens 20 es)/\(room (bs ([]++bm 0 (bk (W2 i_2) es)++[(pk x [])])+bs (bm (W2 i_2) (bk (W2 (W3 es.length)) es)))/\lens 20 (bm (W2 i_2) (bk (W2 (W3 es.length)) es)))/\I0 [] [dI (V1 .i64 (i+1)),P1 ([]++bm 0 (bk (W2 i_2) es)++[(pk x [])]++bm (W2 i_2) (bk (W2 (W3 es.length)) es))]/\M0 [dI (V1 .i64 (i+1)),P1 ([]++bm 0 (bk (W2 i_2) es)++[(pk x [])]++bm (W2 i_2) (bk (W2 (W3 es.length)) es))]<M0 [dI i,P1 es]) (Q [aL es])):=by kernel_rfl
theorem M5(c0:C66)(l0:List (List D))(Q:List A->Prop):wpF CC Gv (Vl ⟨[.slot 6 (.int .i64 0)],[],I0,M0⟩ ⟨[.slot 9 (.int .i64 0),.own 8 56 66],[],I1,M1⟩) Tryz.f162 [.ag (ck c0 []),.c (.sl l0)] Q=(I0 [] [dI (0:Int)]/\∀(i:Int),I0 [] [dI i]->bB (decide (i<(W3 l0.length))) (rO l0 i 20/\∃x,cU l0 i 0 20 (pk x [])/\∃b,Gv 207 [aC c0,aP x] [aB b]/\bB (!b) (Q [aL [],aI (1:Int)]) (I0 [] [dI (V1 .i64 (i+1))]/\M0 [dI (V1 .i64 (i+1))]<M0 [dI i])) ((room (2+l0.length)/\lens 20 l0)/\∃es,Gv 226 [aC c0,aL ((pk (Hy c0) [])::(pk (HZ c0) [])::l0)] [aL es]/\I1 [] [dI (1:Int),P1 []]/\∀(i:Int) (e1:List (List D)),I1 [] [dI i,P1 e1]->bB (decide (i<(W3 es.length))) ((0<=V1 .i64 (i-1)/\V1 .i64 (i-1)<(W3 es.length)/\bs (nth [] es (W2 (V1 .i64 (i-1))))=20)/\∃x,cut (nth [] es (W2 (V1 .i64 (i-1)))) 0 20 (pk x [])/\rO es i 20/\∃x1,cU es i 0 20 (pk x1 [])/\(room (e1.length+1)/\lens 66 [(Pl (J3 c0)::(rk (Lr c0) (rk (J5 c0) (rk (Lv c0) (rk (Ls c0) (rk (Lm c0) (rk (J4 c0) (Pl (No c0)::(pk x (pk x1 []))))))))))])/\I1 [] [dI (V1 .i64 (i+1)),P1 (e1++[(Pl (J3 c0)::(rk (Lr c0) (rk (J5 c0) (rk (Lv c0) (rk (Ls c0) (rk (Lm c0) (rk (J4 c0) (Pl (No c0)::(pk x (pk x1 []))))))))))])]/\M1 [dI (V1 .i64 (i+1)),P1 (e1++[(Pl (J3 c0)::(rk (Lr c0) (rk (J5 c0) (rk (Lv c0) (rk (Ls c0) (rk (Lm c0) (rk (J4 c0) (Pl (No c0)::(pk x (pk x1 []))))))))))])]<M1 [dI i,P1 e1]) (Q [aL e1,aI (0:Int)]))):=by kernel_rfl
theorem Ry(l0:List (List D))(Q:List A->Prop):wpF CC Gv (lz ⟨[.slot 3 (.int .i64 0)],[],I0,M0⟩ ⟨[.slot 5 (.int .i64 0)],[.slot 3 (.int .i64 0)],I1,M1⟩ ⟨[.slot 7 (.int .i64 0),.slot 6 (.int .i64 0)],[.slot 3 (.int .i64 0),.slot 5 (.int .i64 0)],I2,M2⟩) Tryz.f97 [.c (.sl l0)] Q=(I0 [] [dI (0:Int)]/\∀(i:Int),I0 [] [dI i]->bB (decide (i<(W3 l0.length))) (rO l0 i 66/\∃x,cU l0 i 26 20 (pk x [])/\rO l0 i 66/\∃x1,cU l0 i 46 20 (pk x1 [])/\I1 [dI i] [dI (0:Int)]/\∀(i_1:Int),I1 [dI i] [dI i_1]->bB (decide (i_1<2)) (I2 [dI i,dI i_1] [dI (0:Int),dI (0:Int)]/\∀(i_2 i_3:Int),I2 [dI i,dI i_1] [dI i_2,dI i_3]->bB (decide (i_2<(W3 l0.length))) (rO l0 i_2 66/\∃x2,cU l0 i_2 26 20 (pk x2 [])/\(0<=i_1/\i_1<2)/\∃x3,cut (nth [] [(pk x []),(pk x1 [])] (W2 i_1)) 0 20 (pk x3 [])/\∃b,Gv 156 [aP x2,aP x3] [aB b]/\br b (rO l0 i_2 66/\∃x4,cU l0 i_2 46 20 (pk x4 [])/\(0<=i_1/\i_1<2)/\∃x5,cut (nth [] [(pk x []),(pk x1 [])] (W2 i_1)) 0 20 (pk x5 [])/\∃b,Gv 156 [aP x4,aP x5] [aB b]/\br b (I2 [dI i,dI i_1] [dI (V1 .i64 (i_2+1)),dI (V1 .i64 (V1 .i64 (i_3+1)+1))]/\M2 [dI (V1 .i64 (i_2+1)),dI (V1 .i64 (V1 .i64 (i_3+1)+1))]<M2 [dI i_2,dI i_3]) (I2 [dI i,dI i_1] [dI (V1 .i64 (i_2+1)),dI (V1 .i64 (i_3+1))]/\M2 [dI (V1 .i64 (i_2+1)),dI (V1 .i64 (i_3+1))]<M2 [dI i_2,dI i_3])) (rO l0 i_2 66/\∃x4,cU l0 i_2 46 20 (pk x4 [])/\(0<=i_1/\i_1<2)/\∃x5,cut (nth [] [(pk x []),(pk x1 [])] (W2 i_1)) 0 20 (pk x5 [])/\∃b,Gv 156 [aP x4,aP x5] [aB b]/\br b (I2 [dI i,dI i_1] [dI (V1 .i64 (i_2+1)),dI (V1 .i64 (i_3+1))]/\M2 [dI (V1 .i64 (i_2+1)),dI (V1 .i64 (i_3+1))]<M2 [dI i_2,dI i_3]) (I2 [dI i,dI i_1] [dI (V1 .i64 (i_2+1)),dI i_3]/\M2 [dI (V1 .i64 (i_2+1)),dI i_3]<M2 [dI i_2,dI i_3]))) ((2:Int)≠(0:Int)/\bB (Int.tmod i_3 (2:Int)==(1:Int)) (Q [aB true]) (I1 [dI i] [dI (V1 .i64 (i_1+1))]/\M1 [dI (V1 .i64 (i_1+1))]<M1 [dI i_1]))) (I0 [] [dI (V1 .i64 (i+1))]/\M0 [dI (V1 .i64 (i+1))]<M0 [dI i])) (Q [aB false])):=by kernel_rfl
theorem Rz(l0:List (List D))(Q:List A->Prop):wpF CC Gv (λ_=>⟨[.slot 4 (.int .i64 0)],[],I0,M0⟩) Tryz.f43 [.c (.sl l0)] Q=(bB (decide ((W3 l0.length)>400)) (Q [Hx [P1 []],aI (3:Int)]) (I0 [] [dI (0:Int)]/\∀(i:Int),I0 [] [dI i]->bB (decide (i<(W3 l0.length))) (rO l0 i 66/\∃x,cU l0 i 0 66 (ck x [])/\∃b,Gv 96 [aC x] [aB b]/\bB (!b) (Q [Hx [P1 []],aI (1:Int)]) (I0 [] [dI (V1 .i64 (i+1))]/\M0 [dI (V1 .i64 (i+1))]<M0 [dI i])) (∃b,Gv 97 [aL l0] [aB b]/\br b (Q [Hx [P1 []],aI (8:Int)]) (∃es,Gv 101 [aL l0] [aL es]/\∃e1,Gv 100 [aL es] [aL e1]/\∃es,Gv 99 [aL e1] [aL es]/\∃e2,Gv 98 [aL es] [aL e2]/\bB (decide ((W3 e2.length)>400)) (Q [Hx [P1 []],aI (3:Int)]) (Q [Hx [P1 e2],aI (0:Int)]))))):=by kernel_rfl
end
end Eng
end
section
open Go Go.Proofs Eng
namespace Eng
section
variable (Gv:Nat->List A->List A->Prop)(I0:List D->List D->Prop)(M0:List D->Nat)(I1:List D->List D->Prop)(M1:List D->Nat)(I2:List D->List D->Prop)(M2:List D->Nat)(I3:List D->List D->Prop)(M3:List D->Nat)(Q:List A->Prop)
theorem R0(J15:List D->List D->Prop)(c0:C66)(c1:C66)(Q:List A->Prop):wpF CC Gv (V7 (Vl ⟨[.slot 9 (.int .i64 0),.own 8 121 20],[],I0,M0⟩ ⟨[.slot 11 (.int .i64 0),.slot 10 (.bool false)],[],I1,M1⟩) 15 ⟨[.box 3 zC],[],J15,λ_=>0⟩) Tryz.f161 [.ag (ck c0 []),.ag (ck c1 [])] Q=(∃b,Gv 158 [aC c0,aC c1] [aB b]/\bB (!b) (∃es i,Gv 225 [aC c0,aC c1] [aL es,aI i]/\I0 [] [dI (0:Int),P1 []]/\∀(i:Int) (e1:List (List D)),I0 [] [dI i,P1 e1]->bB (decide (i<(W3 es.length))) (rO es i 20/\∃x,cU es i 0 20 (pk x [])/\∃b,Gv 207 [aC c0,aP x] [aB b]/\br b (rO es i 20/\∃x,cU es i 0 20 (pk x [])/\∃b,Gv 207 [aC c1,aP x] [aB b]/\br b (rO es i 20/\∃x,cU es i 0 20 (pk x [])/\(room (e1.length+1)/\lens 20 [(pk x [])])/\I0 [] [dI (V1 .i64 (i+1)),P1 (e1++[(pk x [])])]/\M0 [dI (V1 .i64 (i+1)),P1 (e1++[(pk x [])])]<M0 [dI i,P1 e1]) (I0 [] [dI (V1 .i64 (i+1)),P1 e1]/\M0 [dI (V1 .i64 (i+1)),P1 e1]<M0 [dI i,P1 e1])) (I0 [] [dI (V1 .i64 (i+1)),P1 e1]/\M0 [dI (V1 .i64 (i+1)),P1 e1]<M0 [dI i,P1 e1])) (∃es,Gv 226 [aC c0,aL e1] [aL es]/\bB (J3 c0) (bB (J3 c1) (bB (!No c0==No c1) (∃x,Gv 224 [aC c1] [aC x]/\J15 [] (ck x [])) (bB (!J3 c0) (∃i,Gv 219 [aP (Hy c0),aP (HZ c0)] [aI i]/\∃i_1,Gv 219 [aP (Hy c1),aP (HZ c1)] [aI i_1]/\bB (i !=i_1) (∃x,Gv 224 [aC c1] [aC x]/\J15 [] (ck x [])) (J15 [] (ck c1 []))) (J15 [] (ck c1 [])))) (bB (!J3 c0) (∃i,Gv 219 [aP (Hy c0),aP (HZ c0)] [aI i]/\∃i_1,Gv 219 [aP (Hy c1),aP (HZ c1)] [aI i_1]/\bB (i !=i_1) (∃x,Gv 224 [aC c1] [aC x]/\J15 [] (ck x [])) (J15 [] (ck c1 []))) (J15 [] (ck c1 [])))) (bB (!J3 c0) (∃i,Gv 219 [aP (Hy c0),aP (HZ c0)] [aI i]/\∃i_1,Gv 219 [aP (Hy c1),aP (HZ c1)] [aI i_1]/\bB (i !=i_1) (∃x,Gv 224 [aC c1] [aC x]/\J15 [] (ck x [])) (J15 [] (ck c1 []))) (J15 [] (ck c1 [])))/\∀(x:C66),J15 [] (ck x [])->I1 [] [dI (1:Int),Pl false]/\∀(i:Int) (b1:Bool),I1 [] [dI i,Pl b1]->br b (bB (decide (i<(W3 es.length))) (br b1 (I1 [] [dI (V1 .i64 (i+1)),Pl true]/\M1 [dI (V1 .i64 (i+1)),Pl true]<M1 [dI i,Pl b1]) ((0<=V1 .i64 (i-1)/\V1 .i64 (i-1)<(W3 es.length)/\bs (nth [] es (W2 (V1 .i64 (i-1))))=20)/\∃x1,cut (nth [] es (W2 (V1 .i64 (i-1)))) 0 20 (pk x1 [])/\rO es i 20/\∃x2,cU es i 0 20 (pk x2 [])/\∃i_1,Gv 227 [aC x,aP x1,aP x2] [aI i_1]/\I1 [] [dI (V1 .i64 (i+1)),Pl (decide (i_1<0))]/\M1 [dI (V1 .i64 (i+1)),Pl (decide (i_1<0))]<M1 [dI i,Pl b1])) (Q [aL es,aB b1])) (Q [aL es,aB b1]))) (I0 [] [dI (0:Int),P1 []]/\∀(i:Int) (es:List (List D)),I0 [] [dI i,P1 es]->bB (decide (i<4)) ((0<=i/\i<4)/\∃x,cut (nth [] [(pk (Hy c0) []),(pk (HZ c0) []),(pk (Hy c1) []),(pk (HZ c1) [])] (W2 i)) 0 20 (pk x [])/\∃b,Gv 207 [aC c0,aP x] [aB b]/\br b ((0<=i/\i<4)/\∃x,cut (nth [] [(pk (Hy c0) []),(pk (HZ c0) []),(pk (Hy c1) []),(pk (HZ c1) [])] (W2 i)) 0 20 (pk x [])/\∃b,Gv 207 [aC c1,aP x] [aB b]/\br b ((0<=i/\i<4)/\∃x,cut (nth [] [(pk (Hy c0) []),(pk (HZ c0) []),(pk (Hy c1) []),(pk (HZ c1) [])] (W2 i)) 0 20 (pk x [])/\(room (es.length+1)/\lens 20 [(pk x [])])/\I0 [] [dI (V1 .i64 (i+1)),P1 (es++[(pk x [])])]/\M0 [dI (V1 .i64 (i+1)),P1 (es++[(pk x [])])]<M0 [dI i,P1 es]) (I0 [] [dI (V1 .i64 (i+1)),P1 es]/\M0 [dI (V1 .i64 (i+1)),P1 es]<M0 [dI i,P1 es])) (I0 [] [dI (V1 .i64 (i+1)),P1 es]/\M0 [dI (V1 .i64 (i+1)),P1 es]<M0 [dI i,P1 es])) (∃e1,Gv 226 [aC c0,aL es] [aL e1]/\bB (J3 c0) (bB (J3 c1) (bB (!No c0==No c1) (∃x,Gv 224 [aC c1] [aC x]/\J15 [] (ck x [])) (bB (!J3 c0) (∃i,Gv 219 [aP (Hy c0),aP (HZ c0)] [aI i]/\∃i_1,Gv 219 [aP (Hy c1),aP (HZ c1)] [aI i_1]/\bB (i !=i_1) (∃x,Gv 224 [aC c1] [aC x]/\J15 [] (ck x [])) (J15 [] (ck c1 []))) (J15 [] (ck c1 [])))) (bB (!J3 c0) (∃i,Gv 219 [aP (Hy c0),aP (HZ c0)] [aI i]/\∃i_1,Gv 219 [aP (Hy c1),aP (HZ c1)] [aI i_1]/\bB (i !=i_1) (∃x,Gv 224 [aC c1] [aC x]/\J15 [] (ck x [])) (J15 [] (ck c1 []))) (J15 [] (ck c1 [])))) (bB (!J3 c0) (∃i,Gv 219 [aP (Hy c0),aP (HZ c0)] [aI i]/\∃i_1,Gv 219 [aP (Hy c1),aP (HZ c1)] [aI i_1]/\bB (i !=i_1) (∃x,Gv 224 [aC c1] [aC x]/\J15 [] (ck x [])) (J15 [] (ck c1 []))) (J15 [] (ck c1 [])))/\∀(x:C66),J15 [] (ck x [])->I1 [] [dI (1:Int),Pl false]/\∀(i:Int) (b1:Bool),I1 [] [dI i,Pl b1]->br b (bB (decide (i<(W3 e1.length))) (br b1 (I1 [] [dI (V1 .i64 (i+1)),Pl true]/\M1 [dI (V1 .i64 (i+1)),Pl true]<M1 [dI i,Pl b1]) ((0<=V1 .i64 (i-1)/\V1 .i64 (i-1)<(W3 e1.length)/\bs (nth [] e1 (W2 (V1 .i64 (i-1))))=20)/\∃x1,cut (nth [] e1 (W2 (V1 .i64 (i-1)))) 0 20 (pk x1 [])/\rO e1 i 20/\∃x2,cU e1 i 0 20 (pk x2 [])/\∃i_1,Gv 227 [aC x,aP x1,aP x2] [aI i_1]/\I1 [] [dI (V1 .i64 (i+1)),Pl (decide (i_1<0))]/\M1 [dI (V1 .i64 (i+1)),Pl (decide (i_1<0))]<M1 [dI i,Pl b1])) (Q [aL e1,aB b1])) (Q [aL e1,aB b1])))):=by kernel_rfl
end
end Eng
end
section
namespace Eng
open Go Go.Proofs Rl
set_option maxRecDepth 100000
theorem gOk{f:Nat}{fn:Func}{args res:List A}{anns:Nat->Ann}{P:Prop}(hf:Tryz.prog.funcs[f]? =some fn)(hv:wpF CC (qa CC) anns fn args (λr=>r=res)=P)(h:P):qa CC f args res:=
 qo mixedT hf (hv.mpr h)
theorem xf(l:List P5):(kPs l).length=l.length:=by unfold kPs;rw[dp]
theorem CU{l:List P5}{i:Nat}(h:i<l.length):nth [] (kPs l) i=pk (kP l[i]) []:=by
 rw[qF];unfold kPs;simp[h]
theorem Qp(l:List P5):lens 20 (kPs l):=by
 intro e he;unfold kPs at he;obtain⟨p,_,rfl⟩:=ec.1 he;rfl
theorem mD(x:P20):cut (pk x []) 0 20 (pk x []):=⟨rfl,en 20⟩
theorem WH(l m:List P5):kPs (l++m)=kPs l++kPs m:=by unfold kPs;rw[dk]
theorem AQ(l:List P5)(k:Nat):(kPs l).take k=kPs (l.take k):=by unfold kPs;rw[ea]
theorem AR(l:List P5)(k:Nat):(kPs l).drop k=kPs (l.drop k):=by unfold kPs;rw[eb]
theorem WI{n k:Nat}{l:List (List D)}(h:lens n l):lens n (l.take k):=λe he=>h e (List.mem_of_mem_take he)
theorem WJ{n k:Nat}{l:List (List D)}(h:lens n l):lens n (l.drop k):=λe he=>h e (List.mem_of_mem_drop he)
theorem wI{n:Int}(_: -9000000000000000000<=n/\n<=9000000000000000000:=by omega):V1 .i64 n=n:=xF
def gK (gs:List D):Nat:=(toI (nth .undef gs 0)).toNat
theorem wx{l:List P5}{k:Nat}(h:k<l.length):((0:Int)<=(k:Int)/\(k:Int)<W3 (kPs l).length/\bs (nth [] (kPs l) (W2 (k:Int)))=20):=by
 rw[aE,CU h,xf];exact⟨by omega,by simp only[W4];omega,rfl⟩
theorem zh{l:List P5}{k:Nat}(h:k<l.length):cut (nth [] (kPs l) (W2 (k:Int))) 0 20 (pk (kP l[k]) []):=by
 rw[aE,CU h];exact mD _
theorem Ov(c:Cu):∀(l:List P5) (p:P5),(QX c l p).length<=l.length+1
 |[],p=>by simp[QX]
 |q::r,p=>by
  have:=Ov c r p;unfold QX;split
  .simp only[cg];omega
  .split<;>simp
theorem GH(c:Cu){x:P5}:∀{l:List P5} {p:P5},x∈QX c l p->x∈l\/x=p
 |[],p,h=>by simp[QX]at h;exact .inr h
 |q::r,p,h=>by
  unfold QX at h;split at h
  .rcases cp.1 h with h|h
   .exact .inl (by simp[h])
   .rcases GH c h with h|h
    .exact .inl (by simp[h])
    .exact .inr h
  .split at h
   .exact .inl h
   .rcases cp.1 h with h|h
    .exact .inr h
    .exact .inl h
noncomputable def soO (c:Cu) (l:List P5) (k:Nat):List P5:=(l.take k).foldl (QX c) []
theorem Zj(c:Cu)(l:List P5):soO c l 0=[]:=by simp[soO]
theorem Qq(c:Cu){l:List P5}{k:Nat}(h:k<l.length):soO c l (k+1)=QX c (soO c l k) l[k]:=by
 unfold soO;rw[bx h,List.foldl_append];rfl
theorem ZO(c:Cu)(l:List P5):soO c l l.length=yI c l:=by unfold soO yI;rw[c7]
theorem M6(c:Cu)(l:List P5):∀k,k<=l.length->(soO c l k).length<=k
 |0,_=>by rw[Zj];simp
 |k+1,h=>by rw[Qq c (by omega)];have h1:=M6 c l k (by omega);have h2:=Ov c (soO c l k) l[k];omega
theorem GI(c:Cu)(l:List P5):∀k,k<=l.length->∀x∈soO c l k,x∈l
 |0,_,x,hx=>by rw[Zj]at hx;simp at hx
 |k+1,h,x,hx=>by
  rw[Qq c (by omega)]at hx;rcases GH c hx with hx|hx
  .exact GI c l k (by omega) x hx
  .rw[hx];exact bv _
theorem v7{c:Cu}{l:List P5}{x:P5}(h:x∈yI c l):x∈l:=by
 rw[<-ZO]at h;exact GI c l _ (en _) x h
theorem Zk(c:Cu)(l:List P5):(yI c l).length<=l.length:=by
 rw[<-ZO];exact M6 c l _ (en _)
def inP (c:Cu) (out:List P5) (p:P5) (j:Nat):Prop:=j<=out.length/\QX c out p=out.take j++QX c (out.drop j) p
theorem AS{c:Cu}{out:List P5}{p:P5}{j:Nat}(h:inP c out p j)(hj:j<out.length)(ho:zZ c out[j] p<0):inP c out p (j+1):=by
 refine⟨hj,?_⟩;rw[h.2,ch hj,QX,if_pos ho,bx hj,dA];rfl
def soI0 (c:Cu) (l:List P5) (_ ds:List D):Prop:=∃k:Nat,k<=l.length/\ds=[.int .i64 (k:Int),.sl (kPs (soO c l k))]
def soI1 (c:Cu) (l:List P5) (gs ds:List D):Prop:=∃j:Nat,ds=[.int .i64 (j:Int)]/\∀p,l[gK gs]? =some p->inP c (soO c l (gK gs)) p j
def soJ8 (c:Cu) (l:List P5) (gs ds:List D):Prop:=∃j:Nat,ds=[.int .i64 (j:Int)]/\∀p,l[gK gs]? =some p->inP c (soO c l (gK gs)) p j/\∀q,(soO c l (gK gs))[j]? =some q->¬zZ c q p<0
def soJ9 (c:Cu) (l:List P5) (gs ds:List D):Prop:=∃j:Nat,ds=[.int .i64 (j:Int)]/\∀p,l[gK gs]? =some p->j<=(soO c l (gK gs)).length/\QX c (soO c l (gK gs)) p=(soO c l (gK gs)).take j++p::(soO c l (gK gs)).drop j
def jn (n:Nat) (ds:List D):Nat:=n-(toI (nth .undef ds 0)).toNat
theorem CW(n:Nat)(z:Int)(t:List D):jn n (.int .i64 z::t)=n-z.toNat:=rfl
theorem qt{n k:Nat}{r s:List D}(h:k<n:=by omega)(hn:n<=1000000000:=by omega):jn n (.int .i64 (V1 .i64 ((k:Int)+1))::r)<jn n (.int .i64 (k:Int)::s):=by
 rw[CW,CW,wI];omega
theorem yR{c:Cu}(hc:Gc c){l:List P5}(hl:∀p∈l,Gp p)(hn:l.length<=1000000):qa CC 226 [.ag (ck (kU c) []),.c (.sl (kPs l))] [.c (.sl (kPs (yI c l)))]:=by
 have hv:=UV (qa CC) (soI0 c l) (jn l.length) (soI1 c l) (jn l.length) (soJ8 c l) (soJ9 c l) (kU c) (kPs l) (· =[.c (.sl (kPs (yI c l)))]);refine gOk Tryz.func226 hv ?_;clear hv;have a8:∀k,k<=l.length->∀x∈soO c l k,Gp x:=λk hk x hx=>hl x (GI c l k hk x hx)
 have next:∀k:Nat,∀hk:k<l.length,∀a7,QX c (soO c l k) l[k]=a7->soI0 c l [] [.int .i64 (V1 .i64 ((k:Int)+1)),.sl (kPs a7)]:=by intro k hk a7 ho;refine⟨k+1,hk,?_⟩;rw[wI,Qq c hk,ho];rfl
 refine⟨⟨0,er _,by rw[Zj];rfl⟩,?_⟩;rintro _ _ ⟨k,hk,he⟩;simp only[eg,Ts,T1,and_true,true_and]at he;obtain⟨rfl,rfl⟩:=he;have hlen:=M6 c l k hk;refine brd (λh=>?_) (λh=>?_)
 .have a3:k<l.length:=by rw[xf]at h;simp only[W4]at h;omega
  have a5:l[k]? =some l[k]:=bw a3;have ad:=hl l[k] (bv a3);refine⟨⟨⟨0,rfl,λp hp=>⟨er _,by simp⟩⟩,?_⟩,?_⟩
  .rintro _ ⟨j,he,hj⟩;simp only[eg,Ts,and_true,true_and]at he;subst he;have hj:inP c (soO c l k) l[k] j:=hj _ a5;refine brd (λh1=>?_) (λh1=>?_)
   .have a4:j<(soO c l k).length:=by rw[xf]at h1;simp only[W4]at h1;omega
    refine⟨wx a4,_,zh a4,wx a3,_,zh a3,_,ww hc (a8 k hk _ (bv a4)) ad,?_⟩;refine brd (λh2=>?_) (λh2=>?_)
    .refine⟨⟨j+1,by rw[wI];rfl,λp hp=>?_⟩,qt⟩;have e:p=l[k]:=by have:l[k]? =some p:=hp;rw[a5]at this;exact(fs this).symm
     rw[e];exact AS hj a4 h2
    .refine⟨j,rfl,λp hp=>?_⟩;have e:p=l[k]:=by have:l[k]? =some p:=hp;rw[a5]at this;exact(fs this).symm
     rw[e];refine⟨hj,λq hq=>?_⟩;have:(soO c l k)[j]? =some q:=hq;rw[bw a4]at this;rw[<-fs this];exact h2
   .refine⟨j,rfl,λp hp=>?_⟩;have e:p=l[k]:=by have:l[k]? =some p:=hp;rw[a5]at this;exact(fs this).symm
    rw[e];refine⟨hj,λq hq=>?_⟩;have:(soO c l k)[j]? =some q:=hq;rw[xf]at h1;simp only[W4]at h1;rw[List.getElem?_eq_none (by omega)]at this;cases this
  .rintro _ ⟨j,he,hj⟩;simp only[eg,Ts,and_true,true_and]at he;subst he;have hj:inP c (soO c l k) l[k] j/\∀q,(soO c l k)[j]? =some q->¬zZ c q l[k]<0:=hj _ a5;refine⟨brd (λh1=>?_) (λh1=>?_),?_⟩
   .have a4:j<(soO c l k).length:=by rw[xf]at h1;simp only[W4]at h1;omega
    have a9:=hj.2 _ (bw a4);refine⟨wx a4,_,zh a4,wx a3,_,zh a3,_,v6 (a8 k hk _ (bv a4)) ad,?_⟩;refine xG (λh2=>?_) (λh2=>?_)
    .refine⟨next k a3 _ ?_,qt a3⟩;rw[hj.1.2,ch a4,QX,if_neg a9,if_pos h2,<-ch a4,List.take_append_drop]
    .refine⟨j,rfl,λp hp=>?_⟩;have e:p=l[k]:=by have:l[k]? =some p:=hp;rw[a5]at this;exact(fs this).symm
     rw[e];refine⟨hj.1.1,?_⟩;show QX c (soO c l k) l[k]=(soO c l k).take j++l[k]::(soO c l k).drop j;rw[hj.1.2,ch a4,QX,if_neg a9,if_neg (by rw[h2];simp)]
   .refine⟨j,rfl,λp hp=>?_⟩;have e:p=l[k]:=by have:l[k]? =some p:=hp;rw[a5]at this;exact(fs this).symm
    rw[e];refine⟨hj.1.1,?_⟩;show QX c (soO c l k) l[k]=(soO c l k).take j++l[k]::(soO c l k).drop j;rw[xf]at h1;simp only[W4]at h1;rw[hj.1.2,List.drop_eq_nil_of_le (show(soO c l k).length<=j by omega)];rfl
   .rintro _ ⟨i,he,hi⟩;simp only[eg,Ts,and_true,true_and]at he;subst he;have hi:i<=(soO c l k).length/\QX c (soO c l k) l[k]=(soO c l k).take i++l[k]::(soO c l k).drop i:=hi _ a5;have e1:([]:List (List D))++bm 0 (bk (W2 (i:Int)) (kPs (soO c l k)))++[pk (kP l[k]) []]++bm (W2 (i:Int)) (bk (W2 (W3 (bs (kPs (soO c l k))))) (kPs (soO c l k)))=kPs ((soO c l k).take i++l[k]::(soO c l k).drop i):=by rw[aE,List.drop_zero,List.nil_append,AQ,W4,aE,c7,AR,WH,dA];rfl
    have a6:(0:Int)<=(i:Int)/\(i:Int)<=W3 (bs (kPs (soO c l k))):=by rw[xf];simp only[W4];omega
    have hi2:=hi.1;refine⟨⟨be _,a6.1,a6.2,Qp _⟩,⟨?_,WJ (WI (Qp _))⟩,wx a3,_,zh a3,⟨?_,λe he=>by rw[cb.1 he];rfl⟩,⟨a6.1,a6.2,be _,Qp _⟩,⟨?_,WJ (WI (Qp _))⟩,?_⟩
    .unfold Hv;simp only[aE,cL,cf,xf];omega
    .unfold Hv;simp only[aE,dy,cv,cL,cf,xf];omega
    .unfold Hv;simp only[aE,W4,dy,cv,cg,cL,cf,xf];omega
    .rw[e1];exact⟨next k a3 _ hi.2,qt a3⟩
 .have a3:k=l.length:=by rw[xf]at h;simp only[W4]at h;omega
  rw[a3,ZO]
end Eng
end
section
namespace Eng
open Go Go.Proofs Rl
set_option maxRecDepth 100000
theorem qu(l:List Cu):(kUs l).length=l.length:=by unfold kUs;rw[dp]
theorem ZP{l:List Cu}{i:Nat}(h:i<l.length):nth [] (kUs l) i=ck (kU l[i]) []:=by
 rw[qF];unfold kUs;simp[h]
theorem yl(l:List Cu):lens 66 (kUs l):=by
 intro e he;unfold kUs at he;obtain⟨p,_,rfl⟩:=ec.1 he;rfl
theorem mE(x:C66):cut (ck x []) 0 66 (ck x []):=⟨rfl,en 66⟩
theorem wX(l m:List Cu):kUs (l++m)=kUs l++kUs m:=by unfold kUs;rw[dk]
theorem Ow(l:List Cu)(k:Nat):(kUs l).take k=kUs (l.take k):=by unfold kUs;rw[ea]
theorem Ox(l:List Cu)(k:Nat):(kUs l).drop k=kUs (l.drop k):=by unfold kUs;rw[eb]
theorem xk{l:List Cu}{k:Nat}(h:k<l.length):((0:Int)<=(k:Int)/\(k:Int)<W3 (kUs l).length/\bs (nth [] (kUs l) (W2 (k:Int)))=66):=by
 rw[aE,ZP h,qu];exact⟨by omega,by simp only[W4];omega,rfl⟩
theorem jA{l:List Cu}{k:Nat}(h:k<l.length):((0:Int)<=(k:Int)/\(k:Int)<W3 (kUs l).length):=⟨(xk h).1,(xk h).2.1⟩
theorem xh{l:List Cu}{k:Nat}(h:k<l.length):cut (nth [] (kUs l) (W2 (k:Int))) 0 66 (ck (kU l[k]) []):=by
 rw[aE,ZP h];exact mE _
theorem CY(c:Cu)(p q:P5):(.bool (J3 (kU c))::(rk (Lr (kU c)) (rk (J5 (kU c)) (rk (Lv (kU c)) (rk (Ls (kU c)) (rk (Lm (kU c)) (rk (J4 (kU c)) (.bool (No (kU c))::(pk (kP p) (pk (kP q) []))))))))):List D)=ck (kU {c with fr:=p,tt:=q}) []:=by
 obtain⟨arc,ln,ci,cw,fr,tt,jk⟩:=c;cases arc<;>rfl
theorem ZQ(c:Cu):∀l:List P5,(jx c l).length=l.length-1
 |[]=>rfl
 |[_]=>rfl
 |p::q::r=>by have:=ZQ c (q::r);simp only[jx,cg]at this ⊢;omega
theorem Yk(c:Cu):∀(l:List P5) (k:Nat) (h:k+1<l.length),(jx c l)[k]? =some {c with fr:=l[k],tt:=l[k+1]}
 |[],k,h=>by simp at h
 |[_],k,h=>by simp at h
 |p::q::r,0,h=>rfl
 |p::q::r,k+1,h=>by
  have:=Yk c (q::r) k (by simpa using h)
  simpa [jx]using this
def spI0 (c:Cu) (l:List P5) (_ ds:List D):Prop:=∃k:Nat,k<=l.length/\ds=[.int .i64 (k:Int)]/\(l.take k).all (y5 c)=true
def spI1 (c:Cu) (m:List P5) (_ ds:List D):Prop:=∃k:Nat,1<=k/\k<=m.length+1/\ds=[.int .i64 (k:Int),.sl (kUs ((jx c m).take (k-1)))]
theorem GJ{α:Type}{f:α->Bool}{l:List α}{k:Nat}(h:(l.take k).all f=true)(hk:k<l.length)(hf:f l[k]=true):(l.take (k+1)).all f=true:=by
 rw[bx hk,List.all_append,h,B0];simp[hf]
theorem fy{α:Type}{f:α->Bool}{l:List α}{k:Nat}(hk:k<l.length)(hf:f l[k]=false):¬l.all f=true:=by
 intro h;rw[List.all_eq_true]at h;have:=h _ (bv hk);rw[hf]at this;cases this
theorem WK{c:Cu}(hc:Gc c){l:List P5}(hl:∀p∈l,Gp p)(hn:l.length<=900000):∃e,qa CC 162 [.ag (ck (kU c) []),.c (.sl (kPs l))] [.c (.sl (kUs (jy c l))),.c (.int .i64 e)]:=by
 refine⟨if l.all (y5 c)=true then 0 else 1,?_⟩;have hv:=M5 (qa CC) (spI0 c l) (jn l.length) (spI1 c (yI c (c.fr::c.tt::l))) (jn (l.length+3)) (kU c) (kPs l) (· =[.c (.sl (kUs (jy c l))),.c (.int .i64 (if l.all (y5 c)=true then 0 else 1))]);refine gOk Tryz.func162 hv ?_;clear hv;refine⟨⟨0,er _,rfl,by simp⟩,?_⟩;rintro _ ⟨k,hk,he,a3⟩;simp only[eg,Ts,and_true,true_and]at he;subst he;refine brd (λh=>?_) (λh=>?_)
 .have a4:k<l.length:=by rw[xf]at h;simp only[W4]at h;omega
  refine⟨wx a4,_,zh a4,_,yj hc (hl _ (bv a4)),?_⟩;refine brb (λh1=>?_) (λh1=>?_)
  .have h2:y5 c l[k]=false:=by simpa using h1
   have h3:=fy a4 h2;unfold jy;rw[if_neg h3,if_neg h3];rfl
  .have h2:y5 c l[k]=true:=by simpa using h1
   exact⟨⟨k+1,a4,by rw[wI];rfl,GJ a3 a4 h2⟩,qt a4⟩
 .have a4:k=l.length:=by rw[xf]at h;simp only[W4]at h;omega
  rw[a4,c7]at a3;have hm:∀p∈c.fr::c.tt::l,Gp p:=by
   intro p hp;simp only[cp]at hp;rcases hp with rfl|rfl|hp
   .exact hc.2.1
   .exact hc.2.2
   .exact hl p hp
  have hs:=yR hc (l:=c.fr::c.tt::l) hm (by simp only[cg];omega);have hsp:jy c l=jx c (yI c (c.fr::c.tt::l)):=by unfold jy;rw[if_pos a3]
  have hml:(yI c (c.fr::c.tt::l)).length<=l.length+2:=by have:=Zk c (c.fr::c.tt::l);simpa using this
  rw[hsp,if_pos a3,jH,kH];refine⟨⟨by unfold Hv;rw[xf];omega,Qp _⟩,_,hs,?_⟩;generalize yI c (c.fr::c.tt::l)=m at *;refine⟨⟨1,en 1,by omega,by simp;rfl⟩,?_⟩;rintro _ _ ⟨k,hk1,hk2,he⟩;simp only[eg,Ts,T1,and_true,true_and]at he;obtain⟨rfl,rfl⟩:=he;refine brd (λh=>?_) (λh=>?_)
  .have a5:k<m.length:=by rw[xf]at h;simp only[W4]at h;omega
   have e1:V1 .i64 ((k:Int)-1)=((k-1:Nat):Int):=by rw[wI];omega
   have a7:k-1<m.length:=by omega
   have a6:(jx c m)[k-1]? =some {c with fr:=m[k-1],tt:=m[k]}:=by
    have:=Yk c m (k-1) (by omega);have e:k-1+1=k:=by omega
    simp only[e]at this;exact this
   obtain⟨hkc,a6⟩:=List.getElem?_eq_some_iff.1 a6;have e3:kUs ((jx c m).take (k-1))++[ck (kU {c with fr:=m[k-1],tt:=m[k]}) []]=kUs ((jx c m).take (k+1-1)):=by
    have e:k+1-1=(k-1)+1:=by omega
    rw[e,bx hkc,wX,a6];rfl
   rw[e1];refine⟨wx a7,_,zh a7,wx a5,_,zh a5,?_⟩;rw[CY,e3];refine⟨⟨?_,λe he=>by rw[cb.1 he];rfl⟩,⟨k+1,by omega,by omega,by rw[wI];rfl⟩,qt⟩;unfold Hv;rw[qu,cf];omega
  .have a5:m.length<=k:=by rw[xf]at h;simp only[W4]at h;omega
   rw[cr (by rw[ZQ];omega)]
end Eng
end
section
namespace Eng
open Go Go.Proofs Rl
set_option maxRecDepth 100000
theorem WL{l:Ln}{c:Ci}(hl:HL l)(hc:HC c)(h:okLn l):∀p∈XX l c,Gp p:=by
 intro p hp;unfold XX at hp;split at hp
 .simp at hp
 rename_i h1;split at hp
 .rw[cb.1 hp];obtain⟨hx,hy,_⟩:=GF hl hc h;exact⟨⟨hx.mono (by omega),U0,hy.mono (by omega),U0,U0⟩,NW _⟩
 rename_i h2;have h3:0<V0 l c:=by grind
 have hP:=bA hl hc h;have oP:=bC (c:=c) h h3;split at hp
 .simp only[cp,cH,or_false]at hp;rcases hp with rfl|rfl
  .exact⟨hP.2,oP.2⟩
  .exact⟨hP.1,oP.1⟩
 .simp only[cp,cH,or_false]at hp;rcases hp with rfl|rfl
  .exact⟨hP.1,oP.1⟩
  .exact⟨hP.2,oP.2⟩
theorem ZR(l:Ln)(c:Ci):(XX l c).length<=2:=by
 unfold XX;split
 .simp
 split
 .simp
 split<;>simp
theorem CZ{l m:Ln}(hl:HL l)(hm:HL m):∀p∈Jv l m,Gp p:=by
 intro p hp;unfold Jv at hp;split at hp
 .rename_i h;rw[cb.1 hp];exact⟨⟨(UL hl hm).div (WA hl hm) h (by omega),U0,(UM hl hm).div (WA hl hm) h (by omega),U0,U0⟩,NW _⟩
 .simp at hp
theorem AT{c d:Cu}(hc:Gs c)(hd:Gs d):(∀p∈QW c d,Gp p)/\(QW c d).length<=2:=by
 unfold QW;rcases hc.2 with⟨a1,h1⟩|⟨a1,h1⟩<;>rcases hd.2 with⟨a2,h2⟩|⟨a2,h2⟩
 .rw[if_pos a1,if_pos a2];unfold Qm;split
  .exact⟨by simp,by simp⟩
  .rename_i h;exact⟨WL (Oq h1.1 h2.1) h1.1 (Oo h),ZR _ _⟩
 .rw[if_pos a1,if_neg (by rw[a2];simp)];exact⟨WL h2.1 h1.1 h2.2,ZR _ _⟩
 .rw[if_neg (by rw[a1];simp),if_pos a2];exact⟨WL h1.1 h2.1 h1.2,ZR _ _⟩
 .rw[if_neg (by rw[a1];simp),if_neg (by rw[a2];simp)];refine⟨CZ h1.1 h2.1,?_⟩;unfold Jv;split<;>simp
theorem Oy{c d:Cu}(hc:Gc c)(hd:Gc d):(∀p∈XY c d,Gp p)/\(XY c d).length<=4:=by
 unfold XY;split
 .refine⟨λp hp=>?_,by simp⟩;simp only[cp,cH,or_false]at hp;rcases hp with rfl|rfl|rfl|rfl
  .exact hc.2.1
  .exact hc.2.2
  .exact hd.2.1
  .exact hd.2.2
 .have:=AT hc.1 hd.1;exact⟨this.1,by omega⟩
noncomputable def ZS (c d:Cu):Bool:=(c.arc&&(d.arc&&!(c.cw==d.cw)))||(!c.arc&&!(zW c.fr c.tt==zW d.fr d.tt))
noncomputable def mtD (c d:Cu):Cu:=if ZS c d=true then LV d else d
noncomputable def mtB (d:Cu) (m:List P5):Nat->Bool
 |0=>false
 |t+1=>mtB d m t||(match m[t]?,m[t+1]? with
  |some p,some q=>decide (zZ d p q<0)
  |_,_=>false)
noncomputable def R1 (c d:Cu):Bool:=if jI c d=true then mtB (mtD c d) (ja c d) ((ja c d).length-1)else false
noncomputable def ki (c d:Cu) (p:P5):Bool:=y5 c p&&y5 d p
def mtI0 (c d:Cu) (L:List P5) (_ ds:List D):Prop:=∃k:Nat,k<=L.length/\ds=[.int .i64 (k:Int),.sl (kPs ((L.take k).filter (ki c d)))]
def pR (n:Nat) (d:Cu) (m:List P5) (_ ds:List D):Prop:=∃t:Nat,t<=n/\ds=[.int .i64 ((t+1:Nat):Int),.bool (mtB d m t)]
def mtJ (c d:Cu) (_ ds:List D):Prop:=ds=ck (kU (mtD c d)) []
theorem Da{x y:C66}(h:ck x []=ck y []):x=y:=by
 obtain⟨a1,a2,a3,a4,a5,a6,a7,a8,⟨⟨_,_,_,_⟩,⟨_,_,_,_⟩,⟨_,_,_,_⟩,⟨_,_,_,_⟩,⟨_,_,_,_⟩⟩,⟨⟨_,_,_,_⟩,⟨_,_,_,_⟩,⟨_,_,_,_⟩,⟨_,_,_,_⟩,⟨_,_,_,_⟩⟩⟩:=x;obtain⟨b1,b2,b3,b4,b5,b6,b7,b8,⟨⟨_,_,_,_⟩,⟨_,_,_,_⟩,⟨_,_,_,_⟩,⟨_,_,_,_⟩,⟨_,_,_,_⟩⟩,⟨⟨_,_,_,_⟩,⟨_,_,_,_⟩,⟨_,_,_,_⟩,⟨_,_,_,_⟩,⟨_,_,_,_⟩⟩⟩:=y;obtain⟨_,_,_,_⟩:=a2;obtain⟨_,_,_,_⟩:=a3;obtain⟨_,_,_,_⟩:=a4;obtain⟨_,_,_,_⟩:=a5;obtain⟨_,_,_,_⟩:=a6;obtain⟨_,_,_,_⟩:=a7;obtain⟨_,_,_,_⟩:=b2;obtain⟨_,_,_,_⟩:=b3;obtain⟨_,_,_,_⟩:=b4;obtain⟨_,_,_,_⟩:=b5;obtain⟨_,_,_,_⟩:=b6;obtain⟨_,_,_,_⟩:=b7;simp only[ck,pk,rk,eg,D.bool.injEq,T1,and_true]at h;simp only[C66.mk.injEq,R4.mk.injEq,P20.mk.injEq];simp only[h,and_self]
theorem xI{α:Type}{f:α->Bool}{l:List α}{k:Nat}(hk:k<l.length):(l.take (k+1)).filter f=(l.take k).filter f++(if f l[k]=true then [l[k]]else []):=by
 rw[bx hk,List.filter_append];congr 1;by_cases h:f l[k]=true<;>simp[h]
theorem R2{c d:Cu}(hc:Gc c)(hd:Gc d)(hcw:d.arc=false->d.cw=false):qa CC 161 [.ag (ck (kU c) []),.ag (ck (kU d) [])] [.c (.sl (kPs (ja c d))),.c (.bool (R1 c d))]:=by
 have hL:=Oy hc hd;have hv:=R0 (qa CC) (mtI0 c d (XY c d)) (jn (XY c d).length) (pR (if jI c d=true then(ja c d).length-1 else 0) (mtD c d) (ja c d)) (jn 1000000) (mtJ c d) (kU c) (kU d) (· =[.c (.sl (kPs (ja c d))),.c (.bool (R1 c d))]);refine gOk Tryz.func161 hv ?_;clear hv;have hm:(ja c d).length<=4:=by have h1:=Zk c ((XY c d).filter λp=>y5 c p&&y5 d p);have h2:=cc (λp=>y5 c p&&y5 d p) (XY c d);have h3:=hL.2;unfold ja;omega
 have a9:∀p∈ja c d,Gp p:=λp hp=>hL.1 p (dc.1 (v7 hp)).1
 have hD:Gc (mtD c d):=by
  unfold mtD;split
  .exact hd.rev
  .exact hd
 have ad:=yQ hc.2.1 hc.2.2;have al:=yQ hd.2.1 hd.2.2;rw[<-jH,<-kH]at ad al;have a5:ZS c d=true->mtJ c d [] (ck (kU (LV d)) []):=λh=>by unfold mtJ mtD;rw[if_pos h]
 have a3:ZS c d=false->mtJ c d [] (ck (kU d) []):=λh=>by unfold mtJ mtD;rw[if_neg (by rw[h];simp)]
 have rv:=yk hcw
 --the points again
 have a8:∀(b:Bool),b=jI c d->∀(x:C66),mtJ c d [] (ck x [])->pR (if jI c d=true then(ja c d).length-1 else 0) (mtD c d) (ja c d) [] [Sz W0 (1:Int),Pl false]/\
  (∀(i:Int) (b_1:Bool),pR (if jI c d=true then(ja c d).length-1 else 0) (mtD c d) (ja c d) [] [Sz W0 i,Pl b_1]->∃t:Nat,i=((t+1:Nat):Int)/\t<=(if jI c d=true then(ja c d).length-1 else 0)/\b_1=mtB (mtD c d) (ja c d) t)/\x=kU (mtD c d):=by
  intro b hb x hx;refine⟨⟨0,er _,rfl⟩,?_,Da hx⟩;rintro i b1 ⟨t,ht,he⟩;simp only[eg,Ts,D.bool.injEq,and_true,true_and]at he;exact⟨t,he.1,ht,he.2⟩
 refine⟨_,ZM hc.1 hd.1,?_⟩;refine brb (λhsm=>?_) (λhsm=>?_)
 .have ap:jI c d=false:=by simpa using hsm
  obtain⟨e,hsu⟩:=GG hc.1 hd.1;have a7:XY c d=QW c d:=by unfold XY;rw[if_neg (by rw[ap];simp)]
  rw[a7]at hL;obtain⟨hG,hG2⟩:=hL;rw[a7];refine⟨_,_,hsu,?_⟩;refine⟨⟨0,er _,rfl⟩,?_⟩;rintro _ _ ⟨k,hkl,he⟩;simp only[eg,Ts,T1,and_true,true_and]at he;obtain⟨rfl,rfl⟩:=he;refine brd (λh=>?_) (λh=>?_)
  .have hk:k<(QW c d).length:=by rw[xf]at h;simp only[W4]at h;omega
   have hp:=hG _ (bv hk);have an:=cc (ki c d) (bk k (QW c d));rw[cf]at an;refine⟨wx hk,_,zh hk,_,yj hc hp,?_⟩;refine xG (λh1=>?_) (λh1=>?_)
   .refine⟨wx hk,_,zh hk,_,yj hd hp,?_⟩;refine xG (λh2=>?_) (λh2=>?_)
    .refine⟨wx hk,_,zh hk,⟨?_,λe he=>by rw[cb.1 he];rfl⟩,⟨k+1,hk,?_⟩,qt hk⟩
     .unfold Hv;rw[xf];omega
     .rw[wI,xI hk,if_pos (by unfold ki;rw[h1,h2];rfl),WH];rfl
    .refine⟨⟨k+1,hk,?_⟩,qt hk⟩;rw[wI,xI hk,if_neg (by unfold ki;rw[h1,h2];simp),c4];rfl
   .refine⟨⟨k+1,hk,?_⟩,qt hk⟩;rw[wI,xI hk,if_neg (by unfold ki;rw[h1];simp),c4];rfl
  .have hk:(QW c d).length<=k:=by rw[xf]at h;simp only[W4]at h;omega
   rw[cr hk];have hs:=yR hc (l:=(QW c d).filter (ki c d)) (λp hp=>hG p (dc.1 hp).1) (by have:=cc (ki c d) (QW c d);omega);have hP:yI c ((QW c d).filter (ki c d))=ja c d:=by unfold ja ki;rw[a7]
   rw[hP]at hs;refine⟨_,hs,?_,?_⟩
   .rw[vz,vz,V3,V3];have b2:c.arc=false->∃i,qa CC 219 [Hx (pk (Hy (kU c)) []),Hx (pk (HZ (kU c)) [])] [A.c (Sz W0 i)]/\∃i_1,qa CC 219 [Hx (pk (Hy (kU d)) []),Hx (pk (HZ (kU d)) [])] [A.c (Sz W0 i_1)]/\
     br (toB (Pl (i !=i_1))) (∃x,qa CC 224 [Hx (ck (kU d) [])] [Hx (ck x [])]/\mtJ c d [] (ck x [])) (mtJ c d [] (ck (kU d) [])):=λha=>by
     refine⟨_,ad,_,al,?_⟩;refine brb (λh1=>⟨_,rv,a5 ?_⟩) (λh1=>a3 ?_)
     .unfold ZS;rw[ha];simpa using h1
     .unfold ZS;rw[ha];simpa using h1
    cases ha:c.arc with
    |true=>
     refine brb (λ_=>?_) (λh=>by cases h);cases hb:d.arc with
     |true=>
      refine brb (λ_=>?_) (λh=>by cases h);refine brb (λh1=>⟨_,rv,a5 ?_⟩) (λh1=>?_)
      .unfold ZS;rw[ha,hb];simpa using h1
      .refine brb (λh=>by cases h) (λ_=>a3 ?_);unfold ZS;rw[ha,hb];simpa using h1
     |false=>refine brb (λh=>by cases h) (λ_=>?_);refine brb (λh=>by cases h) (λ_=>a3 ?_);unfold ZS;rw[ha,hb];rfl
    |false=>refine brb (λh=>by cases h) (λ_=>?_);exact brb (λ_=>b2 ha) (λh=>by cases h)
   .intro x hx;obtain⟨t1,t2,rfl⟩:=a8 _ rfl x hx;refine⟨t1,?_⟩;intro i b1 hi;obtain⟨t,rfl,ht,rfl⟩:=t2 i b1 hi;refine xG (λhsm=>?_) (λhsm=>?_)
    .rw[if_pos hsm]at ht;refine brd (λh1=>?_) (λh1=>?_)
     .have a4:t+1<(ja c d).length:=by rw[xf]at h1;simp only[W4]at h1;omega
      have dn:∀r s:List D,jn 1000000 (.int .i64 (V1 .i64 (((t+1:Nat):Int)+1))::r)<jn 1000000 (.int .i64 ((t+1:Nat):Int)::s):=λr s=>qt
      refine xG (λh2=>?_) (λh2=>?_)
      .refine⟨⟨t+1,by rw[if_pos hsm];omega,?_⟩,dn _ _⟩;rw[wI,mtB,h2,Hu];rfl
      .have e1:V1 .i64 (((t+1:Nat):Int)-1)=((t:Nat):Int):=by rw[wI];omega
       have a6:t<(ja c d).length:=by omega
       rw[e1];refine⟨wx a6,_,zh a6,wx a4,_,zh a4,_,ww hD (a9 _ (bv a6)) (a9 _ (bv a4)),⟨t+1,by rw[if_pos hsm];omega,?_⟩,dn _ _⟩;rw[wI,mtB,h2,Dd,bw a6,bw a4];rfl
     .have a4:t=(ja c d).length-1:=by rw[xf]at h1;simp only[W4]at h1;omega
      unfold R1;rw[if_pos hsm,a4]
    .rw[if_neg (by rw[hsm];simp)]at ht;obtain rfl:t=0:=by omega
     unfold R1;rw[if_neg (by rw[hsm];simp)];rfl
 .have ap:jI c d=true:=by simpa using hsm
  have a7:XY c d=[c.fr,c.tt,d.fr,d.tt]:=by unfold XY;rw[if_pos ap]
  rw[a7]at hL;obtain⟨hG,hG2⟩:=hL;have e4:[pk (Hy (kU c)) [],pk (HZ (kU c)) [],pk (Hy (kU d)) [],pk (HZ (kU d)) []]=kPs [c.fr,c.tt,d.fr,d.tt]:=by rw[jH,jH,kH,kH];rfl
  rw[a7,e4];refine⟨⟨0,er _,rfl⟩,?_⟩;rintro _ _ ⟨k,hkl,he⟩;simp only[eg,Ts,T1,and_true,true_and]at he;obtain⟨rfl,rfl⟩:=he;refine brd (λh=>?_) (λh=>?_)
  .have hk:k<([c.fr,c.tt,d.fr,d.tt]).length:=by simp only[cg,cv];omega
   have hp:=hG _ (bv hk);have an:=cc (ki c d) (bk k ([c.fr,c.tt,d.fr,d.tt]));rw[cf]at an;refine⟨⟨by omega,by omega⟩,_,zh hk,_,yj hc hp,?_⟩;refine xG (λh1=>?_) (λh1=>?_)
   .refine⟨⟨by omega,by omega⟩,_,zh hk,_,yj hd hp,?_⟩;refine xG (λh2=>?_) (λh2=>?_)
    .refine⟨⟨by omega,by omega⟩,_,zh hk,⟨?_,λe he=>by rw[cb.1 he];rfl⟩,⟨k+1,hk,?_⟩,qt hk⟩
     .unfold Hv;rw[xf];omega
     .rw[wI,xI hk,if_pos (by unfold ki;rw[h1,h2];rfl),WH];rfl
    .refine⟨⟨k+1,hk,?_⟩,qt hk⟩;rw[wI,xI hk,if_neg (by unfold ki;rw[h1,h2];simp),c4];rfl
   .refine⟨⟨k+1,hk,?_⟩,qt hk⟩;rw[wI,xI hk,if_neg (by unfold ki;rw[h1];simp),c4];rfl
  .have hk:([c.fr,c.tt,d.fr,d.tt]).length<=k:=by simp only[cg,cv];omega
   rw[cr hk];have hs:=yR hc (l:=([c.fr,c.tt,d.fr,d.tt]).filter (ki c d)) (λp hp=>hG p (dc.1 hp).1) (by have:=cc (ki c d) ([c.fr,c.tt,d.fr,d.tt]);omega);have hP:yI c (([c.fr,c.tt,d.fr,d.tt]).filter (ki c d))=ja c d:=by unfold ja ki;rw[a7]
   rw[hP]at hs;refine⟨_,hs,?_,?_⟩
   .rw[vz,vz,V3,V3];have b2:c.arc=false->∃i,qa CC 219 [Hx (pk (Hy (kU c)) []),Hx (pk (HZ (kU c)) [])] [A.c (Sz W0 i)]/\∃i_1,qa CC 219 [Hx (pk (Hy (kU d)) []),Hx (pk (HZ (kU d)) [])] [A.c (Sz W0 i_1)]/\
     br (toB (Pl (i !=i_1))) (∃x,qa CC 224 [Hx (ck (kU d) [])] [Hx (ck x [])]/\mtJ c d [] (ck x [])) (mtJ c d [] (ck (kU d) [])):=λha=>by
     refine⟨_,ad,_,al,?_⟩;refine brb (λh1=>⟨_,rv,a5 ?_⟩) (λh1=>a3 ?_)
     .unfold ZS;rw[ha];simpa using h1
     .unfold ZS;rw[ha];simpa using h1
    cases ha:c.arc with
    |true=>
     refine brb (λ_=>?_) (λh=>by cases h);cases hb:d.arc with
     |true=>
      refine brb (λ_=>?_) (λh=>by cases h);refine brb (λh1=>⟨_,rv,a5 ?_⟩) (λh1=>?_)
      .unfold ZS;rw[ha,hb];simpa using h1
      .refine brb (λh=>by cases h) (λ_=>a3 ?_);unfold ZS;rw[ha,hb];simpa using h1
     |false=>refine brb (λh=>by cases h) (λ_=>?_);refine brb (λh=>by cases h) (λ_=>a3 ?_);unfold ZS;rw[ha,hb];rfl
    |false=>refine brb (λh=>by cases h) (λ_=>?_);exact brb (λ_=>b2 ha) (λh=>by cases h)
   .intro x hx;obtain⟨t1,t2,rfl⟩:=a8 _ rfl x hx;refine⟨t1,?_⟩;intro i b1 hi;obtain⟨t,rfl,ht,rfl⟩:=t2 i b1 hi;refine xG (λhsm=>?_) (λhsm=>?_)
    .rw[if_pos hsm]at ht;refine brd (λh1=>?_) (λh1=>?_)
     .have a4:t+1<(ja c d).length:=by rw[xf]at h1;simp only[W4]at h1;omega
      have dn:∀r s:List D,jn 1000000 (.int .i64 (V1 .i64 (((t+1:Nat):Int)+1))::r)<jn 1000000 (.int .i64 ((t+1:Nat):Int)::s):=λr s=>qt
      refine xG (λh2=>?_) (λh2=>?_)
      .refine⟨⟨t+1,by rw[if_pos hsm];omega,?_⟩,dn _ _⟩;rw[wI,mtB,h2,Hu];rfl
      .have e1:V1 .i64 (((t+1:Nat):Int)-1)=((t:Nat):Int):=by rw[wI];omega
       have a6:t<(ja c d).length:=by omega
       rw[e1];refine⟨wx a6,_,zh a6,wx a4,_,zh a4,_,ww hD (a9 _ (bv a6)) (a9 _ (bv a4)),⟨t+1,by rw[if_pos hsm];omega,?_⟩,dn _ _⟩;rw[wI,mtB,h2,Dd,bw a6,bw a4];rfl
     .have a4:t=(ja c d).length-1:=by rw[xf]at h1;simp only[W4]at h1;omega
      unfold R1;rw[if_pos hsm,a4]
    .rw[if_neg (by rw[hsm];simp)]at ht;obtain rfl:t=0:=by omega
     unfold R1;rw[if_neg (by rw[hsm];simp)];rfl
end Eng
end
section
open Go Go.Proofs Eng
namespace Eng
section
variable (Gv:Nat->List A->List A->Prop)(I0:List D->List D->Prop)(M0:List D->Nat)(I1:List D->List D->Prop)(M1:List D->Nat)(I2:List D->List D->Prop)(M2:List D->Nat)(I3:List D->List D->Prop)(M3:List D->Nat)(Q:List A->Prop)
theorem UW(J7:List D->List D->Prop)(J9:List D->List D->Prop)(J17:List D->List D->Prop)(c0:C66)(Q:List A->Prop):wpF CC Gv (V7 (V7 (V7 (Vl ⟨[.slot 8 (.int .i64 0),.own 7 85 66],[],I0,M0⟩ ⟨[.slot 10 (.int .i64 0)],[.slot 8 (.int .i64 0)],I1,M1⟩) 7 ⟨[.own 6 86 20],[],J7,λ_=>0⟩) 9 ⟨[.own 6 86 20],[],J9,λ_=>0⟩) 17 ⟨[.box 9 zC],[.slot 8 (.int .i64 0)],J17,λ_=>0⟩) Tryz.f160 [.ag (ck c0 [])] Q=(bB (J3 c0) (∃x x1,Gv 217 [aT (Ls c0) (Lm c0) (J4 c0)] [aP x,aP x1]/\(∃b,Gv 223 [aC c0,aP x] [aB b]/\br b ((room 1/\lens 20 [(pk x [])])/\J7 [] [P1 [(pk x [])]]) (J7 [] [P1 []]))/\∀(es:List (List D)),J7 [] [P1 es]->(∃b,Gv 223 [aC c0,aP x1] [aB b]/\br b ((room (es.length+1)/\lens 20 [(pk x1 [])])/\J9 [] [P1 (es++[(pk x1 [])])]) (J9 [] [P1 es]))/\∀(es:List (List D)),J9 [] [P1 es]->∃e1 i,Gv 162 [aC c0,aL es] [aL e1,aI i]/\I0 [] [dI (0:Int),P1 []]/\∀(i:Int) (es:List (List D)),I0 [] [dI i,P1 es]->bB (decide (i<(W3 e1.length))) (rO e1 i 66/\∃x,cU e1 i 0 66 (ck x [])/\(∃i_1,Gv 219 [aP (Hy x),aP (HZ x)] [aI i_1]/\bB (decide (i_1>0)) (∃x2,Gv 224 [aC x] [aC x2]/\J17 [dI i] (ck x2 [])) (J17 [dI i] (ck x [])))/\∀(x:C66),J17 [dI i] (ck x [])->I1 [dI i] [dI (0:Int)]/\∀(i_1:Int),I1 [dI i] [dI i_1]->bB (decide (i_1<(W3 es.length))) ((0<=i_1/\i_1<(W3 es.length))/\∃x2,cU es i_1 0 66 (ck x2 [])/\∃i_2,Gv 157 [aC x2,aC x] [aI i_2]/\bB (decide (i_2<=0)) (I1 [dI i] [dI (V1 .i64 (i_1+1))]/\M1 [dI (V1 .i64 (i_1+1))]<M1 [dI i_1]) ((0<=i_1/\i_1<=(W3 es.length))/\(0<=i_1/\i_1<=(W3 es.length)/\(W3 es.length)<=(W3 es.length))/\(room (1+bs (bk (W2 (W3 es.length)-W2 i_1) (bm (W2 i_1) es)))/\lens 66 (bk (W2 (W3 es.length)-W2 i_1) (bm (W2 i_1) es)))/\(room (bs (bk (W2 i_1) es)+bs ((ck x [])::(([])++(bk (W2 (W3 es.length)-W2 i_1) (bm (W2 i_1) es)))))/\lens 66 ((ck x [])::(([])++(bk (W2 (W3 es.length)-W2 i_1) (bm (W2 i_1) es)))))/\I0 [] [dI (V1 .i64 (i+1)),P1 (bk (W2 i_1) es++(ck x [])::(([])++(bk (W2 (W3 es.length)-W2 i_1) (bm (W2 i_1) es))))]/\M0 [dI (V1 .i64 (i+1)),P1 (bk (W2 i_1) es++(ck x [])::(([])++(bk (W2 (W3 es.length)-W2 i_1) (bm (W2 i_1) es))))]<M0 [dI i,P1 es])) ((0<=i_1/\i_1<=(W3 es.length))/\(0<=i_1/\i_1<=(W3 es.length)/\(W3 es.length)<=(W3 es.length))/\(room (1+bs (bk (W2 (W3 es.length)-W2 i_1) (bm (W2 i_1) es)))/\lens 66 (bk (W2 (W3 es.length)-W2 i_1) (bm (W2 i_1) es)))/\(room (bs (bk (W2 i_1) es)+bs ((ck x [])::(([])++(bk (W2 (W3 es.length)-W2 i_1) (bm (W2 i_1) es)))))/\lens 66 ((ck x [])::(([])++(bk (W2 (W3 es.length)-W2 i_1) (bm (W2 i_1) es)))))/\I0 [] [dI (V1 .i64 (i+1)),P1 (bk (W2 i_1) es++(ck x [])::(([])++(bk (W2 (W3 es.length)-W2 i_1) (bm (W2 i_1) es))))]/\M0 [dI (V1 .i64 (i+1)),P1 (bk (W2 i_1) es++(ck x [])::(([])++(bk (W2 (W3 es.length)-W2 i_1) (bm (W2 i_1) es))))]<M0 [dI i,P1 es])) (Q [aL es])) (I0 [] [dI (0:Int),P1 []]/\∀(i:Int) (es:List (List D)),I0 [] [dI i,P1 es]->bB (decide (i<1)) ((0<=i/\i<1)/\∃x,cut (nth [] [(ck c0 [])] (W2 i)) 0 66 (ck x [])/\(∃i_1,Gv 219 [aP (Hy x),aP (HZ x)] [aI i_1]/\bB (decide (i_1>0)) (∃x1,Gv 224 [aC x] [aC x1]/\J17 [dI i] (ck x1 [])) (J17 [dI i] (ck x [])))/\∀(x:C66),J17 [dI i] (ck x [])->I1 [dI i] [dI (0:Int)]/\∀(i_1:Int),I1 [dI i] [dI i_1]->bB (decide (i_1<(W3 es.length))) ((0<=i_1/\i_1<(W3 es.length))/\∃x1,cU es i_1 0 66 (ck x1 [])/\∃i_2,Gv 157 [aC x1,aC x] [aI i_2]/\bB (decide (i_2<=0)) (I1 [dI i] [dI (V1 .i64 (i_1+1))]/\M1 [dI (V1 .i64 (i_1+1))]<M1 [dI i_1]) ((0<=i_1/\i_1<=(W3 es.length))/\(0<=i_1/\i_1<=(W3 es.length)/\(W3 es.length)<=(W3 es.length))/\(room (1+bs (bk (W2 (W3 es.length)-W2 i_1) (bm (W2 i_1) es)))/\lens 66 (bk (W2 (W3 es.length)-W2 i_1) (bm (W2 i_1) es)))/\(room (bs (bk (W2 i_1) es)+bs ((ck x [])::(([])++(bk (W2 (W3 es.length)-W2 i_1) (bm (W2 i_1) es)))))/\lens 66 ((ck x [])::(([])++(bk (W2 (W3 es.length)-W2 i_1) (bm (W2 i_1) es)))))/\I0 [] [dI (V1 .i64 (i+1)),P1 (bk (W2 i_1) es++(ck x [])::(([])++(bk (W2 (W3 es.length)-W2 i_1) (bm (W2 i_1) es))))]/\M0 [dI (V1 .i64 (i+1)),P1 (bk (W2 i_1) es++(ck x [])::(([])++(bk (W2 (W3 es.length)-W2 i_1) (bm (W2 i_1) es))))]<M0 [dI i,P1 es])) ((0<=i_1/\i_1<=(W3 es.length))/\(0<=i_1/\i_1<=(W3 es.length)/\(W3 es.length)<=(W3 es.length))/\(room (1+bs (bk (W2 (W3 es.length)-W2 i_1) (bm (W2 i_1) es)))/\lens 66 (bk (W2 (W3 es.length)-W2 i_1) (bm (W2 i_1) es)))/\(room (bs (bk (W2 i_1) es)+bs ((ck x [])::(([])++(bk (W2 (W3 es.length)-W2 i_1) (bm (W2 i_1) es)))))/\lens 66 ((ck x [])::(([])++(bk (W2 (W3 es.length)-W2 i_1) (bm (W2 i_1) es)))))/\I0 [] [dI (V1 .i64 (i+1)),P1 (bk (W2 i_1) es++(ck x [])::(([])++(bk (W2 (W3 es.length)-W2 i_1) (bm (W2 i_1) es))))]/\M0 [dI (V1 .i64 (i+1)),P1 (bk (W2 i_1) es++(ck x [])::(([])++(bk (W2 (W3 es.length)-W2 i_1) (bm (W2 i_1) es))))]<M0 [dI i,P1 es])) (Q [aL es]))):=by kernel_rfl
end
end Eng
end
