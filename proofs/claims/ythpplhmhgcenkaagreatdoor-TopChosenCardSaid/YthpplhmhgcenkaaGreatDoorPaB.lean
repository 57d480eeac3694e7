import Derived.Test.YthpplhmhgcenkaaGreatDoorPaA
import Derived.KernelRfl
open Bool renaming and_eq_true->Aw, false_and->Bx, true_and->Dd
open Decidable renaming byContradiction->F0
open Eng.A renaming c->Hu, ag->Hv
open Eng.D renaming int->Hx, sl->Hy, bool->J4
open Eng.D.int renaming injEq->Lm
open Eng.D.sl renaming injEq->Ls
open Eng.Limbs renaming cons->Lv, nil->No
open Go.IntKind renaming wrap->Pl, u64->P1
open Int renaming toNat->Sz, ofNat->Tk, natAbs_natCast->Ts, ofNat_eq_natCast->W0, toNat_natCast->W1, tdiv->W2, tmod->an, natAbs_neg->ap, natAbs_mul->ba, mul_pos->bb, natAbs_ediv_le_natAbs->bc, natCast_mul->bd, tmod_eq_emod_of_nonneg->be, ediv_emod_unique->bh, mul_neg->bm
open List renaming length->bv, take->bw, drop->bx, replicate->b6, take_length->b7, length_take->b8, drop_eq_getElem_cons->b9, eq_nil_of_length_eq_zero->bF, length_cons->cb, take_append_drop->cc, length_append->cg, length_drop->cm, drop_length->cp, drop_zero->cs, take_of_length_le->cv, mem_of_mem_tail->c0, length_tail->c3, getD->c4, append_nil->c5, tail_cons->c6
open List.cons renaming injEq->cF
open Nat renaming mul_le_mul_right->cH, mul_le_mul_left->cL, mul_comm->dc, mul_assoc->dl, mul_add->dv, pow_succ->ea, mul_le_mul->eb, lt_of_not_le->ec, lt_of_le_of_lt->el, pow_le_pow_right->en, add_mul->ep, eq_zero_or_pos->ey, le_trans->ez, mod_lt->e7, mul_lt_mul''->eH, gcd->eL, div_add_mod->eU, div_lt_iff_lt_mul->fe, pow_add->fg, one_mul->fk, le_refl->ft, div_mul_le_self->fx, lt_of_lt_of_le->fy, le_of_lt_succ->fz, gcd_comm->fR, le_mul_of_pos_right->fS, zero_add->gb, mul_zero->gd, add_zero->gk, gcd_zero_right->gm, mul_left_comm->gn, div_le_self->gp, sub_self->gu, lt_or_ge->gv, pow_pos->gx, gcd_rec->gy
open Option.some renaming inj->gz
open Prod renaming fst->g0, snd->g6
open Rat renaming num_divInt_den->g7, divInt->hf, divInt_mul_divInt->h7, divInt_add_divInt->h8, sub_eq_add_neg->h9, neg_num->hC, num_intCast->hD, num_eq_zero->hE, den_intCast->hH, mul_pos->hK, neg_divInt_neg->hM, inv_divInt->hQ, div_def->hR
set_option maxRecDepth 1000000
section
namespace Eng
open Go Go.Proofs
variable [Env]
def Xg:Nat:=((1000000000^100)^100)^4
def Sq (z:Int):Prop:=z.natAbs<Xg
def Sr (r:Rat):Prop:=Sq r.num/\Sq (r.den:Int)
omit [Env] in
theorem GE:Xg*Xg*2<=K3:=by decide
omit [Env] in
theorem Sq.sm {z:Int} (h:Sq z):Sm z:=by
 have h0:Xg<=K3:=by decide
 exact fy h h0
omit [Env] in
theorem Sq.mul {x y:Int} (hx:Sq x) (hy:Sq y):Sm (x*y):=by
 unfold Sm;rw[ba];have:=eH hx hy;have:=GE;omega
omit [Env] in
theorem Sq.mul_add {a b c d:Int} (ha:Sq a) (hb:Sq b) (hc:Sq c) (hd:Sq d):Sm (a*b+c*d):=by
 unfold Sm;have h1:=eH ha hb;have h2:=eH hc hd;rw[<-ba]at h1 h2;have:=GE;omega
omit [Env] in
theorem Sq.add {a b:Int} (ha:Sq a) (hb:Sq b):Sm (a+b):=by
 unfold Sm;have h0:Xg*2<=K3:=by decide
 have h1:a.natAbs<Xg:=ha;have h2:b.natAbs<Xg:=hb;omega
omit [Env] in
theorem den_pos (r:Rat):0<(r.den:Int):=by have:=r.den_pos;omega
omit [Env] in
theorem qE (r:Rat):xy r= .ag [.bool (decide (r.num<0)),.sl (raw (lim r.num.natAbs)),.bool (decide ((r.den:Int)<0)),.sl (raw (lim (r.den:Int).natAbs))]:=rfl
omit [Env] in
theorem qI (z:Int):qN z= .ag [.bool (decide (z<0)),.sl (raw (lim z.natAbs))]:=rfl
def q4 (r:Rat):R4:=⟨decide (r.num<0),raw (lim r.num.natAbs),decide ((r.den:Int)<0),raw (lim (r.den:Int).natAbs)⟩
theorem v8 (r:Rat):Gives CC 103 [xy r] [.c (.int .i64 (sgn r.num))]:=by
 refine qj (anns:=an0) mixedT Tryz.func103 ?_;rw[qE,P9];exact⟨_,up (Xn r.num),rfl⟩
theorem GG (n:Int):Gives CC 190 [.c (.int .i64 n)] [.c (.bool false)]:=by
 refine qj (anns:=an0) mixedT Tryz.func190 ?_;rw[PA];simp
theorem K6 (m n:Int):Gives CC 102 [.c (.int .i64 m),.c (.int .i64 n)] [.c (.int .i64 (kh m n))]:=by
 refine qj (anns:=an0) mixedT Tryz.func102 ?_;rw[K5];refine⟨_,GG m,_,GG n,?_⟩;refine js (λh=>by simp at h) (λ_=>?_);refine js (λh=>by simp at h) (λ_=>?_);unfold kh;refine brd (λh=>?_) (λh=>?_)
 .rw[if_pos h]
 .rw[if_neg h];refine brd (λh=>?_) (λh=>?_)
  .rw[if_pos h]
  .rw[if_neg h]
def Dk (x y:Rat):Int:=if x<y then-1 else if y<x then 1 else 0
omit [Env] in
theorem Zx (x y:Rat):Dk x y=kh (x.num*y.den) (y.num*x.den):=by
 unfold Dk kh;simp only[Rat.lt_iff]
theorem L2 {x y:Rat} (hx:Sr x) (hy:Sr y):Gives CC 49 [xy x,xy y] [.c (.int .i64 (Dk x y))]:=by
 refine qj (anns:=an0) mixedT Tryz.func49 ?_;have h1:=v8 x;have h2:=v8 y;rw[qE]at h1 h2;rw[qE,qE,Df];refine⟨_,h1,_,h2,_,K6 _ _,?_⟩;have hm1:=up (je hx.1.sm hy.2.sm);have hm2:=up (je hy.1.sm hx.2.sm);have hc:=up (jP (hx.1.mul hy.2) (hy.1.mul hx.2));have px:=den_pos x;have py:=den_pos y;refine brb (λh=>?_) (λh=>?_)
 .have e:kh (sgn x.num) (sgn y.num)=Dk x y:=by
   rw[Zx];have hs:∀(z d:Int),0<d->sgn (z*d)=sgn z:=by
    intro z d a0;unfold sgn;rcases Int.lt_trichotomy z 0 with h|h|h
    .have:=Int.mul_neg_of_neg_of_pos h a0;rw[if_pos h,if_pos this]
    .subst h;simp
    .have:=bb h a0;rw[if_neg (show ¬z<0 by omega),if_pos h,if_neg (show ¬z*d<0 by omega),if_pos this]
   rw[<-hs x.num _ py,<-hs y.num _ px]at h ⊢;generalize x.num*(y.den:Int)=a at *;generalize y.num*(x.den:Int)=b at *;unfold kh sgn at *;simp only[bne_iff_ne,ne_eq]at h;split at h<;>split at h<;>(try split at h)<;>(try split at h)<;>split<;>(try split)<;>omega
  rw[e]
 .rw[Zx];exact⟨_,_,hm1,_,_,hm2,_,hc,rfl⟩
theorem K7 {x:Rat} (hx:Sr x):Gives CC 101 [xy x] [xy (-x)]:=by
 refine qj (anns:=an0) mixedT Tryz.func101 ?_;rw[qE,Di];refine⟨_,_,up (Q9 hx.1.sm),?_⟩;rw[qE,hC];have:(-x).den=x.den:=rfl;rw[this]
theorem Yq (hd:Vi) {x y:Rat} (hx:Sr x) (hy:Sr y):Gives CC 146 [xy x,xy y] [xy (x*y)]:=by
 refine qj (anns:=an0) mixedT Tryz.func146 ?_;rw[qE,qE,Dj];have px:=den_pos x;have py:=den_pos y;have:=bb px py;refine⟨_,_,up (je hx.1.sm hy.1.sm),_,_,up (je hx.2.sm hy.2.sm),q4 _,kz hd (hx.1.mul hy.1) (hx.2.mul hy.2) (by omega),?_⟩;have e:x*y=hf (x.num*y.num) (x.den*y.den):=by rw[<-h7,g7,g7]
 rw[e];rfl
theorem K8 (hd:Vi) {x y:Rat} (hx:Sr x) (hy:Sr y):Gives CC 100 [xy x,xy y] [xy (x+y)]:=by
 refine qj (anns:=an0) mixedT Tryz.func100 ?_;rw[qE,qE,Dg];have px:=den_pos x;have py:=den_pos y;have hp:=bb px py;have e0:x+y=hf (x.num*y.den+y.num*x.den) (x.den*y.den):=by rw[<-h8 _ _ (by omega) (by omega),g7,g7]
 refine⟨_,up (jP hx.2.sm hy.2.sm),?_⟩;refine brb (λh=>?_) (λh=>?_)
 .have hxy:(x.den:Int)=y.den:=by
   unfold kh at h;split at h
   .simp at h
   .split at h
    .simp at h
    .omega
  have e1:x+y=hf (x.num+y.num) x.den:=by rw[e0,<-hxy,<-Int.add_mul,Rat.divInt_mul_right (by omega)]
  refine⟨_,_,up (QA hx.1.sm hy.1.sm),q4 _,kz hd (hx.1.add hy.1) hx.2.sm (by omega),?_⟩;rw[e1];rfl
 .refine⟨_,_,up (je hx.1.sm hy.2.sm),_,_,up (je hy.1.sm hx.2.sm),_,_,up (QA (hx.1.mul hy.2) (hy.1.mul hx.2)),_,_,up (je hx.2.sm hy.2.sm),q4 _,kz hd (hx.1.mul_add hy.2 hy.1 hx.2) (hx.2.mul hy.2) (by omega),?_⟩;rw[e0];rfl
omit [Env] in
theorem Sr.neg {x:Rat} (h:Sr x):Sr (-x):=by
 refine⟨?_,h.2⟩;rw[hC];unfold Sq;rw[ap];exact h.1
theorem Yr (hd:Vi) {x y:Rat} (hx:Sr x) (hy:Sr y):Gives CC 48 [xy x,xy y] [xy (x-y)]:=by
 refine qj (anns:=an0) mixedT Tryz.func48 ?_;rw[qE,qE,Dh];refine⟨q4 _,K7 hy,q4 _,K8 hd hx hy.neg,?_⟩;rw[h9];rfl
theorem wc {n:Int} (h1: -9223372036854775808<=n) (h2:n<9223372036854775808):Gives CC 97 [.c (.int .i64 n)] [xy (n:Rat)]:=by
 have hw:Gives CC 178 [qN n] [xy (n:Rat)]:=by refine qj (anns:=an0) mixedT Tryz.func178 ?_;rw[qI,P7];refine⟨_,_,Xo,?_⟩;rw[qE,hD,hH];rfl
 refine qj (anns:=an0) mixedT Tryz.func97 ?_;rw[K4];exact⟨_,_,up (xu h1 h2),q4 _,hw,rfl⟩
end Eng
end
section
open Go Go.Proofs Eng
namespace Eng
section
variable (Gv:Nat->List A->List A->Prop) (I0:List D->List D->Prop) (M0:List D->Nat) (I1:List D->List D->Prop) (M1:List D->Nat) (I2:List D->List D->Prop) (M2:List D->Nat) (I3:List D->List D->Prop) (M3:List D->Nat) (Q:List A->Prop)
theorem PB:wpF CC Gv an0 Tryz.f86 [] Q=(∃b es,Gv 85 [aI (1:Int)] [aZ b es]/\Q [aZ b es]):=by kernel_rfl
theorem I9 (J3:List D->List D->Prop) (p q:Bool) (es fs:List (List D)):wpF CC Gv (Oz an0 3 ⟨[.box 2 [.bool false,.slice none 0 0],.box 3 [.bool false,.slice none 0 0]],[.box 2 [.bool false,.slice none 0 0],.box 3 [.bool false,.slice none 0 0]],J3,λ_=>0⟩) Tryz.f156 [.ag [.bool p,.sl es],.ag [.bool q,.sl fs]] Q=((∃i,Gv 225 [aZ q fs] [aI i]/\bB (decide (i<0)) (∃b e1,Gv 158 [aZ p es] [aZ b e1]/\∃b1 e2,Gv 158 [aZ q fs] [aZ b1 e2]/\J3 [J4 p,Hy es,J4 q,Hy fs] [J4 b,Hy e1,J4 b1,Hy e2]) (J3 [J4 p,Hy es,J4 q,Hy fs] [J4 p,Hy es,J4 q,Hy fs]))/\∀(b:Bool) (e1:List (List D)) (b1:Bool) (e2:List (List D)),J3 [J4 p,Hy es,J4 q,Hy fs] [J4 b,Hy e1,J4 b1,Hy e2]->∃b2 es,Gv 227 [aZ b e1,aZ b1 e2] [aZ b2 es]/\∃b3 e3 b4 e4 i,Gv 238 [aZ b e1,aZ b2 es] [aZ b3 e3,aZ b4 e4,aI i]/\∃b e5 b5 e6 i,Gv 238 [aZ b1 e2,aZ b2 es] [aZ b e5,aZ b5 e6,aI i]/\Q [Hv [J4 b3,Hy e3,J4 b,Hy e5]]):=by kernel_rfl
theorem PC (p q:Bool) (es fs:List (List D)):wpF CC Gv an0 Tryz.f400 [.ag [.bool p,.sl es],.ag [.bool q,.sl fs]] Q=(∃i,Gv 225 [aZ q fs] [aI i]/\bB (i==0) (Q [Hv [J4 false,Hy [],J4 false,Hy []],aI (6:Int)]) (∃x,Gv 156 [aZ p es,aZ q fs] [aR x]/\Q [aR x,aI (0:Int)])):=by kernel_rfl
theorem K9 (n:Int):wpF CC Gv an0 Tryz.f38 [.c (.int .i64 n)] Q=(∃b es,Gv 85 [aI n] [aZ b es]/\∃b1 e1,Gv 86 [] [aZ b1 e1]/\Q [Hv [J4 b,Hy es,J4 b1,Hy e1]]):=by kernel_rfl
theorem PD (p q:Bool) (es fs:List (List D)):wpF CC Gv an0 Tryz.f140 [.ag [.bool p,.sl es,.bool q,.sl fs]] Q=(∃i,Gv 225 [aZ p es] [aI i]/\Q [aI i]):=by kernel_rfl
theorem Dl (p q:Bool) (es fs:List (List D)):wpF CC Gv an0 Tryz.f84 [.ag [.bool p,.sl es,.bool q,.sl fs]] Q=(∃b e1,Gv 158 [aZ p es] [aZ b e1]/\Q [Hv [J4 b,Hy e1,J4 q,Hy fs]]):=by kernel_rfl
theorem Dm (p q r s:Bool) (es fs gs hs:List (List D)):wpF CC Gv an0 Tryz.f83 [.ag [.bool p,.sl es,.bool q,.sl fs],.ag [.bool r,.sl gs,.bool s,.sl hs]] Q=(∃b e1,Gv 88 [aZ p es,aZ s hs] [aZ b e1]/\∃b1 es,Gv 88 [aZ r gs,aZ q fs] [aZ b1 es]/\∃b2 e2,Gv 157 [aZ b e1,aZ b1 es] [aZ b2 e2]/\∃b es,Gv 88 [aZ q fs,aZ s hs] [aZ b es]/\∃x,Gv 156 [aZ b2 e2,aZ b es] [aR x]/\Q [aR x]):=by kernel_rfl
theorem Dn (p q r s:Bool) (es fs gs hs:List (List D)):wpF CC Gv an0 Tryz.f37 [.ag [.bool p,.sl es,.bool q,.sl fs],.ag [.bool r,.sl gs,.bool s,.sl hs]] Q=(∃x,Gv 84 [Hv [J4 r,Hy gs,J4 s,Hy hs]] [aR x]/\∃x1,Gv 83 [Hv [J4 p,Hy es,J4 q,Hy fs],aR x] [aR x1]/\Q [aR x1]):=by kernel_rfl
theorem Do (p q r s:Bool) (es fs gs hs:List (List D)):wpF CC Gv an0 Tryz.f39 [.ag [.bool p,.sl es,.bool q,.sl fs],.ag [.bool r,.sl gs,.bool s,.sl hs]] Q=(∃b e1,Gv 88 [aZ p es,aZ s hs] [aZ b e1]/\∃b1 es,Gv 88 [aZ r gs,aZ q fs] [aZ b1 es]/\∃i,Gv 87 [aZ b e1,aZ b1 es] [aI i]/\Q [aI i]):=by kernel_rfl
theorem Dp (p q r s:Bool) (es fs gs hs:List (List D)):wpF CC Gv an0 Tryz.f291 [.ag [.bool p,.sl es,.bool q,.sl fs],.ag [.bool r,.sl gs,.bool s,.sl hs]] Q=(∃b e1,Gv 88 [aZ p es,aZ r gs] [aZ b e1]/\∃b1 es,Gv 88 [aZ q fs,aZ s hs] [aZ b1 es]/\∃x,Gv 156 [aZ b e1,aZ b1 es] [aR x]/\Q [aR x]):=by kernel_rfl
theorem Dq (p q r s:Bool) (es fs gs hs:List (List D)):wpF CC Gv an0 Tryz.f346 [.ag [.bool p,.sl es,.bool q,.sl fs],.ag [.bool r,.sl gs,.bool s,.sl hs]] Q=(∃b e1,Gv 88 [aZ p es,aZ s hs] [aZ b e1]/\∃b1 es,Gv 88 [aZ q fs,aZ r gs] [aZ b1 es]/\∃x i,Gv 400 [aZ b e1,aZ b1 es] [aR x,aI i]/\Q [aR x,aI i]):=by kernel_rfl
end
end Eng
end
section
open Go Go.Proofs Eng
namespace Eng
section
variable (Gv:Nat->List A->List A->Prop) (I0:List D->List D->Prop) (M0:List D->Nat) (I1:List D->List D->Prop) (M1:List D->Nat) (I2:List D->List D->Prop) (M2:List D->Nat) (I3:List D->List D->Prop) (M3:List D->Nat) (Q:List A->Prop)
theorem PE (es:List (List D)):wpF CC Gv (λ_=>⟨[.slot 0 (.slice none 0 0)],[],I0,M0⟩) Tryz.f241 [.c (.sl es)] Q=(I0 [] [Hy es]/\∀(es:List (List D)),I0 [] [Hy es]->bB (decide ((Tk es.length)>0)) ((0<=Pl .i64 ((Tk es.length)-1)/\Pl .i64 ((Tk es.length)-1)<(Tk es.length)/\bv (nth [] es (Sz (Pl .i64 ((Tk es.length)-1))))=1)/\∃n,cut (nth [] es (Sz (Pl .i64 ((Tk es.length)-1)))) 0 1 [Hx .u32 n]/\bB (n==0) (((0:Int)<=(0:Int)/\0<=Pl .i64 ((Tk es.length)-1)/\Pl .i64 ((Tk es.length)-1)<=(Tk es.length)/\lens 1 es)/\I0 [] [Hy (bx 0 (bw (Sz (Pl .i64 ((Tk es.length)-1))) es))]/\M0 [Hy (bx 0 (bw (Sz (Pl .i64 ((Tk es.length)-1))) es))]<M0 [Hy es]) (Q [aL es])) (Q [aL es])):=by kernel_rfl
theorem Ut (b:Bool) (es:List (List D)):wpF CC Gv an0 Tryz.f159 [.c (.bool b),.c (.sl es)] Q=(∃e1,Gv 241 [aL es] [aL e1]/\br b (Q [aZ (decide ((Tk e1.length)>0)) e1]) (Q [aZ false e1])):=by kernel_rfl
theorem L3 (n:Int):wpF CC Gv (λ_=>⟨[.own 3 15 1,.slot 0 (.int .u64 0)],[],I0,M0⟩) Tryz.f160 [.c (.int .u64 n)] Q=(I0 [] [Hy [],Hx .u64 n]/\∀(es:List (List D)) (n:Int),I0 [] [Hy es,Hx .u64 n]->bB (decide (n>0)) ((1000000000:Int)≠(0:Int)/\(room (es.length+1)/\lens 1 [[Hx .u32 (Pl .u32 (an n (1000000000:Int)))]])/\(1000000000:Int)≠(0:Int)/\I0 [] [Hy (es++[[Hx .u32 (Pl .u32 (an n (1000000000:Int)))]]),Hx .u64 (Pl .u64 (W2 n (1000000000:Int)))]/\M0 [Hy (es++[[Hx .u32 (Pl .u32 (an n (1000000000:Int)))]]),Hx .u64 (Pl .u64 (W2 n (1000000000:Int)))]<M0 [Hy es,Hx .u64 n]) (Q [aL es])):=by kernel_rfl
theorem KA (n:Int):wpF CC Gv an0 Tryz.f85 [.c (.int .i64 n)] Q=(bB (decide (n<0)) (∃es,Gv 160 [Hu (Hx .u64 (Pl .u64 (0-Pl .u64 n)))] [aL es]/\∃b e1,Gv 159 [aB true,aL es] [aZ b e1]/\Q [aZ b e1]) (∃es,Gv 160 [Hu (Hx .u64 (Pl .u64 n))] [aL es]/\∃b e1,Gv 159 [aB false,aL es] [aZ b e1]/\Q [aZ b e1])):=by kernel_rfl
theorem L4 (es:List (List D)):wpF CC Gv (λ_=>⟨[.slot 3 (.int .u64 0),.slot 4 (.int .i64 0)],[],I0,M0⟩) Tryz.f293 [.c (.sl es)] Q=(I0 [] [Hx .u64 0,dI (Pl .i64 ((Tk es.length)-1))]/\∀(n n1:Int),I0 [] [Hx .u64 n,dI n1]->bB (decide (n1>=0)) ((0<=n1/\n1<(Tk es.length)/\bv (nth [] es (Sz n1))=1)/\∃n2,cut (nth [] es (Sz n1)) 0 1 [Hx .u32 n2]/\I0 [] [Hx .u64 (Pl .u64 (Pl .u64 (n*1000000000)+Pl .u64 n2)),dI (Pl .i64 (n1-1))]/\M0 [Hx .u64 (Pl .u64 (Pl .u64 (n*1000000000)+Pl .u64 n2)),dI (Pl .i64 (n1-1))]<M0 [Hx .u64 n,dI n1]) (Q [Hu (Hx .u64 n)])):=by kernel_rfl
theorem PF (p:Bool) (es:List (List D)):wpF CC Gv an0 Tryz.f225 [.ag [.bool p,.sl es]] Q=(bB ((Tk es.length)==0) (Q [aI (0:Int)]) (br p (Q [aI (-1:Int)]) (Q [aI (1:Int)]))):=by kernel_rfl
theorem Ys (es fs:List (List D)):wpF CC Gv (λ_=>⟨[.slot 5 (.int .i64 0)],[],I0,M0⟩) Tryz.f161 [.c (.sl es),.c (.sl fs)] Q=(bB ((Tk es.length) !=(Tk fs.length)) (bB (decide ((Tk es.length)<(Tk fs.length))) (Q [aI (-1:Int)]) (Q [aI (1:Int)])) (I0 [] [dI (Pl .i64 ((Tk es.length)-1))]/\∀(n:Int),I0 [] [dI n]->bB (decide (n>=0)) ((0<=n/\n<(Tk es.length)/\bv (nth [] es (Sz n))=1)/\∃n1,cut (nth [] es (Sz n)) 0 1 [Hx .u32 n1]/\(0<=n/\n<(Tk fs.length)/\bv (nth [] fs (Sz n))=1)/\∃n2,cut (nth [] fs (Sz n)) 0 1 [Hx .u32 n2]/\bB (decide (n1<n2)) (Q [aI (-1:Int)]) ((0<=n/\n<(Tk es.length)/\bv (nth [] es (Sz n))=1)/\∃n3,cut (nth [] es (Sz n)) 0 1 [Hx .u32 n3]/\(0<=n/\n<(Tk fs.length)/\bv (nth [] fs (Sz n))=1)/\∃n4,cut (nth [] fs (Sz n)) 0 1 [Hx .u32 n4]/\bB (decide (n3>n4)) (Q [aI (1:Int)]) (I0 [] [dI (Pl .i64 (n-1))]/\M0 [dI (Pl .i64 (n-1))]<M0 [dI n]))) (Q [aI (0:Int)]))):=by kernel_rfl
theorem Dr (p q:Bool) (es fs:List (List D)):wpF CC Gv an0 Tryz.f87 [.ag [.bool p,.sl es],.ag [.bool q,.sl fs]] Q=(bB (!p==q) (br p (Q [aI (-1:Int)]) (Q [aI (1:Int)])) (br p (∃n,Gv 161 [aL fs,aL es] [aI n]/\Q [aI n]) (∃n,Gv 161 [aL es,aL fs] [aI n]/\Q [aI n]))):=by kernel_rfl
end
def GH (Gv:Nat->List A->List A->Prop) (I0:List D->List D->Prop) (M0:List D->Nat) (Q:List A->Prop) (es fs:List (List D)):Prop:=((0<=Pl .i64 ((Tk es.length)+1)/\Pl .i64 ((Tk es.length)+1)<=Pl .i64 ((Tk es.length)+1)/\room (Sz (Pl .i64 ((Tk es.length)+1))))/\I0 [] [Hy (b6 (Sz (Pl .i64 ((Tk es.length)+1))) [Hx .u32 0]),Hx .u32 0,Hx .i64 0]/\∀(e1:List (List D)) (n n1:Int),I0 [] [Hy e1,Hx .u32 n,Hx .i64 n1]->br (toB (J4 (decide (n1<(Tk es.length))))) ((0<=n1/\n1<(Tk es.length)/\bv (nth [] es (Sz n1))=1)/\∃n2,cut (nth [] es (Sz n1)) 0 1 [Hx .u32 n2]/\br (toB (J4 (decide (n1<(Tk fs.length))))) ((0<=n1/\n1<(Tk fs.length)/\bv (nth [] fs (Sz n1))=1)/\∃n3,cut (nth [] fs (Sz n1)) 0 1 [Hx .u32 n3]/\(1000000000:Int)≠(0:Int)/\(0<=n1/\n1<(Tk e1.length))/\0<1/\(1000000000:Int)≠(0:Int)/\I0 [] [Hy (upd e1 (Sz n1) (upd (nth [] e1 (Sz n1)) 0 (Hx .u32 (an (Pl .u32 (Pl .u32 (n+n2)+n3)) (1000000000:Int))))),Hx .u32 (Pl .u32 (W2 (Pl .u32 (Pl .u32 (n+n2)+n3)) (1000000000:Int))),Hx .i64 (Pl .i64 (n1+1))]/\M0 [Hy (upd e1 (Sz n1) (upd (nth [] e1 (Sz n1)) 0 (Hx .u32 (an (Pl .u32 (Pl .u32 (n+n2)+n3)) (1000000000:Int))))),Hx .u32 (Pl .u32 (W2 (Pl .u32 (Pl .u32 (n+n2)+n3)) (1000000000:Int))),Hx .i64 (Pl .i64 (n1+1))]<M0 [Hy e1,Hx .u32 n,Hx .i64 n1]) ((1000000000:Int)≠(0:Int)/\(0<=n1/\n1<(Tk e1.length))/\0<1/\(1000000000:Int)≠(0:Int)/\I0 [] [Hy (upd e1 (Sz n1) (upd (nth [] e1 (Sz n1)) 0 (Hx .u32 (an (Pl .u32 (n+n2)) (1000000000:Int))))),Hx .u32 (Pl .u32 (W2 (Pl .u32 (n+n2)) (1000000000:Int))),Hx .i64 (Pl .i64 (n1+1))]/\M0 [Hy (upd e1 (Sz n1) (upd (nth [] e1 (Sz n1)) 0 (Hx .u32 (an (Pl .u32 (n+n2)) (1000000000:Int))))),Hx .u32 (Pl .u32 (W2 (Pl .u32 (n+n2)) (1000000000:Int))),Hx .i64 (Pl .i64 (n1+1))]<M0 [Hy e1,Hx .u32 n,Hx .i64 n1])) ((0<=(Tk es.length)/\(Tk es.length)<(Tk e1.length))/\0<1/\∃e2,Gv 241 [Hu (Hy (upd e1 (Sz (Tk es.length)) (upd (nth [] e1 (Sz (Tk es.length))) 0 (Hx .u32 n))))] [Hu (Hy e2)]/\Q [Hu (Hy e2)]))
section
variable (Gv:Nat->List A->List A->Prop) (I0:List D->List D->Prop) (M0:List D->Nat) (I1:List D->List D->Prop) (M1:List D->Nat) (I2:List D->List D->Prop) (M2:List D->Nat) (I3:List D->List D->Prop) (M3:List D->Nat) (Q:List A->Prop)
theorem GI (es fs:List (List D)):wpF CC Gv (λ_=>⟨[.own 5 55 1,.slot 6 (.int .u32 0),.slot 7 (.int .i64 0)],[],I0,M0⟩) Tryz.f239 [.c (.sl es),.c (.sl fs)] Q=(bB (decide ((Tk es.length)<(Tk fs.length))) (GH Gv I0 M0 Q fs es) (GH Gv I0 M0 Q es fs)):=by kernel_rfl
theorem L5 (es fs:List (List D)):wpF CC Gv (λ_=>⟨[.own 5 45 1,.slot 6 (.int .u32 0),.slot 7 (.int .i64 0)],[],I0,M0⟩) Tryz.f240 [.c (.sl es),.c (.sl fs)] Q=((0<=(Tk es.length)/\(Tk es.length)<=(Tk es.length)/\room (Sz (Tk es.length)))/\I0 [] [Hy (b6 (Sz (Tk es.length)) [Hx .u32 0]),Hx .u32 0,dI (0:Int)]/\∀(e1:List (List D)) (n n1:Int),I0 [] [Hy e1,Hx .u32 n,dI n1]->bB (decide (n1<(Tk es.length))) ((0<=n1/\n1<(Tk es.length)/\bv (nth [] es (Sz n1))=1)/\∃n2,cut (nth [] es (Sz n1)) 0 1 [Hx .u32 n2]/\bB (decide (n1<(Tk fs.length))) ((0<=n1/\n1<(Tk fs.length)/\bv (nth [] fs (Sz n1))=1)/\∃n3,cut (nth [] fs (Sz n1)) 0 1 [Hx .u32 n3]/\bB (decide (Pl .u32 (Pl .u32 (Pl .u32 (n2+1000000000)-n)-n3)>=1000000000)) ((0<=n1/\n1<(Tk e1.length))/\0<1/\I0 [] [Hy (upd e1 (Sz n1) (upd (nth [] e1 (Sz n1)) 0 (Hx .u32 (Pl .u32 (Pl .u32 (Pl .u32 (Pl .u32 (n2+1000000000)-n)-n3)-1000000000))))),Hx .u32 0,dI (Pl .i64 (n1+1))]/\M0 [Hy (upd e1 (Sz n1) (upd (nth [] e1 (Sz n1)) 0 (Hx .u32 (Pl .u32 (Pl .u32 (Pl .u32 (Pl .u32 (n2+1000000000)-n)-n3)-1000000000))))),Hx .u32 0,dI (Pl .i64 (n1+1))]<M0 [Hy e1,Hx .u32 n,dI n1]) ((0<=n1/\n1<(Tk e1.length))/\0<1/\I0 [] [Hy (upd e1 (Sz n1) (upd (nth [] e1 (Sz n1)) 0 (Hx .u32 (Pl .u32 (Pl .u32 (Pl .u32 (n2+1000000000)-n)-n3))))),Hx .u32 1,dI (Pl .i64 (n1+1))]/\M0 [Hy (upd e1 (Sz n1) (upd (nth [] e1 (Sz n1)) 0 (Hx .u32 (Pl .u32 (Pl .u32 (Pl .u32 (n2+1000000000)-n)-n3))))),Hx .u32 1,dI (Pl .i64 (n1+1))]<M0 [Hy e1,Hx .u32 n,dI n1])) (bB (decide (Pl .u32 (Pl .u32 (n2+1000000000)-n)>=1000000000)) ((0<=n1/\n1<(Tk e1.length))/\0<1/\I0 [] [Hy (upd e1 (Sz n1) (upd (nth [] e1 (Sz n1)) 0 (Hx .u32 (Pl .u32 (Pl .u32 (Pl .u32 (n2+1000000000)-n)-1000000000))))),Hx .u32 0,dI (Pl .i64 (n1+1))]/\M0 [Hy (upd e1 (Sz n1) (upd (nth [] e1 (Sz n1)) 0 (Hx .u32 (Pl .u32 (Pl .u32 (Pl .u32 (n2+1000000000)-n)-1000000000))))),Hx .u32 0,dI (Pl .i64 (n1+1))]<M0 [Hy e1,Hx .u32 n,dI n1]) ((0<=n1/\n1<(Tk e1.length))/\0<1/\I0 [] [Hy (upd e1 (Sz n1) (upd (nth [] e1 (Sz n1)) 0 (Hx .u32 (Pl .u32 (Pl .u32 (n2+1000000000)-n))))),Hx .u32 1,dI (Pl .i64 (n1+1))]/\M0 [Hy (upd e1 (Sz n1) (upd (nth [] e1 (Sz n1)) 0 (Hx .u32 (Pl .u32 (Pl .u32 (n2+1000000000)-n))))),Hx .u32 1,dI (Pl .i64 (n1+1))]<M0 [Hy e1,Hx .u32 n,dI n1]))) (∃es,Gv 241 [aL e1] [aL es]/\Q [aL es])):=by kernel_rfl
theorem L6 (es fs:List (List D)):wpF CC Gv (Kt ⟨[.own 5 68 1,.slot 6 (.int .i64 0)],[],I0,M0⟩ ⟨[.own 5 68 1,.slot 7 (.int .u64 0),.slot 8 (.int .i64 0)],[.slot 6 (.int .i64 0),.own 5 68 1],I1,M1⟩) Tryz.f162 [.c (.sl es),.c (.sl fs)] Q=((0<=Pl .i64 ((Tk es.length)+(Tk fs.length))/\Pl .i64 ((Tk es.length)+(Tk fs.length))<=Pl .i64 ((Tk es.length)+(Tk fs.length))/\room (Sz (Pl .i64 ((Tk es.length)+(Tk fs.length)))))/\I0 [] [Hy (b6 (Sz (Pl .i64 ((Tk es.length)+(Tk fs.length)))) [Hx .u32 0]),dI (0:Int)]/\∀(e1:List (List D)) (n:Int),I0 [] [Hy e1,dI n]->bB (decide (n<(Tk es.length))) (I1 [dI n,Hy e1] [Hy e1,Hx .u64 0,dI (0:Int)]/\∀(e2:List (List D)) (n1 n2:Int),I1 [dI n,Hy e1] [Hy e2,Hx .u64 n1,dI n2]->bB (decide (n2<(Tk fs.length))) ((0<=Pl .i64 (n+n2)/\Pl .i64 (n+n2)<(Tk e2.length))/\∃n3,cut (nth [] e2 (Sz (Pl .i64 (n+n2)))) 0 1 [Hx .u32 n3]/\(0<=n/\n<(Tk es.length)/\bv (nth [] es (Sz n))=1)/\∃n4,cut (nth [] es (Sz n)) 0 1 [Hx .u32 n4]/\(0<=n2/\n2<(Tk fs.length)/\bv (nth [] fs (Sz n2))=1)/\∃n5,cut (nth [] fs (Sz n2)) 0 1 [Hx .u32 n5]/\(1000000000:Int)≠(0:Int)/\(0<=Pl .i64 (n+n2)/\Pl .i64 (n+n2)<(Tk e2.length))/\0<1/\(1000000000:Int)≠(0:Int)/\I1 [dI n,Hy e1] [Hy (upd e2 (Sz (Pl .i64 (n+n2))) (upd (nth [] e2 (Sz (Pl .i64 (n+n2)))) 0 (Hx .u32 (Pl .u32 (an (Pl .u64 (Pl .u64 (n1+Pl .u64 n3)+Pl .u64 (Pl .u64 n4*Pl .u64 n5))) (1000000000:Int)))))),Hx .u64 (Pl .u64 (W2 (Pl .u64 (Pl .u64 (n1+Pl .u64 n3)+Pl .u64 (Pl .u64 n4*Pl .u64 n5))) (1000000000:Int))),dI (Pl .i64 (n2+1))]/\M1 [Hy (upd e2 (Sz (Pl .i64 (n+n2))) (upd (nth [] e2 (Sz (Pl .i64 (n+n2)))) 0 (Hx .u32 (Pl .u32 (an (Pl .u64 (Pl .u64 (n1+Pl .u64 n3)+Pl .u64 (Pl .u64 n4*Pl .u64 n5))) (1000000000:Int)))))),Hx .u64 (Pl .u64 (W2 (Pl .u64 (Pl .u64 (n1+Pl .u64 n3)+Pl .u64 (Pl .u64 n4*Pl .u64 n5))) (1000000000:Int))),dI (Pl .i64 (n2+1))]<M1 [Hy e2,Hx .u64 n1,dI n2]) ((0<=Pl .i64 (n+(Tk fs.length))/\Pl .i64 (n+(Tk fs.length))<(Tk e2.length))/\0<1/\I0 [] [Hy (upd e2 (Sz (Pl .i64 (n+(Tk fs.length)))) (upd (nth [] e2 (Sz (Pl .i64 (n+(Tk fs.length))))) 0 (Hx .u32 (Pl .u32 n1)))),dI (Pl .i64 (n+1))]/\M0 [Hy (upd e2 (Sz (Pl .i64 (n+(Tk fs.length)))) (upd (nth [] e2 (Sz (Pl .i64 (n+(Tk fs.length))))) 0 (Hx .u32 (Pl .u32 n1)))),dI (Pl .i64 (n+1))]<M0 [Hy e1,dI n])) (∃es,Gv 241 [aL e1] [aL es]/\Q [aL es])):=by kernel_rfl
theorem IA (es:List (List D)) (n:Int):wpF CC Gv an0 Tryz.f359 [.c (.sl es),.c (.int .u32 n)] Q=(∃e1,Gv 241 [aL [[Hx .u32 n]]] [aL e1]/\∃e2,Gv 162 [aL es,aL e1] [aL e2]/\Q [aL e2]):=by kernel_rfl
theorem Ds (p:Bool) (es:List (List D)):wpF CC Gv an0 Tryz.f158 [.ag [.bool p,.sl es]] Q=(∃b e1,Gv 159 [aB (!p),aL es] [aZ b e1]/\Q [aZ b e1]):=by kernel_rfl
theorem Dt (p q:Bool) (es fs:List (List D)):wpF CC Gv an0 Tryz.f157 [.ag [.bool p,.sl es],.ag [.bool q,.sl fs]] Q=(bB (p==q) (∃e1,Gv 239 [aL es,aL fs] [aL e1]/\∃b es,Gv 159 [aB p,aL e1] [aZ b es]/\Q [aZ b es]) (∃n,Gv 161 [aL es,aL fs] [aI n]/\bB (decide (n>=0)) (∃e1,Gv 240 [aL es,aL fs] [aL e1]/\∃b es,Gv 159 [aB p,aL e1] [aZ b es]/\Q [aZ b es]) (∃e1,Gv 240 [aL fs,aL es] [aL e1]/\∃b es,Gv 159 [aB q,aL e1] [aZ b es]/\Q [aZ b es]))):=by kernel_rfl
theorem Du (p q:Bool) (es fs:List (List D)):wpF CC Gv an0 Tryz.f302 [.ag [.bool p,.sl es],.ag [.bool q,.sl fs]] Q=(∃b e1,Gv 158 [aZ q fs] [aZ b e1]/\∃b1 e2,Gv 157 [aZ p es,aZ b e1] [aZ b1 e2]/\Q [aZ b1 e2]):=by kernel_rfl
theorem Dv (p q:Bool) (es fs:List (List D)):wpF CC Gv an0 Tryz.f88 [.ag [.bool p,.sl es],.ag [.bool q,.sl fs]] Q=(∃e1,Gv 162 [aL es,aL fs] [aL e1]/\∃b es,Gv 159 [Hu (J4 !p==q),aL e1] [aZ b es]/\Q [aZ b es]):=by kernel_rfl
theorem Dw (p q:Bool) (es fs:List (List D)):wpF CC Gv (Kt ⟨[.slot 5 (.slice none 0 0),.slot 6 (.slice none 0 0)],[],I0,M0⟩ ⟨[.slot 9 (.int .u64 0),.slot 10 (.int .u64 0)],[],I1,M1⟩) Tryz.f227 [.ag [.bool p,.sl es],.ag [.bool q,.sl fs]] Q=(I0 [] [Hy es,Hy fs]/\∀(es e1:List (List D)),I0 [] [Hy es,Hy e1]->bB (decide ((Tk e1.length)>0)) (bB (decide ((Tk es.length)>2)) (∃e2 e3,Gv 292 [aL es,aL e1] [aL e2,aL e3]/\I0 [] [Hy e1,Hy e3]/\M0 [Hy e1,Hy e3]<M0 [Hy es,Hy e1]) (bB (decide ((Tk e1.length)>2)) (∃e2 e3,Gv 292 [aL es,aL e1] [aL e2,aL e3]/\I0 [] [Hy e1,Hy e3]/\M0 [Hy e1,Hy e3]<M0 [Hy es,Hy e1]) (bB ((Tk e1.length)==0) (∃b e2,Gv 159 [aB false,aL es] [aZ b e2]/\Q [aZ b e2]) (∃n,Gv 293 [aL es] [Hu (Hx .u64 n)]/\∃n1,Gv 293 [aL e1] [Hu (Hx .u64 n1)]/\I1 [] [Hx .u64 n,Hx .u64 n1]/\∀(n n2:Int),I1 [] [Hx .u64 n,Hx .u64 n2]->bB (decide (n2>0)) (n2≠0/\I1 [] [Hx .u64 n2,Hx .u64 (an n n2)]/\M1 [Hx .u64 n2,Hx .u64 (an n n2)]<M1 [Hx .u64 n,Hx .u64 n2]) (∃es,Gv 160 [Hu (Hx .u64 n)] [aL es]/\∃b e2,Gv 159 [aB false,aL es] [aZ b e2]/\Q [aZ b e2]))))) (bB ((Tk e1.length)==0) (∃b e2,Gv 159 [aB false,aL es] [aZ b e2]/\Q [aZ b e2]) (∃n,Gv 293 [aL es] [Hu (Hx .u64 n)]/\∃n1,Gv 293 [aL e1] [Hu (Hx .u64 n1)]/\I1 [] [Hx .u64 n,Hx .u64 n1]/\∀(n n2:Int),I1 [] [Hx .u64 n,Hx .u64 n2]->bB (decide (n2>0)) (n2≠0/\I1 [] [Hx .u64 n2,Hx .u64 (an n n2)]/\M1 [Hx .u64 n2,Hx .u64 (an n n2)]<M1 [Hx .u64 n,Hx .u64 n2]) (∃es,Gv 160 [Hu (Hx .u64 n)] [aL es]/\∃b e2,Gv 159 [aB false,aL es] [aZ b e2]/\Q [aZ b e2])))):=by kernel_rfl
theorem Uu (p q:Bool) (es fs:List (List D)):wpF CC Gv an0 Tryz.f238 [.ag [.bool p,.sl es],.ag [.bool q,.sl fs]] Q=(bB ((Tk fs.length)==0) (Q [aZ false [],aZ false [],aI (6:Int)]) (∃e1 e2,Gv 292 [aL es,aL fs] [aL e1,aL e2]/\∃b es,Gv 159 [Hu (J4 !p==q),aL e1] [aZ b es]/\∃b1 e3,Gv 159 [aB p,aL e2] [aZ b1 e3]/\bB (decide ((Tk e2.length)>0)) (bB (!p==q) (∃b2 e4,Gv 85 [aI (1:Int)] [aZ b2 e4]/\∃b3 e5,Gv 302 [aZ b es,aZ b2 e4] [aZ b3 e5]/\∃b es,Gv 157 [aZ b1 e3,aZ q fs] [aZ b es]/\Q [aZ b3 e5,aZ b es,aI (0:Int)]) (Q [aZ b es,aZ b1 e3,aI (0:Int)])) (Q [aZ b es,aZ b1 e3,aI (0:Int)]))):=by kernel_rfl
end
end Eng
end
section
namespace Eng
open Go Go.Proofs
variable [Env]
omit [Env] in
theorem KB {n:Nat} (h:0<n):lim n=n%1000000000::lim (n/1000000000):=by
 have e:n=val (n%1000000000::lim (n/1000000000)):=by simp only[val,qh];omega
 conv=>lhs;rw[e]
 refine v5 (Lv (e7 _ (by omega)) (qc _)) (.inr ?_);rw[List.getLast?_cons];rcases jo (n/1000000000)with h1|h1
 .rw[h1];have:n/1000000000=0:=yt.1 h1;simp;omega
 .cases hh:(lim (n/1000000000)).getLast? with
  |none=>have:n/1000000000=0:=yt.1 (List.getLast?_eq_none_iff.1 hh);simp;omega
  |some x=>rw[hh]at h1;simpa using h1
omit [Env] in
theorem qD (z:Int):qN z= .ag [.bool (decide (z<0)),.sl (raw (lim z.natAbs))]:=rfl
theorem j6 {l:List Nat} (hl:Limbs l) (hr:l.length<=1073741824):Gives CC 241 [.c (.sl (raw l))] [.c (.sl (raw (lim (val l))))]:=by
 refine qj (anns:=λ_=>⟨[.slot 0 (.slice none 0 0)],[],λ_ ds=>∃k,k<=l.length/\ds=[.sl (raw (l.take k))]/\val (l.take k)=val l,λds=>(toL (nth .undef ds 0)).length⟩) mixedT Tryz.func241 ?_;rw[PE];simp only[W0];refine⟨⟨l.length,ft _,by rw[b7],by rw[b7]⟩,?_⟩;rintro es ⟨k,hk,he,hv⟩;simp only[cF,Ls,and_true]at he;subst he;have a0:(raw (l.take k)).length=k:=by rw[qg,b8];omega
 have a1:(k=0\/∃h:k-1<l.length,l[k-1]≠0)->[Hu (Hy (raw (l.take k)))]=[Hu (Hy (raw (lim (val l))))]:=by
  intro h;rw[<-hv,v5 (hl.take k)];rcases h with rfl|⟨h,hne⟩
  .exact .inl (by simp)
  .refine .inr ?_;rw[List.getLast?_take];split
   .simp
   .rw[List.getElem?_eq_getElem h]
    simpa using hne
 refine brd (λh=>?_) (λh=>?_)
 .rw[a0]at h ⊢;have hk0:0<k:=by omega
  have hw:Pl .i64 ((k:Int)-1)=((k-1:Nat):Int):=by rw[qR];omega
  rw[hw];have a2:k-1<(l.take k).length:=by rw[b8];omega
  have hg:(l.take k)[k-1]=l[k-1]:=List.getElem_take ..;refine⟨⟨by omega,by omega,qw a2⟩,_,qz a2,brb (λhz=>?_) (λhz=>?_)⟩
  .have hz:l[k-1]=0:=by rw[hg]at hz;simpa using hz
   refine⟨⟨by omega,by omega,by omega,zK _⟩,⟨k-1,by omega,?_,?_⟩,?_⟩
   .simp only[W1,j3,cs,List.take_take];congr 4;omega
   .have:l.take k=l.take (k-1)++[l[k-1]]:=by have:=List.take_succ_eq_append_getElem (l:=l) (i:=k-1) (by omega);rw[show k-1+1=k by omega]at this;exact this
    rw[<-hv,this,hz,qU];simp[val]
   .simp only[W1,nth,toL,cs,b8,a0];omega
  .exact a1 (.inr ⟨by omega,by rw[hg]at hz;simpa using hz⟩)
 .rw[a0]at h;exact a1 (.inl (by omega))
theorem Uv {l:List Nat} (b:Bool) (hl:Limbs l) (hr:l.length<=1073741824):Gives CC 159 [.c (.bool b),.c (.sl (raw l))] [.ag [.bool (b&&decide (0<val l)),.sl (raw (lim (val l)))]]:=by
 refine qj (anns:=an0) mixedT Tryz.func159 ?_;rw[Ut];refine⟨_,j6 hl hr,?_⟩;have hd:decide ((Tk (bv (raw (lim (val l)))))>(0:Int))=decide (0<val l):=by rw[decide_eq_decide,qg,<-qC (n:=val l)];simp only[W0];omega
 rw[hd];refine js (λhb=>?_) (λhb=>?_)
 .subst hb;rw[Dd]
 .subst hb;rw[Bx]
theorem xg {l:List Nat} (b:Bool) (hl:Limbs l) (hr:l.length<=1073741824) {z:Int} (hz:z=if b then-(val l:Int)else(val l:Int)):
 Gives CC 159 [.c (.bool b),.c (.sl (raw l))] [qN z]:=by
 have h:=Uv b hl hr;have e:qN z= .ag [.bool (b&&decide (0<val l)),.sl (raw (lim (val l)))]:=by
  unfold qN cI;cases b with
  |false=>simp only[Bool.false_eq_true,if_false]at hz;subst hz;rw[Ts,Bx,decide_eq_false (by omega)]
  |true=>simp only[if_true]at hz;subst hz;rw[ap,Ts,Dd];congr 3;rw[decide_eq_decide];omega
 rw[e];exact h
theorem wW {u:Nat} (hu:u<18446744073709551616):Gives CC 160 [.c (.int .u64 (u:Int))] [.c (.sl (raw (lim u)))]:=by
 have h3:(lim u).length<=3:=qp (fy hu (by decide));refine qj (anns:=λ_=>⟨[.own 3 15 1,.slot 0 (.int .u64 0)],[],λ_ ds=>∃(h:List Nat) (v:Nat),ds=[.sl (raw h),.int .u64 (v:Int)]/\v<=u/\lim u=h++lim v,λds=>(toI (nth .undef ds 1)).toNat⟩) mixedT Tryz.func160 ?_;rw[L3];refine⟨⟨[],u,rfl,ft _,rfl⟩,?_⟩;rintro es n ⟨h,v,he,hv,hl⟩;simp only[cF,Ls,Lm,true_and,and_true]at he;obtain⟨rfl,rfl⟩:=he;have hlen:h.length<=3:=by have:=congrArg bv hl;rw[cg]at this;omega
 refine brd (λh0=>?_) (λh0=>?_)
 .have a0:0<v:=by omega
  rw[Ur,Us,j5,xI];refine⟨by omega,⟨by rw[qg];unfold room;omega,zK [v%1000000000]⟩,by omega,⟨h++[v%1000000000],v/1000000000,?_,by omega,?_⟩,?_⟩
  .rw[xd];rfl
  .rw[hl,KB a0,List.append_assoc];rfl
  .simp only[nth,toI,W1];omega
 .have a0:v=0:=by omega
  subst a0;rw[hl,K1,c5]
theorem zM {n:Int} (h1: -9223372036854775808<=n) (h2:n<9223372036854775808):Gives CC 85 [.c (.int .i64 n)] [qN n]:=by
 refine qj (anns:=an0) mixedT Tryz.func85 ?_;rw[KA];have hl:∀u:Nat,u<18446744073709551616->(lim u).length<=1073741824:=λu hu=>by have:(lim u).length<=3:=qp (fy hu (by decide));omega
 refine brd (λh=>?_) (λh=>?_)
 .obtain⟨u,rfl⟩:∃u:Nat,n= -(u:Int):=⟨n.natAbs,by omega⟩;have e:Pl .u64 (0-Pl .u64 (-(u:Int)))=(u:Int):=by simp[Pl,IntKind.bits,IntKind.signed];omega
  rw[e];exact⟨_,wW (by omega),_,_,xg true (qc u) (hl u (by omega)) (z:= -(u:Int)) (by simp[qh]),rfl⟩
 .obtain⟨u,rfl⟩:∃u:Nat,n=(u:Int):=⟨n.natAbs,by omega⟩;rw[xI];exact⟨_,wW (by omega),_,_,xg false (qc u) (hl u (by omega)) (z:=(u:Int)) (by simp[qh]),rfl⟩
theorem Qg {l:List Nat} (hl:Limbs l) (h2:l.length<=2):Gives CC 293 [.c (.sl (raw l))] [.c (.int .u64 (val l:Int))]:=by
 refine qj (anns:=λ_=>⟨[.slot 3 (.int .u64 0),.slot 4 (.int .i64 0)],[],λ_ ds=>∃k:Nat,k<=l.length/\ds=[.int .u64 (val (l.drop k):Int),.int .i64 ((k:Int)-1)],λds=>(toI (nth .undef ds 1)+1).toNat⟩) mixedT Tryz.func293 ?_;rw[L4];simp only[W0,qg];refine⟨⟨l.length,ft _,by rw[cp,qR];rfl⟩,?_⟩;rintro n m ⟨k,hk,he⟩;simp only[cF,Lm,true_and,and_true]at he;obtain⟨rfl,rfl⟩:=he;refine brd (λh=>?_) (λh=>?_)
 .have a0:k-1<l.length:=by omega
  have ht:((k:Int)-1).toNat=k-1:=by omega
  rw[ht];have hd:val (l.drop (k-1))=l[k-1]+1000000000*val (l.drop k):=by rw[b9 a0,show k-1+1=k by omega];rfl
  have hlt:=qX (hl.drop k);have hdl:(l.drop k).length<=1:=by rw[cm];omega
  have hlt2:val (l.drop k)<1000000000:=by have:1000000000^(l.drop k).length<=1000000000^1:=en (by omega) hdl;omega
  have hx:=hl.get a0;have hw:Pl .u64 (Pl .u64 ((val (l.drop k):Int)*1000000000)+Pl .u64 (l[k-1]:Int))=(val (l.drop (k-1)):Int):=by rw[xI (n:=(val (l.drop k):Int)*1000000000),xI (n:=(l[k-1]:Int)),xI];omega
  have a1:Pl .i64 ((k:Int)-1-1)=((k-1:Nat):Int)-1:=by rw[qR];omega
  refine⟨⟨by omega,by omega,qw a0⟩,_,qz a0,⟨k-1,by omega,by rw[hw,a1]⟩,?_⟩;rw[a1];simp only[nth,toI];omega
 .have a0:k=0:=by omega
  subst a0;rw[cs]
theorem Qh (z:Int):Gives CC 225 [qN z] [.c (.int .i64 (sgn z))]:=by
 refine qj (anns:=an0) mixedT Tryz.func225 ?_;rw[qD,PF];simp only[W0,qg];unfold sgn;refine brb (λh=>?_) (λh=>?_)
 .have h0:(lim z.natAbs).length=0:=by simpa using h
  have:z.natAbs=0:=yt.1 (bF h0);rw[if_neg (by omega),if_neg (by omega)]
 .have h0:(lim z.natAbs).length≠0:=by simpa using h
  have:0<z.natAbs:=qC.1 (by omega);refine js (λh=>?_) (λh=>?_)
  .rw[if_pos (by simpa using h)]
  .have:¬z<0:=by simpa using h
   rw[if_neg this,if_pos (by omega)]
theorem jR {x y:Nat} (hra:(lim x).length<=1073741824) (hrb:(lim y).length<=1073741824):Gives CC 161 [.c (.sl (raw (lim x))),.c (.sl (raw (lim y)))] [.c (.int .i64 (Qw x y))]:=by
 generalize hA:lim x=A at *;generalize hB:lim y=B at *;have lA:Limbs A:=hA▸qc _;have lB:Limbs B:=hB▸qc _;have vA:val A=x:=hA▸qh _;have vB:val B=y:=hB▸qh _;have zA:A=[]\/A.getLast?≠some 0:=hA▸jo _;have zB:B=[]\/B.getLast?≠some 0:=hB▸jo _;refine qj (anns:=λ_=>⟨[.slot 5 (.int .i64 0)],[],λ_ ds=>∃k:Nat,k<=A.length/\ds=[.int .i64 ((k:Int)-1)]/\A.drop k=B.drop k,λds=>(toI (nth .undef ds 0)+1).toNat⟩) mixedT Tryz.func161 ?_;rw[Ys];simp only[W0,qg];refine brb (λh=>?_) (λh=>?_)
 .have h:A.length≠B.length:=by intro e;rw[e]at h;simp at h
  refine brd (λh1=>?_) (λh1=>?_)
  .have a2:B≠[]:=(by intro e;have h0:B.length=0:=(by rw[e];rfl);omega);have:=QW lA (zB.resolve_left a2) a2 (by omega);rw[Qw,if_pos (by omega)]
  .have a2:A≠[]:=(by intro e;have h0:A.length=0:=(by rw[e];rfl);omega);have:=QW lB (zA.resolve_left a2) a2 (by omega);rw[Qw,if_neg (by omega),if_pos (by omega)]
 .have h:A.length=B.length:=by
   have:(A.length:Int)=B.length:=by simpa using h
   omega
  refine⟨⟨A.length,ft _,by rw[qR],by rw[cp,h,cp]⟩,?_⟩;rintro n ⟨k,hk,he,hd⟩;simp only[cF,Lm,true_and,and_true]at he;subst he;refine brd (λh1=>?_) (λh1=>?_)
  .have a0:k-1<A.length:=by omega
   have a1:k-1<B.length:=by omega
   have ht:((k:Int)-1).toNat=k-1:=by omega
   have a3:A.drop (k-1+1)=B.drop (k-1+1):=by rw[show k-1+1=k by omega];exact hd
   rw[ht];refine⟨⟨by omega,by omega,qw a0⟩,_,qz a0,⟨by omega,by omega,qw a1⟩,_,qz a1,brd (λh2=>?_) (λh2=>?_)⟩
   .have:=kZ lA h a0 a3 (by omega);rw[Qw,if_pos (by omega)]
   .refine⟨⟨by omega,by omega,qw a0⟩,_,qz a0,⟨by omega,by omega,qw a1⟩,_,qz a1,brd (λh3=>?_) (λh3=>?_)⟩
    .have:=kZ lB h.symm a1 a3.symm (by omega);rw[Qw,if_neg (by omega),if_pos (by omega)]
    .have hw:Pl .i64 ((k:Int)-1-1)=((k-1:Nat):Int)-1:=by rw[qR];omega
     rw[hw];refine⟨⟨k-1,by omega,rfl,?_⟩,?_⟩
     .rw[b9 a0,b9 a1,a3];congr 1;omega
     .simp only[nth,toI];omega
  .have a0:k=0:=by omega
   subst a0;have:A=B:=by simpa using hd
   rw[Qw,<-vA,<-vB,this,if_neg (by omega),if_neg (by omega)]
theorem KC {x y:Int} (hx:Sm x) (hy:Sm y):Gives CC 87 [qN x,qN y] [.c (.int .i64 (kh x y))]:=by
 refine qj (anns:=an0) mixedT Tryz.func87 ?_;have lx:=hx.len;have ly:=hy.len;rw[qD x,qD y,Dr];have c1:=jR (x:=x.natAbs) (y:=y.natAbs) (by omega) (by omega);have c2:=jR (x:=y.natAbs) (y:=x.natAbs) (by omega) (by omega);refine brb (λh=>?_) (λh=>?_)
 .refine js (λh1=>?_) (λh1=>?_)
  .have h1:x<0:=by simpa using h1
   have h2:¬y<0:=by intro h2;rw[decide_eq_true h1,decide_eq_true h2]at h;simp at h
   rw[kh,if_pos (by omega)]
  .have h1:¬x<0:=by simpa using h1
   have h2:y<0:=by apply F0;intro h2;rw[decide_eq_false h1,decide_eq_false h2]at h;simp at h
   rw[kh,if_neg (by omega),if_pos (by omega)]
 .refine js (λh1=>?_) (λh1=>?_)
  .have h1:x<0:=by simpa using h1
   have h2:y<0:=by apply F0;intro h2;rw[decide_eq_true h1,decide_eq_false h2]at h;simp at h
   refine⟨_,c2,?_⟩;have:Qw y.natAbs x.natAbs=kh x y:=by
    unfold Qw kh;by_cases h3:x<y
    .rw[if_pos h3,if_pos (by omega)]
    .rw[if_neg h3,if_neg (by omega)];by_cases h4:y<x
     .rw[if_pos h4,if_pos (by omega)]
     .rw[if_neg h4,if_neg (by omega)]
   rw[this]
  .have h1:¬x<0:=by simpa using h1
   have h2:¬y<0:=by intro h2;rw[decide_eq_false h1,decide_eq_true h2]at h;simp at h
   refine⟨_,c1,?_⟩;have:Qw x.natAbs y.natAbs=kh x y:=by
    unfold Qw kh;by_cases h3:x<y
    .rw[if_pos h3,if_pos (by omega)]
    .rw[if_neg h3,if_neg (by omega)];by_cases h4:y<x
     .rw[if_pos h4,if_pos (by omega)]
     .rw[if_neg h4,if_neg (by omega)]
   rw[this]
omit [Env] in
theorem PG {o:List Nat} {k c:Nat} (ho:o.length=k):(o++[0]).set k c=o++[c]:=by
 rw[List.set_append_right _ _ (by omega),ho];simp
def qpI (a b:List Nat):List D->List D->Prop:=λ_ ds=>∃(k:Nat) (o:List Nat) (c:Nat),k<=a.length/\o.length=k/\ds=[.sl (raw (o++b6 (a.length+1-k) 0)),.int .u32 (c:Int),.int .i64 (k:Int)]/\Limbs o/\c<=1/\val o+1000000000^k*c=val (a.take k)+val (b.take k)
def qpM (a:List Nat):List D->Nat:=λds=>a.length-(toI (nth .undef ds 2)).toNat
theorem J9 {a b:List Nat} (ha:Limbs a) (hb:Limbs b) (hra:a.length<=1073741823) (hab:b.length<=a.length):
 GH (Gives CC) (qpI a b) (qpM a)
  (λr=>r=[.c (.sl (raw (lim (val a+val b))))]) (raw a) (raw b):=by
 unfold GH qpI qpM;simp only[W0,qg];have hn:Pl .i64 ((a.length:Int)+1)=((a.length+1:Nat):Int):=by rw[qR];omega
 rw[hn,W1];refine⟨⟨by omega,by omega,by unfold room;omega⟩,⟨0,[],0,by omega,rfl,by rw[xr];rfl,No,by omega,by simp[val]⟩,?_⟩;rintro es n m ⟨k,o,c,hk,ho,he,lo,hc,hv⟩;simp only[cF,Lm,Ls,true_and,and_true]at he;obtain⟨rfl,rfl,rfl⟩:=he;have a1:(o++b6 (a.length+1-k) 0).length=a.length+1:=by simp[ho];omega
 refine brd (λh1=>?_) (λh1=>?_)
 .have a0:k<a.length:=by omega
  have hxk:=ha.get a0;have hk1:Pl .i64 ((k:Int)+1)=((k+1:Nat):Int):=by rw[qR];omega
  rw[W1,hk1,qg,a1];have a3:∀(t:Nat),t<=1999999999->t=a[k]+c+b.getD k 0->
   (((0:Int)<=(k:Int)/\(k:Int)<((a.length+1:Nat):Int))/\0<1/\(1000000000:Int)≠0/\
     (∃(k':Nat) (o':List Nat) (c':Nat),k'<=a.length/\o'.length=k'/\[Hy (upd (raw (o++b6 (a.length+1-k) 0)) k (upd (nth [] (raw (o++b6 (a.length+1-k) 0)) k) 0 (Hx .u32 (an (t:Int) 1000000000)))),Hx .u32 (Pl .u32 (W2 (t:Int) 1000000000)),Hx .i64 ((k+1:Nat):Int)]=
        [.sl (raw (o'++b6 (a.length+1-k') 0)),.int .u32 (c':Int),.int .i64 (k':Int)]/\Limbs o'/\c'<=1/\val o'+1000000000^k'*c'=val (a.take k')+val (b.take k'))/\
     a.length-(toI (nth .undef [Hy (upd (raw (o++b6 (a.length+1-k) 0)) k (upd (nth [] (raw (o++b6 (a.length+1-k) 0)) k) 0 (Hx .u32 (an (t:Int) 1000000000)))),Hx .u32 (Pl .u32 (W2 (t:Int) 1000000000)),Hx .i64 ((k+1:Nat):Int)] 2)).toNat<
      a.length-(toI (nth .undef [Hy (raw (o++b6 (a.length+1-k) 0)),Hx .u32 (c:Int),Hx .i64 (k:Int)] 2)).toNat):=by
   intro t ht hte;rw[Ur,Us,j5,xT (by rw[a1];omega),wa ho (by omega)];refine⟨⟨by omega,by omega⟩,by omega,by omega,⟨k+1,o++[t%1000000000],t/1000000000,by omega,by simp[ho],by rw[show a.length+1-k-1=a.length+1-(k+1)by omega],lo.append (Lv (by omega) No),by omega,zL a0 ho hv (by omega)⟩,?_⟩;simp only[nth,toI];omega
  refine⟨⟨by omega,by omega,qw a0⟩,_,qz a0,brd (λh2=>?_) (λh2=>?_)⟩
  .have a2:k<b.length:=by omega
   have hyk:=hb.get a2;have hgd:b.getD k 0=b[k]:=by simp[c4,a2]
   have hw:Pl .u32 (Pl .u32 ((c:Int)+(a[k]:Int))+(b[k]:Int))=((a[k]+c+b[k]:Nat):Int):=by rw[j5 (n:=(c:Int)+(a[k]:Int)),j5];omega
   refine⟨⟨by omega,by omega,qw a2⟩,_,qz a2,by omega,?_⟩;rw[hw];exact a3 _ (by omega) (by omega)
  .have hgd:b.getD k 0=0:=Zt (by omega);have hw:Pl .u32 ((c:Int)+(a[k]:Int))=((a[k]+c:Nat):Int):=by rw[j5];omega
   rw[hw];exact⟨by omega,a3 _ (by omega) (by omega)⟩
 .have a0:k=a.length:=by omega
  subst a0;rw[b7,cv hab]at hv;have e1:a.length+1-a.length=1:=by omega
  rw[e1]at a1 ⊢;rw[W1,qg,a1,xT (by rw[a1];omega),List.replicate_one,PG ho];have hg:=j6 (l:=o++[c]) (lo.append (Lv (by omega) No)) (by simp[ho];omega);rw[Qc,ho,hv]at hg;exact⟨⟨by omega,by omega⟩,by omega,_,hg,rfl⟩
theorem PH {a b:List Nat} (ha:Limbs a) (hb:Limbs b) (hra:a.length<=1073741823) (hrb:b.length<=1073741823):Gives CC 239 [.c (.sl (raw a)),.c (.sl (raw b))] [.c (.sl (raw (lim (val a+val b))))]:=by
 by_cases hab:a.length<b.length
 .refine qj (anns:=λ_=>⟨[.own 5 55 1,.slot 6 (.int .u32 0),.slot 7 (.int .i64 0)],[],qpI b a,qpM b⟩) mixedT Tryz.func239 ?_;have h:=J9 hb ha hrb (by omega);rw[GI];simp only[W0,qg];refine brd (λ_=>?_) (λh0=>by omega);rw[Nat.add_comm (val b)]at h;exact h
 .refine qj (anns:=λ_=>⟨[.own 5 55 1,.slot 6 (.int .u32 0),.slot 7 (.int .i64 0)],[],qpI a b,qpM a⟩) mixedT Tryz.func239 ?_;have h:=J9 ha hb hra (by omega);rw[GI];simp only[W0,qg];exact brd (λh0=>by omega) (λ_=>h)
end Eng
end
section
namespace Eng
open Go Go.Proofs
variable [Env]
theorem Qi {a b:List Nat} (ha:Limbs a) (hb:Limbs b) (hra:a.length<=1073741824) (hab:val b<=val a):Gives CC 240 [.c (.sl (raw a)),.c (.sl (raw b))] [.c (.sl (raw (lim (val a-val b))))]:=by
 refine qj (anns:=λ_=>⟨[.own 5 45 1,.slot 6 (.int .u32 0),.slot 7 (.int .i64 0)],[],λ_ ds=>∃(k:Nat) (o:List Nat) (c:Nat),k<=a.length/\o.length=k/\ds=[.sl (raw (o++b6 (a.length-k) 0)),.int .u32 (c:Int),.int .i64 (k:Int)]/\Limbs o/\c<=1/\val o+val (b.take k)=val (a.take k)+1000000000^k*c,λds=>a.length-(toI (nth .undef ds 2)).toNat⟩) mixedT Tryz.func240 ?_;rw[L5];simp only[W0,qg];refine⟨⟨by omega,by omega,by unfold room;omega⟩,⟨0,[],0,by omega,rfl,by rw[W1,xr];rfl,No,by omega,by simp[val]⟩,?_⟩;rintro es n m ⟨k,o,c,hk,ho,he,lo,hc,hv⟩;simp only[cF,Lm,Ls,true_and,and_true]at he;obtain⟨rfl,rfl,rfl⟩:=he;have hol:(o++b6 (a.length-k) 0).length=a.length:=by simp[ho];omega
 refine brd (λh1=>?_) (λh1=>?_)
 .have a0:k<a.length:=by omega
  have hxk:=ha.get a0;have hk1:Pl .i64 ((k:Int)+1)=((k+1:Nat):Int):=by rw[qR];omega
  rw[W1,hk1,qg,hol];have hw0:Pl .u32 (Pl .u32 ((a[k]:Int)+1000000000)-(c:Int))=((a[k]+1000000000-c:Nat):Int):=by rw[j5 (n:=(a[k]:Int)+1000000000),j5];omega
  refine⟨⟨by omega,by omega,qw a0⟩,_,qz a0,?_⟩;rw[hw0];refine brd (λh2=>?_) (λh2=>?_)
  .have a2:k<b.length:=by omega
   have hyk:=hb.get a2;have a1:b.getD k 0=b[k]:=by simp[c4,a2]
   refine⟨⟨by omega,by omega,qw a2⟩,_,qz a2,?_⟩;have hw:Pl .u32 (((a[k]+1000000000-c:Nat):Int)-(b[k]:Int))=((a[k]+1000000000-c-b[k]:Nat):Int):=by rw[j5];omega
   rw[hw];refine brd (λh3=>?_) (λh3=>?_)
   .have a3:Pl .u32 (((a[k]+1000000000-c-b[k]:Nat):Int)-1000000000)=((a[k]-(c+b[k]):Nat):Int):=by rw[j5];omega
    rw[a3,xT (by simp[ho];omega),wa ho (by omega)];refine⟨⟨by omega,by omega⟩,by omega,⟨k+1,o++[a[k]-(c+b[k])],0,by omega,by simp[ho],by rw[show a.length-k-1=a.length-(k+1)by omega];rfl,lo.append (Lv (by omega) No),by omega,zD a0 ho hv (by have:=a1;omega)⟩,?_⟩;simp only[nth,toI];omega
   .rw[xT (by simp[ho];omega),wa ho (by omega)];refine⟨⟨by omega,by omega⟩,by omega,⟨k+1,o++[a[k]+1000000000-c-b[k]],1,by omega,by simp[ho],by rw[show a.length-k-1=a.length-(k+1)by omega];rfl,lo.append (Lv (by omega) No),by omega,zD a0 ho hv (by have:=a1;omega)⟩,?_⟩;simp only[nth,toI];omega
  .have a1:b.getD k 0=0:=Zt (by omega);refine brd (λh3=>?_) (λh3=>?_)
   .have a3:Pl .u32 (((a[k]+1000000000-c:Nat):Int)-1000000000)=((a[k]-c:Nat):Int):=by rw[j5];omega
    rw[a3,xT (by simp[ho];omega),wa ho (by omega)];refine⟨⟨by omega,by omega⟩,by omega,⟨k+1,o++[a[k]-c],0,by omega,by simp[ho],by rw[show a.length-k-1=a.length-(k+1)by omega];rfl,lo.append (Lv (by omega) No),by omega,zD a0 ho hv (by have:=a1;omega)⟩,?_⟩;simp only[nth,toI];omega
   .rw[xT (by simp[ho];omega),wa ho (by omega)];refine⟨⟨by omega,by omega⟩,by omega,⟨k+1,o++[a[k]+1000000000-c],1,by omega,by simp[ho],by rw[show a.length-k-1=a.length-(k+1)by omega];rfl,lo.append (Lv (by omega) No),by omega,zD a0 ho hv (by have:=a1;omega)⟩,?_⟩;simp only[nth,toI];omega
 .have a0:k=a.length:=by omega
  subst a0;rw[b7]at hv;rw[gu,List.replicate_zero,c5];have h2:=qX lo;rw[ho]at h2;have h3:val b=val (b.take a.length)+1000000000^(b.take a.length).length*val (b.drop a.length):=by rw[<-qU,cc]
  have h4:=qX ha;have h5:val (b.take a.length)=val b:=by
   rcases gv b.length a.length with hl|hl
   .rw[cv (by omega)]
   .rw[b8,Nat.min_eq_left hl]at h3;rcases ey (val (b.drop a.length))with h6|h6
    .rw[h6]at h3;omega
    .have:=cL (1000000000^a.length) h6;omega
  have h6:c=0:=by
   rcases ey c with h6|h6
   .exact h6
   .have:=cL (1000000000^a.length) h6;omega
  subst h6;have hg:=j6 lo (by omega);rw[show val o=val a-val b by omega]at hg;exact⟨_,hg,rfl⟩
set_option maxHeartbeats 1000000 in
theorem Vk {a b:List Nat} (ha:Limbs a) (hb:Limbs b) (hra:a.length<=536870912) (hrb:b.length<=536870912):
 Gives CC 162 [.c (.sl (raw a)),.c (.sl (raw b))] [.c (.sl (raw (lim (val a*val b))))]:=by
 refine qj (anns:=Kt
  ⟨[.own 5 68 1,.slot 6 (.int .i64 0)],[],λ_ ds=>∃(i:Nat) (o:List Nat),i<=a.length/\ds=[.sl (raw o),.int .i64 (i:Int)]/\o.length=a.length+b.length/\Limbs o/\(∀j,i+b.length<=j->o.getD j 0=0)/\val o=val (a.take i)*val b,λds=>a.length-(toI (nth .undef ds 1)).toNat⟩
  ⟨[.own 5 68 1,.slot 7 (.int .u64 0),.slot 8 (.int .i64 0)],[.slot 6 (.int .i64 0),.own 5 68 1],λg ds=>∃(i k c:Nat) (o0 o:List Nat),g=[.int .i64 (i:Int),.sl (raw o0)]/\i<a.length/\k<=b.length/\c<1000000000/\ds=[.sl (raw o),.int .u64 (c:Int),.int .i64 (k:Int)]/\o.length=a.length+b.length/\Limbs o/\(∀j,i+b.length<=j->o.getD j 0=0)/\val o+1000000000^(i+k)*c=val o0+1000000000^i*(a.getD i 0*val (b.take k)),λds=>b.length-(toI (nth .undef ds 2)).toNat⟩) mixedT Tryz.func162 ?_
 rw[L6];simp only[W0,qg];have hab:Pl .i64 ((a.length:Int)+(b.length:Int))=((a.length+b.length:Nat):Int):=by rw[qR];omega
 rw[hab,W1,xr];refine⟨⟨by omega,by omega,by unfold room;omega⟩,⟨0,b6 (a.length+b.length) 0,by omega,rfl,by simp,λy hy=>by rw[List.eq_of_mem_replicate hy];omega,λj _=>by simp[c4,List.getElem?_replicate];split<;>rfl,by simp[kY,val]⟩,?_⟩;rintro es n ⟨i,o0,hi,he,hol,lo,hz,hv⟩;simp only[cF,Lm,Ls,true_and,and_true]at he;obtain⟨rfl,rfl⟩:=he;refine brd (λh1=>?_) (λh1=>?_)
 .have a0:i<a.length:=by omega
  have hai:=ha.get a0;refine⟨⟨i,0,0,o0,o0,rfl,a0,by omega,by omega,rfl,hol,lo,hz,by simp[val]⟩,?_⟩;rintro es m k' ⟨i',k,c,o0',o,hg,_,hk,hc,he,a2,ad,a7,ag⟩;simp only[cF,Lm,Ls,true_and,and_true]at hg he;obtain⟨hi',a5⟩:=hg;obtain⟨rfl,rfl,rfl⟩:=he;have a3:i'=i:=by omega
  subst a3;have a5:=Yn a5;subst a5;rw[xt a0]at ag;refine brd (λh2=>?_) (λh2=>?_)
  .have a1:k<b.length:=by omega
   have hbk:=hb.get a1;have hj:i'+k<o.length:=by omega
   have hoj:=ad.get hj;have hw:Pl .i64 ((i':Int)+(k:Int))=((i'+k:Nat):Int):=by rw[qR];omega
   have a4:Pl .i64 ((k:Int)+1)=((k+1:Nat):Int):=by rw[qR];omega
   rw[hw,a4,W1,W1,W1,qg];refine⟨⟨by omega,by omega⟩,_,qz hj,⟨by omega,by omega,qw a0⟩,_,qz a0,⟨by omega,by omega,qw a1⟩,_,qz a1,by omega,⟨by omega,by omega⟩,by omega,by omega,?_⟩;have hp:a[i']*b[k]<=999999999*999999999:=eb (by omega) (by omega);obtain⟨p,a6⟩:∃p,p=a[i']*b[k]:=⟨_,rfl⟩;rw[<-a6]at hp;have hpi:(a[i']:Int)*(b[k]:Int)=(p:Int):=by rw[a6];exact(bd _ _).symm
   obtain⟨t,hte⟩:∃t,t=o[i'+k]+p+c:=⟨_,rfl⟩;have ht:Pl .u64 (Pl .u64 ((c:Int)+Pl .u64 (o[i'+k]:Int))+Pl .u64 (Pl .u64 (a[i']:Int)*Pl .u64 (b[k]:Int)))=(t:Int):=by rw[xI (n:=(o[i'+k]:Int)),xI (n:=(a[i']:Int)),xI (n:=(b[k]:Int)),hpi,xI (n:=(p:Int)),xI (n:=(c:Int)+(o[i'+k]:Int)),xI];omega
   rw[ht,Ur,Us,j5 (n:=((t%1000000000:Nat):Int)),xI (n:=((t/1000000000:Nat):Int)),xT hj];refine⟨⟨i',k+1,t/1000000000,o0,o.set (i'+k) (t%1000000000),rfl,a0,by omega,by omega,rfl,by simp[a2],Qd ad (by omega),λj hjj=>by rw[jd (by omega)];exact a7 j hjj,?_⟩,?_⟩
   .have h3:=Zu (t%1000000000) hj;rw[xt hj]at h3;rw[xt a0,qM,xt a1];have h4:=K2 (k:=i'+k) (show t%1000000000+1000000000*(t/1000000000)=t by omega);rw[show i'+(k+1)=i'+k+1 by omega];have h5:1000000000^(i'+k)*t=1000000000^(i'+k)*o[i'+k]+1000000000^(i'+k)*p+1000000000^(i'+k)*c:=by rw[hte,dv,dv]
    have h6:1000000000^i'*(a[i']*(val (b.take k)+1000000000^k*b[k]))=1000000000^i'*(a[i']*val (b.take k))+1000000000^(i'+k)*p:=by rw[dv,dv,a6,fg];congr 1;simp only[dl,gn]
    omega
   .simp only[nth,toI];omega
  .have a1:k=b.length:=by omega
   subst a1;have hj:i'+b.length<o.length:=by omega
   have hw:Pl .i64 ((i':Int)+(b.length:Int))=((i'+b.length:Nat):Int):=by rw[qR];omega
   have a4:Pl .i64 ((i':Int)+1)=((i'+1:Nat):Int):=by rw[qR];omega
   rw[hw,a4,W1,qg,j5 (n:=(c:Int)),xT hj];refine⟨⟨by omega,by omega⟩,by omega,⟨i'+1,o.set (i'+b.length) c,by omega,rfl,by simp[a2],Qd ad hc,λj hjj=>by rw[jd (by omega)];exact a7 j (by omega),?_⟩,?_⟩
   .have h3:=Zu c hj;rw[a7 _ (ft _)]at h3;rw[b7]at ag;rw[qM,xt a0,ep,<-hv,dl];omega
   .simp only[nth,toI];omega
 .have a0:i=a.length:=by omega
  subst a0;rw[b7]at hv;have hg:=j6 lo (by omega);rw[hv]at hg;exact⟨_,hg,rfl⟩
theorem L7 {a:List Nat} {d:Nat} (ha:Limbs a) (hd:d<1000000000) (hra:a.length<=536870912):Gives CC 359 [.c (.sl (raw a)),.c (.int .u32 (d:Int))] [.c (.sl (raw (lim (val a*d))))]:=by
 refine qj (anns:=an0) mixedT Tryz.func359 ?_;rw[IA];have h1:=j6 (l:=[d]) (Lv hd No) (by simp);have hv:val [d]=d:=by simp[val]
 rw[hv]at h1;have hl:(lim d).length<=536870912:=by have:(lim d).length<=1:=qp (by omega);omega
 have h2:=Vk ha (qc d) hra hl;rw[qh]at h2;exact⟨_,h1,_,h2,rfl⟩
theorem Zy {x:Int} (hx:Sm x):Gives CC 158 [qN x] [qN (-x)]:=by
 refine qj (anns:=an0) mixedT Tryz.func158 ?_;have lx:=hx.len;rw[qD x,Ds];refine⟨_,_,xg (!decide (x<0)) (qc x.natAbs) (by omega) (z:= -x) ?_,rfl⟩;rw[qh];by_cases h:x<0
 .simp[h];omega
 .simp[h];omega
omit [Env] in
theorem Yt {x y n:Nat} (hx:(lim x).length<=n) (hy:(lim y).length<=n):(lim (x+y)).length<=n+1:=by
 refine qp ?_;have h1:=qX (qc x);have h2:=qX (qc y);rw[qh]at h1 h2;have hB:∀{i j:Nat},i<=j->(1000000000:Nat)^i<=1000000000^j:=λh=>en (by decide) h
 have h3:=hB hx;have h4:=hB hy;rw[ea];generalize (1000000000:Nat)^n=T at *;omega
theorem Zz {x y:Int} (hx:Sm x) (hy:Sm y):Gives CC 157 [qN x,qN y] [qN (x+y)]:=by
 refine qj (anns:=an0) mixedT Tryz.func157 ?_;have lx:=hx.len;have ly:=hy.len;have a1:(lim (x.natAbs+y.natAbs)).length<=1073741824:=by have:=Yt (n:=100000) lx ly;omega
 have Bg:∀{m n:Nat},m<=n->(lim m).length<=(lim n).length:=λ{m n} h=>qp (el h (by have:=qX (qc n);rw[qh]at this;exact this))
 rw[qD x,qD y,Dt];have hp:=PH (qc x.natAbs) (qc y.natAbs) (by omega) (by omega);rw[qh,qh]at hp;have hc:=jR (x:=x.natAbs) (y:=y.natAbs) (by omega) (by omega);refine brb (λh=>?_) (λh=>?_)
 .have hs:(x<0)↔(y<0):=by
   have:decide (x<0)=decide (y<0):=by simpa using h
   rw[decide_eq_decide]at this;exact this
  refine⟨_,hp,_,_,xg (decide (x<0)) (qc _) a1 (z:=x+y) ?_,rfl⟩;rw[qh];by_cases h1:x<0
  .have:=hs.1 h1;simp[h1];omega
  .have:¬y<0:=λh2=>h1 (hs.2 h2)
   simp[h1];omega
 .have hs:(x<0)↔¬(y<0):=by
   have h2:¬(decide (x<0)=decide (y<0)):=by simpa using h
   rw[decide_eq_decide]at h2;constructor
   .intro a b;exact h2 ⟨λ_=>b,λ_=>a⟩
   .intro b;apply F0;intro a;exact h2 ⟨λc=>absurd c a,λc=>absurd c b⟩
  refine⟨_,hc,brd (λh1=>?_) (λh1=>?_)⟩
  .have a0:y.natAbs<=x.natAbs:=by
    unfold Qw at h1;split at h1
    .omega
    .omega
   have hm:=Qi (qc x.natAbs) (qc y.natAbs) (by omega) (by rw[qh,qh];exact a0);rw[qh,qh]at hm;refine⟨_,hm,_,_,xg (decide (x<0)) (qc _) (by have:=Bg (show x.natAbs-y.natAbs<=x.natAbs by omega);omega) (z:=x+y) ?_,rfl⟩;rw[qh];by_cases h2:x<0
   .have:=hs.1 h2;simp[h2];omega
   .have:y<0:=by apply F0;intro h3;exact h2 (hs.2 h3)
    simp[h2];omega
  .have a0:x.natAbs<=y.natAbs:=by
    unfold Qw at h1;split at h1
    .omega
    .split at h1<;>omega
   have hm:=Qi (qc y.natAbs) (qc x.natAbs) (by omega) (by rw[qh,qh];exact a0);rw[qh,qh]at hm;refine⟨_,hm,_,_,xg (decide (y<0)) (qc _) (by have:=Bg (show y.natAbs-x.natAbs<=y.natAbs by omega);omega) (z:=x+y) ?_,rfl⟩;rw[qh];by_cases h2:y<0
   .have:¬x<0:=λh3=>(hs.1 h3) h2
    simp[h2];omega
   .have:=hs.2 h2;simp[h2];omega
omit [Env] in
theorem Dx {x:Int} (h:Sm x):Sm (-x):=by unfold Sm at *;rw[ap];exact h
theorem L8 {x y:Int} (hx:Sm x) (hy:Sm y):Gives CC 302 [qN x,qN y] [qN (x-y)]:=by
 refine qj (anns:=an0) mixedT Tryz.func302 ?_;have h1:=Zy hy;have h2:=Zz hx (Dx hy);rw[qD y]at h1;rw[qD x]at h2;rw[qD x,qD y,Du];exact⟨_,_,h1,_,_,h2,rfl⟩
theorem jf {x y:Int} (hx:Sm x) (hy:Sm y):Gives CC 88 [qN x,qN y] [qN (x*y)]:=by
 refine qj (anns:=an0) mixedT Tryz.func88 ?_;have lx:=hx.len;have ly:=hy.len;have ht:=Vk (qc x.natAbs) (qc y.natAbs) (by omega) (by omega);rw[qh,qh]at ht;have lp:(lim (x.natAbs*y.natAbs)).length<=1073741824:=by
  have h1:=qX (qc x.natAbs);have h2:=qX (qc y.natAbs);rw[qh]at h1 h2;have h3:x.natAbs*y.natAbs<1000000000^((lim x.natAbs).length+(lim y.natAbs).length):=by rw[fg];exact eH h1 h2
  have:=qp h3;omega
 rw[qD x,qD y,Dv];refine⟨_,ht,_,_,xg (!(decide (x<0)==decide (y<0))) (qc _) lp (z:=x*y) ?_,rfl⟩;rw[qh];have hm:(x*y).natAbs=x.natAbs*y.natAbs:=ba x y;by_cases h1:x<0<;>by_cases h2:y<0
 .have:=Int.mul_pos_of_neg_of_neg h1 h2;simp[h1,h2];omega
 .have:x*y<=0:=Int.mul_nonpos_of_nonpos_of_nonneg (by omega) (by omega);simp[h1,h2];omega
 .have:x*y<=0:=Int.mul_nonpos_of_nonneg_of_nonpos (by omega) (by omega);simp[h1,h2];omega
 .have:0<=x*y:=Int.mul_nonneg (by omega) (by omega);simp[h1,h2];omega
end Eng
end
section
namespace Eng
open Go Go.Proofs
variable [Env]
def we:Prop:=∀x y:Nat,y≠0->(lim x).length<=100000->(lim y).length<=100000->
 Gives CC 292 [.c (.sl (raw (lim x))),.c (.sl (raw (lim y)))] [.c (.sl (raw (lim (x/y)))),.c (.sl (raw (lim (x%y))))]
omit [Env] in
theorem Bg {m n:Nat} (h:m<=n):(lim m).length<=(lim n).length:=
 qp (el h (by have:=qX (qc n);rw[qh]at this;exact this))
theorem Yu (hd:we) {x y:Int} (hx:Sm x) (hy:Sm y):Gives CC 227 [qN x,qN y] [qN (eL x.natAbs y.natAbs:Nat)]:=by
 generalize hG:eL x.natAbs y.natAbs=G;refine qj (anns:=Kt
  ⟨[.slot 5 (.slice none 0 0),.slot 6 (.slice none 0 0)],[],λ_ ds=>∃m n:Nat,ds=[.sl (raw (lim m)),.sl (raw (lim n))]/\eL m n=G/\m<K3/\n<K3,λds=>valD (toL (nth .undef ds 1))⟩
  ⟨[.slot 9 (.int .u64 0),.slot 10 (.int .u64 0)],[],λ_ ds=>∃u v:Nat,ds=[.int .u64 (u:Int),.int .u64 (v:Int)]/\eL u v=G/\u<1000000000000000000/\v<1000000000000000000,λds=>(toI (nth .undef ds 1)).toNat⟩) mixedT Tryz.func227 ?_
 rw[qD x,qD y,Dw];simp only[W0];refine⟨⟨x.natAbs,y.natAbs,rfl,hG,hx,hy⟩,?_⟩;rintro es fs ⟨m,n,he,hg,hm,hn⟩;simp only[cF,Ls,and_true]at he;obtain⟨rfl,rfl⟩:=he;have lm:=(smN.2 hm).len;have ln:=(smN.2 hn).len;rw[Ts]at lm ln;rw[qg,qg];have a2:0<n->∃es_2 es_3,Gives CC 292 [Hu (Hy (raw (lim m))),Hu (Hy (raw (lim n)))] [Hu (Hy es_2),Hu (Hy es_3)]/\
  (∃m' n':Nat,[Hy (raw (lim n)),Hy es_3]=[.sl (raw (lim m')),.sl (raw (lim n'))]/\eL m' n'=G/\m'<K3/\n'<K3)/\
  valD (toL (nth .undef [Hy (raw (lim n)),Hy es_3] 1))<valD (toL (nth .undef [Hy (raw (lim m)),Hy (raw (lim n))] 1)):=by
  intro a1;have a3:=e7 m a1;refine⟨_,_,hd m n (by omega) lm ln,⟨n,m%n,rfl,?_,hn,by omega⟩,?_⟩
  .rw[<-hg,fR n,<-gy,fR]
  .simp only[nth,toL,Qf,qh];exact a3
 have a0:∀{k:Nat},¬((lim k).length:Int)>2->k<1000000000000000000:=by
  intro k hk;have h1:=qX (qc k);rw[qh]at h1;have h2:1000000000^(lim k).length<=1000000000^2:=en (by omega) (by omega);have h3:(1000000000:Nat)^2=1000000000000000000:=by decide
  omega
 have a4:n=0->∃b es_2,Gives CC 159 [Hu (J4 false),Hu (Hy (raw (lim m)))] [Hv [J4 b,Hy es_2]]/\[Hv [J4 b,Hy es_2]]=[qN (G:Int)]:=by intro a1;subst a1;rw[gm]at hg;subst hg;exact⟨_,_,xg false (qc m) (by omega) (z:=(m:Int)) (by simp[qh]),rfl⟩
 have a5:m<1000000000000000000->n<1000000000000000000->
  ∃a,Gives CC 293 [Hu (Hy (raw (lim m)))] [Hu (Hx P1 a)]/\∃b,Gives CC 293 [Hu (Hy (raw (lim n)))] [Hu (Hx P1 b)]/\
   (∃u v:Nat,[Hx P1 a,Hx P1 b]=[.int .u64 (u:Int),.int .u64 (v:Int)]/\eL u v=G/\u<1000000000000000000/\v<1000000000000000000)/\
   ∀(n n_2:Int),(∃u v:Nat,[Hx P1 n,Hx P1 n_2]=[.int .u64 (u:Int),.int .u64 (v:Int)]/\eL u v=G/\u<1000000000000000000/\v<1000000000000000000)->
    br (toB (J4 (decide (n_2>(0:Int)))))
     (n_2≠(0:Int)/\
      (∃u v:Nat,[Hx P1 n_2,Hx P1 (an n n_2)]=[.int .u64 (u:Int),.int .u64 (v:Int)]/\eL u v=G/\u<1000000000000000000/\v<1000000000000000000)/\
       (toI (nth .undef [Hx P1 n_2,Hx P1 (an n n_2)] 1)).toNat<(toI (nth .undef [Hx P1 n,Hx P1 n_2] 1)).toNat)
     (∃es,Gives CC 160 [Hu (Hx P1 n)] [Hu (Hy es)]/\
      ∃b es_2,Gives CC 159 [Hu (J4 false),Hu (Hy es)] [Hv [J4 b,Hy es_2]]/\[Hv [J4 b,Hy es_2]]=[qN (G:Int)]):=by
  intro sm sn;have h3:(1000000000:Nat)^2=1000000000000000000:=by decide
  have g1:=Qg (qc m) (qp (by omega));have g2:=Qg (qc n) (qp (by omega));rw[qh]at g1 g2;refine⟨_,g1,_,g2,⟨m,n,rfl,hg,sm,sn⟩,?_⟩;rintro a b ⟨u,v,he,a6,hu,hv⟩;simp only[cF,Lm,true_and,and_true]at he;obtain⟨rfl,rfl⟩:=he;refine brd (λh2=>?_) (λh2=>?_)
  .have a7:0<v:=by omega
   have e2:an (u:Int) (v:Int)=((u%v:Nat):Int):=by rw[be (by omega)];rfl
   have a3:=e7 u a7;rw[e2];refine⟨by omega,⟨v,u%v,rfl,by rw[<-a6,fR v,<-gy,fR],hv,by omega⟩,?_⟩;simp only[nth,toI,W1];exact a3
  .have a7:v=0:=by omega
   subst a7;rw[gm]at a6;subst a6;have:(lim u).length<=2:=qp (by omega);exact⟨_,wW (by omega),_,_,xg false (qc u) (by omega) (z:=(u:Int)) (by simp[qh]),rfl⟩
 refine brd (λh=>?_) (λh=>?_)
 .have a1:0<n:=qC.1 (by omega);refine brd (λh1=>a2 a1) (λh1=>brd (λh2=>a2 a1) (λh2=>brb (λh3=>?_) (λ_=>a5 (a0 h1) (a0 h2))));have:((lim n).length:Int)=0:=by simpa using h3
  omega
 .have a1:n=0:=by
   rcases ey n with h0|h0
   .exact h0
   .have:=qC.2 h0;omega
  refine brb (λ_=>a4 a1) (λh3=>?_);subst a1;simp[K1]at h3
theorem jC (hd:we) {x y:Int} (hx:Sm x) (hy:Sm y) (hy0:0<y):Gives CC 238 [qN x,qN y] [qN (x/y),qN (x%y),.c (.int .i64 0)]:=by
 refine qj (anns:=an0) mixedT Tryz.func238 ?_;have lx:=hx.len;have ly:=hy.len;have hyn:y.natAbs≠0:=by omega
 have hlp:0<(lim y.natAbs).length:=qC.2 (by omega);have h1:=hd x.natAbs y.natAbs hyn lx ly;have hqs:(x/y).natAbs<=x.natAbs+1:=by have:=bc x y;omega
 rw[qD x,qD y,Uu];simp only[W0];obtain⟨a,ha⟩:∃a:Nat,x.natAbs=a:=⟨_,rfl⟩;obtain⟨b,hb⟩:∃b:Nat,y=(b:Int):=⟨y.natAbs,by omega⟩;have a0:y.natAbs=b:=by omega
 have hb0:0<b:=by omega
 rw[ha,a0]at h1;rw[ha]at lx;rw[a0]at ly;have hdm:=eU a b;have hml:=e7 a hb0;have lq:(lim (a/b)).length<=100000:=ez (Bg (gp a b)) lx;have lr:(lim (a%b)).length<=100000:=ez (Bg (Nat.mod_le a b)) lx;refine brb (λh=>?_) (λ_=>?_)
 .rw[qg]at h;have:((lim y.natAbs).length:Int)=0:=by simpa using h
  omega
 have a2:decide (y<0)=false:=decide_eq_false (by omega);rw[a2];by_cases hx0:x<0
 .have hxt:decide (x<0)=true:=decide_eq_true hx0;rw[hxt,ha,a0];have a1:x= -(a:Int):=by omega
  have gq:=xg true (qc (a/b)) (by omega) (z:= -((a/b:Nat):Int)) (by rw[qh];rfl);have gr:=xg true (qc (a%b)) (by omega) (z:= -((a%b:Nat):Int)) (by rw[qh];rfl);refine⟨_,_,h1,_,_,gq,_,_,gr,?_⟩;rw[qg];refine brd (λh=>brb (λh2=>?_) (λh2=>?_)) (λh=>?_)
  .have hr0:0<a%b:=qC.1 (by omega);have g1:=zM (n:=1) (by omega) (by omega);have hq:(a/b)<K3:=el (gp _ _) (ha▸hx);have sq:Sm (-((a/b:Nat):Int)):=by unfold Sm;rw[ap,Ts];exact hq
   have sr:Sm (-((a%b:Nat):Int)):=by unfold Sm;rw[ap,Ts];exact Nat.lt_trans hml (a0▸hy)
   have gs:=L8 sq GC;have ga:=Zz sr hy;have ga2:Gives CC 157 [qN (-((a%b:Nat):Int)),.ag [.bool false,.sl (raw (lim b))]] [qN (-((a%b:Nat):Int)+y)]:=by
    have e0:qN y= .ag [.bool false,.sl (raw (lim b))]:=by rw[qD y,a2,a0]
    rw[e0]at ga;exact ga
   refine⟨_,_,g1,_,_,gs,_,_,ga2,?_⟩;have e1:x/y= -((a/b:Nat):Int)-1/\x%y= -((a%b:Nat):Int)+y:=by
    have:=bh (a:=x) (b:=y) (r:= -((a%b:Nat):Int)+y) (q:= -((a/b:Nat):Int)-1) hy0;refine this.2 ⟨?_,by omega,by omega⟩;rw[a1,hb];have h5:(b:Int)*(-((a/b:Nat):Int)-1)= -((b*(a/b):Nat):Int)-b:=by rw[Int.mul_sub,bm,Int.mul_one,bd]
    rw[h5];omega
   rw[e1.1,e1.2];rfl
  .simp at h2
  .have hr0:a%b=0:=by
    rcases ey (a%b)with h0|h0
    .exact h0
    .have:=qC.2 h0;omega
   have e1:x/y= -((a/b:Nat):Int)/\x%y= -((a%b:Nat):Int):=by have:=bh (a:=x) (b:=y) (r:= -((a%b:Nat):Int)) (q:= -((a/b:Nat):Int)) hy0;refine this.2 ⟨?_,by omega,by omega⟩;rw[a1,hb,bm,<-bd];omega
   rw[e1.1,e1.2];rfl
 .have hxf:decide (x<0)=false:=decide_eq_false hx0;rw[hxf,ha,a0];have a1:x=(a:Int):=by omega
  have gq:=xg false (qc (a/b)) (by omega) (z:=((a/b:Nat):Int)) (by rw[qh];rfl);have gr:=xg false (qc (a%b)) (by omega) (z:=((a%b:Nat):Int)) (by rw[qh];rfl);refine⟨_,_,h1,_,_,gq,_,_,gr,?_⟩;have e1:x/y=((a/b:Nat):Int)/\x%y=((a%b:Nat):Int):=by rw[a1,hb];exact⟨rfl,rfl⟩
  refine brd (λh=>brb (λh2=>?_) (λh2=>?_)) (λh=>?_)
  .simp at h2
  .rw[e1.1,e1.2];rfl
  .rw[e1.1,e1.2];rfl
theorem Xp:Gives CC 86 [] [qN 1]:=by
 refine qj (anns:=an0) mixedT Tryz.func86 ?_;rw[PB];exact⟨_,_,zM (n:=1) (by omega) (by omega),rfl⟩
omit [Env] in
theorem PI (z:Int):cI z=[.bool (decide (z<0)),.sl (raw (lim z.natAbs))]:=rfl
theorem L9 (hd:we) {x y:Int} (hx:Sm x) (hy:Sm y) (hy0:y≠0):Gives CC 156 [qN x,qN y] [xy (hf x y)]:=by
 refine qj (anns:=Oz an0 3 ⟨[.box 2 [.bool false,.slice none 0 0],.box 3 [.bool false,.slice none 0 0]],[.box 2 [.bool false,.slice none 0 0],.box 3 [.bool false,.slice none 0 0]],λ_ ds=>∃u v:Int,ds=cI u++cI v/\Sm u/\Sm v/\0<v/\hf u v=hf x y,λ_=>0⟩) mixedT Tryz.func156 ?_;rw[qD x,qD y,I9];have hS:=Qh y;rw[qD y]at hS;have a1:=Zy hx;have a2:=Zy hy;rw[qD x,qD]at a1;rw[qD y,qD]at a2;refine⟨⟨_,hS,brd (λh=>?_) (λh=>?_)⟩,?_⟩
 .have a3:y<0:=by
   unfold sgn at h;split at h
   .assumption
   .split at h<;>omega
  exact⟨_,_,a1,_,_,a2, -x, -y,rfl,GD hx,GD hy,by omega,by rw[hM]⟩
 .have a3:0<y:=by
   unfold sgn at h;split at h
   .omega
   .omega
  exact⟨x,y,rfl,hx,hy,a3,rfl⟩
 .rintro b1 es1 b2 es2 ⟨u,v,he,hu,hv,hv0,hr⟩;simp only[PI,List.cons_append,List.nil_append,cF,D.bool.injEq,Ls,and_true]at he;obtain⟨rfl,rfl,rfl,rfl⟩:=he;obtain⟨g,hg⟩:∃g:Nat,g=eL u.natAbs v.natAbs:=⟨_,rfl⟩;have hgp:0<g:=by rw[hg];exact Nat.gcd_pos_of_pos_right _ (by omega)
  have a0:Sm (g:Int):=smN.2 (by rw[hg];exact el (Nat.gcd_le_right _ (by omega)) hv);have g1:=Yu hd hu hv;rw[<-hg]at g1;have g2:=jC hd hu a0 (by omega);have g3:=jC hd hv a0 (by omega);refine⟨_,_,g1,_,_,_,_,_,g2,_,_,_,_,_,g3,?_⟩;rw[<-hr,wb hv0,<-hg];rfl
theorem PJ (hd:we) {x y:Int} (hx:Sm x) (hy:Sm y):
 Gives CC 400 [qN x,qN y] (if y=0 then [.ag [.bool false,.sl [],.bool false,.sl []],.c (.int .i64 6)]else [xy (hf x y),.c (.int .i64 0)]):=by
 refine qj (anns:=an0) mixedT Tryz.func400 ?_;rw[qI x,qI y,PC];refine⟨_,Qh y,?_⟩;refine brb (λh=>?_) (λh=>?_)
 .have:y=0:=by
   unfold sgn at h;split at h
   .simp at h
   .split at h
    .simp at h
    .omega
  rw[if_pos this]
 .have:y≠0:=by rintro rfl;simp[sgn]at h
  rw[if_neg this];exact⟨q4 _,L9 hd hx hy this,rfl⟩
theorem GJ (r:Rat):Gives CC 140 [xy r] [.c (.int .i64 (sgn r.num))]:=by
 refine qj (anns:=an0) mixedT Tryz.func140 ?_;rw[qE,PD];exact⟨_,Qh r.num,rfl⟩
theorem Yv {x:Rat} (hx:Sr x):Gives CC 84 [xy x] [xy (-x)]:=by
 refine qj (anns:=an0) mixedT Tryz.func84 ?_;rw[qE,Dl];refine⟨_,_,Zy hx.1.sm,?_⟩;rw[qE,hC];have:(-x).den=x.den:=rfl;rw[this]
theorem Yw (hd:we) {x y:Rat} (hx:Sr x) (hy:Sr y):Gives CC 83 [xy x,xy y] [xy (x+y)]:=by
 refine qj (anns:=an0) mixedT Tryz.func83 ?_;rw[qE,qE,Dm];have px:=den_pos x;have py:=den_pos y;have hp:=bb px py;have e0:x+y=hf (x.num*y.den+y.num*x.den) (x.den*y.den):=by rw[<-h8 _ _ (by omega) (by omega),g7,g7]
 refine⟨_,_,jf hx.1.sm hy.2.sm,_,_,jf hy.1.sm hx.2.sm,_,_,Zz (hx.1.mul hy.2) (hy.1.mul hx.2),_,_,jf hx.2.sm hy.2.sm,q4 _,L9 hd (hx.1.mul_add hy.2 hy.1 hx.2) (hx.2.mul hy.2) (by omega),?_⟩;rw[e0];rfl
theorem LA (hd:we) {x y:Rat} (hx:Sr x) (hy:Sr y):Gives CC 37 [xy x,xy y] [xy (x-y)]:=by
 refine qj (anns:=an0) mixedT Tryz.func37 ?_;rw[qE,qE,Dn];refine⟨q4 _,Yv hy,q4 _,Yw hd hx hy.neg,?_⟩;rw[h9];rfl
theorem LB {x y:Rat} (hx:Sr x) (hy:Sr y):Gives CC 39 [xy x,xy y] [.c (.int .i64 (Dk x y))]:=by
 refine qj (anns:=an0) mixedT Tryz.func39 ?_;rw[qE,qE,Do];rw[Zx];exact⟨_,_,jf hx.1.sm hy.2.sm,_,_,jf hy.1.sm hx.2.sm,_,KC (hx.1.mul hy.2) (hy.1.mul hx.2),rfl⟩
theorem LC (hd:we) {x y:Rat} (hx:Sr x) (hy:Sr y):Gives CC 291 [xy x,xy y] [xy (x*y)]:=by
 refine qj (anns:=an0) mixedT Tryz.func291 ?_;rw[qE,qE,Dp];have px:=den_pos x;have py:=den_pos y;have:=bb px py;refine⟨_,_,jf hx.1.sm hy.1.sm,_,_,jf hx.2.sm hy.2.sm,q4 _,L9 hd (hx.1.mul hy.1) (hx.2.mul hy.2) (by omega),?_⟩;have e:x*y=hf (x.num*y.num) (x.den*y.den):=by rw[<-h7,g7,g7]
 rw[e];rfl
theorem Dy (hd:we) {x y:Rat} (hx:Sr x) (hy:Sr y):
 Gives CC 346 [xy x,xy y] (if y=0 then [.ag [.bool false,.sl [],.bool false,.sl []],.c (.int .i64 6)]else [xy (x/y),.c (.int .i64 0)]):=by
 refine qj (anns:=an0) mixedT Tryz.func346 ?_;rw[qE,qE,Dq];have px:=den_pos x;have py:=den_pos y;have hm:=PJ hd (hx.1.mul hy.2) (hx.2.mul hy.1);by_cases hn:y.num=0
 .have:y=0:=hE.1 hn;rw[if_pos this];rw[if_pos (by rw[hn,Int.mul_zero])]at hm;exact⟨_,_,jf hx.1.sm hy.2.sm,_,_,jf hx.2.sm hy.1.sm,⟨false,[],false,[]⟩,_,hm,rfl⟩
 .have:y≠0:=λh=>hn (hE.2 h)
  rw[if_neg this];have h0:(x.den:Int)*y.num≠0:=Int.mul_ne_zero (by omega) hn;rw[if_neg h0]at hm;refine⟨_,_,jf hx.1.sm hy.2.sm,_,_,jf hx.2.sm hy.1.sm,q4 _,_,hm,?_⟩;have e:x/y=hf (x.num*y.den) (x.den*y.num):=by rw[hR,<-h7,g7,<-hQ,g7]
  rw[e];rfl
theorem zN {n:Int} (h1: -9223372036854775808<=n) (h2:n<9223372036854775808):Gives CC 38 [.c (.int .i64 n)] [xy (n:Rat)]:=by
 refine qj (anns:=an0) mixedT Tryz.func38 ?_;rw[K9];refine⟨_,_,zM h1 h2,_,_,Xp,?_⟩;rw[qE,hD,hH];rfl
end Eng
end
section
namespace Eng
open Go Go.Proofs
def Hz (k:Nat) (r:Rat):Prop:=r.num.natAbs<=10^k/\r.den<=10^k
theorem Hz.mono {k m:Nat} {r:Rat} (h:Hz k r) (hk:k<=m):Hz m r:=
 ⟨ez h.1 (en (by omega) hk),ez h.2 (en (by omega) hk)⟩
theorem gQ {n:Nat} (hn:n=9*100*100*4):Xg=10^n:=by
 have e:(1000000000:Nat)=10^9:=by decide
 unfold Xg;rw[e];exact pow4 hn
theorem Hz.sr {k:Nat} {r:Rat} (h:Hz k r) (hk:k<360000):Sr r:=by
 obtain⟨n,hn⟩:∃n,n=9*100*100*4:=⟨_,rfl⟩;have h1:10^k<Xg:=by rw[gQ hn];exact Nat.pow_lt_pow_right (by omega) (by omega)
 refine⟨el h.1 h1,?_⟩;unfold Sq;rw[Ts];exact el h.2 h1
theorem Hz.divInt {n d:Int} {k:Nat} (hd:0<d) (h1:n.natAbs<=10^k) (h2:d.natAbs<=10^k):Hz k (hf n d):=by
 obtain⟨e1,e2⟩:=Zw (n:=n) hd;constructor
 .rw[e1];exact ez (bc _ _) h1
 .have:((hf n d).den:Int).natAbs<=d.natAbs:=by rw[e2];exact bc _ _
  rw[Ts]at this;exact ez this h2
theorem Hz.neg {k:Nat} {r:Rat} (h:Hz k r):Hz k (-r):=by
 refine⟨?_,h.2⟩;rw[hC,ap];exact h.1
theorem Hz.mul {j k l:Nat} {x y:Rat} (hx:Hz j x) (hy:Hz k y) (h:j+k<=l:=by omega):Hz l (x*y):=by
 have e:x*y=hf (x.num*y.num) (x.den*y.den):=by rw[<-h7,g7,g7]
 have px:=den_pos x;have py:=den_pos y;refine Hz.mono (k:=j+k) ?_ h;rw[e];refine Hz.divInt (bb px py) ?_ ?_
 .rw[ba,fg];exact eb hx.1 hy.1
 .rw[ba,fg,Ts,Ts];exact eb hx.2 hy.2
theorem Hz.add {j k l:Nat} {x y:Rat} (hx:Hz j x) (hy:Hz k y) (h:j+k+1<=l:=by omega):Hz l (x+y):=by
 have px:=den_pos x;have py:=den_pos y;have e0:x+y=hf (x.num*y.den+y.num*x.den) (x.den*y.den):=by rw[<-h8 _ _ (by omega) (by omega),g7,g7]
 refine Hz.mono (k:=j+k+1) ?_ h;rw[e0];have hp:10^(j+k+1)=10*(10^j*10^k):=by rw[ea,fg,dc]
 have a1:(x.num*y.den).natAbs<=10^j*10^k:=by rw[ba,Ts];exact eb hx.1 hy.2
 have a2:(y.num*x.den).natAbs<=10^j*10^k:=by rw[ba,Ts,dc];exact eb hx.2 hy.1
 have a3:((x.den:Int)*y.den).natAbs<=10^j*10^k:=by rw[ba,Ts,Ts];exact eb hx.2 hy.2
 refine Hz.divInt (bb px py) ?_ ?_
 .rw[hp];generalize 10^j*10^k=T at *;have:=Int.natAbs_add_le (x.num*y.den) (y.num*x.den);omega
 .rw[hp];generalize 10^j*10^k=T at *;omega
theorem Hz.sub {j k l:Nat} {x y:Rat} (hx:Hz j x) (hy:Hz k y) (h:j+k+1<=l:=by omega):Hz l (x-y):=by
 rw[h9];exact hx.add hy.neg h
theorem Hz.inv {k:Nat} {y:Rat} (hy:Hz k y) (h:y≠0):Hz k (y⁻¹):=by
 have hn:y.num≠0:=λh0=>h (hE.1 h0)
 have e:y⁻¹=hf y.den y.num:=by rw[<-hQ,g7]
 rw[e];by_cases hp:0<y.num
 .exact Hz.divInt hp (by rw[Ts];exact hy.2) hy.1
 .have e2:hf (y.den:Int) y.num=hf (-(y.den:Int)) (-y.num):=(hM _ _).symm;rw[e2];exact Hz.divInt (by omega) (by rw[ap,Ts];exact hy.2) (by rw[ap];exact hy.1)
theorem Hz.div {j k l:Nat} {x y:Rat} (hx:Hz j x) (hy:Hz k y) (h0:y≠0) (h:j+k<=l):Hz l (x/y):=by
 rw[hR];exact hx.mul (hy.inv h0) h
theorem Hz.int {n:Int} {k:Nat} (h:n.natAbs<=10^k):Hz k (n:Rat):=by
 refine⟨by rw[hD];exact h,by rw[hH];exact gx (by omega)⟩
theorem Hz.zero {k:Nat}:Hz k 0:=Hz.int (n:=0) (by simp)
theorem Hz.one {k:Nat}:Hz k 1:=Hz.int (n:=1) (gx (by omega))
end Eng
end
section
namespace Eng
namespace Rl
def sr (a:Rat):Int:=if 0<a then 1 else if a<0 then-1 else 0
end Rl
end Eng
end
section
namespace Eng
open Rl
abbrev Mon:=Int×List Nat
abbrev Pol:=List Mon
variable (ρ:Nat->Rat)
def KD (x:Rat):Nat->Rat
 |0=>1
 |n+1=>x*KD x n
def evE:Nat->List Nat->Rat
 |_,[]=>1
 |i,e::r=>KD (ρ i) e*evE (i+1) r
def evM (m:Mon):Rat:=(m.1:Rat)*evE ρ 0 m.2
def evP:Pol->Rat
 |[]=>0
 |m::r=>evM ρ m+evP r
def eqE:List Nat->List Nat->Bool
 |[],[]=>true
 |a::r,b::s=>Nat.beq a b&&eqE r s
 |_,_=>false
def ltE:List Nat->List Nat->Bool
 |a::r,b::s=>match Nat.blt a b with
  |true=>true
  |false=>Nat.beq a b&&ltE r s
 |[],_::_=>true
 |_,_=>false
def Bh (m:Mon):Pol->Pol
 |[]=>[m]
 |k::r=>match eqE m.2 k.2 with
  |true=>match m.1+k.1 with
   | .ofNat 0=>r
   |c=>(c,k.2)::r
  |false=>match ltE m.2 k.2 with
   |true=>m::k::r
   |false=>k::Bh m r
def jD:Pol->Pol->Pol
 |[],q=>q
 |m::r,q=>Bh m (jD r q)
def vZ:Pol->Pol
 |[]=>[]
 |(c,e)::r=>(-c,e)::vZ r
def Dz:List Nat->List Nat->List Nat
 |[],s=>s
 |r,[]=>r
 |a::r,b::s=>(a+b)::Dz r s
def IB (m:Mon):Pol->Pol
 |[]=>[]
 |k::r=>Bh (m.1*k.1,Dz m.2 k.2) (IB m r)
def ZO:Pol->Pol->Pol
 |[],_=>[]
 |m::r,q=>jD (IB m q) (ZO r q)
theorem Bi:∀{a b:List Nat},eqE a b=true->a=b
 |[],[],_=>rfl
 |a::r,b::s,h=>by unfold eqE at h;rw[Aw]at h;rw[Nat.eq_of_beq_eq_true h.1,Bi h.2]
 |[],_::_,h=>by cases h
 |_::_,[],h=>by cases h
theorem Yx (m:Mon):∀p:Pol,evP ρ (Bh m p)=evM ρ m+evP ρ p
 |[]=>rfl
 |k::r=>by
  unfold Bh;cases he:eqE m.2 k.2 with
  |true=>
   have e:=Bi he;have s:evM ρ m+evM ρ k=((m.1+k.1:Int):Rat)*evE ρ 0 k.2:=by unfold evM;rw[e,Rat.intCast_add];grind
   show evP ρ (match m.1+k.1 with
    | .ofNat 0=>r
    |c=>(c,k.2)::r)=evM ρ m+(evM ρ k+evP ρ r)
   split
   .rename_i h0;rw[show m.1+k.1=0 from h0]at s;have:((0:Int):Rat)=0:=rfl;rw[this]at s
    grind
   .show(((m.1+k.1:Int):Rat)*evE ρ 0 k.2)+evP ρ r=_;rw[<-s];grind
  |false=>
   cases ltE m.2 k.2 with
   |true=>rfl
   |false=>show evM ρ k+evP ρ (Bh m r)=evM ρ m+(evM ρ k+evP ρ r);rw[Yx m r];grind
theorem xM:∀p q:Pol,evP ρ (jD p q)=evP ρ p+evP ρ q
 |[],q=>by show evP ρ q=0+evP ρ q;grind
 |m::r,q=>by show evP ρ (Bh m (jD r q))=(evM ρ m+evP ρ r)+evP ρ q;rw[Yx,xM r q];grind
theorem yu:∀p:Pol,evP ρ (vZ p)= -evP ρ p
 |[]=>by show(0:Rat)= -0;grind
 |(c,e)::r=>by show((-c:Int):Rat)*evE ρ 0 e+evP ρ (vZ r)= -((c:Rat)*evE ρ 0 e+evP ρ r);rw[yu r,Rat.intCast_neg];grind
theorem GK (x:Rat) (a:Nat):∀b:Nat,KD x (a+b)=KD x a*KD x b
 |0=>by show KD x a=KD x a*1;grind
 |b+1=>by show x*KD x (a+b)=KD x a*(x*KD x b);rw[GK x a b];grind
theorem LE:∀(i:Nat) (a b:List Nat),evE ρ i (Dz a b)=evE ρ i a*evE ρ i b
 |i,[],s=>by show evE ρ i s=1*evE ρ i s;grind
 |i,a::r,[]=>by show evE ρ i (a::r)=evE ρ i (a::r)*1;grind
 |i,a::r,b::s=>by show KD (ρ i) (a+b)*evE ρ (i+1) (Dz r s)=KD (ρ i) a*evE ρ (i+1) r*(KD (ρ i) b*evE ρ (i+1) s);rw[GK (ρ i) a b,LE (i+1) r s];grind
theorem LF (m:Mon):∀q:Pol,evP ρ (IB m q)=evM ρ m*evP ρ q
 |[]=>by show(0:Rat)=evM ρ m*0;grind
 |k::r=>by
  show evP ρ (Bh (m.1*k.1,Dz m.2 k.2) (IB m r))=evM ρ m*(evM ρ k+evP ρ r);rw[Yx,LF m r];have:evM ρ (m.1*k.1,Dz m.2 k.2)=evM ρ m*evM ρ k:=by unfold evM;show((m.1*k.1:Int):Rat)*evE ρ 0 (Dz m.2 k.2)=_;rw[LE,Rat.intCast_mul];grind
  rw[this];grind
theorem z3:∀p q:Pol,evP ρ (ZO p q)=evP ρ p*evP ρ q
 |[],q=>by show(0:Rat)=0*evP ρ q;grind
 |m::r,q=>by show evP ρ (jD (IB m q) (ZO r q))=(evM ρ m+evP ρ r)*evP ρ q;rw[xM,LF,z3 r q];grind
def D0:List Bool->List Nat->Bool
 |_,[]=>true
 |[],0::r=>D0 [] r
 |[],(_+1)::_=>false
 |true::bs,_::r=>D0 bs r
 |false::bs,0::r=>D0 bs r
 |false::_,(_+1)::_=>false
def sgA (bs:List Bool) (s:Bool):Pol->Bool
 |[]=>true
 |(c,e)::r=>(match s with
  |true=>decide (0<c)
  |false=>decide (c<0))&&(D0 bs e&&sgA bs s r)
def sgP (bs:List Bool) (p:Pol):Option Int:=
 match p with
 |[]=>some 0
 |_=>match sgA bs true p with
  |true=>some 1
  |false=>match sgA bs false p with
   |true=>some (-1)
   |false=>none
def Uw (bs:List Bool):Prop:=∀i,bs[i]? =some true->0<ρ i
theorem GL {x:Rat} (h:0<x):∀n,0<KD x n
 |0=>by show(0:Rat)<1;decide
 |n+1=>hK h (GL h n)
theorem KE:∀(bs:List Bool) (e:List Nat) (i:Nat),(∀j,bs[j]? =some true->0<ρ (i+j))->D0 bs e=true->0<evE ρ i e
 |_,[],_,_,_=>by show(0:Rat)<1;decide
 |[],0::r,i,h,hp=>by
  show(0:Rat)<1*evE ρ (i+1) r;have:=KE [] r (i+1) (λj hj=>by simp at hj) hp
  grind
 |[],(_+1)::_,_,_,hp=>by cases hp
 |true::bs,e::r,i,h,hp=>by
  refine hK (GL (by have:=h 0 rfl;exact this) e) ?_;have hp:D0 bs r=true:=by simpa only[D0]using hp
  exact KE bs r (i+1) (λj hj=>by have:=h (j+1) (by simpa using hj);rwa [show i+1+j=i+(j+1)by omega]) hp
 |false::bs,0::r,i,h,hp=>by
  show(0:Rat)<1*evE ρ (i+1) r;have:=KE bs r (i+1) (λj hj=>by have:=h (j+1) (by simpa using hj);rwa [show i+1+j=i+(j+1)by omega]) hp
  grind
 |false::_,(_+1)::_,_,_,hp=>by cases hp
theorem Yy {bs:List Bool} (hb:Uw ρ bs):∀p:Pol,sgA bs true p=true->0<=evP ρ p/\(p≠[]->0<evP ρ p)
 |[],_=>⟨Rat.le_refl,λh=>absurd rfl h⟩
 |(c,e)::r,h=>by
  unfold sgA at h;simp only[Aw,decide_eq_true_eq]at h;obtain⟨h1,h2,h3⟩:=h;have k1:=KE ρ bs e 0 (λj hj=>by rw[gb];exact hb j hj) h2;have k2:=(Yy hb r h3).1;have k3:(0:Rat)<(c:Rat):=by have:=Rat.intCast_lt_intCast.2 h1;exact this
  have k4:=hK k3 k1;have k5:0<evP ρ ((c,e)::r):=by show 0<(c:Rat)*evE ρ 0 e+evP ρ r;grind
  exact⟨Rat.le_of_lt k5,λ_=>k5⟩
theorem LG {bs:List Bool}:∀p:Pol,sgA bs false p=true->sgA bs true (vZ p)=true
 |[],_=>rfl
 |(c,e)::r,h=>by unfold sgA at h;simp only[Aw,decide_eq_true_eq]at h;show sgA bs true ((-c,e)::vZ r)=true;unfold sgA;simp only[Aw,decide_eq_true_eq];exact⟨by omega,h.2.1,LG r h.2.2⟩
theorem Bj {bs:List Bool} (hb:Uw ρ bs) {p:Pol} {s:Int} (h:sgP bs p=some s):sr (evP ρ p)=s:=by
 unfold sgP at h;split at h
 .obtain rfl:=gz h;show sr 0=0;simp[sr]
 .rename_i hp;have a0:p≠[]:=λe=>hp e
  split at h
  .rename_i k;obtain rfl:=gz h;have:=(Yy ρ hb p k).2 a0;unfold sr;rw[if_pos this]
  .split at h
   .rename_i k;obtain rfl:=gz h;have hn:vZ p≠[]:=by
     cases p with
     |nil=>exact absurd rfl a0
     |cons m r=>obtain⟨c,e⟩:=m;intro e;cases e
    have:=(Yy ρ hb _ (LG p k)).2 hn;rw[yu]at this;unfold sr;rw[if_neg (by grind),if_pos (by grind)]
   .cases h
def IC (q:Pol):Nat->Pol
 |0=>[(1,[])]
 |n+1=>ZO (IC q n) q
def zE:Nat->List Nat->List Nat
 |0,e=>e
 |n+1,e=>0::zE n e
def prE:Nat->List Pol->List Nat->Pol
 |_,_,[]=>[(1,[])]
 |i,[],e=>[(1,zE i e)]
 |i,q::s,k::r=>ZO (IC q k) (prE (i+1) s r)
def e9 (σ:List Pol):Pol->Pol
 |[]=>[]
 |(c,e)::r=>jD (ZO [(c,[])] (prE 0 σ e)) (e9 σ r)
theorem LH (q:Pol):∀n,evP ρ (IC q n)=KD (evP ρ q) n
 |0=>by show(1:Rat)*1+0=1;grind
 |n+1=>by unfold IC KD;rw[z3,LH q n];grind
theorem PK:∀(j i:Nat) (e:List Nat),evE ρ j (zE i e)=evE ρ (j+i) e
 |_,0,_=>rfl
 |j,i+1,e=>by
  show KD (ρ j) 0*evE ρ (j+1) (zE i e)=_;rw[PK (j+1) i e,show j+1+i=j+(i+1)by omega];show(1:Rat)*_=_
  grind
theorem Bk:∀(e:List Nat) (i:Nat) (s:List Pol),(∀(j:Nat) q,s[j]? =some q->evP ρ q=ρ (i+j))->evP ρ (prE i s e)=evE ρ i e
 |[],i,s,_=>by
  have:prE i s []=[(1,[])]:=by unfold prE;rfl
  rw[this];show(1:Rat)*1+0=1;grind
 |k::r,i,[],_=>by show(1:Rat)*evE ρ 0 (zE i (k::r))+0=_;rw[PK,gb];grind
 |k::r,i,q::s,h=>by
  show evP ρ (ZO (IC q k) (prE (i+1) s r))=KD (ρ i) k*evE ρ (i+1) r;rw[z3,LH,h 0 q rfl,Bk r (i+1) s λj q' hj=>by
   have:=h (j+1) q' (by simpa using hj);rw[this,show i+(j+1)=i+1+j by omega]]
  rfl
theorem LI {σ:List Pol} (h:∀(j:Nat) q,σ[j]? =some q->evP ρ q=ρ j):∀p:Pol,evP ρ (e9 σ p)=evP ρ p
 |[]=>rfl
 |(c,e)::r=>by
  show evP ρ (jD (ZO [(c,[])] (prE 0 σ e)) (e9 σ r))=(c:Rat)*evE ρ 0 e+evP ρ r;rw[xM,z3,Bk ρ e 0 σ (λj q hj=>by rw[h j q hj,gb]),LI h r];show((c:Rat)*1+0)*_+_=_
  grind
def sgS (σ:List Pol) (bs:List Bool) (p:Pol):Option Int:=
 match sgP bs p with
 |some s=>some s
 |none=>match σ with
  |[]=>none
  |_=>sgP bs (e9 σ p)
theorem Bl {σ:List Pol} {bs:List Bool} (hb:Uw ρ bs) (h:∀(j:Nat) q,σ[j]? =some q->evP ρ q=ρ j) (p:Pol) (s:Int) (hs:sgS σ bs p=some s):sr (evP ρ p)=s:=by
 unfold sgS at hs;split at hs
 .rename_i h1;obtain rfl:=gz hs;exact Bj ρ hb h1
 .split at hs
  .cases hs
  .rw[<-LI ρ h p];exact Bj ρ hb hs
end Eng
end
section
open Go Go.Proofs Eng
namespace Eng
def Z0 (I0:List D->List D->Prop) (M0:List D->Nat) (es e2 e3 e4:List (List D)) (n1 g:Int):Prop:=((0<=n1/\n1<=Pl .i64 (Pl .i64 (n1+(Tk es.length))+1)/\Pl .i64 (Pl .i64 (n1+(Tk es.length))+1)<=(Tk e3.length))/\((e2≠[]/\ym e2=true/\e2.length<=1073741824)/\0<(Sz (Pl .i64 (Pl .i64 (n1+(Tk es.length))+1))-Sz n1)/\Sz n1+(Sz (Pl .i64 (Pl .i64 (n1+(Tk es.length))+1))-Sz n1)<=e3.length/\ym (bw (Sz (Pl .i64 (Pl .i64 (n1+(Tk es.length))+1))-Sz n1) (bx (Sz n1) e3))=true)/\br (toB (J4 (decide (0<g6 (g6 (kj g (xl (bw (Sz (Pl .i64 (Pl .i64 (n1+(Tk es.length))+1))-Sz n1) (bx (Sz n1) e3))) (xl e2) (0:Int) (0:Int))))||decide (0<g0 (g6 (kj g (xl (bw (Sz (Pl .i64 (Pl .i64 (n1+(Tk es.length))+1))-Sz n1) (bx (Sz n1) e3))) (xl e2) (0:Int) (0:Int))))))) ((0<=n1/\n1<=Pl .i64 (Pl .i64 (n1+(Tk es.length))+1)/\Pl .i64 (Pl .i64 (n1+(Tk es.length))+1)<=(Tk (bv (bw (Sz n1) e3++xD (g0 (kj g (xl (bw (Sz (Pl .i64 (Pl .i64 (n1+(Tk es.length))+1))-Sz n1) (bx (Sz n1) e3))) (xl e2) (0:Int) (0:Int)))++bx (Sz n1+(Sz (Pl .i64 (Pl .i64 (n1+(Tk es.length))+1))-Sz n1)) e3))))/\((e2≠[]/\ym e2=true/\e2.length<=1073741824)/\0<(Sz (Pl .i64 (Pl .i64 (n1+(Tk es.length))+1))-Sz n1)/\Sz n1+(Sz (Pl .i64 (Pl .i64 (n1+(Tk es.length))+1))-Sz n1)<=bv (bw (Sz n1) e3++xD (g0 (kj g (xl (bw (Sz (Pl .i64 (Pl .i64 (n1+(Tk es.length))+1))-Sz n1) (bx (Sz n1) e3))) (xl e2) (0:Int) (0:Int)))++bx (Sz n1+(Sz (Pl .i64 (Pl .i64 (n1+(Tk es.length))+1))-Sz n1)) e3)/\ym (bw (Sz (Pl .i64 (Pl .i64 (n1+(Tk es.length))+1))-Sz n1) (bx (Sz n1) (bw (Sz n1) e3++xD (g0 (kj g (xl (bw (Sz (Pl .i64 (Pl .i64 (n1+(Tk es.length))+1))-Sz n1) (bx (Sz n1) e3))) (xl e2) (0:Int) (0:Int)))++bx (Sz n1+(Sz (Pl .i64 (Pl .i64 (n1+(Tk es.length))+1))-Sz n1)) e3)))=true)/\(0<=n1/\n1<(Tk e4.length))/\0<1/\I0 [] [Hy (bw (Sz n1) (bw (Sz n1) e3++xD (g0 (kj g (xl (bw (Sz (Pl .i64 (Pl .i64 (n1+(Tk es.length))+1))-Sz n1) (bx (Sz n1) e3))) (xl e2) (0:Int) (0:Int)))++bx (Sz n1+(Sz (Pl .i64 (Pl .i64 (n1+(Tk es.length))+1))-Sz n1)) e3)++xD (ZN (xl (bw (Sz (Pl .i64 (Pl .i64 (n1+(Tk es.length))+1))-Sz n1) (bx (Sz n1) (bw (Sz n1) e3++xD (g0 (kj g (xl (bw (Sz (Pl .i64 (Pl .i64 (n1+(Tk es.length))+1))-Sz n1) (bx (Sz n1) e3))) (xl e2) (0:Int) (0:Int)))++bx (Sz n1+(Sz (Pl .i64 (Pl .i64 (n1+(Tk es.length))+1))-Sz n1)) e3)))) (xl e2) (0:Int))++bx (Sz n1+(Sz (Pl .i64 (Pl .i64 (n1+(Tk es.length))+1))-Sz n1)) (bw (Sz n1) e3++xD (g0 (kj g (xl (bw (Sz (Pl .i64 (Pl .i64 (n1+(Tk es.length))+1))-Sz n1) (bx (Sz n1) e3))) (xl e2) (0:Int) (0:Int)))++bx (Sz n1+(Sz (Pl .i64 (Pl .i64 (n1+(Tk es.length))+1))-Sz n1)) e3)),Hy (upd e4 (Sz n1) (upd (nth [] e4 (Sz n1)) 0 (Hx .u32 (Pl .u32 (Pl .u64 (g-1)))))),Hx .i64 (Pl .i64 (n1-1))]/\M0 [Hy (bw (Sz n1) (bw (Sz n1) e3++xD (g0 (kj g (xl (bw (Sz (Pl .i64 (Pl .i64 (n1+(Tk es.length))+1))-Sz n1) (bx (Sz n1) e3))) (xl e2) (0:Int) (0:Int)))++bx (Sz n1+(Sz (Pl .i64 (Pl .i64 (n1+(Tk es.length))+1))-Sz n1)) e3)++xD (ZN (xl (bw (Sz (Pl .i64 (Pl .i64 (n1+(Tk es.length))+1))-Sz n1) (bx (Sz n1) (bw (Sz n1) e3++xD (g0 (kj g (xl (bw (Sz (Pl .i64 (Pl .i64 (n1+(Tk es.length))+1))-Sz n1) (bx (Sz n1) e3))) (xl e2) (0:Int) (0:Int)))++bx (Sz n1+(Sz (Pl .i64 (Pl .i64 (n1+(Tk es.length))+1))-Sz n1)) e3)))) (xl e2) (0:Int))++bx (Sz n1+(Sz (Pl .i64 (Pl .i64 (n1+(Tk es.length))+1))-Sz n1)) (bw (Sz n1) e3++xD (g0 (kj g (xl (bw (Sz (Pl .i64 (Pl .i64 (n1+(Tk es.length))+1))-Sz n1) (bx (Sz n1) e3))) (xl e2) (0:Int) (0:Int)))++bx (Sz n1+(Sz (Pl .i64 (Pl .i64 (n1+(Tk es.length))+1))-Sz n1)) e3)),Hy (upd e4 (Sz n1) (upd (nth [] e4 (Sz n1)) 0 (Hx .u32 (Pl .u32 (Pl .u64 (g-1)))))),Hx .i64 (Pl .i64 (n1-1))]<M0 [Hy e3,Hy e4,Hx .i64 n1]) ((0<=n1/\n1<(Tk e4.length))/\0<1/\I0 [] [Hy (bw (Sz n1) e3++xD (g0 (kj g (xl (bw (Sz (Pl .i64 (Pl .i64 (n1+(Tk es.length))+1))-Sz n1) (bx (Sz n1) e3))) (xl e2) (0:Int) (0:Int)))++bx (Sz n1+(Sz (Pl .i64 (Pl .i64 (n1+(Tk es.length))+1))-Sz n1)) e3),Hy (upd e4 (Sz n1) (upd (nth [] e4 (Sz n1)) 0 (Hx .u32 (Pl .u32 g)))),Hx .i64 (Pl .i64 (n1-1))]/\M0 [Hy (bw (Sz n1) e3++xD (g0 (kj g (xl (bw (Sz (Pl .i64 (Pl .i64 (n1+(Tk es.length))+1))-Sz n1) (bx (Sz n1) e3))) (xl e2) (0:Int) (0:Int)))++bx (Sz n1+(Sz (Pl .i64 (Pl .i64 (n1+(Tk es.length))+1))-Sz n1)) e3),Hy (upd e4 (Sz n1) (upd (nth [] e4 (Sz n1)) 0 (Hx .u32 (Pl .u32 g)))),Hx .i64 (Pl .i64 (n1-1))]<M0 [Hy e3,Hy e4,Hx .i64 n1]))
section
variable (Gv:Nat->List A->List A->Prop) (I0:List D->List D->Prop) (M0:List D->Nat) (I1:List D->List D->Prop) (M1:List D->Nat) (I2:List D->List D->Prop) (M2:List D->Nat) (I3:List D->List D->Prop) (M3:List D->Nat) (Q:List A->Prop)
theorem Z1 (chk:List A->Bool) (mk:List A->List (List D)) (es fs:List (List D)):wpF (CM chk mk) Gv (Kt ⟨[.own 8 180 1,.own 10 181 1,.slot 11 (.int .i64 0)],[],I0,M0⟩ ⟨[.slot 13 (.int .u64 0),.slot 14 (.int .u64 0)],[.slot 12 (.int .u64 0),.slot 11 (.int .i64 0),.own 8 180 1],I1,M1⟩) Tryz.f330 [.c (.sl es),.c (.sl fs)] Q=(∃e1,Gv 274 [Hu (Hy es)] [Hu (Hy e1)]/\∃es,Gv 274 [Hu (Hy fs)] [Hu (Hy es)]/\br (toB (J4 ((Tk es.length)==1))) (((0:Int)<=(0:Int)/\0<(Tk es.length)/\bv (nth [] es 0)=1)/\∃n,cut (nth [] es 0) 0 1 [Hx .u32 n]/\∃es e2,Gv 387 [Hu (Hy e1),Hu (Hx .u32 n)] [Hu (Hy es),Hu (Hy e2)]/\Q [Hu (Hy es),Hu (Hy e2)]) (∃n,Gv 192 [Hu (Hy e1),Hu (Hy es)] [Hu (Hx .i64 n)]/\br (toB (J4 (decide (n<0)))) ((room e1.length/\lens 1 e1)/\Q [Hu (Hy []),Hu (Hy e1)]) ((0<=Pl .i64 ((Tk es.length)-1)/\Pl .i64 ((Tk es.length)-1)<(Tk es.length)/\bv (nth [] es (Sz (Pl .i64 ((Tk es.length)-1))))=1)/\∃n,cut (nth [] es (Sz (Pl .i64 ((Tk es.length)-1)))) 0 1 [Hx .u32 n]/\Pl .u64 (Pl .u64 n+1)≠0/\chk [Hu (Hy e1),Hu (Hy [[Hx .u32 (Pl .u32 (Pl .u64 (W2 (1000000000:Int) (Pl .u64 (Pl .u64 n+1)))))]])]=true/\(room (bv (mk [Hu (Hy e1),Hu (Hy [[Hx .u32 (Pl .u32 (Pl .u64 (W2 (1000000000:Int) (Pl .u64 (Pl .u64 n+1)))))]])])+1)/\lens 1 [[Hx .u32 0]])/\chk [Hu (Hy es),Hu (Hy [[Hx .u32 (Pl .u32 (Pl .u64 (W2 (1000000000:Int) (Pl .u64 (Pl .u64 n+1)))))]])]=true/\∃e2,Gv 274 [Hu (Hy (mk [Hu (Hy es),Hu (Hy [[Hx .u32 (Pl .u32 (Pl .u64 (W2 (1000000000:Int) (Pl .u64 (Pl .u64 n+1)))))]])]))] [Hu (Hy e2)]/\(0<=Pl .i64 ((Tk (bv (mk [Hu (Hy e1),Hu (Hy [[Hx .u32 (Pl .u32 (Pl .u64 (W2 (1000000000:Int) (Pl .u64 (Pl .u64 n+1)))))]])]++[[Hx .u32 0]])))-(Tk es.length))/\Pl .i64 ((Tk (bv (mk [Hu (Hy e1),Hu (Hy [[Hx .u32 (Pl .u32 (Pl .u64 (W2 (1000000000:Int) (Pl .u64 (Pl .u64 n+1)))))]])]++[[Hx .u32 0]])))-(Tk es.length))<=Pl .i64 ((Tk (bv (mk [Hu (Hy e1),Hu (Hy [[Hx .u32 (Pl .u32 (Pl .u64 (W2 (1000000000:Int) (Pl .u64 (Pl .u64 n+1)))))]])]++[[Hx .u32 0]])))-(Tk es.length))/\room (Sz (Pl .i64 ((Tk (bv (mk [Hu (Hy e1),Hu (Hy [[Hx .u32 (Pl .u32 (Pl .u64 (W2 (1000000000:Int) (Pl .u64 (Pl .u64 n+1)))))]])]++[[Hx .u32 0]])))-(Tk es.length)))))/\I0 [] [Hy (mk [Hu (Hy e1),Hu (Hy [[Hx .u32 (Pl .u32 (Pl .u64 (W2 (1000000000:Int) (Pl .u64 (Pl .u64 n+1)))))]])]++[[Hx .u32 0]]),Hy (b6 (Sz (Pl .i64 ((Tk (bv (mk [Hu (Hy e1),Hu (Hy [[Hx .u32 (Pl .u32 (Pl .u64 (W2 (1000000000:Int) (Pl .u64 (Pl .u64 n+1)))))]])]++[[Hx .u32 0]])))-(Tk es.length)))) [Hx .u32 0]),Hx .i64 (Pl .i64 (Pl .i64 ((Tk (bv (mk [Hu (Hy e1),Hu (Hy [[Hx .u32 (Pl .u32 (Pl .u64 (W2 (1000000000:Int) (Pl .u64 (Pl .u64 n+1)))))]])]++[[Hx .u32 0]])))-(Tk es.length))-1))]/\∀(e3 e4:List (List D)) (n1:Int),I0 [] [Hy e3,Hy e4,Hx .i64 n1]->br (toB (J4 (decide (n1>=0)))) ((0<=Pl .i64 (n1+(Tk es.length))/\Pl .i64 (n1+(Tk es.length))<(Tk e3.length))/\∃n,cut (nth [] e3 (Sz (Pl .i64 (n1+(Tk es.length))))) 0 1 [Hx .u32 n]/\(0<=Pl .i64 (Pl .i64 (n1+(Tk es.length))-1)/\Pl .i64 (Pl .i64 (n1+(Tk es.length))-1)<(Tk e3.length))/\∃n2,cut (nth [] e3 (Sz (Pl .i64 (Pl .i64 (n1+(Tk es.length))-1)))) 0 1 [Hx .u32 n2]/\(0<=Pl .i64 ((Tk es.length)-1)/\Pl .i64 ((Tk es.length)-1)<(Tk e2.length)/\bv (nth [] e2 (Sz (Pl .i64 ((Tk es.length)-1))))=1)/\∃n3,cut (nth [] e2 (Sz (Pl .i64 ((Tk es.length)-1)))) 0 1 [Hx .u32 n3]/\Pl .u64 n3≠0/\(0<=Pl .i64 ((Tk es.length)-1)/\Pl .i64 ((Tk es.length)-1)<(Tk e2.length)/\bv (nth [] e2 (Sz (Pl .i64 ((Tk es.length)-1))))=1)/\∃n4,cut (nth [] e2 (Sz (Pl .i64 ((Tk es.length)-1)))) 0 1 [Hx .u32 n4]/\Pl .u64 n4≠0/\I1 [Hx .u64 (Pl .u64 (Pl .u64 (Pl .u64 n*1000000000)+Pl .u64 n2)),Hx .i64 n1,Hy e3] [Hx .u64 (Pl .u64 (W2 (Pl .u64 (Pl .u64 (Pl .u64 n*1000000000)+Pl .u64 n2)) (Pl .u64 n3))),Hx .u64 (an (Pl .u64 (Pl .u64 (Pl .u64 n*1000000000)+Pl .u64 n2)) (Pl .u64 n4))]/\∀(n5 n6:Int),I1 [Hx .u64 (Pl .u64 (Pl .u64 (Pl .u64 n*1000000000)+Pl .u64 n2)),Hx .i64 n1,Hy e3] [Hx .u64 n5,Hx .u64 n6]->br (toB (J4 (decide (n5>=1000000000)))) ((0<=Pl .i64 ((Tk es.length)-1)/\Pl .i64 ((Tk es.length)-1)<(Tk e2.length)/\bv (nth [] e2 (Sz (Pl .i64 ((Tk es.length)-1))))=1)/\∃n7,cut (nth [] e2 (Sz (Pl .i64 ((Tk es.length)-1)))) 0 1 [Hx .u32 n7]/\br (toB (J4 (decide (Pl .u64 (n6+Pl .u64 n7)>=1000000000)))) (Z0 I0 M0 es e2 e3 e4 n1 (Pl .u64 (n5-1))) (I1 [Hx .u64 (Pl .u64 (Pl .u64 (Pl .u64 n*1000000000)+Pl .u64 n2)),Hx .i64 n1,Hy e3] [Hx .u64 (Pl .u64 (n5-1)),Hx .u64 (Pl .u64 (n6+Pl .u64 n7))]/\M1 [Hx .u64 (Pl .u64 (n5-1)),Hx .u64 (Pl .u64 (n6+Pl .u64 n7))]<M1 [Hx .u64 n5,Hx .u64 n6])) ((0<=Pl .i64 ((Tk es.length)-2)/\Pl .i64 ((Tk es.length)-2)<(Tk e2.length)/\bv (nth [] e2 (Sz (Pl .i64 ((Tk es.length)-2))))=1)/\∃n7,cut (nth [] e2 (Sz (Pl .i64 ((Tk es.length)-2)))) 0 1 [Hx .u32 n7]/\(0<=Pl .i64 (Pl .i64 (n1+(Tk es.length))-2)/\Pl .i64 (Pl .i64 (n1+(Tk es.length))-2)<(Tk e3.length))/\∃n8,cut (nth [] e3 (Sz (Pl .i64 (Pl .i64 (n1+(Tk es.length))-2)))) 0 1 [Hx .u32 n8]/\br (toB (J4 (decide (Pl .u64 (n5*Pl .u64 n7)>Pl .u64 (Pl .u64 (n6*1000000000)+Pl .u64 n8))))) ((0<=Pl .i64 ((Tk es.length)-1)/\Pl .i64 ((Tk es.length)-1)<(Tk e2.length)/\bv (nth [] e2 (Sz (Pl .i64 ((Tk es.length)-1))))=1)/\∃n9,cut (nth [] e2 (Sz (Pl .i64 ((Tk es.length)-1)))) 0 1 [Hx .u32 n9]/\br (toB (J4 (decide (Pl .u64 (n6+Pl .u64 n9)>=1000000000)))) (Z0 I0 M0 es e2 e3 e4 n1 (Pl .u64 (n5-1))) (I1 [Hx .u64 (Pl .u64 (Pl .u64 (Pl .u64 n*1000000000)+Pl .u64 n2)),Hx .i64 n1,Hy e3] [Hx .u64 (Pl .u64 (n5-1)),Hx .u64 (Pl .u64 (n6+Pl .u64 n9))]/\M1 [Hx .u64 (Pl .u64 (n5-1)),Hx .u64 (Pl .u64 (n6+Pl .u64 n9))]<M1 [Hx .u64 n5,Hx .u64 n6])) (Z0 I0 M0 es e2 e3 e4 n1 n5))) (((0:Int)<=(0:Int)/\0<=(Tk es.length)/\(Tk es.length)<=(Tk e3.length)/\lens 1 e3)/\∃e5,Gv 274 [Hu (Hy (bx 0 (bw (Sz (Tk es.length)) e3)))] [Hu (Hy e5)]/\∃es e6,Gv 387 [Hu (Hy e5),Hu (Hx .u32 (Pl .u32 (Pl .u64 (W2 (1000000000:Int) (Pl .u64 (Pl .u64 n+1))))))] [Hu (Hy es),Hu (Hy e6)]/\Q [Hu (Hy e4),Hu (Hy es)])))):=by kernel_rfl
end
end Eng
end
section
namespace Eng
open Go
def wB (l:List Nat):List Int:=l.map λ(x:Nat)=>(x:Int)
theorem zt (x:Nat) (l:List Nat):wB (x::l)=(x:Int)::wB l:=rfl
theorem Bm (t:Nat):an (t:Int) 1000000000=((t%1000000000:Nat):Int):=by rw[be (by omega)];omega
theorem Bn (t:Nat):W2 (t:Int) 1000000000=((t/1000000000:Nat):Int):=by rw[Int.tdiv_eq_ediv_of_nonneg (by omega)];omega
theorem PL {by_ c:Nat} (hby:by_<=1000000000) (hc:c<=1000000000) {vs:List Nat} (hv:Limbs vs):∃t:Nat,ej (by_:Int) (c:Int) (wB vs)=(t:Int)/\t<=1000000000000000000/\t+by_*(1000000000*val vs.tail)=c+by_*val vs:=by
 cases vs with
 |nil=>exact⟨c,rfl,by omega,by simp[val]⟩
 |cons y vs=>
  obtain⟨h1,h2⟩:=hv.of_cons;have hp:y*by_<=999999999*1000000000:=eb (by omega) hby;obtain⟨p,a0⟩:∃p,p=y*by_:=⟨_,rfl⟩;rw[<-a0]at hp;have hpi:(y:Int)*(by_:Int)=(p:Int):=by rw[a0];exact(bd _ _).symm
  refine⟨c+p,?_,by omega,?_⟩
  .simp only[ej,zt];rw[xI (n:=(y:Int)),hpi,xI (n:=(p:Int)),xI];omega
  .simp only[c6,val,dv];rw[a0,dc y by_];omega
theorem KH {by_:Nat} (hby:by_<=1000000000):∀{us vs:List Nat} {c b:Nat},Limbs us->Limbs vs->vs.length<=us.length->c<=1000000000->b<=1->
 ∃(r:List Nat) (c' b':Nat),kj (by_:Int) (wB us) (wB vs) (c:Int) (b:Int)=(wB r,(c':Int),(b':Int))/\Limbs r/\r.length=us.length/\c'<=1000000000/\b'<=1/\val us+1000000000^us.length*(c'+b')=val r+by_*val vs+c+b
 |[],vs,c,b,_,_,hl,hc,hb=>by have:vs=[]:=bF (by simpa using hl);subst this;exact⟨[],c,b,rfl,No,rfl,hc,hb,by simp[val]⟩
 |x::us,vs,c,b,hu,hv,hl,hc,hb=>by
  obtain⟨hx,hu⟩:=hu.of_cons;obtain⟨t,ht,htb,hte⟩:=PL hby hc hv;have hvt:Limbs vs.tail:=λy hy=>hv y (c0 hy)
  have hlt:vs.tail.length<=us.length:=by rw[c3];simp at hl;omega
  have a0:(wB vs).tail=wB vs.tail:=by cases vs<;>rfl
  have hdm:=eU t 1000000000;have hml:=e7 t (show 0<1000000000 by omega);obtain⟨q,hq⟩:∃q,q=t/1000000000:=⟨_,rfl⟩;obtain⟨m,hm⟩:∃m,m=t%1000000000:=⟨_,rfl⟩;have a1:by_*(1000000000*val vs.tail)=1000000000*(by_*val vs.tail):=by rw[gn]
  by_cases hlt2:x<m+b
  .obtain⟨r,c',b',h1,h2,h3,h4,h5,h6⟩:=KH hby (us:=us) (vs:=vs.tail) (c:=q) (b:=1) hu hvt hlt (by omega) (by omega);refine⟨(x+1000000000-(m+b))::r,c',b',?_,Lv (by omega) h2,by simp[h3],h4,h5,?_⟩
   .rw[zt,zt];simp only[kj];rw[ht,Bm,Bn,<-hq,<-hm,xI (n:=(x:Int)),xI (n:=(m:Int)+(b:Int)),xI (n:=(q:Int))];rw[decide_eq_true (show(x:Int)<(m:Int)+(b:Int)by omega)];simp only;rw[a0];have a2:kj (by_:Int) (wB us) (wB vs.tail) (q:Int) 1=(wB r,(c':Int),(b':Int)):=h1;rw[a2,xI (n:=(x:Int)+1000000000),xI,j5];congr 2;omega
   .simp only[cb,val];rw[ea,dc (1000000000^us.length) 1000000000,dl];rw[a1]at hte;omega
  .obtain⟨r,c',b',h1,h2,h3,h4,h5,h6⟩:=KH hby (us:=us) (vs:=vs.tail) (c:=q) (b:=0) hu hvt hlt (by omega) (by omega);refine⟨(x-(m+b))::r,c',b',?_,Lv (by omega) h2,by simp[h3],h4,h5,?_⟩
   .rw[zt,zt];simp only[kj];rw[ht,Bm,Bn,<-hq,<-hm,xI (n:=(x:Int)),xI (n:=(m:Int)+(b:Int)),xI (n:=(q:Int))];rw[decide_eq_false (show ¬(x:Int)<(m:Int)+(b:Int)by omega)];simp only;rw[a0];have a2:kj (by_:Int) (wB us) (wB vs.tail) (q:Int) 0=(wB r,(c':Int),(b':Int)):=h1;rw[a2,xI,j5];congr 2;omega
   .simp only[cb,val];rw[ea,dc (1000000000^us.length) 1000000000,dl];rw[a1]at hte;omega
theorem KI:∀{us vs:List Nat} {c:Nat},Limbs us->Limbs vs->vs.length<=us.length->c<=1->
 ∃(r:List Nat) (c':Nat),ZN (wB us) (wB vs) (c:Int)=wB r/\Limbs r/\r.length=us.length/\c'<=1/\val us+val vs+c=val r+1000000000^us.length*c'
 |[],vs,c,_,_,hl,hc=>by have:vs=[]:=bF (by simpa using hl);subst this;exact⟨[],c,rfl,No,rfl,hc,by simp[val]⟩
 |x::us,vs,c,hu,hv,hl,hc=>by
  obtain⟨hx,hu⟩:=hu.of_cons;have hvt:Limbs vs.tail:=λy hy=>hv y (c0 hy)
  have hlt:vs.tail.length<=us.length:=by rw[c3];simp at hl;omega
  have a0:(wB vs).tail=wB vs.tail:=by cases vs<;>rfl
  obtain⟨t,ht,htb,hte⟩:∃t:Nat,C9 (x:Int) (c:Int) (wB vs)=(t:Int)/\t<=1999999999/\t+1000000000*val vs.tail=x+c+val vs:=by
   cases vs with
   |nil=>refine⟨x+c,?_,by omega,by simp[val]⟩;simp only[C9,wB,List.map_nil];rw[j5];omega
   |cons y vs=>obtain⟨h1,h2⟩:=hv.of_cons;refine⟨x+c+y,?_,by omega,by simp only[c6,val];omega⟩;simp only[C9,zt];rw[j5 (n:=(x:Int)+(c:Int)),j5];omega
  by_cases h:1000000000<=t
  .obtain⟨r,c',h1,h2,h3,h4,h5⟩:=KI (us:=us) (vs:=vs.tail) (c:=1) hu hvt hlt (by omega);refine⟨(t-1000000000)::r,c',?_,Lv (by omega) h2,by simp[h3],h4,?_⟩
   .rw[zt,zt];simp only[ZN];rw[ht,decide_eq_true (show(1000000000:Int)<=(t:Int)by omega)];simp only;rw[a0];have a1:ZN (wB us) (wB vs.tail) 1=wB r:=h1;rw[a1,j5];congr 1;omega
   .simp only[cb,val];rw[ea,dc (1000000000^us.length) 1000000000,dl];omega
  .obtain⟨r,c',h1,h2,h3,h4,h5⟩:=KI (us:=us) (vs:=vs.tail) (c:=0) hu hvt hlt (by omega);refine⟨t::r,c',?_,Lv (by omega) h2,by simp[h3],h4,?_⟩
   .rw[zt,zt];simp only[ZN];rw[ht,decide_eq_false (show ¬(1000000000:Int)<=(t:Int)by omega)];simp only;rw[a0];have a1:ZN (wB us) (wB vs.tail) 0=wB r:=h1;rw[a1]
   .simp only[cb,val];rw[ea,dc (1000000000^us.length) 1000000000,dl];omega
end Eng
end
section
namespace Eng
open Go
theorem PM {P V1 vl V U3 ul U g:Nat} (hV:V=V1*P+vl) (hU:U=U3*P+ul) (hvl:vl<P) (hg:g*V1<=U3) (hgB:g<=1000000000) (hBV:1000000000*P<=V):g*V<=U+V:=by
 have h1:g*V1*P<=U3*P:=cH P hg;have h2:g*vl<=1000000000*P:=eb hgB (by omega);have h3:g*V=g*V1*P+g*vl:=by rw[hV,dv,dl]
 omega
theorem PN {P V1 vl V U3 ul U g:Nat} (hV:V=V1*P+vl) (hU:U=U3*P+ul) (hul:ul<P) (hg:U3<g*V1):U<g*V:=by
 have h1:(U3+1)*P<=g*V1*P:=cH P hg;have h3:g*V=g*V1*P+g*vl:=by rw[hV,dv,dl]
 rw[ep,fk]at h1;omega
theorem LJ {U V g qd L r s:Nat} (hq1:qd*V<=U) (hgq:qd<=g) (_hUL:U<L) (_hrL:r<L) (he:U+L*s=r+g*V) (hs:s=0) (hlt:U<(qd+1)*V):g=qd/\r=U-qd*V:=by
 subst hs;have h1:¬qd+1<=g:=λh=>by have:=cH V h;omega
 have:g=qd:=by omega
 subst this;omega
theorem LK {U V g qd L r s r' c:Nat} (hq1:qd*V<=U) (hg:g*V<=U+V) (_hUL:U<L) (hrL:r<L) (hVL:V<=L) (he:U+L*s=r+g*V) (hs:s≠0) (hr':r'<L) (hc:c<=1) (he2:r+V=r'+L*c) (hlt:U<(qd+1)*V) (hgq:qd<=g):g=qd+1/\r'=U-qd*V:=by
 have hL:L<=L*s:=fS L (by omega);have h1:qd+1<=g:=by apply ec;intro h;have:=cH V h;omega
 have h2:g<=qd+1:=by
  apply fz;apply ec;intro h;have h3:(qd+2)*V<=g*V:=cH V h;have h4:(qd+2)*V=(qd+1)*V+V:=by rw[show qd+2=(qd+1)+1 from rfl,ep,fk]
  omega
 have:g=qd+1:=by omega
 subst this;refine⟨rfl,?_⟩;have h5:(qd+1)*V=qd*V+V:=by rw[ep,fk]
 have hs1:s=1:=by
  have:s<2:=by apply ec;intro h;have:=cL L h;omega
  omega
 subst hs1;have hc1:c=1:=by
  rcases gv c 1 with h|h
  .have:c=0:=by omega
   subst this;omega
  .omega
 subst hc1;omega
theorem JA {b s:Nat} (hb:0<b) (hb2:b<1000000000) (hs:s=1000000000/(b+1)):500000000<=b*s/\1<=s/\s*(b+1)<=1000000000:=by
 have h1:=fx 1000000000 (b+1);have h2:=Nat.lt_div_mul_add (a:=1000000000) (b:=b+1) (by omega);rw[<-hs]at h1 h2;have h3:1<=s:=by
  apply ec;intro h;have:s=0:=by omega
  subst this;omega
 obtain⟨b',rfl⟩:∃b',b=b'+1:=⟨b-1,by omega⟩;obtain⟨s',rfl⟩:∃s',s=s'+1:=⟨s-1,by omega⟩;have h4:(b'+1)*(s'+1)=b'*s'+b'+s'+1:=by rw[ep,dv];omega
 have h5:(s'+1)*(b'+1+1)=b'*s'+b'+s'+1+(s'+1):=by rw[dv,dc (s'+1) (b'+1),h4];omega
 omega
end Eng
end
section
namespace Eng
open Go
theorem mlt {a b c:Nat} (h:a<b) (hc:0<c):a*c<b*c:=Nat.mul_lt_mul_of_pos_right h hc
theorem val2 {v:List Nat} {p:Nat}:val (v.take (p+2))=(v.getD (p+1) 0*1000000000+v.getD p 0)*1000000000^p+val (v.take p):=by
 rw[qM v (p+1),qM v p,ea]
 grind
theorem val3 {u:List Nat} {p:Nat}:val (u.take (p+3))=((u.getD (p+2) 0*1000000000+u.getD (p+1) 0)*1000000000+u.getD p 0)*1000000000^p+val (u.take p):=by
 rw[qM u (p+2),qM u (p+1),qM u p,ea,ea]
 grind
theorem Ux {o:List Nat} (h:Limbs o) {j d:Nat} (hd:d<1000000000):Limbs (o.set j d):=λy hy=>by
 rcases List.mem_or_eq_of_mem_set hy with hy|rfl
 .exact h y hy
 .exact hd
structure DInv (n m V U0 kk:Nat) (ul ql:List Nat):Prop where
 hk:kk<=m
 lu:ul.length=n+m
 lq:ql.length=m
 Lu:Limbs ul
 Lq:Limbs ql
 hlt:val ul<V*1000000000^kk
 heq:U0=val (ql.drop kk)*(V*1000000000^kk)+val ul
theorem LL {V' V X B W lo md h qv:Nat} (hW:W=V'*B) (hV:V<V') (hlo:lo<X) (hlt:lo+X*(md+W*h)<V*(X*B)) (hV0:0<V):
 h=0/\md<V*B/\lo+X*(md%V)<V*X/\qv*(V*(X*B))+(lo+X*(md+W*h))=(md/V+B*qv)*(V*X)+(lo+X*(md%V)):=by
 have h0:h=0:=by
  rcases ey h with h0|h0
  .exact h0
  .exfalso;have h1:W<=W*h:=fS W h0;have h2:X*W<=X*(md+W*h):=cL X (by omega);have h3:V*(X*B)=X*(V*B):=by grind
   have h4:X*(V*B)<=X*W:=cL X (by rw[hW];exact cH B (by omega));omega
 subst h0;rw[gd,gk]at hlt ⊢;have h3:V*(X*B)=X*(V*B):=by grind
 have hm:md<V*B:=by apply ec;intro hle;have:=cL X hle;omega
 have a0:=e7 md hV0;have hdm:=eU md V;refine⟨rfl,hm,?_,?_⟩
 .have:X*(md%V+1)<=X*V:=cL X a0;rw[dv,Nat.mul_one]at this;rw[dc V X];omega
 .have e1:(md/V+B*qv)*(V*X)=X*(V*(md/V))+qv*(V*(X*B)):=by grind
  have e2:X*md=X*(V*(md/V))+X*(md%V):=by rw[<-dv,hdm]
  omega
theorem DInv.mid {n m V U0 k:Nat} {ul ql:List Nat} (h:DInv n m V U0 (k+1) ul ql) (hV:V<1000000000^n) (hV0:0<V):
 val ((ul.drop k).take (n+1))<V*1000000000/\∀r:List Nat,Limbs r->r.length=n+1->val r=val ((ul.drop k).take (n+1))%V->
  DInv n m V U0 k (ul.take k++r++ul.drop (k+(n+1))) (ql.set k (val ((ul.drop k).take (n+1))/V)):=by
 have hk:=h.hk;have lu:=h.lu;have lq:=h.lq;have e0:ul=ul.take k++((ul.drop k).take (n+1)++ul.drop (k+(n+1))):=by rw[<-List.drop_drop,cc,cc]
 have l1:(ul.take k).length=k:=by rw[b8];omega
 have l2:((ul.drop k).take (n+1)).length=n+1:=by rw[b8,cm];omega
 have hv:val ul=val (ul.take k)+1000000000^k*(val ((ul.drop k).take (n+1))+1000000000^(n+1)*val (ul.drop (k+(n+1)))):=by
  conv=>lhs;rw[e0]
  rw[qU,qU,l1,l2]
 have a6:=qX (h.Lu.take k);rw[l1]at a6;have a5:=h.hlt;have a0:=h.heq;rw[hv]at a5 a0;have hp:1000000000^(k+1)=1000000000^k*1000000000:=ea ..;rw[hp]at a5 a0;obtain⟨a1,a2,a3,a4⟩:=LL (V':=1000000000^n) (W:=1000000000^(n+1)) (B:=1000000000) (qv:=val (ql.drop (k+1))) (ea ..) hV a6 a5 hV0;have hq:val ((ul.drop k).take (n+1))/V<1000000000:=by rw[fe hV0,dc];exact a2
 refine⟨a2,λr Lr lr vr=>⟨by omega,?_,by rw[List.length_set];exact lq,?_,Ux h.Lq hq,?_,?_⟩⟩
 .rw[cg,cg,l1,lr,cm];omega
 .exact((h.Lu.take k).append Lr).append (h.Lu.drop _)
 .rw[qU,qU,l1,a1,vr,gd,gk];exact a3
 .have e5:(ql.set k (val ((ul.drop k).take (n+1))/V)).drop k=(val ((ul.drop k).take (n+1))/V)::ql.drop (k+1):=by rw[List.drop_set,if_neg (Nat.lt_irrefl k),gu,b9 (show k<ql.length by omega),List.set_cons_zero]
  rw[e5,qU,qU,l1,a1,vr,gd,gk,a0,a4];rfl
theorem Yz {V P v1 t3 t2 md r0:Nat} (hV:V<(v1+1)*P) (hV2:v1*P<=V) (hv:500000000<=v1) (hmd:md=(t3*1000000000+t2)*P+r0) (hr0:r0<P) (ht2:t2<1000000000) (hlt:md<V*1000000000) (_hV0:0<V):
 md/V<=(t3*1000000000+t2)/v1/\(t3*1000000000+t2)/v1<=1000000001/\t3<=v1:=by
 have hP:0<P:=by omega
 have ht3:t3<v1+1:=by
  apply ec;intro h;have h1:(v1+1)*1000000000*P<=t3*1000000000*P:=cH P (cH _ h);have h2:t3*1000000000*P<=(t3*1000000000+t2)*P:=cH P (by omega);have h3:(v1+1)*1000000000*P=(v1+1)*P*1000000000:=by grind
  have h4:V*1000000000<(v1+1)*P*1000000000:=mlt hV (Nat.zero_lt_of_ne_zero (by decide));omega
 refine⟨?_,?_,by omega⟩
 .rw[Nat.le_div_iff_mul_le (by omega)];have h1:md/V*V<=md:=fx md V;have h2:md/V*(v1*P)<=md/V*V:=cL _ hV2;have h3:md/V*(v1*P)=md/V*v1*P:=(dl ..).symm;apply fz;apply ec;intro h;have h4:((t3*1000000000+t2)+1)*P<=md/V*v1*P:=cH P h;rw[ep,fk]at h4;omega
 .apply fz;rw[fe (by omega)];omega
theorem D1 {g v1 r t0 v2 B:Nat} (h:r*B+t0<g*v2):(g*v1+r)*B+t0<g*(v1*B+v2):=by
 rw[dv,<-dl,ep];omega
theorem D2 {g v1 r t0 v2 B:Nat} (h:g*v2<=r*B+t0):g*(v1*B+v2)<=(g*v1+r)*B+t0:=by
 rw[dv,<-dl,ep];omega
theorem ID {g v1 r t0 v2:Nat} (h:r*1000000000+t0<g*v2):(g*v1+r)*1000000000+t0<g*(v1*1000000000+v2):=D1 h
theorem IE {g v1 r t0 v2:Nat} (h:g*v2<=r*1000000000+t0):g*(v1*1000000000+v2)<=(g*v1+r)*1000000000+t0:=D2 h
theorem Uy {P v1 v2 vl V t0 ul U g r top:Nat} (hV:V=(v1*1000000000+v2)*P+vl) (hU:U=(top*1000000000+t0)*P+ul) (hul:ul<P) (htop:top=g*v1+r) (h:r*1000000000+t0<g*v2) (hV0:0<V):U/V<g:=by
 rw[fe hV0];refine PN (V1:=v1*1000000000+v2) (U3:=top*1000000000+t0) hV hU hul ?_;rw[htop];exact ID h
theorem Uz {P v1 v2 vl V t0 ul U g r top:Nat} (hV:V=(v1*1000000000+v2)*P+vl) (hU:U=(top*1000000000+t0)*P+ul) (hvl:vl<P) (htop:top=g*v1+r) (h:g*v2<=r*1000000000+t0) (hg:g<=1000000000) (hv1:1<=v1):g*V<=U+V:=by
 refine PM (V1:=v1*1000000000+v2) (U3:=top*1000000000+t0) hV hU hvl ?_ hg ?_
 .rw[htop];exact IE h
 .rw[hV];have:1000000000*P<=(v1*1000000000+v2)*P:=cH P (by omega);exact ez this (Nat.le_add_right _ _)
theorem LM {us vs:List Nat} {V g:Nat} (hu:Limbs us) (hv:Limbs vs) (hl:vs.length<=us.length) (hV:val vs=V) (hV0:0<V) (hVu:V<=1000000000^us.length) (hq:val us/V<=g) (hg:g<=1000000000) (hgV:g*V<=val us+V):
 ∃(r:List Nat) (c b:Nat),kj (g:Int) (wB us) (wB vs) 0 0=(wB r,(c:Int),(b:Int))/\Limbs r/\r.length=us.length/\
  ((c=0/\b=0/\g=val us/V/\val r=val us%V)\/((c≠0\/b≠0)/\g=val us/V+1/\∃r2:List Nat,ZN (wB r) (wB vs) 0=wB r2/\Limbs r2/\r2.length=us.length/\val r2=val us%V)):=by
 obtain⟨r,c,b,h1,h2,h3,h4,h5,h6⟩:=KH (by_:=g) hg (us:=us) (vs:=vs) (c:=0) (b:=0) hu hv hl (by omega) (by omega);have hr:=qX h2;have a3:=qX hu;rw[h3]at hr;have hd:=eU (val us) V;have hm:=e7 (val us) hV0;have a0:val us<(val us/V+1)*V:=by rw[ep,fk,dc];omega
 have a1:val us/V*V<=val us:=fx _ _;have he:val us-val us/V*V=val us%V:=by rw[dc];omega
 refine⟨r,c,b,h1,h2,h3,?_⟩;rw[hV]at h6;by_cases hs:c+b=0
 .obtain⟨e1,e2⟩:=LJ (V:=V) (g:=g) (s:=c+b) a1 hq a3 hr (by omega) hs a0;exact .inl ⟨by omega,by omega,e1,by rw[e2,he]⟩
 .obtain⟨r2,c2,g1,g2,g3,g4,g5⟩:=KI (us:=r) (vs:=vs) (c:=0) h2 hv (by omega) (by omega);have a2:=qX g2;rw[g3,h3]at a2;rw[h3,hV]at g5;obtain⟨e1,e2⟩:=LK (V:=V) (g:=g) (s:=c+b) (r':=val r2) (c:=c2) a1 hgV a3 hr hVu (by omega) hs a2 g4 (by omega) a0 hq;exact .inr ⟨by omega,e1,r2,g1,g2,by omega,by rw[e2,he]⟩
end Eng
end
