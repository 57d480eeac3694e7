import Derived.Test.YtkaghlcopjaclaaGreatDoorPaA
import Derived.Test.YtkaghlcopjaclaaGreatDoorEngA
import Derived.KernelRfl
open Decidable renaming byContradiction->B0
open Eng.A renaming c->Dd, ag->F0
open Eng.D renaming int->F2, sl->Hu, bool->Hv
open Eng.D.int renaming injEq->Hx
open Eng.D.sl renaming injEq->Hy
open Eng.Limbs renaming nil->HZ, cons->J5
open Go.IntKind renaming wrap->J7, u64->J8
open Int renaming ofNat->J9, toNat->Lm, toNat_natCast->Lr, natAbs_natCast->Ls, ofNat_eq_natCast->Lv, tdiv->No, tmod->Pl, natAbs_mul->P1, natAbs_neg->Sz, mul_pos->Ts, natAbs_ediv_le_natAbs->T1, natCast_mul->U0, ediv_emod_unique->U3, mul_one->V1, mul_neg->W0
open List renaming replicate->W1, length->W2, take_length->W3, drop_eq_getElem_cons->W4, length_take->an, drop_length->ap, drop_zero->aE, take_of_length_le->ba, take->bb, getD->bc, append_nil->bd, range->be, drop->bh
open List.cons renaming injEq->bk
open Nat renaming lt_of_le_of_lt->bm, pow_le_pow_right->bs, le_refl->bv, mul_le_mul->bw, eq_zero_or_pos->bx, mul_self_lt_mul_self_iff->b6, le_trans->b7, pow_add->b8, mul_lt_mul''->b9, gcd->cb, lt_of_lt_of_le->cc, gcd_comm->cf, mul_add->cg, mod_lt->ch, exists_eq_add_of_le->cp, mul_comm->cr, zero_le->cv, mul_le_mul_left->c0, gcd_zero_right->c3, lt_of_not_le->c4, div_le_self->c7, mul_assoc->cH, pow_succ->cL, pow_pos->dc, gcd_rec->dk
open Option.some renaming injEq->dn
open Quotient renaming liftOn₂->dp, liftOn->dv
open Rat renaming num_divInt_den->dy, mul_nonneg->dA, divInt->ea, divInt_mul_divInt->eb, le_of_lt->ec, divInt_add_divInt->eg, sub_eq_add_neg->el, neg_num->en, inv_pos->er, div_def->et, num_intCast->ew, num_eq_zero->ey, den_intCast->ez, mul_pos->eH, intCast_natCast->fg, neg_divInt_neg->fl, natCast_mul->ft, inv_divInt->fw
set_option maxRecDepth 1000000
section
namespace Eng
open Go Go.Proofs
def ZE:Nat:=((1000000000^100)^100)^4
def Sq (z:Int):Prop:=z.natAbs<ZE
def Sr (r:Rat):Prop:=Sq r.num/\Sq (r.den:Int)
theorem NG:ZE*ZE*2<=VX:=by decide
theorem Sq.sm{z:Int}(h:Sq z):Sm z:=by
 have h0:ZE<=VX:=by decide
 exact cc h h0
theorem Sq.mul{x y:Int}(hx:Sq x)(hy:Sq y):Sm (x*y):=by
 unfold Sm;rw[P1];have:=b9 hx hy;have:=NG;omega
theorem Sq.mul_add{a b c d:Int}(ha:Sq a)(hb:Sq b)(hc:Sq c)(hd:Sq d):Sm (a*b+c*d):=by
 unfold Sm;have h1:=b9 ha hb;have h2:=b9 hc hd;rw[<-P1]at h1 h2;have:=NG;omega
theorem Sq.add{a b:Int}(ha:Sq a)(hb:Sq b):Sm (a+b):=by
 unfold Sm;have h0:ZE*2<=VX:=by decide
 have h1:a.natAbs<ZE:=ha;have h2:b.natAbs<ZE:=hb;omega
theorem den_pos(r:Rat):0<(r.den:Int):=by have:=r.den_pos;omega
theorem qA(r:Rat):jQ r= .ag [.bool (decide (r.num<0)),.sl (raw (lim r.num.natAbs)),.bool (decide ((r.den:Int)<0)),.sl (raw (lim (r.den:Int).natAbs))]:=rfl
theorem xn(z:Int):qM z= .ag [.bool (decide (z<0)),.sl (raw (lim z.natAbs))]:=rfl
def q4 (r:Rat):R4:=⟨decide (r.num<0),raw (lim r.num.natAbs),decide ((r.den:Int)<0),raw (lim (r.den:Int).natAbs)⟩
theorem JO(r:Rat):qa CC 27 [jQ r] [.c (.int .i64 (sgn r.num))]:=by
 refine qo (anns:=an0) mixedT Tryz.func27 ?_;rw[qA,FO];exact⟨_,up (JM r.num),rfl⟩
theorem NH(n:Int):qa CC 177 [.c (.int .i64 n)] [.c (.bool false)]:=by
 refine qo (anns:=an0) mixedT Tryz.func177 ?_;rw[FP];simp
theorem Gi(m n:Int):qa CC 119 [.c (.int .i64 m),.c (.int .i64 n)] [.c (.int .i64 (QA m n))]:=by
 refine qo (anns:=an0) mixedT Tryz.func119 ?_;rw[Gh];refine⟨_,NH m,_,NH n,?_⟩;refine xG (λh=>by simp at h) (λ_=>?_);refine xG (λh=>by simp at h) (λ_=>?_);unfold QA;refine brd (λh=>?_) (λh=>?_)
 .rw[if_pos h]
 .rw[if_neg h];refine brd (λh=>?_) (λh=>?_)
  .rw[if_pos h]
  .rw[if_neg h]
def dP (x y:Rat):Int:=if x<y then-1 else if y<x then 1 else 0
theorem Wf(x y:Rat):dP x y=QA (x.num*y.den) (y.num*x.den):=by
 unfold dP QA;simp only[Rat.lt_iff]
theorem BA{x y:Rat}(hx:Sr x)(hy:Sr y):qa CC 65 [jQ x,jQ y] [.c (.int .i64 (dP x y))]:=by
 refine qo (anns:=an0) mixedT Tryz.func65 ?_;have h1:=JO x;have h2:=JO y;rw[qA]at h1 h2;rw[qA,qA,dK];refine⟨_,h1,_,h2,_,Gi _ _,?_⟩;have hm1:=up (wR hx.1.sm hy.2.sm);have hm2:=up (wR hy.1.sm hx.2.sm);have hc:=up (yb (hx.1.mul hy.2) (hy.1.mul hx.2));have px:=den_pos x;have py:=den_pos y;refine brb (λh=>?_) (λh=>?_)
 .have e:QA (sgn x.num) (sgn y.num)=dP x y:=by
   rw[Wf];have hs:∀(z d:Int),0<d->sgn (z*d)=sgn z:=by
    intro z d a3;unfold sgn;rcases Int.lt_trichotomy z 0 with h|h|h
    .have:=Int.mul_neg_of_neg_of_pos h a3;rw[if_pos h,if_pos this]
    .subst h;simp
    .have:=Ts h a3;rw[if_neg (show ¬z<0 by omega),if_pos h,if_neg (show ¬z*d<0 by omega),if_pos this]
   rw[<-hs x.num _ py,<-hs y.num _ px]at h ⊢;generalize x.num*(y.den:Int)=a at *;generalize y.num*(x.den:Int)=b at *;unfold QA sgn at *;simp only[bne_iff_ne,ne_eq]at h;split at h<;>split at h<;>(try split at h)<;>(try split at h)<;>split<;>(try split)<;>omega
  rw[e]
 .rw[Wf];exact⟨_,_,hm1,_,_,hm2,_,hc,rfl⟩
theorem LI{x:Rat}(hx:Sr x):qa CC 139 [jQ x] [jQ (-x)]:=by
 refine qo (anns:=an0) mixedT Tryz.func139 ?_;rw[qA,dN];refine⟨_,_,up (Gf hx.1.sm),?_⟩;rw[qA,en];have:(-x).den=x.den:=rfl;rw[this]
theorem BB(hd:Uu){x y:Rat}(hx:Sr x)(hy:Sr y):qa CC 121 [jQ x,jQ y] [jQ (x*y)]:=by
 refine qo (anns:=an0) mixedT Tryz.func121 ?_;rw[qA,qA,dO];have px:=den_pos x;have py:=den_pos y;have:=Ts px py;refine⟨_,_,up (wR hx.1.sm hy.1.sm),_,_,up (wR hx.2.sm hy.2.sm),q4 _,ZD hd (hx.1.mul hy.1) (hx.2.mul hy.2) (by omega),?_⟩;have e:x*y=ea (x.num*y.num) (x.den*y.den):=by rw[<-eb,dy,dy]
 rw[e];rfl
theorem LJ(hd:Uu){x y:Rat}(hx:Sr x)(hy:Sr y):qa CC 81 [jQ x,jQ y] [jQ (x+y)]:=by
 refine qo (anns:=an0) mixedT Tryz.func81 ?_;rw[qA,qA,dL];have px:=den_pos x;have py:=den_pos y;have hp:=Ts px py;have e0:x+y=ea (x.num*y.den+y.num*x.den) (x.den*y.den):=by rw[<-eg _ _ (by omega) (by omega),dy,dy]
 refine⟨_,up (yb hx.2.sm hy.2.sm),?_⟩;refine brb (λh=>?_) (λh=>?_)
 .have hxy:(x.den:Int)=y.den:=by
   unfold QA at h;split at h
   .simp at h
   .split at h
    .simp at h
    .omega
  have e1:x+y=ea (x.num+y.num) x.den:=by rw[e0,<-hxy,<-Int.add_mul,Rat.divInt_mul_right (by omega)]
  refine⟨_,_,up (ZA hx.1.sm hy.1.sm),q4 _,ZD hd (hx.1.add hy.1) hx.2.sm (by omega),?_⟩;rw[e1];rfl
 .refine⟨_,_,up (wR hx.1.sm hy.2.sm),_,_,up (wR hy.1.sm hx.2.sm),_,_,up (ZA (hx.1.mul hy.2) (hy.1.mul hx.2)),_,_,up (wR hx.2.sm hy.2.sm),q4 _,ZD hd (hx.1.mul_add hy.2 hy.1 hx.2) (hx.2.mul hy.2) (by omega),?_⟩;rw[e0];rfl
theorem Sr.neg{x:Rat}(h:Sr x):Sr (-x):=by
 refine⟨?_,h.2⟩;rw[en];unfold Sq;rw[Sz];exact h.1
theorem BC(hd:Uu){x y:Rat}(hx:Sr x)(hy:Sr y):qa CC 80 [jQ x,jQ y] [jQ (x-y)]:=by
 refine qo (anns:=an0) mixedT Tryz.func80 ?_;rw[qA,qA,dM];refine⟨q4 _,LI hy,q4 _,LJ hd hx hy.neg,?_⟩;rw[el];rfl
theorem XQ{n:Int}(h1: -9223372036854775808<=n)(h2:n<9223372036854775808):qa CC 130 [.c (.int .i64 n)] [jQ (n:Rat)]:=by
 have hw:qa CC 191 [qM n] [jQ (n:Rat)]:=by refine qo (anns:=an0) mixedT Tryz.func191 ?_;rw[xn,FM];refine⟨_,_,JN,?_⟩;rw[qA,ew,ez];rfl
 refine qo (anns:=an0) mixedT Tryz.func130 ?_;rw[Gg];exact⟨_,_,up (xv h1 h2),q4 _,hw,rfl⟩
end Eng
end
section
open Go Go.Proofs Eng
namespace Eng
section
variable (Gv:Nat->List A->List A->Prop)(I0:List D->List D->Prop)(M0:List D->Nat)(I1:List D->List D->Prop)(M1:List D->Nat)(I2:List D->List D->Prop)(M2:List D->Nat)(I3:List D->List D->Prop)(M3:List D->Nat)(Q:List A->Prop)
theorem FQ:wpF CC Gv an0 Tryz.f46 [] Q=(∃b es,Gv 44 [aI (1:Int)] [aZ b es]/\Q [aZ b es]):=by kernel_rfl
theorem lM(J3:List D->List D->Prop)(p q:Bool)(es fs:List (List D)):wpF CC Gv (V7 an0 3 ⟨[.box 2 [.bool false,.slice none 0 0],.box 3 [.bool false,.slice none 0 0]],[.box 2 [.bool false,.slice none 0 0],.box 3 [.bool false,.slice none 0 0]],J3,λ_=>0⟩) Tryz.f24 [.ag [.bool p,.sl es],.ag [.bool q,.sl fs]] Q=((∃i,Gv 58 [aZ q fs] [aI i]/\bB (decide (i<0)) (∃b e1,Gv 26 [aZ p es] [aZ b e1]/\∃b1 e2,Gv 26 [aZ q fs] [aZ b1 e2]/\J3 [Hv p,Hu es,Hv q,Hu fs] [Hv b,Hu e1,Hv b1,Hu e2]) (J3 [Hv p,Hu es,Hv q,Hu fs] [Hv p,Hu es,Hv q,Hu fs]))/\∀(b:Bool) (e1:List (List D)) (b1:Bool) (e2:List (List D)),J3 [Hv p,Hu es,Hv q,Hu fs] [Hv b,Hu e1,Hv b1,Hu e2]->∃b2 es,Gv 59 [aZ b e1,aZ b1 e2] [aZ b2 es]/\∃b3 e3 b4 e4 i,Gv 60 [aZ b e1,aZ b2 es] [aZ b3 e3,aZ b4 e4,aI i]/\∃b e5 b5 e6 i,Gv 60 [aZ b1 e2,aZ b2 es] [aZ b e5,aZ b5 e6,aI i]/\Q [F0 [Hv b3,Hu e3,Hv b,Hu e5]]):=by kernel_rfl
theorem FR(p q:Bool)(es fs:List (List D)):wpF CC Gv an0 Tryz.f337 [.ag [.bool p,.sl es],.ag [.bool q,.sl fs]] Q=(∃i,Gv 58 [aZ q fs] [aI i]/\bB (i==0) (Q [F0 [Hv false,Hu [],Hv false,Hu []],aI (6:Int)]) (∃x,Gv 24 [aZ p es,aZ q fs] [aR x]/\Q [aR x,aI (0:Int)])):=by kernel_rfl
theorem Gj(n:Int):wpF CC Gv an0 Tryz.f17 [.c (.int .i64 n)] Q=(∃b es,Gv 44 [aI n] [aZ b es]/\∃b1 e1,Gv 46 [] [aZ b1 e1]/\Q [F0 [Hv b,Hu es,Hv b1,Hu e1]]):=by kernel_rfl
theorem FS(p q:Bool)(es fs:List (List D)):wpF CC Gv an0 Tryz.f36 [.ag [.bool p,.sl es,.bool q,.sl fs]] Q=(∃i,Gv 58 [aZ p es] [aI i]/\Q [aI i]):=by kernel_rfl
theorem dQ(p q:Bool)(es fs:List (List D)):wpF CC Gv an0 Tryz.f9 [.ag [.bool p,.sl es,.bool q,.sl fs]] Q=(∃b e1,Gv 26 [aZ p es] [aZ b e1]/\Q [F0 [Hv b,Hu e1,Hv q,Hu fs]]):=by kernel_rfl
theorem dR(p q r s:Bool)(es fs gs hs:List (List D)):wpF CC Gv an0 Tryz.f8 [.ag [.bool p,.sl es,.bool q,.sl fs],.ag [.bool r,.sl gs,.bool s,.sl hs]] Q=(∃b e1,Gv 23 [aZ p es,aZ s hs] [aZ b e1]/\∃b1 es,Gv 23 [aZ r gs,aZ q fs] [aZ b1 es]/\∃b2 e2,Gv 25 [aZ b e1,aZ b1 es] [aZ b2 e2]/\∃b es,Gv 23 [aZ q fs,aZ s hs] [aZ b es]/\∃x,Gv 24 [aZ b2 e2,aZ b es] [aR x]/\Q [aR x]):=by kernel_rfl
theorem dS(p q r s:Bool)(es fs gs hs:List (List D)):wpF CC Gv an0 Tryz.f55 [.ag [.bool p,.sl es,.bool q,.sl fs],.ag [.bool r,.sl gs,.bool s,.sl hs]] Q=(∃x,Gv 9 [F0 [Hv r,Hu gs,Hv s,Hu hs]] [aR x]/\∃x1,Gv 8 [F0 [Hv p,Hu es,Hv q,Hu fs],aR x] [aR x1]/\Q [aR x1]):=by kernel_rfl
theorem dT(p q r s:Bool)(es fs gs hs:List (List D)):wpF CC Gv an0 Tryz.f85 [.ag [.bool p,.sl es,.bool q,.sl fs],.ag [.bool r,.sl gs,.bool s,.sl hs]] Q=(∃b e1,Gv 23 [aZ p es,aZ s hs] [aZ b e1]/\∃b1 es,Gv 23 [aZ r gs,aZ q fs] [aZ b1 es]/\∃i,Gv 143 [aZ b e1,aZ b1 es] [aI i]/\Q [aI i]):=by kernel_rfl
theorem dU(p q r s:Bool)(es fs gs hs:List (List D)):wpF CC Gv an0 Tryz.f114 [.ag [.bool p,.sl es,.bool q,.sl fs],.ag [.bool r,.sl gs,.bool s,.sl hs]] Q=(∃b e1,Gv 23 [aZ p es,aZ r gs] [aZ b e1]/\∃b1 es,Gv 23 [aZ q fs,aZ s hs] [aZ b1 es]/\∃x,Gv 24 [aZ b e1,aZ b1 es] [aR x]/\Q [aR x]):=by kernel_rfl
theorem dV(p q r s:Bool)(es fs gs hs:List (List D)):wpF CC Gv an0 Tryz.f310 [.ag [.bool p,.sl es,.bool q,.sl fs],.ag [.bool r,.sl gs,.bool s,.sl hs]] Q=(∃b e1,Gv 23 [aZ p es,aZ s hs] [aZ b e1]/\∃b1 es,Gv 23 [aZ q fs,aZ r gs] [aZ b1 es]/\∃x i,Gv 337 [aZ b e1,aZ b1 es] [aR x,aI i]/\Q [aR x,aI i]):=by kernel_rfl
end
end Eng
end
section
open Go Go.Proofs Eng
namespace Eng
section
variable (Gv:Nat->List A->List A->Prop)(I0:List D->List D->Prop)(M0:List D->Nat)(I1:List D->List D->Prop)(M1:List D->Nat)(I2:List D->List D->Prop)(M2:List D->Nat)(I3:List D->List D->Prop)(M3:List D->Nat)(Q:List A->Prop)
theorem FT(es:List (List D)):wpF CC Gv (λ_=>⟨[.slot 0 (.slice none 0 0)],[],I0,M0⟩) Tryz.f115 [.c (.sl es)] Q=(I0 [] [Hu es]/\∀(es:List (List D)),I0 [] [Hu es]->bB (decide ((J9 es.length)>0)) ((0<=J7 .i64 ((J9 es.length)-1)/\J7 .i64 ((J9 es.length)-1)<(J9 es.length)/\W2 (nth [] es (Lm (J7 .i64 ((J9 es.length)-1))))=1)/\∃n,cut (nth [] es (Lm (J7 .i64 ((J9 es.length)-1)))) 0 1 [F2 .u32 n]/\bB (n==0) (((0:Int)<=(0:Int)/\0<=J7 .i64 ((J9 es.length)-1)/\J7 .i64 ((J9 es.length)-1)<=(J9 es.length)/\lens 1 es)/\I0 [] [Hu (bh 0 (bb (Lm (J7 .i64 ((J9 es.length)-1))) es))]/\M0 [Hu (bh 0 (bb (Lm (J7 .i64 ((J9 es.length)-1))) es))]<M0 [Hu es]) (Q [aL es])) (Q [aL es])):=by kernel_rfl
theorem PN(b:Bool)(es:List (List D)):wpF CC Gv an0 Tryz.f56 [.c (.bool b),.c (.sl es)] Q=(∃e1,Gv 115 [aL es] [aL e1]/\br b (Q [aZ (decide ((J9 e1.length)>0)) e1]) (Q [aZ false e1])):=by kernel_rfl
theorem BE(n:Int):wpF CC Gv (λ_=>⟨[.own 3 15 1,.slot 0 (.int .u64 0)],[],I0,M0⟩) Tryz.f102 [.c (.int .u64 n)] Q=(I0 [] [Hu [],F2 .u64 n]/\∀(es:List (List D)) (n:Int),I0 [] [Hu es,F2 .u64 n]->bB (decide (n>0)) ((1000000000:Int)≠(0:Int)/\(room (es.length+1)/\lens 1 [[F2 .u32 (J7 .u32 (Pl n (1000000000:Int)))]])/\(1000000000:Int)≠(0:Int)/\I0 [] [Hu (es++[[F2 .u32 (J7 .u32 (Pl n (1000000000:Int)))]]),F2 .u64 (J7 .u64 (No n (1000000000:Int)))]/\M0 [Hu (es++[[F2 .u32 (J7 .u32 (Pl n (1000000000:Int)))]]),F2 .u64 (J7 .u64 (No n (1000000000:Int)))]<M0 [Hu es,F2 .u64 n]) (Q [aL es])):=by kernel_rfl
theorem Gk(n:Int):wpF CC Gv an0 Tryz.f44 [.c (.int .i64 n)] Q=(bB (decide (n<0)) (∃es,Gv 102 [Dd (F2 .u64 (J7 .u64 (0-J7 .u64 n)))] [aL es]/\∃b e1,Gv 56 [aB true,aL es] [aZ b e1]/\Q [aZ b e1]) (∃es,Gv 102 [Dd (F2 .u64 (J7 .u64 n))] [aL es]/\∃b e1,Gv 56 [aB false,aL es] [aZ b e1]/\Q [aZ b e1])):=by kernel_rfl
theorem BF(es:List (List D)):wpF CC Gv (λ_=>⟨[.slot 3 (.int .u64 0),.slot 4 (.int .i64 0)],[],I0,M0⟩) Tryz.f117 [.c (.sl es)] Q=(I0 [] [F2 .u64 0,dI (J7 .i64 ((J9 es.length)-1))]/\∀(n n1:Int),I0 [] [F2 .u64 n,dI n1]->bB (decide (n1>=0)) ((0<=n1/\n1<(J9 es.length)/\W2 (nth [] es (Lm n1))=1)/\∃n2,cut (nth [] es (Lm n1)) 0 1 [F2 .u32 n2]/\I0 [] [F2 .u64 (J7 .u64 (J7 .u64 (n*1000000000)+J7 .u64 n2)),dI (J7 .i64 (n1-1))]/\M0 [F2 .u64 (J7 .u64 (J7 .u64 (n*1000000000)+J7 .u64 n2)),dI (J7 .i64 (n1-1))]<M0 [F2 .u64 n,dI n1]) (Q [Dd (F2 .u64 n)])):=by kernel_rfl
theorem FU(p:Bool)(es:List (List D)):wpF CC Gv an0 Tryz.f58 [.ag [.bool p,.sl es]] Q=(bB ((J9 es.length)==0) (Q [aI (0:Int)]) (br p (Q [aI (-1:Int)]) (Q [aI (1:Int)]))):=by kernel_rfl
theorem LK(es fs:List (List D)):wpF CC Gv (λ_=>⟨[.slot 5 (.int .i64 0)],[],I0,M0⟩) Tryz.f62 [.c (.sl es),.c (.sl fs)] Q=(bB ((J9 es.length) !=(J9 fs.length)) (bB (decide ((J9 es.length)<(J9 fs.length))) (Q [aI (-1:Int)]) (Q [aI (1:Int)])) (I0 [] [dI (J7 .i64 ((J9 es.length)-1))]/\∀(n:Int),I0 [] [dI n]->bB (decide (n>=0)) ((0<=n/\n<(J9 es.length)/\W2 (nth [] es (Lm n))=1)/\∃n1,cut (nth [] es (Lm n)) 0 1 [F2 .u32 n1]/\(0<=n/\n<(J9 fs.length)/\W2 (nth [] fs (Lm n))=1)/\∃n2,cut (nth [] fs (Lm n)) 0 1 [F2 .u32 n2]/\bB (decide (n1<n2)) (Q [aI (-1:Int)]) ((0<=n/\n<(J9 es.length)/\W2 (nth [] es (Lm n))=1)/\∃n3,cut (nth [] es (Lm n)) 0 1 [F2 .u32 n3]/\(0<=n/\n<(J9 fs.length)/\W2 (nth [] fs (Lm n))=1)/\∃n4,cut (nth [] fs (Lm n)) 0 1 [F2 .u32 n4]/\bB (decide (n3>n4)) (Q [aI (1:Int)]) (I0 [] [dI (J7 .i64 (n-1))]/\M0 [dI (J7 .i64 (n-1))]<M0 [dI n]))) (Q [aI (0:Int)]))):=by kernel_rfl
theorem dW(p q:Bool)(es fs:List (List D)):wpF CC Gv an0 Tryz.f143 [.ag [.bool p,.sl es],.ag [.bool q,.sl fs]] Q=(bB (!p==q) (br p (Q [aI (-1:Int)]) (Q [aI (1:Int)])) (br p (∃n,Gv 62 [aL fs,aL es] [aI n]/\Q [aI n]) (∃n,Gv 62 [aL es,aL fs] [aI n]/\Q [aI n]))):=by kernel_rfl
end
def NI (Gv:Nat->List A->List A->Prop) (I0:List D->List D->Prop) (M0:List D->Nat) (Q:List A->Prop) (es fs:List (List D)):Prop:=((0<=J7 .i64 ((J9 es.length)+1)/\J7 .i64 ((J9 es.length)+1)<=J7 .i64 ((J9 es.length)+1)/\room (Lm (J7 .i64 ((J9 es.length)+1))))/\I0 [] [Hu (W1 (Lm (J7 .i64 ((J9 es.length)+1))) [F2 .u32 0]),F2 .u32 0,F2 .i64 0]/\∀(e1:List (List D)) (n n1:Int),I0 [] [Hu e1,F2 .u32 n,F2 .i64 n1]->br (toB (Hv (decide (n1<(J9 es.length))))) ((0<=n1/\n1<(J9 es.length)/\W2 (nth [] es (Lm n1))=1)/\∃n2,cut (nth [] es (Lm n1)) 0 1 [F2 .u32 n2]/\br (toB (Hv (decide (n1<(J9 fs.length))))) ((0<=n1/\n1<(J9 fs.length)/\W2 (nth [] fs (Lm n1))=1)/\∃n3,cut (nth [] fs (Lm n1)) 0 1 [F2 .u32 n3]/\(1000000000:Int)≠(0:Int)/\(0<=n1/\n1<(J9 e1.length))/\0<1/\(1000000000:Int)≠(0:Int)/\I0 [] [Hu (upd e1 (Lm n1) (upd (nth [] e1 (Lm n1)) 0 (F2 .u32 (Pl (J7 .u32 (J7 .u32 (n+n2)+n3)) (1000000000:Int))))),F2 .u32 (J7 .u32 (No (J7 .u32 (J7 .u32 (n+n2)+n3)) (1000000000:Int))),F2 .i64 (J7 .i64 (n1+1))]/\M0 [Hu (upd e1 (Lm n1) (upd (nth [] e1 (Lm n1)) 0 (F2 .u32 (Pl (J7 .u32 (J7 .u32 (n+n2)+n3)) (1000000000:Int))))),F2 .u32 (J7 .u32 (No (J7 .u32 (J7 .u32 (n+n2)+n3)) (1000000000:Int))),F2 .i64 (J7 .i64 (n1+1))]<M0 [Hu e1,F2 .u32 n,F2 .i64 n1]) ((1000000000:Int)≠(0:Int)/\(0<=n1/\n1<(J9 e1.length))/\0<1/\(1000000000:Int)≠(0:Int)/\I0 [] [Hu (upd e1 (Lm n1) (upd (nth [] e1 (Lm n1)) 0 (F2 .u32 (Pl (J7 .u32 (n+n2)) (1000000000:Int))))),F2 .u32 (J7 .u32 (No (J7 .u32 (n+n2)) (1000000000:Int))),F2 .i64 (J7 .i64 (n1+1))]/\M0 [Hu (upd e1 (Lm n1) (upd (nth [] e1 (Lm n1)) 0 (F2 .u32 (Pl (J7 .u32 (n+n2)) (1000000000:Int))))),F2 .u32 (J7 .u32 (No (J7 .u32 (n+n2)) (1000000000:Int))),F2 .i64 (J7 .i64 (n1+1))]<M0 [Hu e1,F2 .u32 n,F2 .i64 n1])) ((0<=(J9 es.length)/\(J9 es.length)<(J9 e1.length))/\0<1/\∃e2,Gv 115 [Dd (Hu (upd e1 (Lm (J9 es.length)) (upd (nth [] e1 (Lm (J9 es.length))) 0 (F2 .u32 n))))] [Dd (Hu e2)]/\Q [Dd (Hu e2)]))
section
variable (Gv:Nat->List A->List A->Prop)(I0:List D->List D->Prop)(M0:List D->Nat)(I1:List D->List D->Prop)(M1:List D->Nat)(I2:List D->List D->Prop)(M2:List D->Nat)(I3:List D->List D->Prop)(M3:List D->Nat)(Q:List A->Prop)
theorem NJ(es fs:List (List D)):wpF CC Gv (λ_=>⟨[.own 5 55 1,.slot 6 (.int .u32 0),.slot 7 (.int .i64 0)],[],I0,M0⟩) Tryz.f61 [.c (.sl es),.c (.sl fs)] Q=(bB (decide ((J9 es.length)<(J9 fs.length))) (NI Gv I0 M0 Q fs es) (NI Gv I0 M0 Q es fs)):=by kernel_rfl
theorem BG(es fs:List (List D)):wpF CC Gv (λ_=>⟨[.own 5 45 1,.slot 6 (.int .u32 0),.slot 7 (.int .i64 0)],[],I0,M0⟩) Tryz.f63 [.c (.sl es),.c (.sl fs)] Q=((0<=(J9 es.length)/\(J9 es.length)<=(J9 es.length)/\room (Lm (J9 es.length)))/\I0 [] [Hu (W1 (Lm (J9 es.length)) [F2 .u32 0]),F2 .u32 0,dI (0:Int)]/\∀(e1:List (List D)) (n n1:Int),I0 [] [Hu e1,F2 .u32 n,dI n1]->bB (decide (n1<(J9 es.length))) ((0<=n1/\n1<(J9 es.length)/\W2 (nth [] es (Lm n1))=1)/\∃n2,cut (nth [] es (Lm n1)) 0 1 [F2 .u32 n2]/\bB (decide (n1<(J9 fs.length))) ((0<=n1/\n1<(J9 fs.length)/\W2 (nth [] fs (Lm n1))=1)/\∃n3,cut (nth [] fs (Lm n1)) 0 1 [F2 .u32 n3]/\bB (decide (J7 .u32 (J7 .u32 (J7 .u32 (n2+1000000000)-n)-n3)>=1000000000)) ((0<=n1/\n1<(J9 e1.length))/\0<1/\I0 [] [Hu (upd e1 (Lm n1) (upd (nth [] e1 (Lm n1)) 0 (F2 .u32 (J7 .u32 (J7 .u32 (J7 .u32 (J7 .u32 (n2+1000000000)-n)-n3)-1000000000))))),F2 .u32 0,dI (J7 .i64 (n1+1))]/\M0 [Hu (upd e1 (Lm n1) (upd (nth [] e1 (Lm n1)) 0 (F2 .u32 (J7 .u32 (J7 .u32 (J7 .u32 (J7 .u32 (n2+1000000000)-n)-n3)-1000000000))))),F2 .u32 0,dI (J7 .i64 (n1+1))]<M0 [Hu e1,F2 .u32 n,dI n1]) ((0<=n1/\n1<(J9 e1.length))/\0<1/\I0 [] [Hu (upd e1 (Lm n1) (upd (nth [] e1 (Lm n1)) 0 (F2 .u32 (J7 .u32 (J7 .u32 (J7 .u32 (n2+1000000000)-n)-n3))))),F2 .u32 1,dI (J7 .i64 (n1+1))]/\M0 [Hu (upd e1 (Lm n1) (upd (nth [] e1 (Lm n1)) 0 (F2 .u32 (J7 .u32 (J7 .u32 (J7 .u32 (n2+1000000000)-n)-n3))))),F2 .u32 1,dI (J7 .i64 (n1+1))]<M0 [Hu e1,F2 .u32 n,dI n1])) (bB (decide (J7 .u32 (J7 .u32 (n2+1000000000)-n)>=1000000000)) ((0<=n1/\n1<(J9 e1.length))/\0<1/\I0 [] [Hu (upd e1 (Lm n1) (upd (nth [] e1 (Lm n1)) 0 (F2 .u32 (J7 .u32 (J7 .u32 (J7 .u32 (n2+1000000000)-n)-1000000000))))),F2 .u32 0,dI (J7 .i64 (n1+1))]/\M0 [Hu (upd e1 (Lm n1) (upd (nth [] e1 (Lm n1)) 0 (F2 .u32 (J7 .u32 (J7 .u32 (J7 .u32 (n2+1000000000)-n)-1000000000))))),F2 .u32 0,dI (J7 .i64 (n1+1))]<M0 [Hu e1,F2 .u32 n,dI n1]) ((0<=n1/\n1<(J9 e1.length))/\0<1/\I0 [] [Hu (upd e1 (Lm n1) (upd (nth [] e1 (Lm n1)) 0 (F2 .u32 (J7 .u32 (J7 .u32 (n2+1000000000)-n))))),F2 .u32 1,dI (J7 .i64 (n1+1))]/\M0 [Hu (upd e1 (Lm n1) (upd (nth [] e1 (Lm n1)) 0 (F2 .u32 (J7 .u32 (J7 .u32 (n2+1000000000)-n))))),F2 .u32 1,dI (J7 .i64 (n1+1))]<M0 [Hu e1,F2 .u32 n,dI n1]))) (∃es,Gv 115 [aL e1] [aL es]/\Q [aL es])):=by kernel_rfl
theorem BH(es fs:List (List D)):wpF CC Gv (Vl ⟨[.own 5 68 1,.slot 6 (.int .i64 0)],[],I0,M0⟩ ⟨[.own 5 68 1,.slot 7 (.int .u64 0),.slot 8 (.int .i64 0)],[.slot 6 (.int .i64 0),.own 5 68 1],I1,M1⟩) Tryz.f57 [.c (.sl es),.c (.sl fs)] Q=((0<=J7 .i64 ((J9 es.length)+(J9 fs.length))/\J7 .i64 ((J9 es.length)+(J9 fs.length))<=J7 .i64 ((J9 es.length)+(J9 fs.length))/\room (Lm (J7 .i64 ((J9 es.length)+(J9 fs.length)))))/\I0 [] [Hu (W1 (Lm (J7 .i64 ((J9 es.length)+(J9 fs.length)))) [F2 .u32 0]),dI (0:Int)]/\∀(e1:List (List D)) (n:Int),I0 [] [Hu e1,dI n]->bB (decide (n<(J9 es.length))) (I1 [dI n,Hu e1] [Hu e1,F2 .u64 0,dI (0:Int)]/\∀(e2:List (List D)) (n1 n2:Int),I1 [dI n,Hu e1] [Hu e2,F2 .u64 n1,dI n2]->bB (decide (n2<(J9 fs.length))) ((0<=J7 .i64 (n+n2)/\J7 .i64 (n+n2)<(J9 e2.length))/\∃n3,cut (nth [] e2 (Lm (J7 .i64 (n+n2)))) 0 1 [F2 .u32 n3]/\(0<=n/\n<(J9 es.length)/\W2 (nth [] es (Lm n))=1)/\∃n4,cut (nth [] es (Lm n)) 0 1 [F2 .u32 n4]/\(0<=n2/\n2<(J9 fs.length)/\W2 (nth [] fs (Lm n2))=1)/\∃n5,cut (nth [] fs (Lm n2)) 0 1 [F2 .u32 n5]/\(1000000000:Int)≠(0:Int)/\(0<=J7 .i64 (n+n2)/\J7 .i64 (n+n2)<(J9 e2.length))/\0<1/\(1000000000:Int)≠(0:Int)/\I1 [dI n,Hu e1] [Hu (upd e2 (Lm (J7 .i64 (n+n2))) (upd (nth [] e2 (Lm (J7 .i64 (n+n2)))) 0 (F2 .u32 (J7 .u32 (Pl (J7 .u64 (J7 .u64 (n1+J7 .u64 n3)+J7 .u64 (J7 .u64 n4*J7 .u64 n5))) (1000000000:Int)))))),F2 .u64 (J7 .u64 (No (J7 .u64 (J7 .u64 (n1+J7 .u64 n3)+J7 .u64 (J7 .u64 n4*J7 .u64 n5))) (1000000000:Int))),dI (J7 .i64 (n2+1))]/\M1 [Hu (upd e2 (Lm (J7 .i64 (n+n2))) (upd (nth [] e2 (Lm (J7 .i64 (n+n2)))) 0 (F2 .u32 (J7 .u32 (Pl (J7 .u64 (J7 .u64 (n1+J7 .u64 n3)+J7 .u64 (J7 .u64 n4*J7 .u64 n5))) (1000000000:Int)))))),F2 .u64 (J7 .u64 (No (J7 .u64 (J7 .u64 (n1+J7 .u64 n3)+J7 .u64 (J7 .u64 n4*J7 .u64 n5))) (1000000000:Int))),dI (J7 .i64 (n2+1))]<M1 [Hu e2,F2 .u64 n1,dI n2]) ((0<=J7 .i64 (n+(J9 fs.length))/\J7 .i64 (n+(J9 fs.length))<(J9 e2.length))/\0<1/\I0 [] [Hu (upd e2 (Lm (J7 .i64 (n+(J9 fs.length)))) (upd (nth [] e2 (Lm (J7 .i64 (n+(J9 fs.length))))) 0 (F2 .u32 (J7 .u32 n1)))),dI (J7 .i64 (n+1))]/\M0 [Hu (upd e2 (Lm (J7 .i64 (n+(J9 fs.length)))) (upd (nth [] e2 (Lm (J7 .i64 (n+(J9 fs.length))))) 0 (F2 .u32 (J7 .u32 n1)))),dI (J7 .i64 (n+1))]<M0 [Hu e1,dI n])) (∃es,Gv 115 [aL e1] [aL es]/\Q [aL es])):=by kernel_rfl
theorem lN(es:List (List D))(n:Int):wpF CC Gv an0 Tryz.f176 [.c (.sl es),.c (.int .u32 n)] Q=(∃e1,Gv 115 [aL [[F2 .u32 n]]] [aL e1]/\∃e2,Gv 57 [aL es,aL e1] [aL e2]/\Q [aL e2]):=by kernel_rfl
theorem dX(p:Bool)(es:List (List D)):wpF CC Gv an0 Tryz.f26 [.ag [.bool p,.sl es]] Q=(∃b e1,Gv 56 [aB (!p),aL es] [aZ b e1]/\Q [aZ b e1]):=by kernel_rfl
theorem dY(p q:Bool)(es fs:List (List D)):wpF CC Gv an0 Tryz.f25 [.ag [.bool p,.sl es],.ag [.bool q,.sl fs]] Q=(bB (p==q) (∃e1,Gv 61 [aL es,aL fs] [aL e1]/\∃b es,Gv 56 [aB p,aL e1] [aZ b es]/\Q [aZ b es]) (∃n,Gv 62 [aL es,aL fs] [aI n]/\bB (decide (n>=0)) (∃e1,Gv 63 [aL es,aL fs] [aL e1]/\∃b es,Gv 56 [aB p,aL e1] [aZ b es]/\Q [aZ b es]) (∃e1,Gv 63 [aL fs,aL es] [aL e1]/\∃b es,Gv 56 [aB q,aL e1] [aZ b es]/\Q [aZ b es]))):=by kernel_rfl
theorem dZ(p q:Bool)(es fs:List (List D)):wpF CC Gv an0 Tryz.f118 [.ag [.bool p,.sl es],.ag [.bool q,.sl fs]] Q=(∃b e1,Gv 26 [aZ q fs] [aZ b e1]/\∃b1 e2,Gv 25 [aZ p es,aZ b e1] [aZ b1 e2]/\Q [aZ b1 e2]):=by kernel_rfl
theorem ed(p q:Bool)(es fs:List (List D)):wpF CC Gv an0 Tryz.f23 [.ag [.bool p,.sl es],.ag [.bool q,.sl fs]] Q=(∃e1,Gv 57 [aL es,aL fs] [aL e1]/\∃b es,Gv 56 [Dd (Hv !p==q),aL e1] [aZ b es]/\Q [aZ b es]):=by kernel_rfl
theorem ee(p q:Bool)(es fs:List (List D)):wpF CC Gv (Vl ⟨[.slot 5 (.slice none 0 0),.slot 6 (.slice none 0 0)],[],I0,M0⟩ ⟨[.slot 9 (.int .u64 0),.slot 10 (.int .u64 0)],[],I1,M1⟩) Tryz.f59 [.ag [.bool p,.sl es],.ag [.bool q,.sl fs]] Q=(I0 [] [Hu es,Hu fs]/\∀(es e1:List (List D)),I0 [] [Hu es,Hu e1]->bB (decide ((J9 e1.length)>0)) (bB (decide ((J9 es.length)>2)) (∃e2 e3,Gv 116 [aL es,aL e1] [aL e2,aL e3]/\I0 [] [Hu e1,Hu e3]/\M0 [Hu e1,Hu e3]<M0 [Hu es,Hu e1]) (bB (decide ((J9 e1.length)>2)) (∃e2 e3,Gv 116 [aL es,aL e1] [aL e2,aL e3]/\I0 [] [Hu e1,Hu e3]/\M0 [Hu e1,Hu e3]<M0 [Hu es,Hu e1]) (bB ((J9 e1.length)==0) (∃b e2,Gv 56 [aB false,aL es] [aZ b e2]/\Q [aZ b e2]) (∃n,Gv 117 [aL es] [Dd (F2 .u64 n)]/\∃n1,Gv 117 [aL e1] [Dd (F2 .u64 n1)]/\I1 [] [F2 .u64 n,F2 .u64 n1]/\∀(n n2:Int),I1 [] [F2 .u64 n,F2 .u64 n2]->bB (decide (n2>0)) (n2≠0/\I1 [] [F2 .u64 n2,F2 .u64 (Pl n n2)]/\M1 [F2 .u64 n2,F2 .u64 (Pl n n2)]<M1 [F2 .u64 n,F2 .u64 n2]) (∃es,Gv 102 [Dd (F2 .u64 n)] [aL es]/\∃b e2,Gv 56 [aB false,aL es] [aZ b e2]/\Q [aZ b e2]))))) (bB ((J9 e1.length)==0) (∃b e2,Gv 56 [aB false,aL es] [aZ b e2]/\Q [aZ b e2]) (∃n,Gv 117 [aL es] [Dd (F2 .u64 n)]/\∃n1,Gv 117 [aL e1] [Dd (F2 .u64 n1)]/\I1 [] [F2 .u64 n,F2 .u64 n1]/\∀(n n2:Int),I1 [] [F2 .u64 n,F2 .u64 n2]->bB (decide (n2>0)) (n2≠0/\I1 [] [F2 .u64 n2,F2 .u64 (Pl n n2)]/\M1 [F2 .u64 n2,F2 .u64 (Pl n n2)]<M1 [F2 .u64 n,F2 .u64 n2]) (∃es,Gv 102 [Dd (F2 .u64 n)] [aL es]/\∃b e2,Gv 56 [aB false,aL es] [aZ b e2]/\Q [aZ b e2])))):=by kernel_rfl
theorem PO(p q:Bool)(es fs:List (List D)):wpF CC Gv an0 Tryz.f60 [.ag [.bool p,.sl es],.ag [.bool q,.sl fs]] Q=(bB ((J9 fs.length)==0) (Q [aZ false [],aZ false [],aI (6:Int)]) (∃e1 e2,Gv 116 [aL es,aL fs] [aL e1,aL e2]/\∃b es,Gv 56 [Dd (Hv !p==q),aL e1] [aZ b es]/\∃b1 e3,Gv 56 [aB p,aL e2] [aZ b1 e3]/\bB (decide ((J9 e2.length)>0)) (bB (!p==q) (∃b2 e4,Gv 44 [aI (1:Int)] [aZ b2 e4]/\∃b3 e5,Gv 118 [aZ b es,aZ b2 e4] [aZ b3 e5]/\∃b es,Gv 25 [aZ b1 e3,aZ q fs] [aZ b es]/\Q [aZ b3 e5,aZ b es,aI (0:Int)]) (Q [aZ b es,aZ b1 e3,aI (0:Int)])) (Q [aZ b es,aZ b1 e3,aI (0:Int)]))):=by kernel_rfl
end
end Eng
end
section
namespace Eng
open Go Go.Proofs
set_option maxRecDepth 100000
theorem Gl{n:Nat}(h:0<n):lim n=n%1000000000::lim (n/1000000000):=by
 have e:n=val (n%1000000000::lim (n/1000000000)):=by simp only[val,qh];omega
 conv=>lhs;rw[e]
 refine Qj (J5 (ch _ (by omega)) (qe _)) (.inr ?_);rcases jX (n/1000000000)with h1|h1
 .have:n/1000000000=0:=vX.1 h1
  grind
 .cases hh:(lim (n/1000000000)).getLast? with
  |none=>
   have:n/1000000000=0:=vX.1 (List.getLast?_eq_none_iff.1 hh)
   grind
  |some x=>grind
theorem qz(z:Int):qM z= .ag [.bool (decide (z<0)),.sl (raw (lim z.natAbs))]:=rfl
theorem kE{l:List Nat}(hl:Limbs l)(hr:l.length<=1073741824):qa CC 115 [.c (.sl (raw l))] [.c (.sl (raw (lim (val l))))]:=by
 refine qo (anns:=λ_=>⟨[.slot 0 (.slice none 0 0)],[],λ_ ds=>∃k,k<=l.length/\ds=[.sl (raw (l.take k))]/\val (l.take k)=val l,λds=>(toL (nth .undef ds 0)).length⟩) mixedT Tryz.func115 ?_;rw[FT];simp only[Lv];refine⟨⟨l.length,bv _,by rw[W3],by rw[W3]⟩,?_⟩;rintro es ⟨k,hk,he,hv⟩;simp only[bk,Hy,and_true]at he;subst he;have a3:(raw (l.take k)).length=k:=by rw[qg,an];omega
 have hfin:(k=0\/∃h:k-1<l.length,l[k-1]≠0)->[Dd (Hu (raw (l.take k)))]=[Dd (Hu (raw (lim (val l))))]:=by
  intro h;rw[<-hv,Qj (hl.take k)];rcases h with rfl|⟨h,hne⟩
  .exact .inl (by simp)
  .refine .inr ?_;rw[List.getLast?_take];split
   .simp
   .rw[List.getElem?_eq_getElem h]
    simpa using hne
 refine brd (λh=>?_) (λh=>?_)
 .rw[a3]at h ⊢;have hk0:0<k:=by omega
  have hw:J7 .i64 ((k:Int)-1)=((k-1:Nat):Int):=by rw[xF];omega
  rw[hw];have a4:k-1<(l.take k).length:=by rw[an];omega
  have hg:(l.take k)[k-1]=l[k-1]:=List.getElem_take ..;refine⟨⟨by omega,by omega,qx a4⟩,_,qy a4,brb (λhz=>?_) (λhz=>?_)⟩
  .have hz:l[k-1]=0:=by rw[hg]at hz;simpa using hz
   refine⟨⟨by omega,by omega,by omega,jt _⟩,⟨k-1,by omega,?_,?_⟩,?_⟩
   .simp only[Lr,kA,aE,List.take_take];congr 4;omega
   .have:l.take k=l.take (k-1)++[l[k-1]]:=by have:=List.take_succ_eq_append_getElem (l:=l) (i:=k-1) (by omega);rw[show k-1+1=k by omega]at this;exact this
    rw[<-hv,this,hz,qO];simp[val]
   .simp only[Lr,nth,toL,aE,an,a3];omega
  grind
 grind
theorem PP{l:List Nat}(b:Bool)(hl:Limbs l)(hr:l.length<=1073741824):qa CC 56 [.c (.bool b),.c (.sl (raw l))] [.ag [.bool (b&&decide (0<val l)),.sl (raw (lim (val l)))]]:=by
 refine qo (anns:=an0) mixedT Tryz.func56 ?_;rw[PN];refine⟨_,kE hl hr,?_⟩;have hd:decide ((J9 (W2 (raw (lim (val l)))))>(0:Int))=decide (0<val l):=by
  rw[decide_eq_decide,qg,<-qB (n:=val l)]
  grind
 refine xG (λhb=>?_) (λhb=>?_)
 .grind
 grind
theorem xe{l:List Nat}(b:Bool)(hl:Limbs l)(hr:l.length<=1073741824){z:Int}(hz:z=if b then-(val l:Int)else(val l:Int)):
 qa CC 56 [.c (.bool b),.c (.sl (raw l))] [qM z]:=by
 have h:=PP b hl hr;have e:qM z= .ag [.bool (b&&decide (0<val l)),.sl (raw (lim (val l)))]:=by
  unfold qM cI;cases b with
  |false=>
   grind
  |true=>simp_all
 grind
theorem XR{u:Nat}(hu:u<18446744073709551616):qa CC 102 [.c (.int .u64 (u:Int))] [.c (.sl (raw (lim u)))]:=by
 have h3:(lim u).length<=3:=qq (cc hu (by decide));refine qo (anns:=λ_=>⟨[.own 3 15 1,.slot 0 (.int .u64 0)],[],λ_ ds=>∃(h:List Nat) (v:Nat),ds=[.sl (raw h),.int .u64 (v:Int)]/\v<=u/\lim u=h++lim v,λds=>(toI (nth .undef ds 1)).toNat⟩) mixedT Tryz.func102 ?_;rw[BE];refine⟨⟨[],u,rfl,bv _,rfl⟩,?_⟩;rintro es n ⟨h,v,he,hv,hl⟩;simp only[bk,Hy,Hx,true_and,and_true]at he;obtain⟨rfl,rfl⟩:=he;have hlen:h.length<=3:=by
  grind
 refine brd (λh0=>?_) (λh0=>?_)
 .have hv0:0<v:=by omega
  rw[PL,PM,kD,xV];refine⟨by omega,⟨by rw[qg];unfold room;omega,jt [v%1000000000]⟩,by omega,⟨h++[v%1000000000],v/1000000000,?_,by omega,?_⟩,?_⟩
  .rw[qW];rfl
  .rw[hl,Gl hv0,List.append_assoc];rfl
  .simp only[nth,toI,Lr];omega
 simp_all[Gb,bd]
theorem zd{n:Int}(h1: -9223372036854775808<=n)(h2:n<9223372036854775808):qa CC 44 [.c (.int .i64 n)] [qM n]:=by
 refine qo (anns:=an0) mixedT Tryz.func44 ?_;rw[Gk];have hl:∀u:Nat,u<18446744073709551616->(lim u).length<=1073741824:=λu hu=>by have:(lim u).length<=3:=qq (cc hu (by decide));omega
 refine brd (λh=>?_) (λh=>?_)
 .obtain⟨u,rfl⟩:∃u:Nat,n= -(u:Int):=⟨n.natAbs,by omega⟩;have e:J7 .u64 (0-J7 .u64 (-(u:Int)))=(u:Int):=by simp[J7,IntKind.bits,IntKind.signed];omega
  rw[e];exact⟨_,XR (by omega),_,_,xe true (qe u) (hl u (by omega)) (z:= -(u:Int)) (by simp[qh]),rfl⟩
 .obtain⟨u,rfl⟩:∃u:Nat,n=(u:Int):=⟨n.natAbs,by omega⟩;rw[xV];exact⟨_,XR (by omega),_,_,xe false (qe u) (hl u (by omega)) (z:=(u:Int)) (by simp[qh]),rfl⟩
theorem XS{l:List Nat}(hl:Limbs l)(h2:l.length<=2):qa CC 117 [.c (.sl (raw l))] [.c (.int .u64 (val l:Int))]:=by
 refine qo (anns:=λ_=>⟨[.slot 3 (.int .u64 0),.slot 4 (.int .i64 0)],[],λ_ ds=>∃k:Nat,k<=l.length/\ds=[.int .u64 (val (l.drop k):Int),.int .i64 ((k:Int)-1)],λds=>(toI (nth .undef ds 1)+1).toNat⟩) mixedT Tryz.func117 ?_;rw[BF];simp only[Lv,qg];refine⟨⟨l.length,bv _,by rw[ap,xF];rfl⟩,?_⟩;rintro n m ⟨k,hk,he⟩;simp only[bk,Hx,true_and,and_true]at he;obtain⟨rfl,rfl⟩:=he;refine brd (λh=>?_) (λh=>?_)
 .have a3:k-1<l.length:=by omega
  have ht:((k:Int)-1).toNat=k-1:=by omega
  rw[ht];have hd:val (l.drop (k-1))=l[k-1]+1000000000*val (l.drop k):=by rw[W4 a3,show k-1+1=k by omega];rfl
  have hlt:=qQ (hl.drop k);have hdl:(l.drop k).length<=1:=by rw[List.length_drop];omega
  have hlt2:val (l.drop k)<1000000000:=by have:1000000000^(l.drop k).length<=1000000000^1:=bs (by omega) hdl;omega
  have hx:=hl.get a3;have hw:J7 .u64 (J7 .u64 ((val (l.drop k):Int)*1000000000)+J7 .u64 (l[k-1]:Int))=(val (l.drop (k-1)):Int):=by rw[xV (n:=(val (l.drop k):Int)*1000000000),xV (n:=(l[k-1]:Int)),xV];omega
  have a4:J7 .i64 ((k:Int)-1-1)=((k-1:Nat):Int)-1:=by rw[xF];omega
  refine⟨⟨by omega,by omega,qx a3⟩,_,qy a3,⟨k-1,by omega,by rw[hw,a4]⟩,?_⟩;rw[a4];simp only[nth,toI];omega
 .have a3:k=0:=by omega
  subst a3;rw[aE]
theorem Ql(z:Int):qa CC 58 [qM z] [.c (.int .i64 (sgn z))]:=by
 refine qo (anns:=an0) mixedT Tryz.func58 ?_;rw[qz,FU];simp only[Lv,qg];unfold sgn;refine brb (λh=>?_) (λh=>?_)
 .have h0:(lim z.natAbs).length=0:=by grind
  have:z.natAbs=0:=vX.1 (List.eq_nil_of_length_eq_zero h0)
  grind
 .have h0:(lim z.natAbs).length≠0:=by grind
  have:0<z.natAbs:=qB.1 (by omega);refine xG (λh=>?_) (λh=>?_)
  .grind
  grind
theorem wj{x y:Nat}(hra:(lim x).length<=1073741824)(hrb:(lim y).length<=1073741824):qa CC 62 [.c (.sl (raw (lim x))),.c (.sl (raw (lim y)))] [.c (.int .i64 (Zy x y))]:=by
 generalize hA:lim x=A at *;generalize hB:lim y=B at *;have lA:Limbs A:=hA▸qe _;have lB:Limbs B:=hB▸qe _;have vA:val A=x:=hA▸qh _;have vB:val B=y:=hB▸qh _;have zA:A=[]\/A.getLast?≠some 0:=hA▸jX _;have zB:B=[]\/B.getLast?≠some 0:=hB▸jX _;refine qo (anns:=λ_=>⟨[.slot 5 (.int .i64 0)],[],λ_ ds=>∃k:Nat,k<=A.length/\ds=[.int .i64 ((k:Int)-1)]/\A.drop k=B.drop k,λds=>(toI (nth .undef ds 0)+1).toNat⟩) mixedT Tryz.func62 ?_;rw[LK];simp only[Lv,qg];refine brb (λh=>?_) (λh=>?_)
 .have h:A.length≠B.length:=by intro e;rw[e]at h;simp at h
  refine brd (λh1=>?_) (λh1=>?_)
  .have a5:B≠[]:=(by intro e;have h0:B.length=0:=(by rw[e];rfl);omega);have:=Jr lA (zB.resolve_left a5) a5 (by omega);rw[Zy,if_pos (by omega)]
  .have a5:A≠[]:=(by intro e;have h0:A.length=0:=(by rw[e];rfl);omega);have:=Jr lB (zA.resolve_left a5) a5 (by omega);rw[Zy,if_neg (by omega),if_pos (by omega)]
 .have h:A.length=B.length:=by
   have:(A.length:Int)=B.length:=by simpa using h
   omega
  refine⟨⟨A.length,bv _,by rw[xF],by rw[ap,h,ap]⟩,?_⟩;rintro n ⟨k,hk,he,hd⟩;simp only[bk,Hx,true_and,and_true]at he;subst he;refine brd (λh1=>?_) (λh1=>?_)
  .have a3:k-1<A.length:=by omega
   have a4:k-1<B.length:=by omega
   have ht:((k:Int)-1).toNat=k-1:=by omega
   have a6:A.drop (k-1+1)=B.drop (k-1+1):=by rw[show k-1+1=k by omega];exact hd
   rw[ht];refine⟨⟨by omega,by omega,qx a3⟩,_,qy a3,⟨by omega,by omega,qx a4⟩,_,qy a4,brd (λh2=>?_) (λh2=>?_)⟩
   .have:=vZ lA h a3 a6 (by omega);rw[Zy,if_pos (by omega)]
   .refine⟨⟨by omega,by omega,qx a3⟩,_,qy a3,⟨by omega,by omega,qx a4⟩,_,qy a4,brd (λh3=>?_) (λh3=>?_)⟩
    .have:=vZ lB h.symm a4 a6.symm (by omega);rw[Zy,if_neg (by omega),if_pos (by omega)]
    .have hw:J7 .i64 ((k:Int)-1-1)=((k-1:Nat):Int)-1:=by rw[xF];omega
     rw[hw];refine⟨⟨k-1,by omega,rfl,?_⟩,?_⟩
     .rw[W4 a3,W4 a4,a6];congr 1;omega
     .simp only[nth,toI];omega
  .have a3:k=0:=by omega
   subst a3;have:A=B:=by simpa using hd
   rw[Zy,<-vA,<-vB,this,if_neg (by omega),if_neg (by omega)]
theorem LL{x y:Int}(hx:Sm x)(hy:Sm y):qa CC 143 [qM x,qM y] [.c (.int .i64 (QA x y))]:=by
 refine qo (anns:=an0) mixedT Tryz.func143 ?_;have lx:=hx.len;have ly:=hy.len;rw[qz x,qz y,dW];have c1:=wj (x:=x.natAbs) (y:=y.natAbs) (by omega) (by omega);have c2:=wj (x:=y.natAbs) (y:=x.natAbs) (by omega) (by omega);refine brb (λh=>?_) (λh=>?_)
 .refine xG (λh1=>?_) (λh1=>?_)
  .have h1:x<0:=by simpa using h1
   have h2:¬y<0:=by intro h2;rw[decide_eq_true h1,decide_eq_true h2]at h;simp at h
   rw[QA,if_pos (by omega)]
  .have h1:¬x<0:=by simpa using h1
   have h2:y<0:=by apply B0;intro h2;rw[decide_eq_false h1,decide_eq_false h2]at h;simp at h
   rw[QA,if_neg (by omega),if_pos (by omega)]
 .refine xG (λh1=>?_) (λh1=>?_)
  .have h1:x<0:=by simpa using h1
   have h2:y<0:=by apply B0;intro h2;rw[decide_eq_true h1,decide_eq_false h2]at h;simp at h
   refine⟨_,c2,?_⟩;have:Zy y.natAbs x.natAbs=QA x y:=by
    unfold Zy QA;by_cases h3:x<y
    .rw[if_pos h3,if_pos (by omega)]
    .rw[if_neg h3,if_neg (by omega)];by_cases h4:y<x
     .rw[if_pos h4,if_pos (by omega)]
     .rw[if_neg h4,if_neg (by omega)]
   grind
  .have h1:¬x<0:=by simpa using h1
   have h2:¬y<0:=by intro h2;rw[decide_eq_false h1,decide_eq_true h2]at h;simp at h
   refine⟨_,c1,?_⟩;have:Zy x.natAbs y.natAbs=QA x y:=by
    unfold Zy QA;by_cases h3:x<y
    .rw[if_pos h3,if_pos (by omega)]
    .rw[if_neg h3,if_neg (by omega)];by_cases h4:y<x
     .rw[if_pos h4,if_pos (by omega)]
     .rw[if_neg h4,if_neg (by omega)]
   grind
theorem FV{o:List Nat}{k c:Nat}(ho:o.length=k):(o++[0]).set k c=o++[c]:=by
 simp_all
def qpI (a b:List Nat):List D->List D->Prop:=λ_ ds=>∃(k:Nat) (o:List Nat) (c:Nat),k<=a.length/\o.length=k/\ds=[.sl (raw (o++W1 (a.length+1-k) 0)),.int .u32 (c:Int),.int .i64 (k:Int)]/\Limbs o/\c<=1/\val o+1000000000^k*c=val (a.take k)+val (b.take k)
def qpM (a:List Nat):List D->Nat:=λds=>a.length-(toI (nth .undef ds 2)).toNat
theorem VZ{a b:List Nat}(ha:Limbs a)(hb:Limbs b)(hra:a.length<=1073741823)(hab:b.length<=a.length):
 NI (qa CC) (qpI a b) (qpM a)
  (λr=>r=[.c (.sl (raw (lim (val a+val b))))]) (raw a) (raw b):=by
 unfold NI qpI qpM;simp only[Lv,qg];have hn:J7 .i64 ((a.length:Int)+1)=((a.length+1:Nat):Int):=by rw[xF];omega
 rw[hn,Lr];refine⟨⟨by omega,by omega,by unfold room;omega⟩,⟨0,[],0,by omega,rfl,by rw[xt];rfl,HZ,by omega,by simp[val]⟩,?_⟩;rintro es n m ⟨k,o,c,hk,ho,he,lo,hc,hv⟩;simp only[bk,Hx,Hy,true_and,and_true]at he;obtain⟨rfl,rfl,rfl⟩:=he;have a4:(o++W1 (a.length+1-k) 0).length=a.length+1:=by simp[ho];omega
 refine brd (λh1=>?_) (λh1=>?_)
 .have a3:k<a.length:=by omega
  have hxk:=ha.get a3;have hk1:J7 .i64 ((k:Int)+1)=((k+1:Nat):Int):=by rw[xF];omega
  rw[Lr,hk1,qg,a4];have a6:∀(t:Nat),t<=1999999999->t=a[k]+c+b.getD k 0->
   (((0:Int)<=(k:Int)/\(k:Int)<((a.length+1:Nat):Int))/\0<1/\(1000000000:Int)≠0/\
     (∃(k':Nat) (o':List Nat) (c':Nat),k'<=a.length/\o'.length=k'/\[Hu (upd (raw (o++W1 (a.length+1-k) 0)) k (upd (nth [] (raw (o++W1 (a.length+1-k) 0)) k) 0 (F2 .u32 (Pl (t:Int) 1000000000)))),F2 .u32 (J7 .u32 (No (t:Int) 1000000000)),F2 .i64 ((k+1:Nat):Int)]=
        [.sl (raw (o'++W1 (a.length+1-k') 0)),.int .u32 (c':Int),.int .i64 (k':Int)]/\Limbs o'/\c'<=1/\val o'+1000000000^k'*c'=val (a.take k')+val (b.take k'))/\
     a.length-(toI (nth .undef [Hu (upd (raw (o++W1 (a.length+1-k) 0)) k (upd (nth [] (raw (o++W1 (a.length+1-k) 0)) k) 0 (F2 .u32 (Pl (t:Int) 1000000000)))),F2 .u32 (J7 .u32 (No (t:Int) 1000000000)),F2 .i64 ((k+1:Nat):Int)] 2)).toNat<
      a.length-(toI (nth .undef [Hu (raw (o++W1 (a.length+1-k) 0)),F2 .u32 (c:Int),F2 .i64 (k:Int)] 2)).toNat):=by
   intro t ht hte;rw[PL,PM,kD,zc (by rw[a4];omega),ya ho (by omega)];refine⟨⟨by omega,by omega⟩,by omega,by omega,⟨k+1,o++[t%1000000000],t/1000000000,by omega,by simp[ho],by rw[show a.length+1-k-1=a.length+1-(k+1)by omega],lo.append (J5 (by omega) HZ),by omega,ju a3 ho hv (by omega)⟩,?_⟩;simp only[nth,toI];omega
  refine⟨⟨by omega,by omega,qx a3⟩,_,qy a3,brd (λh2=>?_) (λh2=>?_)⟩
  .have a5:k<b.length:=by omega
   have hyk:=hb.get a5;have hgd:b.getD k 0=b[k]:=by simp[bc,a5]
   have hw:J7 .u32 (J7 .u32 ((c:Int)+(a[k]:Int))+(b[k]:Int))=((a[k]+c+b[k]:Nat):Int):=by rw[kD (n:=(c:Int)+(a[k]:Int)),kD];omega
   refine⟨⟨by omega,by omega,qx a5⟩,_,qy a5,by omega,?_⟩;rw[hw];exact a6 _ (by omega) (by omega)
  .have hgd:b.getD k 0=0:=Wb (by omega);have hw:J7 .u32 ((c:Int)+(a[k]:Int))=((a[k]+c:Nat):Int):=by rw[kD];omega
   rw[hw];exact⟨by omega,a6 _ (by omega) (by omega)⟩
 .have a3:k=a.length:=by omega
  subst a3;rw[W3,ba hab]at hv;have e1:a.length+1-a.length=1:=by omega
  rw[e1]at a4 ⊢;rw[Lr,qg,a4,zc (by rw[a4];omega),List.replicate_one,FV ho];have hg:=kE (l:=o++[c]) (lo.append (J5 (by omega) HZ)) (by simp[ho];omega);rw[XL,ho,hv]at hg;exact⟨⟨by omega,by omega⟩,by omega,_,hg,rfl⟩
theorem FW{a b:List Nat}(ha:Limbs a)(hb:Limbs b)(hra:a.length<=1073741823)(hrb:b.length<=1073741823):qa CC 61 [.c (.sl (raw a)),.c (.sl (raw b))] [.c (.sl (raw (lim (val a+val b))))]:=by
 by_cases hab:a.length<b.length
 .refine qo (anns:=λ_=>⟨[.own 5 55 1,.slot 6 (.int .u32 0),.slot 7 (.int .i64 0)],[],qpI b a,qpM b⟩) mixedT Tryz.func61 ?_;have h:=VZ hb ha hrb (by omega)
  grind [NJ,Lv,qg,brd,Nat.add_comm]
 .refine qo (anns:=λ_=>⟨[.own 5 55 1,.slot 6 (.int .u32 0),.slot 7 (.int .i64 0)],[],qpI a b,qpM a⟩) mixedT Tryz.func61 ?_;have h:=VZ ha hb hra (by omega);rw[NJ]
  grind [Lv,qg,brd]
end Eng
end
section
namespace Eng
open Go Go.Proofs
set_option maxRecDepth 100000
theorem XT{a b:List Nat}(ha:Limbs a)(hb:Limbs b)(hra:a.length<=1073741824)(hab:val b<=val a):qa CC 63 [.c (.sl (raw a)),.c (.sl (raw b))] [.c (.sl (raw (lim (val a-val b))))]:=by
 refine qo (anns:=λ_=>⟨[.own 5 45 1,.slot 6 (.int .u32 0),.slot 7 (.int .i64 0)],[],λ_ ds=>∃(k:Nat) (o:List Nat) (c:Nat),k<=a.length/\o.length=k/\ds=[.sl (raw (o++W1 (a.length-k) 0)),.int .u32 (c:Int),.int .i64 (k:Int)]/\Limbs o/\c<=1/\val o+val (b.take k)=val (a.take k)+1000000000^k*c,λds=>a.length-(toI (nth .undef ds 2)).toNat⟩) mixedT Tryz.func63 ?_;rw[BG];simp only[Lv,qg];refine⟨⟨by omega,by omega,by unfold room;omega⟩,⟨0,[],0,by omega,rfl,by rw[Lr,xt];rfl,HZ,by omega,by simp[val]⟩,?_⟩;rintro es n m ⟨k,o,c,hk,ho,he,lo,hc,hv⟩;simp only[bk,Hx,Hy,true_and,and_true]at he;obtain⟨rfl,rfl,rfl⟩:=he;have hol:(o++W1 (a.length-k) 0).length=a.length:=by simp[ho];omega
 refine brd (λh1=>?_) (λh1=>?_)
 .have a3:k<a.length:=by omega
  have hxk:=ha.get a3;have hk1:J7 .i64 ((k:Int)+1)=((k+1:Nat):Int):=by rw[xF];omega
  rw[Lr,hk1,qg,hol];have hw0:J7 .u32 (J7 .u32 ((a[k]:Int)+1000000000)-(c:Int))=((a[k]+1000000000-c:Nat):Int):=by rw[kD (n:=(a[k]:Int)+1000000000),kD];omega
  refine⟨⟨by omega,by omega,qx a3⟩,_,qy a3,?_⟩;rw[hw0];refine brd (λh2=>?_) (λh2=>?_)
  .have a5:k<b.length:=by omega
   have hyk:=hb.get a5;have a4:b.getD k 0=b[k]:=by simp[bc,a5]
   refine⟨⟨by omega,by omega,qx a5⟩,_,qy a5,?_⟩;have hw:J7 .u32 (((a[k]+1000000000-c:Nat):Int)-(b[k]:Int))=((a[k]+1000000000-c-b[k]:Nat):Int):=by rw[kD];omega
   rw[hw];refine brd (λh3=>?_) (λh3=>?_)
   .have a6:J7 .u32 (((a[k]+1000000000-c-b[k]:Nat):Int)-1000000000)=((a[k]-(c+b[k]):Nat):Int):=by rw[kD];omega
    rw[a6,zc (by simp[ho];omega),ya ho (by omega)];refine⟨⟨by omega,by omega⟩,by omega,⟨k+1,o++[a[k]-(c+b[k])],0,by omega,by simp[ho],by rw[show a.length-k-1=a.length-(k+1)by omega];rfl,lo.append (J5 (by omega) HZ),by omega,jh a3 ho hv (by have:=a4;omega)⟩,?_⟩;simp only[nth,toI];omega
   .rw[zc (by simp[ho];omega),ya ho (by omega)];refine⟨⟨by omega,by omega⟩,by omega,⟨k+1,o++[a[k]+1000000000-c-b[k]],1,by omega,by simp[ho],by rw[show a.length-k-1=a.length-(k+1)by omega];rfl,lo.append (J5 (by omega) HZ),by omega,jh a3 ho hv (by have:=a4;omega)⟩,?_⟩;simp only[nth,toI];omega
  .have a4:b.getD k 0=0:=Wb (by omega);refine brd (λh3=>?_) (λh3=>?_)
   .have a6:J7 .u32 (((a[k]+1000000000-c:Nat):Int)-1000000000)=((a[k]-c:Nat):Int):=by rw[kD];omega
    rw[a6,zc (by simp[ho];omega),ya ho (by omega)];refine⟨⟨by omega,by omega⟩,by omega,⟨k+1,o++[a[k]-c],0,by omega,by simp[ho],by rw[show a.length-k-1=a.length-(k+1)by omega];rfl,lo.append (J5 (by omega) HZ),by omega,jh a3 ho hv (by have:=a4;omega)⟩,?_⟩;simp only[nth,toI];omega
   .rw[zc (by simp[ho];omega),ya ho (by omega)];refine⟨⟨by omega,by omega⟩,by omega,⟨k+1,o++[a[k]+1000000000-c],1,by omega,by simp[ho],by rw[show a.length-k-1=a.length-(k+1)by omega];rfl,lo.append (J5 (by omega) HZ),by omega,jh a3 ho hv (by have:=a4;omega)⟩,?_⟩;simp only[nth,toI];omega
 .have a3:k=a.length:=by omega
  subst a3;rw[W3]at hv;rw[Nat.sub_self,List.replicate_zero,bd];have h2:=qQ lo;rw[ho]at h2;have h3:val b=val (b.take a.length)+1000000000^(b.take a.length).length*val (b.drop a.length):=by rw[<-qO,List.take_append_drop]
  have h4:=qQ ha;have h5:val (b.take a.length)=val b:=by
   rcases Nat.lt_or_ge b.length a.length with hl|hl
   .rw[ba (by omega)]
   .rw[an,Nat.min_eq_left hl]at h3;rcases bx (val (b.drop a.length))with h6|h6
    .rw[h6]at h3;omega
    .have:=c0 (1000000000^a.length) h6;omega
  have h6:c=0:=by
   rcases bx c with h6|h6
   .exact h6
   .have:=c0 (1000000000^a.length) h6;omega
  subst h6;have hg:=kE lo (by omega);rw[show val o=val a-val b by omega]at hg;exact⟨_,hg,rfl⟩
set_option maxHeartbeats 1000000 in
theorem Uw{a b:List Nat}(ha:Limbs a)(hb:Limbs b)(hra:a.length<=536870912)(hrb:b.length<=536870912):
 qa CC 57 [.c (.sl (raw a)),.c (.sl (raw b))] [.c (.sl (raw (lim (val a*val b))))]:=by
 refine qo (anns:=Vl
  ⟨[.own 5 68 1,.slot 6 (.int .i64 0)],[],λ_ ds=>∃(i:Nat) (o:List Nat),i<=a.length/\ds=[.sl (raw o),.int .i64 (i:Int)]/\o.length=a.length+b.length/\Limbs o/\(∀j,i+b.length<=j->o.getD j 0=0)/\val o=val (a.take i)*val b,λds=>a.length-(toI (nth .undef ds 1)).toNat⟩
  ⟨[.own 5 68 1,.slot 7 (.int .u64 0),.slot 8 (.int .i64 0)],[.slot 6 (.int .i64 0),.own 5 68 1],λg ds=>∃(i k c:Nat) (o0 o:List Nat),g=[.int .i64 (i:Int),.sl (raw o0)]/\i<a.length/\k<=b.length/\c<1000000000/\ds=[.sl (raw o),.int .u64 (c:Int),.int .i64 (k:Int)]/\o.length=a.length+b.length/\Limbs o/\(∀j,i+b.length<=j->o.getD j 0=0)/\val o+1000000000^(i+k)*c=val o0+1000000000^i*(a.getD i 0*val (b.take k)),λds=>b.length-(toI (nth .undef ds 2)).toNat⟩) mixedT Tryz.func57 ?_
 rw[BH];simp only[Lv,qg];have hab:J7 .i64 ((a.length:Int)+(b.length:Int))=((a.length+b.length:Nat):Int):=by rw[xF];omega
 rw[hab,Lr,xt];refine⟨⟨by omega,by omega,by unfold room;omega⟩,⟨0,W1 (a.length+b.length) 0,by omega,rfl,by simp,λy hy=>by rw[List.eq_of_mem_replicate hy];omega,λj _=>by simp[bc,List.getElem?_replicate];split<;>rfl,by simp[vY,val]⟩,?_⟩;rintro es n ⟨i,o0,hi,he,hol,lo,hz,hv⟩;simp only[bk,Hx,Hy,true_and,and_true]at he;obtain⟨rfl,rfl⟩:=he;refine brd (λh1=>?_) (λh1=>?_)
 .have a3:i<a.length:=by omega
  have hai:=ha.get a3;refine⟨⟨i,0,0,o0,o0,rfl,a3,by omega,by omega,rfl,hol,lo,hz,by simp[val]⟩,?_⟩;rintro es m k' ⟨i',k,c,o0',o,hg,_,hk,hc,he,a5,ag,ad,al⟩;simp only[bk,Hx,Hy,true_and,and_true]at hg he;obtain⟨hi',a8⟩:=hg;obtain⟨rfl,rfl,rfl⟩:=he;have a6:i'=i:=by omega
  subst a6;have a8:=LF a8;subst a8;rw[xu a3]at al;refine brd (λh2=>?_) (λh2=>?_)
  .have a4:k<b.length:=by omega
   have hbk:=hb.get a4;have hj:i'+k<o.length:=by omega
   have hoj:=ag.get hj;have hw:J7 .i64 ((i':Int)+(k:Int))=((i'+k:Nat):Int):=by rw[xF];omega
   have a7:J7 .i64 ((k:Int)+1)=((k+1:Nat):Int):=by rw[xF];omega
   rw[hw,a7,Lr,Lr,Lr,qg];refine⟨⟨by omega,by omega⟩,_,qy hj,⟨by omega,by omega,qx a3⟩,_,qy a3,⟨by omega,by omega,qx a4⟩,_,qy a4,by omega,⟨by omega,by omega⟩,by omega,by omega,?_⟩;have hp:a[i']*b[k]<=999999999*999999999:=bw (by omega) (by omega);obtain⟨p,a9⟩:∃p,p=a[i']*b[k]:=⟨_,rfl⟩;rw[<-a9]at hp;have hpi:(a[i']:Int)*(b[k]:Int)=(p:Int):=by rw[a9];exact(U0 _ _).symm
   obtain⟨t,hte⟩:∃t,t=o[i'+k]+p+c:=⟨_,rfl⟩;have ht:J7 .u64 (J7 .u64 ((c:Int)+J7 .u64 (o[i'+k]:Int))+J7 .u64 (J7 .u64 (a[i']:Int)*J7 .u64 (b[k]:Int)))=(t:Int):=by rw[xV (n:=(o[i'+k]:Int)),xV (n:=(a[i']:Int)),xV (n:=(b[k]:Int)),hpi,xV (n:=(p:Int)),xV (n:=(c:Int)+(o[i'+k]:Int)),xV];omega
   rw[ht,PL,PM,kD (n:=((t%1000000000:Nat):Int)),xV (n:=((t/1000000000:Nat):Int)),zc hj];refine⟨⟨i',k+1,t/1000000000,o0,o.set (i'+k) (t%1000000000),rfl,a3,by omega,by omega,rfl,by simp[a5],XN ag (by omega),λj hjj=>by rw[jP (by omega)];exact ad j hjj,?_⟩,?_⟩
   .have h3:=Wc (t%1000000000) hj;rw[xu hj]at h3;rw[xu a3,qJ,xu a4];have h4:=Ge (k:=i'+k) (show t%1000000000+1000000000*(t/1000000000)=t by omega);rw[show i'+(k+1)=i'+k+1 by omega];have h5:1000000000^(i'+k)*t=1000000000^(i'+k)*o[i'+k]+1000000000^(i'+k)*p+1000000000^(i'+k)*c:=by rw[hte,cg,cg]
    have h6:1000000000^i'*(a[i']*(val (b.take k)+1000000000^k*b[k]))=1000000000^i'*(a[i']*val (b.take k))+1000000000^(i'+k)*p:=by rw[cg,cg,a9,b8];congr 1;simp only[cH,Nat.mul_left_comm]
    omega
   .simp only[nth,toI];omega
  .have a4:k=b.length:=by omega
   subst a4;have hj:i'+b.length<o.length:=by omega
   have hw:J7 .i64 ((i':Int)+(b.length:Int))=((i'+b.length:Nat):Int):=by rw[xF];omega
   have a7:J7 .i64 ((i':Int)+1)=((i'+1:Nat):Int):=by rw[xF];omega
   rw[hw,a7,Lr,qg,kD (n:=(c:Int)),zc hj];refine⟨⟨by omega,by omega⟩,by omega,⟨i'+1,o.set (i'+b.length) c,by omega,rfl,by simp[a5],XN ag hc,λj hjj=>by rw[jP (by omega)];exact ad j (by omega),?_⟩,?_⟩
   .have h3:=Wc c hj;rw[ad _ (bv _)]at h3;rw[W3]at al;rw[qJ,xu a3,Nat.add_mul,<-hv,cH];omega
   .simp only[nth,toI];omega
 .have a3:i=a.length:=by omega
  subst a3;rw[W3]at hv;have hg:=kE lo (by omega);rw[hv]at hg;exact⟨_,hg,rfl⟩
theorem BI{a:List Nat}{d:Nat}(ha:Limbs a)(hd:d<1000000000)(hra:a.length<=536870912):qa CC 176 [.c (.sl (raw a)),.c (.int .u32 (d:Int))] [.c (.sl (raw (lim (val a*d))))]:=by
 refine qo (anns:=an0) mixedT Tryz.func176 ?_;rw[lN];have h1:=kE (l:=[d]) (J5 hd HZ) (by simp);have hv:val [d]=d:=by simp[val]
 rw[hv]at h1;have hl:(lim d).length<=536870912:=by have:(lim d).length<=1:=qq (by omega);omega
 have h2:=Uw ha (qe d) hra hl;rw[qh]at h2;exact⟨_,h1,_,h2,rfl⟩
theorem Gm{x:Int}(hx:Sm x):qa CC 26 [qM x] [qM (-x)]:=by
 refine qo (anns:=an0) mixedT Tryz.func26 ?_;have lx:=hx.len;rw[qz x,dX];refine⟨_,_,xe (!decide (x<0)) (qe x.natAbs) (by omega) (z:= -x) ?_,rfl⟩;rw[qh];by_cases h:x<0
 .simp[h];omega
 .simp[h];omega
theorem LM{x y n:Nat}(hx:(lim x).length<=n)(hy:(lim y).length<=n):(lim (x+y)).length<=n+1:=by
 refine qq ?_;have h1:=qQ (qe x);have h2:=qQ (qe y);rw[qh]at h1 h2;have hB:∀{i j:Nat},i<=j->(1000000000:Nat)^i<=1000000000^j:=λh=>bs (by decide) h
 have h3:=hB hx;have h4:=hB hy;rw[cL];generalize (1000000000:Nat)^n=T at *;omega
theorem Wg{x y:Int}(hx:Sm x)(hy:Sm y):qa CC 25 [qM x,qM y] [qM (x+y)]:=by
 refine qo (anns:=an0) mixedT Tryz.func25 ?_;have lx:=hx.len;have ly:=hy.len;have a4:(lim (x.natAbs+y.natAbs)).length<=1073741824:=by have:=LM (n:=100000) lx ly;omega
 have aF:∀{m n:Nat},m<=n->(lim m).length<=(lim n).length:=λ{m n} h=>qq (bm h (by have:=qQ (qe n);rw[qh]at this;exact this))
 rw[qz x,qz y,dY];have hp:=FW (qe x.natAbs) (qe y.natAbs) (by omega) (by omega);rw[qh,qh]at hp;have hc:=wj (x:=x.natAbs) (y:=y.natAbs) (by omega) (by omega);refine brb (λh=>?_) (λh=>?_)
 .have hs:(x<0)↔(y<0):=by
   have:decide (x<0)=decide (y<0):=by simpa using h
   rw[decide_eq_decide]at this;exact this
  refine⟨_,hp,_,_,xe (decide (x<0)) (qe _) a4 (z:=x+y) ?_,rfl⟩;rw[qh];by_cases h1:x<0
  .have:=hs.1 h1;simp[h1];omega
  .have:¬y<0:=λh2=>h1 (hs.2 h2)
   simp[h1];omega
 .have hs:(x<0)↔¬(y<0):=by
   have h2:¬(decide (x<0)=decide (y<0)):=by simpa using h
   rw[decide_eq_decide]at h2;constructor
   .intro a b;exact h2 ⟨λ_=>b,λ_=>a⟩
   .intro b;apply B0;intro a;exact h2 ⟨λc=>absurd c a,λc=>absurd c b⟩
  refine⟨_,hc,brd (λh1=>?_) (λh1=>?_)⟩
  .have a3:y.natAbs<=x.natAbs:=by
    unfold Zy at h1;split at h1
    .omega
    .omega
   have hm:=XT (qe x.natAbs) (qe y.natAbs) (by omega) (by rw[qh,qh];exact a3);rw[qh,qh]at hm;refine⟨_,hm,_,_,xe (decide (x<0)) (qe _) (by have:=aF (show x.natAbs-y.natAbs<=x.natAbs by omega);omega) (z:=x+y) ?_,rfl⟩;rw[qh];by_cases h2:x<0
   .have:=hs.1 h2;simp[h2];omega
   .have:y<0:=by apply B0;intro h3;exact h2 (hs.2 h3)
    simp[h2];omega
  .have a3:x.natAbs<=y.natAbs:=by
    unfold Zy at h1;split at h1
    .omega
    .split at h1<;>omega
   have hm:=XT (qe y.natAbs) (qe x.natAbs) (by omega) (by rw[qh,qh];exact a3);rw[qh,qh]at hm;refine⟨_,hm,_,_,xe (decide (y<0)) (qe _) (by have:=aF (show y.natAbs-x.natAbs<=y.natAbs by omega);omega) (z:=x+y) ?_,rfl⟩;rw[qh];by_cases h2:y<0
   .have:¬x<0:=λh3=>(hs.1 h3) h2
    simp[h2];omega
   .have:=hs.2 h2;simp[h2];omega
theorem ef{x:Int}(h:Sm x):Sm (-x):=by unfold Sm at *;rw[Sz];exact h
theorem BJ{x y:Int}(hx:Sm x)(hy:Sm y):qa CC 118 [qM x,qM y] [qM (x-y)]:=by
 refine qo (anns:=an0) mixedT Tryz.func118 ?_;have h1:=Gm hy;have h2:=Wg hx (ef hy);rw[qz y]at h1;rw[qz x]at h2;rw[qz x,qz y,dZ];exact⟨_,_,h1,_,_,h2,rfl⟩
theorem jR{x y:Int}(hx:Sm x)(hy:Sm y):qa CC 23 [qM x,qM y] [qM (x*y)]:=by
 refine qo (anns:=an0) mixedT Tryz.func23 ?_;have lx:=hx.len;have ly:=hy.len;have ht:=Uw (qe x.natAbs) (qe y.natAbs) (by omega) (by omega);rw[qh,qh]at ht;have lp:(lim (x.natAbs*y.natAbs)).length<=1073741824:=by
  have h1:=qQ (qe x.natAbs);have h2:=qQ (qe y.natAbs);rw[qh]at h1 h2;have h3:x.natAbs*y.natAbs<1000000000^((lim x.natAbs).length+(lim y.natAbs).length):=by rw[b8];exact b9 h1 h2
  have:=qq h3;omega
 rw[qz x,qz y,ed];refine⟨_,ht,_,_,xe (!(decide (x<0)==decide (y<0))) (qe _) lp (z:=x*y) ?_,rfl⟩;rw[qh];have hm:(x*y).natAbs=x.natAbs*y.natAbs:=P1 x y;by_cases h1:x<0<;>by_cases h2:y<0
 .have:=Int.mul_pos_of_neg_of_neg h1 h2;simp[h1,h2];omega
 .have:x*y<=0:=Int.mul_nonpos_of_nonpos_of_nonneg (by omega) (by omega);simp[h1,h2];omega
 .have:x*y<=0:=Int.mul_nonpos_of_nonneg_of_nonpos (by omega) (by omega);simp[h1,h2];omega
 .have:0<=x*y:=Int.mul_nonneg (by omega) (by omega);simp[h1,h2];omega
end Eng
end
section
namespace Eng
open Go Go.Proofs
set_option maxRecDepth 100000
def yd:Prop:=∀x y:Nat,y≠0->(lim x).length<=100000->(lim y).length<=100000->
 qa CC 116 [.c (.sl (raw (lim x))),.c (.sl (raw (lim y)))] [.c (.sl (raw (lim (x/y)))),.c (.sl (raw (lim (x%y))))]
theorem aF{m n:Nat}(h:m<=n):(lim m).length<=(lim n).length:=
 qq (bm h (by have:=qQ (qe n);rw[qh]at this;exact this))
theorem LN(hd:yd){x y:Int}(hx:Sm x)(hy:Sm y):qa CC 59 [qM x,qM y] [qM (cb x.natAbs y.natAbs:Nat)]:=by
 generalize hG:cb x.natAbs y.natAbs=G;refine qo (anns:=Vl
  ⟨[.slot 5 (.slice none 0 0),.slot 6 (.slice none 0 0)],[],λ_ ds=>∃m n:Nat,ds=[.sl (raw (lim m)),.sl (raw (lim n))]/\cb m n=G/\m<VX/\n<VX,λds=>Vy (toL (nth .undef ds 1))⟩
  ⟨[.slot 9 (.int .u64 0),.slot 10 (.int .u64 0)],[],λ_ ds=>∃u v:Nat,ds=[.int .u64 (u:Int),.int .u64 (v:Int)]/\cb u v=G/\u<1000000000000000000/\v<1000000000000000000,λds=>(toI (nth .undef ds 1)).toNat⟩) mixedT Tryz.func59 ?_
 rw[qz x,qz y,ee];simp only[Lv];refine⟨⟨x.natAbs,y.natAbs,rfl,hG,hx,hy⟩,?_⟩;rintro es fs ⟨m,n,he,hg,hm,hn⟩;simp only[bk,Hy,and_true]at he;obtain⟨rfl,rfl⟩:=he;have lm:=(smN.2 hm).len;have ln:=(smN.2 hn).len;rw[Ls]at lm ln;rw[qg,qg];have a5:0<n->∃es_2 es_3,qa CC 116 [Dd (Hu (raw (lim m))),Dd (Hu (raw (lim n)))] [Dd (Hu es_2),Dd (Hu es_3)]/\
  (∃m' n':Nat,[Hu (raw (lim n)),Hu es_3]=[.sl (raw (lim m')),.sl (raw (lim n'))]/\cb m' n'=G/\m'<VX/\n'<VX)/\
  Vy (toL (nth .undef [Hu (raw (lim n)),Hu es_3] 1))<Vy (toL (nth .undef [Hu (raw (lim m)),Hu (raw (lim n))] 1)):=by
  intro a4;have a6:=ch m a4;refine⟨_,_,hd m n (by omega) lm ln,⟨n,m%n,rfl,?_,hn,by omega⟩,?_⟩
  .rw[<-hg,cf n,<-dk,cf]
  .simp only[nth,toL,XP,qh];exact a6
 have a3:∀{k:Nat},¬((lim k).length:Int)>2->k<1000000000000000000:=by
  intro k hk;have h1:=qQ (qe k);rw[qh]at h1;have h2:1000000000^(lim k).length<=1000000000^2:=bs (by omega) (by omega);have h3:(1000000000:Nat)^2=1000000000000000000:=by decide
  omega
 have a7:n=0->∃b es_2,qa CC 56 [Dd (Hv false),Dd (Hu (raw (lim m)))] [F0 [Hv b,Hu es_2]]/\[F0 [Hv b,Hu es_2]]=[qM (G:Int)]:=by intro a4;subst a4;rw[c3]at hg;subst hg;exact⟨_,_,xe false (qe m) (by omega) (z:=(m:Int)) (by simp[qh]),rfl⟩
 have a8:m<1000000000000000000->n<1000000000000000000->
  ∃a,qa CC 117 [Dd (Hu (raw (lim m)))] [Dd (F2 J8 a)]/\∃b,qa CC 117 [Dd (Hu (raw (lim n)))] [Dd (F2 J8 b)]/\
   (∃u v:Nat,[F2 J8 a,F2 J8 b]=[.int .u64 (u:Int),.int .u64 (v:Int)]/\cb u v=G/\u<1000000000000000000/\v<1000000000000000000)/\
   ∀(n n_2:Int),(∃u v:Nat,[F2 J8 n,F2 J8 n_2]=[.int .u64 (u:Int),.int .u64 (v:Int)]/\cb u v=G/\u<1000000000000000000/\v<1000000000000000000)->
    br (toB (Hv (decide (n_2>(0:Int)))))
     (n_2≠(0:Int)/\
      (∃u v:Nat,[F2 J8 n_2,F2 J8 (Pl n n_2)]=[.int .u64 (u:Int),.int .u64 (v:Int)]/\cb u v=G/\u<1000000000000000000/\v<1000000000000000000)/\
       (toI (nth .undef [F2 J8 n_2,F2 J8 (Pl n n_2)] 1)).toNat<(toI (nth .undef [F2 J8 n,F2 J8 n_2] 1)).toNat)
     (∃es,qa CC 102 [Dd (F2 J8 n)] [Dd (Hu es)]/\
      ∃b es_2,qa CC 56 [Dd (Hv false),Dd (Hu es)] [F0 [Hv b,Hu es_2]]/\[F0 [Hv b,Hu es_2]]=[qM (G:Int)]):=by
  intro sm sn;have h3:(1000000000:Nat)^2=1000000000000000000:=by decide
  have g1:=XS (qe m) (qq (by omega));have g2:=XS (qe n) (qq (by omega));rw[qh]at g1 g2;refine⟨_,g1,_,g2,⟨m,n,rfl,hg,sm,sn⟩,?_⟩;rintro a b ⟨u,v,he,a9,hu,hv⟩;simp only[bk,Hx,true_and,and_true]at he;obtain⟨rfl,rfl⟩:=he;refine brd (λh2=>?_) (λh2=>?_)
  .have ad:0<v:=by omega
   have e2:Pl (u:Int) (v:Int)=((u%v:Nat):Int):=by rw[Int.tmod_eq_emod_of_nonneg (by omega)];rfl
   have a6:=ch u ad;rw[e2];refine⟨by omega,⟨v,u%v,rfl,by rw[<-a9,cf v,<-dk,cf],hv,by omega⟩,?_⟩;simp only[nth,toI,Lr];exact a6
  .have ad:v=0:=by omega
   subst ad;rw[c3]at a9;subst a9;have:(lim u).length<=2:=qq (by omega);exact⟨_,XR (by omega),_,_,xe false (qe u) (by omega) (z:=(u:Int)) (by simp[qh]),rfl⟩
 refine brd (λh=>?_) (λh=>?_)
 .have a4:0<n:=qB.1 (by omega);refine brd (λh1=>a5 a4) (λh1=>brd (λh2=>a5 a4) (λh2=>brb (λh3=>?_) (λ_=>a8 (a3 h1) (a3 h2))));have:((lim n).length:Int)=0:=by simpa using h3
  omega
 .have a4:n=0:=by
   rcases bx n with h0|h0
   .exact h0
   .have:=qB.2 h0;omega
  refine brb (λ_=>a7 a4) (λh3=>?_);subst a4;simp[Gb]at h3
theorem vp(hd:yd){x y:Int}(hx:Sm x)(hy:Sm y)(hy0:0<y):qa CC 60 [qM x,qM y] [qM (x/y),qM (x%y),.c (.int .i64 0)]:=by
 refine qo (anns:=an0) mixedT Tryz.func60 ?_;have lx:=hx.len;have ly:=hy.len;have hyn:y.natAbs≠0:=by omega
 have hlp:0<(lim y.natAbs).length:=qB.2 (by omega);have h1:=hd x.natAbs y.natAbs hyn lx ly;have hqs:(x/y).natAbs<=x.natAbs+1:=by have:=T1 x y;omega
 rw[qz x,qz y,PO];simp only[Lv];obtain⟨a,ha⟩:∃a:Nat,x.natAbs=a:=⟨_,rfl⟩;obtain⟨b,hb⟩:∃b:Nat,y=(b:Int):=⟨y.natAbs,by omega⟩;have a3:y.natAbs=b:=by omega
 have hb0:0<b:=by omega
 rw[ha,a3]at h1;rw[ha]at lx;rw[a3]at ly;have hdm:=Nat.div_add_mod a b;have hml:=ch a hb0;have lq:(lim (a/b)).length<=100000:=b7 (aF (c7 a b)) lx;have lr:(lim (a%b)).length<=100000:=b7 (aF (Nat.mod_le a b)) lx;refine brb (λh=>?_) (λ_=>?_)
 .rw[qg]at h;have:((lim y.natAbs).length:Int)=0:=by simpa using h
  omega
 have a5:decide (y<0)=false:=decide_eq_false (by omega);rw[a5];by_cases hx0:x<0
 .have hxt:decide (x<0)=true:=decide_eq_true hx0;rw[hxt,ha,a3];have a4:x= -(a:Int):=by omega
  have gq:=xe true (qe (a/b)) (by omega) (z:= -((a/b:Nat):Int)) (by rw[qh];rfl);have gr:=xe true (qe (a%b)) (by omega) (z:= -((a%b:Nat):Int)) (by rw[qh];rfl);refine⟨_,_,h1,_,_,gq,_,_,gr,?_⟩;rw[qg];refine brd (λh=>brb (λh2=>?_) (λh2=>?_)) (λh=>?_)
  .have hr0:0<a%b:=qB.1 (by omega);have g1:=zd (n:=1) (by omega) (by omega);have hq:(a/b)<VX:=bm (c7 _ _) (ha▸hx);have sq:Sm (-((a/b:Nat):Int)):=by unfold Sm;rw[Sz,Ls];exact hq
   have sr:Sm (-((a%b:Nat):Int)):=by unfold Sm;rw[Sz,Ls];exact Nat.lt_trans hml (a3▸hy)
   have gs:=BJ sq aD;have ga:=Wg sr hy;have ga2:qa CC 25 [qM (-((a%b:Nat):Int)),.ag [.bool false,.sl (raw (lim b))]] [qM (-((a%b:Nat):Int)+y)]:=by
    have e0:qM y= .ag [.bool false,.sl (raw (lim b))]:=by rw[qz y,a5,a3]
    rw[e0]at ga;exact ga
   refine⟨_,_,g1,_,_,gs,_,_,ga2,?_⟩;have e1:x/y= -((a/b:Nat):Int)-1/\x%y= -((a%b:Nat):Int)+y:=by
    have:=U3 (a:=x) (b:=y) (r:= -((a%b:Nat):Int)+y) (q:= -((a/b:Nat):Int)-1) hy0;refine this.2 ⟨?_,by omega,by omega⟩;rw[a4,hb];have h5:(b:Int)*(-((a/b:Nat):Int)-1)= -((b*(a/b):Nat):Int)-b:=by rw[Int.mul_sub,W0,V1,U0]
    rw[h5];omega
   rw[e1.1,e1.2];rfl
  .simp at h2
  .have hr0:a%b=0:=by
    rcases bx (a%b)with h0|h0
    .exact h0
    .have:=qB.2 h0;omega
   have e1:x/y= -((a/b:Nat):Int)/\x%y= -((a%b:Nat):Int):=by have:=U3 (a:=x) (b:=y) (r:= -((a%b:Nat):Int)) (q:= -((a/b:Nat):Int)) hy0;refine this.2 ⟨?_,by omega,by omega⟩;rw[a4,hb,W0,<-U0];omega
   rw[e1.1,e1.2];rfl
 .have hxf:decide (x<0)=false:=decide_eq_false hx0;rw[hxf,ha,a3];have a4:x=(a:Int):=by omega
  have gq:=xe false (qe (a/b)) (by omega) (z:=((a/b:Nat):Int)) (by rw[qh];rfl);have gr:=xe false (qe (a%b)) (by omega) (z:=((a%b:Nat):Int)) (by rw[qh];rfl);refine⟨_,_,h1,_,_,gq,_,_,gr,?_⟩;have e1:x/y=((a/b:Nat):Int)/\x%y=((a%b:Nat):Int):=by rw[a4,hb];exact⟨rfl,rfl⟩
  refine brd (λh=>brb (λh2=>?_) (λh2=>?_)) (λh=>?_)
  .simp at h2
  .rw[e1.1,e1.2];rfl
  .rw[e1.1,e1.2];rfl
theorem Gn:qa CC 46 [] [qM 1]:=by
 refine qo (anns:=an0) mixedT Tryz.func46 ?_;rw[FQ];exact⟨_,_,zd (n:=1) (by omega) (by omega),rfl⟩
theorem FX(z:Int):cI z=[.bool (decide (z<0)),.sl (raw (lim z.natAbs))]:=rfl
theorem NK(hd:yd){x y:Int}(hx:Sm x)(hy:Sm y)(hy0:y≠0):qa CC 24 [qM x,qM y] [jQ (ea x y)]:=by
 refine qo (anns:=V7 an0 3 ⟨[.box 2 [.bool false,.slice none 0 0],.box 3 [.bool false,.slice none 0 0]],[.box 2 [.bool false,.slice none 0 0],.box 3 [.bool false,.slice none 0 0]],λ_ ds=>∃u v:Int,ds=cI u++cI v/\Sm u/\Sm v/\0<v/\ea u v=ea x y,λ_=>0⟩) mixedT Tryz.func24 ?_;rw[qz x,qz y,lM];have hS:=Ql y;rw[qz y]at hS;have a4:=Gm hx;have a5:=Gm hy;rw[qz x,qz]at a4;rw[qz y,qz]at a5;refine⟨⟨_,hS,brd (λh=>?_) (λh=>?_)⟩,?_⟩
 .have a6:y<0:=by
   unfold sgn at h;split at h
   .assumption
   .split at h<;>omega
  exact⟨_,_,a4,_,_,a5, -x, -y,rfl,NF hx,NF hy,by omega,by rw[fl]⟩
 .have a6:0<y:=by
   unfold sgn at h;split at h
   .omega
   .omega
  exact⟨x,y,rfl,hx,hy,a6,rfl⟩
 .rintro b1 es1 b2 es2 ⟨u,v,he,hu,hv,hv0,hr⟩;simp only[FX,List.cons_append,List.nil_append,bk,D.bool.injEq,Hy,and_true]at he;obtain⟨rfl,rfl,rfl,rfl⟩:=he;obtain⟨g,hg⟩:∃g:Nat,g=cb u.natAbs v.natAbs:=⟨_,rfl⟩;have hgp:0<g:=by rw[hg];exact Nat.gcd_pos_of_pos_right _ (by omega)
  have a3:Sm (g:Int):=smN.2 (by rw[hg];exact bm (Nat.gcd_le_right _ (by omega)) hv);have g1:=LN hd hu hv;rw[<-hg]at g1;have g2:=vp hd hu a3 (by omega);have g3:=vp hd hv a3 (by omega);refine⟨_,_,g1,_,_,_,_,_,g2,_,_,_,_,_,g3,?_⟩;rw[<-hr,yc hv0,<-hg];rfl
theorem FY(hd:yd){x y:Int}(hx:Sm x)(hy:Sm y):
 qa CC 337 [qM x,qM y] (if y=0 then [.ag [.bool false,.sl [],.bool false,.sl []],.c (.int .i64 6)]else [jQ (ea x y),.c (.int .i64 0)]):=by
 refine qo (anns:=an0) mixedT Tryz.func337 ?_;rw[xn x,xn y,FR];refine⟨_,Ql y,?_⟩;refine brb (λh=>?_) (λh=>?_)
 .have:y=0:=by
   unfold sgn at h;split at h
   .simp at h
   .split at h
    .simp at h
    .omega
  rw[if_pos this]
 .have:y≠0:=by rintro rfl;simp[sgn]at h
  rw[if_neg this];exact⟨q4 _,NK hd hx hy this,rfl⟩
theorem NL(r:Rat):qa CC 36 [jQ r] [.c (.int .i64 (sgn r.num))]:=by
 refine qo (anns:=an0) mixedT Tryz.func36 ?_;rw[qA,FS];exact⟨_,Ql r.num,rfl⟩
theorem LO{x:Rat}(hx:Sr x):qa CC 9 [jQ x] [jQ (-x)]:=by
 refine qo (anns:=an0) mixedT Tryz.func9 ?_;rw[qA,dQ];refine⟨_,_,Gm hx.1.sm,?_⟩;rw[qA,en];have:(-x).den=x.den:=rfl;rw[this]
theorem LP(hd:yd){x y:Rat}(hx:Sr x)(hy:Sr y):qa CC 8 [jQ x,jQ y] [jQ (x+y)]:=by
 refine qo (anns:=an0) mixedT Tryz.func8 ?_;rw[qA,qA,dR];have px:=den_pos x;have py:=den_pos y;have hp:=Ts px py;have e0:x+y=ea (x.num*y.den+y.num*x.den) (x.den*y.den):=by rw[<-eg _ _ (by omega) (by omega),dy,dy]
 refine⟨_,_,jR hx.1.sm hy.2.sm,_,_,jR hy.1.sm hx.2.sm,_,_,Wg (hx.1.mul hy.2) (hy.1.mul hx.2),_,_,jR hx.2.sm hy.2.sm,q4 _,NK hd (hx.1.mul_add hy.2 hy.1 hx.2) (hx.2.mul hy.2) (by omega),?_⟩;rw[e0];rfl
theorem BK(hd:yd){x y:Rat}(hx:Sr x)(hy:Sr y):qa CC 55 [jQ x,jQ y] [jQ (x-y)]:=by
 refine qo (anns:=an0) mixedT Tryz.func55 ?_;rw[qA,qA,dS];refine⟨q4 _,LO hy,q4 _,LP hd hx hy.neg,?_⟩;rw[el];rfl
theorem BL{x y:Rat}(hx:Sr x)(hy:Sr y):qa CC 85 [jQ x,jQ y] [.c (.int .i64 (dP x y))]:=by
 refine qo (anns:=an0) mixedT Tryz.func85 ?_;rw[qA,qA,dT];rw[Wf];exact⟨_,_,jR hx.1.sm hy.2.sm,_,_,jR hy.1.sm hx.2.sm,_,LL (hx.1.mul hy.2) (hy.1.mul hx.2),rfl⟩
theorem BM(hd:yd){x y:Rat}(hx:Sr x)(hy:Sr y):qa CC 114 [jQ x,jQ y] [jQ (x*y)]:=by
 refine qo (anns:=an0) mixedT Tryz.func114 ?_;rw[qA,qA,dU];have px:=den_pos x;have py:=den_pos y;have:=Ts px py;refine⟨_,_,jR hx.1.sm hy.1.sm,_,_,jR hx.2.sm hy.2.sm,q4 _,NK hd (hx.1.mul hy.1) (hx.2.mul hy.2) (by omega),?_⟩;have e:x*y=ea (x.num*y.num) (x.den*y.den):=by rw[<-eb,dy,dy]
 rw[e];rfl
theorem eh(hd:yd){x y:Rat}(hx:Sr x)(hy:Sr y):
 qa CC 310 [jQ x,jQ y] (if y=0 then [.ag [.bool false,.sl [],.bool false,.sl []],.c (.int .i64 6)]else [jQ (x/y),.c (.int .i64 0)]):=by
 refine qo (anns:=an0) mixedT Tryz.func310 ?_;rw[qA,qA,dV];have px:=den_pos x;have py:=den_pos y;have hm:=FY hd (hx.1.mul hy.2) (hx.2.mul hy.1);by_cases hn:y.num=0
 .have:y=0:=ey.1 hn;rw[if_pos this];rw[if_pos (by rw[hn,Int.mul_zero])]at hm;exact⟨_,_,jR hx.1.sm hy.2.sm,_,_,jR hx.2.sm hy.1.sm,⟨false,[],false,[]⟩,_,hm,rfl⟩
 .have:y≠0:=λh=>hn (ey.2 h)
  rw[if_neg this];have h0:(x.den:Int)*y.num≠0:=Int.mul_ne_zero (by omega) hn;rw[if_neg h0]at hm;refine⟨_,_,jR hx.1.sm hy.2.sm,_,_,jR hx.2.sm hy.1.sm,q4 _,_,hm,?_⟩;have e:x/y=ea (x.num*y.den) (x.den*y.num):=by rw[et,<-eb,dy,<-fw,dy]
  rw[e];rfl
theorem XU{n:Int}(h1: -9223372036854775808<=n)(h2:n<9223372036854775808):qa CC 17 [.c (.int .i64 n)] [jQ (n:Rat)]:=by
 refine qo (anns:=an0) mixedT Tryz.func17 ?_;rw[Gj];refine⟨_,_,zd h1 h2,_,_,Gn,?_⟩;rw[qA,ew,ez];rfl
end Eng
end
section
namespace Eng
open Go Go.Proofs
set_option maxRecDepth 100000
def Hz (k:Nat) (r:Rat):Prop:=r.num.natAbs<=10^k/\r.den<=10^k
theorem Hz.mono{k m:Nat}{r:Rat}(h:Hz k r)(hk:k<=m):Hz m r:=
 ⟨b7 h.1 (bs (by omega) hk),b7 h.2 (bs (by omega) hk)⟩
theorem pD{n:Nat}(hn:n=9*100*100*4):ZE=10^n:=by
 have e:(1000000000:Nat)=10^9:=by decide
 unfold ZE;rw[e];exact pow4 hn
theorem Hz.sr{k:Nat}{r:Rat}(h:Hz k r)(hk:k<360000):Sr r:=by
 obtain⟨n,hn⟩:∃n,n=9*100*100*4:=⟨_,rfl⟩;have h1:10^k<ZE:=by rw[pD hn];exact Nat.pow_lt_pow_right (by omega) (by omega)
 refine⟨bm h.1 h1,?_⟩;unfold Sq;rw[Ls];exact bm h.2 h1
theorem Hz.divInt{n d:Int}{k:Nat}(hd:0<d)(h1:n.natAbs<=10^k)(h2:d.natAbs<=10^k):Hz k (ea n d):=by
 obtain⟨e1,e2⟩:=We (n:=n) hd;constructor
 .rw[e1];exact b7 (T1 _ _) h1
 .have:((ea n d).den:Int).natAbs<=d.natAbs:=by rw[e2];exact T1 _ _
  rw[Ls]at this;exact b7 this h2
theorem Hz.neg{k:Nat}{r:Rat}(h:Hz k r):Hz k (-r):=by
 refine⟨?_,h.2⟩;rw[en,Sz];exact h.1
theorem Hz.mul{j k l:Nat}{x y:Rat}(hx:Hz j x)(hy:Hz k y)(h:j+k<=l:=by omega):Hz l (x*y):=by
 have e:x*y=ea (x.num*y.num) (x.den*y.den):=by rw[<-eb,dy,dy]
 have px:=den_pos x;have py:=den_pos y;refine Hz.mono (k:=j+k) ?_ h;rw[e];refine Hz.divInt (Ts px py) ?_ ?_
 .rw[P1,b8];exact bw hx.1 hy.1
 .rw[P1,b8,Ls,Ls];exact bw hx.2 hy.2
theorem Hz.add{j k l:Nat}{x y:Rat}(hx:Hz j x)(hy:Hz k y)(h:j+k+1<=l:=by omega):Hz l (x+y):=by
 have px:=den_pos x;have py:=den_pos y;have e0:x+y=ea (x.num*y.den+y.num*x.den) (x.den*y.den):=by rw[<-eg _ _ (by omega) (by omega),dy,dy]
 refine Hz.mono (k:=j+k+1) ?_ h;rw[e0];have hp:10^(j+k+1)=10*(10^j*10^k):=by rw[cL,b8,cr]
 have a1:(x.num*y.den).natAbs<=10^j*10^k:=by rw[P1,Ls];exact bw hx.1 hy.2
 have a2:(y.num*x.den).natAbs<=10^j*10^k:=by rw[P1,Ls,cr];exact bw hx.2 hy.1
 have a3:((x.den:Int)*y.den).natAbs<=10^j*10^k:=by rw[P1,Ls,Ls];exact bw hx.2 hy.2
 refine Hz.divInt (Ts px py) ?_ ?_
 .rw[hp];generalize 10^j*10^k=T at *;have:=Int.natAbs_add_le (x.num*y.den) (y.num*x.den);omega
 .rw[hp];generalize 10^j*10^k=T at *;omega
theorem Hz.sub{j k l:Nat}{x y:Rat}(hx:Hz j x)(hy:Hz k y)(h:j+k+1<=l:=by omega):Hz l (x-y):=by
 rw[el];exact hx.add hy.neg h
theorem Hz.inv{k:Nat}{y:Rat}(hy:Hz k y)(h:y≠0):Hz k (y⁻¹):=by
 have hn:y.num≠0:=λh0=>h (ey.1 h0)
 have e:y⁻¹=ea y.den y.num:=by rw[<-fw,dy]
 rw[e];by_cases hp:0<y.num
 .exact Hz.divInt hp (by rw[Ls];exact hy.2) hy.1
 .have e2:ea (y.den:Int) y.num=ea (-(y.den:Int)) (-y.num):=(fl _ _).symm;rw[e2];exact Hz.divInt (by omega) (by rw[Sz,Ls];exact hy.2) (by rw[Sz];exact hy.1)
theorem Hz.div{j k l:Nat}{x y:Rat}(hx:Hz j x)(hy:Hz k y)(h0:y≠0)(h:j+k<=l):Hz l (x/y):=by
 rw[et];exact hx.mul (hy.inv h0) h
theorem Hz.int{n:Int}{k:Nat}(h:n.natAbs<=10^k):Hz k (n:Rat):=by
 refine⟨by rw[ew];exact h,by rw[ez];exact dc (by omega)⟩
theorem Hz.zero{k:Nat}:Hz k 0:=Hz.int (n:=0) (by simp)
theorem Hz.one{k:Nat}:Hz k 1:=Hz.int (n:=1) (dc (by omega))
end Eng
end
section
namespace Eng
def TQ (a x:Nat):Nat:=if x<=(x+a/x)/2 then x else TQ a ((x+a/x)/2)
 termination_by x
 decreasing_by omega
theorem BN(a x:Nat)(hx:0<x):a<((x+a/x)/2+1)*((x+a/x)/2+1):=by
 generalize hq:a/x=q;have h1:a<(q+1)*x:=by rw[<-hq];exact Nat.lt_of_lt_of_eq (Nat.lt_mul_div_succ a hx) (cr _ _)
 generalize hy:(x+q)/2=y;have h2:x+q+1<=2*(y+1):=by omega
 have h3:(x+q+1)*(x+q+1)<=(2*(y+1))*(2*(y+1)):=bw h2 h2;have h4:4*((q+1)*x)<=(x+q+1)*(x+q+1):=by
  rcases Nat.le_total x (q+1)with h|h
  .obtain⟨d,hd⟩:=cp h;have e:x+q+1=2*x+d:=by omega
   rw[e,hd];have:(2*x+d)*(2*x+d)=4*((x+d)*x)+d*d:=by grind
   omega
  .obtain⟨d,hd⟩:=cp h;have e:x+q+1=2*(q+1)+d:=by omega
   rw[e,hd];have:(2*(q+1)+d)*(2*(q+1)+d)=4*((q+1)*(q+1+d))+d*d:=by grind
   omega
 have h5:(2*(y+1))*(2*(y+1))=4*((y+1)*(y+1)):=by grind
 omega
theorem NM{a x:Nat}(ha:0<a)(hx:0<x):0<(x+a/x)/2:=by
 by_cases h:x=1
 .subst h;rw[Nat.div_one];omega
 .have:2<=x:=by omega
  generalize a/x=q;omega
theorem LQ(a:Nat):∀x:Nat,a<(x+1)*(x+1)->TQ a x*TQ a x<=a/\a<(TQ a x+1)*(TQ a x+1):=by
 intro x
 induction x using Nat.strongRecOn with
 |_ x ih=>
  intro h;rw[TQ];by_cases hs:x<=(x+a/x)/2
  .rw[if_pos hs];refine⟨?_,h⟩;rcases bx x with hx|hx
   .subst hx;omega
   .have h1:x<=a/x:=by omega
    exact(Nat.le_div_iff_mul_le hx).1 h1
  .rw[if_neg hs];exact ih _ (c4 hs) (BN a x (bm (cv _) (c4 hs)))
theorem ei{r n:Nat}(h1:r*r<=n*n)(h2:n*n<(r+1)*(r+1)):r=n:=by
 have a:r<=n:=Nat.mul_self_le_mul_self_iff.1 h1;have b:n<r+1:=b6.1 h2;omega
theorem NN(q:Rat):(q*q).num=q.num*q.num/\(q*q).den=q.den*q.den:=by
 have hc:Nat.Coprime (q.num*q.num).natAbs (q.den*q.den):=by rw[P1];exact(q.reduced.mul_left q.reduced).mul_right (q.reduced.mul_left q.reduced)
 have hz:q.den*q.den≠0:=Nat.mul_ne_zero q.den_nz q.den_nz;have h:q*q=Rat.mk' (q.num*q.num) (q.den*q.den) hz hc:=by rw[Rat.mul_def,<-Rat.normalize_eq_mk' _ _ hz hc]
 rw[h];exact⟨rfl,rfl⟩
theorem PQ{a n:Nat}(h:a<10^(9*n)):a<(10^(9*((n+1)/2))+1)*(10^(9*((n+1)/2))+1):=by
 have h1:10^(9*n)<=10^(9*((n+1)/2)+9*((n+1)/2)):=bs (by omega) (by omega);rw[b8]at h1;generalize 10^(9*((n+1)/2))=x at *;have h2:(x+1)*(x+1)=x*x+2*x+1:=by grind
 omega
def qI (a:Nat):Nat:=TQ a a
theorem jY(a:Nat):qI a*qI a<=a/\a<(qI a+1)*(qI a+1):=LQ a a (by
 have:(a+1)*(a+1)=a*a+2*a+1:=by grind
 have:=cv (a*a);omega)
theorem BO{a r t:Nat}(h1:r*r<=a)(h2:a<(r+1)*(r+1))(h3:t*t<=a)(h4:a<(t+1)*(t+1)):r=t:=by
 have a1:r<t+1:=b6.1 (bm h1 h4);have a2:t<r+1:=b6.1 (bm h3 h2);omega
theorem BP{a x:Nat}(h:a<(x+1)*(x+1)):TQ a x=qI a:=
 BO (LQ a x h).1 (LQ a x h).2 (jY a).1 (jY a).2
theorem Ya{a n:Nat}(h:a<10^(9*n)):TQ a (10^(9*((n+1)/2)))=qI a:=BP (PQ h)
theorem NO(m:Nat):qI (m*m)=m:=ei (jY (m*m)).1 (jY (m*m)).2
theorem NP(a x:Nat):TQ a x=if x<=(x+a/x)/2 then x else TQ a ((x+a/x)/2):=by rw[TQ]
def LR (a:Nat):Option Nat:=if qI a*qI a=a then some (qI a)else none
theorem NQ(m:Nat):LR (m*m)=some m:=by
 unfold LR;rw[NO,if_pos rfl]
def BQ (q:Rat):Option (Nat×Nat):=if q.num<0 then none else match LR q.num.natAbs,LR q.den with
 |some a,some b=>some (a,b)
 |_,_=>none
theorem FZ(r:Rat):BQ (r*r)=some (r.num.natAbs,r.den):=by
 obtain⟨h1,h2⟩:=NN r;have h3:¬(r*r).num<0:=by rw[h1];have:=Int.mul_self_le_mul_self (Int.le_refl 0) (show(0:Int)<=r.num.natAbs by omega);have e:r.num*r.num=((r.num.natAbs*r.num.natAbs:Nat):Int):=Int.natAbs_mul_self.symm;omega
 have h4:(r*r).num.natAbs=r.num.natAbs*r.num.natAbs:=by rw[h1,P1]
 unfold BQ;rw[if_neg h3,h4,h2,NQ,NQ]
end Eng
end
section
namespace Eng
theorem Wh{x y B e:Rat}(h1: -B<=x)(h2:x<=B)(h3: -e<=y)(h4:y<=e):x*y<=B*e/\ -(B*e)<=x*y:=by
 have a:0<=(B-x)*(e+y):=dA (by grind) (by grind);have b:0<=(B+x)*(e-y):=dA (by grind) (by grind);have c:0<=(B-x)*(e-y):=dA (by grind) (by grind);have d:0<=(B+x)*(e+y):=dA (by grind) (by grind)
 grind
theorem LS(a b:Rat):a<b\/a=b\/b<a:=by grind
structure Cs where
 v:Nat->Rat
 cau:∀e:Rat,0<e->∃N,∀m n,N<=m->N<=n->v m-v n<=e
namespace Cs
theorem bnd(x:Cs):∃B:Rat,0<B/\∃N,∀n,N<=n-> -B<=x.v n/\x.v n<=B:=by
 obtain⟨N,h⟩:=x.cau 1 (by grind);refine⟨(if 0<=x.v N then x.v N else-x.v N)+2,by grind,N,λn hn=>?_⟩;have h1:=h n N hn (bv _);have h2:=h N n (bv _) hn
 grind
def cst (a:Rat):Cs:=⟨λ_=>a,λe he=>⟨0,λ_ _ _ _=>by grind⟩⟩
def add (x y:Cs):Cs:=⟨λn=>x.v n+y.v n,λe he=>by
 obtain⟨N,h⟩:=x.cau (e/2) (by grind);obtain⟨M,k⟩:=y.cau (e/2) (by grind);refine⟨max N M,λm n hm hn=>?_⟩;have:=h m n (by omega) (by omega);have:=k m n (by omega) (by omega)
 grind⟩
def neg (x:Cs):Cs:=⟨λn=> -x.v n,λe he=>by
 obtain⟨N,h⟩:=x.cau e he;refine⟨N,λm n hm hn=>?_⟩;have:=h n m hn hm
 grind⟩
theorem scale{B e:Rat}(hB:0<B)(he:0<e):0<e/B/\B*(e/B)=e:=by
 constructor
 .exact eH he (er.2 hB)
 grind
def mul (x y:Cs):Cs:=⟨λn=>x.v n*y.v n,λe he=>by
 obtain⟨B,hB,N,h⟩:=x.bnd;obtain⟨B',hB',N',h'⟩:=y.bnd;obtain⟨p1,p2⟩:=scale hB (show(0:Rat)<e/2 by grind);obtain⟨q1,q2⟩:=scale hB' (show(0:Rat)<e/2 by grind);obtain⟨M,k⟩:=y.cau _ p1;obtain⟨M',k'⟩:=x.cau _ q1;refine⟨max (max N N') (max M M'),λm n hm hn=>?_⟩;have a:=Wh (h m (by omega)).1 (h m (by omega)).2 (show-(e/2/B)<=y.v m-y.v n by have:=k n m (by omega) (by omega);grind) (k m n (by omega) (by omega));have b:=Wh (h' n (by omega)).1 (h' n (by omega)).2 (show-(e/2/B')<=x.v m-x.v n by have:=k' n m (by omega) (by omega);grind) (k' m n (by omega) (by omega));rw[p2]at a;rw[q2]at b
 grind⟩
def Z (f:Nat->Rat):Prop:=∀e:Rat,0<e->∃N,∀n,N<=n-> -e<=f n/\f n<=e
def rel (x y:Cs):Prop:=Z λn=>x.v n-y.v n
theorem Z.add{f g:Nat->Rat}(hf:Z f)(hg:Z g):Z λn=>f n+g n:=λe he=>by
 obtain⟨N,h⟩:=hf (e/2) (by grind);obtain⟨M,k⟩:=hg (e/2) (by grind);refine⟨max N M,λn hn=>?_⟩
 grind
theorem Z.neg{f:Nat->Rat}(hf:Z f):Z λn=> -f n:=λe he=>by
 obtain⟨N,h⟩:=hf e he;refine⟨N,λn hn=>?_⟩
 grind
theorem Z.mul(x:Cs){f:Nat->Rat}(hf:Z f):Z λn=>x.v n*f n:=λe he=>by
 obtain⟨B,hB,N,h⟩:=x.bnd;obtain⟨p1,p2⟩:=scale hB he;obtain⟨M,k⟩:=hf _ p1;refine⟨max N M,λn hn=>?_⟩;have a:=Wh (h n (by omega)).1 (h n (by omega)).2 (k n (by omega)).1 (k n (by omega)).2
 grind
theorem Z.congr{f g:Nat->Rat}(hf:Z f)(h:∀n,f n=g n):Z g:=by
 have:f=g:=funext h
 grind
instance set:Setoid Cs where
 r:=rel
 iseqv:=⟨λx e he=>⟨0,λn _=>by grind⟩,λh=>(Z.neg h).congr λn=>by grind,λh k=>(Z.add h k).congr λn=>by grind⟩
def P (f:Nat->Rat):Prop:=∃e:Rat,0<e/\∃N,∀n,N<=n->e<=f n
theorem P.congr{f g:Nat->Rat}(hf:P f)(h:Z λn=>f n-g n):P g:=by
 obtain⟨e,he,N,k⟩:=hf;obtain⟨M,j⟩:=h (e/2) (by grind);refine⟨e/2,by grind,max N M,λn hn=>?_⟩
 grind
theorem tri(x:Cs):P x.v\/Z x.v\/P λn=> -x.v n:=by
 by_cases hz:Z x.v
 .grind
 simp only[Z,Classical.not_forall,not_exists]at hz;obtain⟨e,he,hz⟩:=hz;obtain⟨N,h⟩:=x.cau (e/2) (by grind);obtain⟨n,hz⟩:=hz N;by_cases h1:x.v n<=e
 .refine .inr (.inr ⟨e/2,by grind,N,λm hm=>?_⟩)
  grind
 .refine .inl ⟨e/2,by grind,N,λm hm=>?_⟩
  grind
end Cs
def Rl:Type:=Quotient Cs.set
namespace Rl
def mk (x:Cs):Rl:=Quotient.mk Cs.set x
theorem rep(x:Rl):∃a,x=mk a:=(Quotient.exists_rep x).elim λa h=>⟨a,h.symm⟩
theorem xz{x y:Cs}(h:∀n,x.v n=y.v n):mk x=mk y:=by
 have:x=y:=by cases x;congr;grind
 grind
theorem BR{x y:Cs}:mk x=mk y↔Cs.Z λn=>x.v n-y.v n:=⟨λh=>Quotient.exact h,λh=>Quotient.sound h⟩
def add (x y:Rl):Rl:=dp x y (λa b=>mk (a.add b)) λ_ _ _ _ h k=>BR.2 ((Cs.Z.add h k).congr λn=>by simp only[Cs.add];grind)
def neg (x:Rl):Rl:=dv x (λa=>mk a.neg) λ_ _ h=>BR.2 ((Cs.Z.neg h).congr λn=>by simp only[Cs.neg];grind)
def mul (x y:Rl):Rl:=dp x y (λa b=>mk (a.mul b)) λa b c d h k=>BR.2 ((Cs.Z.add (Cs.Z.mul b h) (Cs.Z.mul c k)).congr λn=>by simp only[Cs.mul];grind)
def ofR (a:Rat):Rl:=mk (.cst a)
instance:Add Rl:=⟨add⟩
instance:Neg Rl:=⟨neg⟩
instance:Sub Rl:=⟨λx y=>x+ -y⟩
instance:Mul Rl:=⟨mul⟩
instance:OfNat Rl 0:=⟨ofR 0⟩
instance:OfNat Rl 1:=⟨ofR 1⟩
theorem lO(a b:Cs):mk a*mk b=mk (a.mul b):=rfl
theorem lP(a:Rat):ofR a=mk (.cst a):=rfl
theorem xZ(a b:Cs)(n:Nat):(a.add b).v n=a.v n+b.v n:=rfl
theorem zK(a:Cs)(n:Nat):a.neg.v n= -a.v n:=rfl
theorem ke(a b:Cs)(n:Nat):(a.mul b).v n=a.v n*b.v n:=rfl
theorem kf(a:Rat)(n:Nat):(Cs.cst a).v n=a:=rfl
theorem ad0(x:Rl):x+0=x:=by obtain⟨x,rfl⟩:=x.rep;exact xz λn=>by simp only[xZ,kf];grind
theorem adc(x y:Rl):x+y=y+x:=by obtain⟨x,rfl⟩:=x.rep;obtain⟨y,rfl⟩:=y.rep;exact xz λn=>by simp only[xZ];grind
theorem ada(x y z:Rl):x+y+z=x+(y+z):=by obtain⟨x,rfl⟩:=x.rep;obtain⟨y,rfl⟩:=y.rep;obtain⟨z,rfl⟩:=z.rep;exact xz λn=>by simp only[xZ];grind
theorem adn(x:Rl):x+ -x=0:=by obtain⟨x,rfl⟩:=x.rep;exact xz λn=>by simp only[xZ,zK,kf];grind
theorem sbs(x:Rl):x-x=0:=adn x
theorem mlc(x y:Rl):x*y=y*x:=by obtain⟨x,rfl⟩:=x.rep;obtain⟨y,rfl⟩:=y.rep;exact xz λn=>by simp only[ke];grind
theorem ml1(x:Rl):x*1=x:=by obtain⟨x,rfl⟩:=x.rep;exact xz λn=>by simp only[ke,kf];grind
theorem ml0(x:Rl):x*0=0:=by obtain⟨x,rfl⟩:=x.rep;exact xz λn=>by simp only[ke,kf];grind
theorem zml(x:Rl):0*x=0:=by rw[mlc,ml0]
theorem mld(x y z:Rl):x*(y+z)=x*y+x*z:=by obtain⟨x,rfl⟩:=x.rep;obtain⟨y,rfl⟩:=y.rep;obtain⟨z,rfl⟩:=z.rep;exact xz λn=>by simp only[ke,xZ];grind
theorem ze(a b:Rat):ofR (a+b)=ofR a+ofR b:=xz λn=>by simp only[xZ,kf]
theorem wl(a:Rat):ofR (-a)= -ofR a:=xz λn=>by simp only[zK,kf]
theorem wS(a b:Rat):ofR (a-b)=ofR a-ofR b:=xz λn=>by simp only[xZ,zK,kf];grind
theorem qL(a b:Rat):ofR (a*b)=ofR a*ofR b:=xz λn=>by simp only[ke,kf]
theorem xS:ofR 0=0:=rfl
theorem ej:ofR 1=1:=rfl
def pos (x:Rl):Prop:=dv x (λa=>Cs.P a.v) λ_ _ h=>propext ⟨λk=>k.congr h,λk=>k.congr ((Cs.Z.neg h).congr λn=>by grind)⟩
instance:LT Rl:=⟨λx y=>pos (y-x)⟩
instance:LE Rl:=⟨λx y=>¬y<x⟩
theorem QB{x y:Rl}:x<y↔pos (y-x):=Iff.rfl
theorem not_lt{x y:Rl}:¬x<y↔y<=x:=Iff.rfl
theorem BS{x y:Rl}(hx:pos x)(hy:pos y):pos (x+y):=by
 obtain⟨x,rfl⟩:=x.rep;obtain⟨y,rfl⟩:=y.rep;obtain⟨e,he,N,h⟩:=(show Cs.P x.v from hx);obtain⟨e',he',M,k⟩:=(show Cs.P y.v from hy);refine⟨e+e',by grind,max N M,λn hn=>?_⟩;rw[xZ]
 grind
theorem ek{x y:Rl}(hx:pos x)(hy:pos y):pos (x*y):=by
 obtain⟨x,rfl⟩:=x.rep;obtain⟨y,rfl⟩:=y.rep;obtain⟨e,he,N,h⟩:=(show Cs.P x.v from hx);obtain⟨e',he',M,k⟩:=(show Cs.P y.v from hy);refine⟨e*e',eH he he',max N M,λn hn=>?_⟩;rw[ke];have a:0<=(x.v n-e)*y.v n:=dA (by grind) (by grind);have b:0<=e*(y.v n-e'):=dA (by grind) (by grind)
 grind
theorem eo(x:Rl):pos x\/x=0\/pos (-x):=by
 obtain⟨x,rfl⟩:=x.rep;rcases x.tri with h|h|h
 .exact .inl h
 .exact .inr (.inl (BR.2 (h.congr λn=>by rw[kf];grind)))
 .exact .inr (.inr h)
theorem Ux:¬pos 0:=λ⟨e,he,N,h⟩=>by
 have:=h N (bv _);rw[kf]at this
 grind
theorem Vz(x:Rl): - -x=x:=by obtain⟨x,rfl⟩:=x.rep;exact xz λn=>by simp only[zK];grind
theorem sb0(x:Rl):x-0=x:=by obtain⟨x,rfl⟩:=x.rep;exact xz λn=>by simp only[xZ,zK,kf];grind
theorem zsb(x:Rl):0-x= -x:=by obtain⟨x,rfl⟩:=x.rep;exact xz λn=>by simp only[xZ,zK,kf];grind
theorem ng0: -(0:Rl)=0:=xz λn=>by simp only[zK,kf];grind
theorem zad(x:Rl):0+x=x:=by rw[adc,ad0]
theorem ye{x:Rl}:0<x↔pos x:=by rw[QB,sb0]
theorem Gq{x:Rl}:x<0↔pos (-x):=by rw[QB,zsb]
theorem Uy{x y:Rl}:0<y-x↔x<y:=by rw[ye,QB]
theorem NR{x y:Rl}:x-y<0↔x<y:=by
 rw[Gq,QB];have: -(x-y)=y-x:=by obtain⟨x,rfl⟩:=x.rep;obtain⟨y,rfl⟩:=y.rep;exact xz λn=>by simp only[xZ,zK];grind
 grind
theorem jv{x y:Rl}(h:x-y=0):x=y:=by
 have:x=(x-y)+y:=by obtain⟨x,rfl⟩:=x.rep;obtain⟨y,rfl⟩:=y.rep;exact xz λn=>by simp only[xZ,zK];grind
 rw[this,h,zad]
theorem lt_trans{x y z:Rl}(h:x<y)(k:y<z):x<z:=by
 have:z-x=(y-x)+(z-y):=by obtain⟨x,rfl⟩:=x.rep;obtain⟨y,rfl⟩:=y.rep;obtain⟨z,rfl⟩:=z.rep;exact xz λn=>by simp only[xZ,zK];grind
 rw[QB,this];exact BS h k
theorem ku(x:Rl):¬x<x:=by rw[QB,sbs];exact Ux
theorem yf{x y:Rl}(h:x<y):¬y<x:=λk=>ku _ (lt_trans h k)
theorem XV(x y:Rl):x<y\/x=y\/y<x:=by
 rcases eo (y-x)with h|h|h
 .exact .inl h
 .exact .inr (.inl (jv h).symm)
 .exact .inr (.inr (NR.1 (Gq.2 h)))
theorem le_of_lt{x y:Rl}(h:x<y):x<=y:=yf h
theorem ji{x:Rl}:x<=x:=ku x
theorem Jt{x y:Rl}:x<=y↔x<y\/x=y:=by
 constructor
 .intro h;rcases XV x y with k|k|k
  .grind
  .grind
  .exact absurd k h
 .rintro(h|rfl)
  .exact le_of_lt h
  .exact ji
theorem jZ{x y:Rl}(h:x<=y)(k:x≠y):x<y:=(Jt.1 h).resolve_right k
theorem le_trans{x y z:Rl}(h:x<=y)(k:y<=z):x<=z:=by
 rcases Jt.1 h with h|rfl
 .rcases Jt.1 k with k|rfl
  .exact le_of_lt (lt_trans h k)
  grind
 grind
theorem lt_of_lt_of_le{x y z:Rl}(h:x<y)(k:y<=z):x<z:=by
 rcases Jt.1 k with k|rfl
 .exact lt_trans h k
 grind
theorem lt_of_le_of_lt{x y z:Rl}(h:x<=y)(k:y<z):x<z:=by
 rcases Jt.1 h with h|rfl
 .exact lt_trans h k
 grind
theorem xA{x y:Rl}(h:x<=y)(k:y<=x):x=y:=by
 rcases Jt.1 h with h|h
 .exact absurd h k
 grind
theorem Gr{x y:Rl}(h:x<y):x≠y:=λk=>ku _ (k▸h)
theorem Gt{x y:Rl}(h:x<y):y≠x:=λk=>ku _ (k▸h)
theorem le_total(x y:Rl):x<=y\/y<=x:=by
 grind [XV,le_of_lt,ji]
theorem QC{a b:Rat}:ofR a<ofR b↔a<b:=by
 constructor
 .rintro⟨e,he,N,h⟩;have:=h N (bv _);simp only[Cs.cst,Cs.add,Cs.neg]at this
  grind
 .intro h;refine⟨b-a,by grind,0,λn _=>?_⟩;simp only[Cs.cst,Cs.add,Cs.neg]
  grind
theorem kg{a b:Rat}:ofR a<=ofR b↔a<=b:=by
 rw[<-not_lt,QC]
 grind
theorem yG{a b:Rat}:ofR a=ofR b↔a=b:=by
 constructor
 .intro h;rcases LS a b with k|k|k
  .exact absurd (QC.2 k) (h▸ku _)
  .exact k
  .exact absurd (QC.2 k) (h▸ku _)
 grind
theorem mul_pos{x y:Rl}(hx:0<x)(hy:0<y):0<x*y:=ye.2 (ek (ye.1 hx) (ye.1 hy))
theorem LU{x y:Rl}(hx:0<x)(hy:0<y):0<x+y:=ye.2 (BS (ye.1 hx) (ye.1 hy))
theorem aG{x y:Rl}(z:Rl):x+z<y+z↔x<y:=by
 rw[QB,QB];have:y+z-(x+z)=y-x:=by obtain⟨x,rfl⟩:=x.rep;obtain⟨y,rfl⟩:=y.rep;obtain⟨z,rfl⟩:=z.rep;exact xz λn=>by simp only[xZ,zK];grind
 grind
theorem BT{x y:Rl}(z:Rl):x+z<=y+z↔x<=y:=by rw[<-not_lt,<-not_lt,aG]
theorem BU{x y:Rl}: -x< -y↔y<x:=by
 rw[QB,QB];have: -y- -x=x-y:=by obtain⟨x,rfl⟩:=x.rep;obtain⟨y,rfl⟩:=y.rep;exact xz λn=>by simp only[xZ,zK];grind
 grind
theorem jS{x:Rl}: -x<0↔0<x:=by rw[Gq,Vz,ye]
theorem xB{x:Rl}:0< -x↔x<0:=by rw[ye,Gq]
theorem Uz(x y:Rl):x* -y= -(x*y):=by obtain⟨x,rfl⟩:=x.rep;obtain⟨y,rfl⟩:=y.rep;exact xz λn=>by simp only[ke,zK];grind
theorem PR(x y:Rl): -x*y= -(x*y):=by rw[mlc,Uz,mlc]
theorem mul_neg{x y:Rl}(hx:0<x)(hy:y<0):x*y<0:=by
 rw[<-xB,<-Uz];exact mul_pos hx (xB.2 hy)
theorem neg_mul_neg{x y:Rl}(hx:x<0)(hy:y<0):0<x*y:=by
 have:=mul_pos (xB.2 hx) (xB.2 hy)
 rwa [Uz,PR,Vz]at this
theorem lQ{x:Rl}(h:x≠0):0<x*x:=by
 grind [XV,neg_mul_neg,mul_pos]
theorem pE(x:Rl):0<=x*x:=by
 grind [ml0,ji,le_of_lt,lQ]
theorem mul_eq_zero{x y:Rl}(h:x*y=0):x=0\/y=0:=by
 rcases XV x 0 with k|k|k
 .rcases XV y 0 with j|j|j
  .exact absurd h (Gt (neg_mul_neg k j))
  .grind
  .exact absurd h (by rw[mlc];exact Gr (mul_neg j k))
 .grind
 .rcases XV y 0 with j|j|j
  .exact absurd h (Gr (mul_neg k j))
  .grind
  .exact absurd h (Gt (mul_pos k j))
theorem aH{x y:Rl}(hx:0<=x)(hy:0<=y):0<=x*y:=by
 rcases Jt.1 hx with hx|hx
 .rcases Jt.1 hy with hy|hy
  .exact le_of_lt (mul_pos hx hy)
  .rw[<-hy,ml0];grind
 .rw[<-hx,zml];grind
theorem arch(c:Rat){d:Rat}(hd:0<d):∃k:Nat,c<(k:Rat)*d:=by
 have h1:c/d<((c/d).floor+1:Int):=by
  have:=Rat.lt_floor_add_one (c/d)
  grind
 have h2:(((c/d).floor+1:Int):Rat)<=((((c/d).floor+1).toNat:Nat):Rat):=by
  have:(c/d).floor+1<=(((c/d).floor+1).toNat:Int):=Int.self_le_toNat _
  exact_mod_cast this
 have h3:c/d<((((c/d).floor+1).toNat:Nat):Rat):=by grind
 have h4:(c/d)*d=c:=by grind
 have:=Rat.mul_lt_mul_of_pos_right h3 hd
 grind
theorem pF{c d:Rat}(hc:0<=c)(hd:0<d):∃s:Rat,0<=s/\s*s<=c/\c<(s+d)*(s+d):=by
 obtain⟨K,hK⟩:=arch (c+1) hd;have hbig:c<((K:Rat)*d)*((K:Rat)*d):=by
  have:0<=((K:Rat)*d-1)*((K:Rat)*d):=dA (by grind) (by grind)
  grind
 clear hK
 induction K with
 |zero=>grind
 |succ K ih=>
  by_cases h:c<((K:Rat)*d)*((K:Rat)*d)
  .grind
  .refine⟨(K:Rat)*d,dA (by grind) (ec hd),by grind,?_⟩
   grind
theorem pG{a b:Rat}(hb:0<=b)(h:a*a<b*b):a<b:=by
 rcases LS a b with k|k|k
 .exact k
 .grind
 .have:=dA (show(0:Rat)<=a-b by grind) (show(0:Rat)<=a+b by grind)
  grind
noncomputable def rtS (c:Rat) (n:Nat):Rat:=if h:0<=c then Classical.choose (pF h (show(0:Rat)<1/((n:Rat)+1)by
 have:(0:Rat)<=n:=by exact_mod_cast cv n
 rw[et];exact eH (by grind) (er.2 (by grind))))else 0
theorem JP{c:Rat}(h:0<=c)(n:Nat):0<=rtS c n/\rtS c n*rtS c n<=c/\c<(rtS c n+1/((n:Rat)+1))*(rtS c n+1/((n:Rat)+1)):=by
 unfold rtS
 grind
theorem ZF{e:Rat}(he:0<e):∃N:Nat,∀n:Nat,N<=n->0<1/((n:Rat)+1)/\1/((n:Rat)+1)<=e:=by
 obtain⟨N,hN⟩:=arch 1 he;refine⟨N,λn hn=>?_⟩;have h1:(N:Rat)<=n:=by exact_mod_cast hn
 have hp:(0:Rat)<(n:Rat)+1:=by grind
 have i:((n:Rat)+1)*((n:Rat)+1)⁻¹=1:=Rat.mul_inv_cancel _ (by grind);have ip:0<((n:Rat)+1)⁻¹:=er.2 hp;have h2:1<=((n:Rat)+1)*e:=by
  have:=dA (show(0:Rat)<=(n:Rat)+1-N by grind) (ec he)
  grind
 have h3:=dA (ec ip) (show(0:Rat)<=((n:Rat)+1)*e-1 by grind);generalize ((n:Rat)+1)⁻¹=u at *;generalize (n:Rat)+1=w at *;have h4:u*(w*e-1)=(w*u)*e-u:=by grind
 rw[h4,i]at h3
 grind
theorem lR{c:Rat}(h:0<=c):∀e:Rat,0<e->∃N,∀m n,N<=m->N<=n->rtS c m-rtS c n<=e:=by
 intro e he;obtain⟨N,hN⟩:=ZF he;refine⟨N,λm n _ hn=>?_⟩;obtain⟨a1,a2,a3⟩:=JP h m;obtain⟨b1,b2,b3⟩:=JP h n;have:=pG (show 0<=rtS c n+1/((n:Rat)+1)by grind) (show rtS c m*rtS c m<_ by grind)
 grind
noncomputable def jw (c:Rat):Rl:=if h:0<=c then mk ⟨rtS c,lR h⟩else 0
theorem wo{c:Rat}(h:0<=c):jw c*jw c=ofR c:=by
 unfold jw;rw[dif_pos h,lO,lP,BR];simp only[Cs.mul,Cs.cst];intro e he;obtain⟨p1,p2⟩:=Cs.scale (show(0:Rat)<2*(c+1)+1 by grind) he;obtain⟨N,hN⟩:=ZF p1;obtain⟨M,hM⟩:=ZF (show(0:Rat)<1 by grind);refine⟨max N M,λn hn=>?_⟩;obtain⟨b1,b2,b3⟩:=JP h n;obtain⟨u1,u2⟩:=hN n (by omega);obtain⟨_,u3⟩:=hM n (by omega);have hs:rtS c n<=c+1:=by
  clear b3 u1 u2 u3 p1 p2;generalize rtS c n=s at *;rcases LS s (c+1)with k|k|k
  .exact ec k
  .grind
  .have q1:=dA (show(0:Rat)<=s-(c+1)by grind) b1;have q2:=dA (show(0:Rat)<=s-(c+1)by grind) (show(0:Rat)<=c+1 by grind);have q3:=dA h h
   grind
 show-e<=rtS c n*rtS c n-c/\rtS c n*rtS c n-c<=e;clear hN hM;generalize 1/((n:Rat)+1)=d at *;generalize rtS c n=s at *;generalize e/(2*(c+1)+1)=f at *;have k1:0<=(c+1-s)*d:=dA (by grind) (by grind);have k2:0<=(1-d)*d:=dA (by grind) (by grind);have k3:0<=(2*(c+1)+1)*(f-d):=dA (by grind) (by grind)
 grind
theorem ZG(c:Rat):0<=jw c:=by
 unfold jw;split
 .rename_i h;rintro⟨e,he,N,k⟩;have:=k N (bv _);have h1:=(JP h N).1;simp only[Cs.add,Cs.neg,Cs.cst]at this
  grind
 .exact ji
theorem U1:jw 0=0:=by
 grind [wo,mul_eq_zero,xS]
theorem NS{c:Rat}(h:0<c):0<jw c:=by
 grind [jZ,ZG,wo,ml0,xS,yG]
theorem NT{x y:Rl}(hx:0<=x)(hy:0<=y)(h:x*x=y*y):x=y:=by
 have e:(x-y)*(x+y)=0:=by
  have:(x-y)*(x+y)=x*x-y*y:=by obtain⟨x,rfl⟩:=x.rep;obtain⟨y,rfl⟩:=y.rep;exact xz λn=>by simp only[ke,xZ,zK];grind
  rw[this,h,sbs]
 rcases mul_eq_zero e with e|e
 .exact jv e
 .have hx0:x=0:=by
   refine xA ?_ hx;rw[<-e];have:=(BT x).2 hy
   rwa [zad,adc y x]at this
  have hy0:y=0:=by rw[hx0,zad]at e;exact e
  grind
theorem PS{a:Rat}(h:0<=a):jw (a*a)=ofR a:=
 NT (ZG _) (kg.2 h) (by rw[wo (dA h h),qL])
end Rl
end Eng
end
section
namespace Eng
namespace Rl
noncomputable def sg (x:Rl):Int:=open Classical in if 0<x then 1 else if x<0 then-1 else 0
theorem XW{x:Rl}(h:0<x):sg x=1:=by simp[sg,h]
theorem Wi{x:Rl}(h:x<0):sg x= -1:=by simp[sg,h,yf h]
theorem zL:sg 0=0:=by simp[sg,ku]
theorem zf(x:Rl):(0<x/\sg x=1)\/(x=0/\sg x=0)\/(x<0/\sg x= -1):=by
 rcases XV 0 x with h|h|h
 .exact .inl ⟨h,XW h⟩
 .exact .inr (.inl ⟨h.symm,h▸zL⟩)
 .exact .inr (.inr ⟨h,Wi h⟩)
theorem U2{x:Rl}:sg x=1↔0<x:=by
 rcases zf x with⟨h,e⟩|⟨h,e⟩|⟨h,e⟩<;>simp[e]
 .exact h
 .subst h;exact ku _
 .exact yf h
theorem Wj{x:Rl}:sg x= -1↔x<0:=by
 rcases zf x with⟨h,e⟩|⟨h,e⟩|⟨h,e⟩<;>simp[e]
 .exact yf h
 .subst h;exact ku _
 .exact h
theorem qY{x:Rl}:sg x=0↔x=0:=by
 rcases zf x with⟨h,e⟩|⟨h,e⟩|⟨h,e⟩<;>simp[e]
 .exact Gt h
 .exact h
 .exact Gr h
theorem pH(x:Rl):sg (-x)= -sg x:=by
 rcases zf x with⟨h,e⟩|⟨h,e⟩|⟨h,e⟩<;>rw[e]
 .exact Wi (jS.2 h)
 .subst h;rw[ng0];exact zL
 .exact XW (xB.2 h)
theorem ep(x y:Rl):sg (x*y)=sg x*sg y:=by
 rcases zf x with⟨h,e⟩|⟨h,e⟩|⟨h,e⟩<;>rcases zf y with⟨k,f⟩|⟨k,f⟩|⟨k,f⟩<;>rw[e,f]
 .exact XW (mul_pos h k)
 .rw[k,ml0,zL];rfl
 .exact Wi (mul_neg h k)
 .rw[h,zml,zL];rfl
 .rw[h,zml,zL];rfl
 .rw[h,zml,zL];rfl
 .exact Wi (by rw[mlc];exact mul_neg k h)
 .rw[k,ml0,zL];rfl
 .exact XW (neg_mul_neg h k)
def sr (a:Rat):Int:=if 0<a then 1 else if a<0 then-1 else 0
theorem BV(a:Rat):sr a=sg (ofR a):=by
 have e1:0<ofR a↔0<a:=QC (a:=0);have e2:ofR a<0↔a<0:=QC (b:=0);unfold sr sg;simp only[e1,e2]
theorem kF(a:Rat):(0<a/\sr a=1)\/(a=0/\sr a=0)\/(a<0/\sr a= -1):=by
 unfold sr
 grind
theorem aJ(x y s:Rl)(hs:0<=s):
 sg (x+y*s)=if sg (y*s)=0\/sg x=sg (y*s)then sg x else if sg x=0 then sg (y*s)else sg x*sg (x*x-y*y*(s*s)):=by
 have hp:∀a b:Rl,sg a=sg b->sg a≠0->sg (a+b)=sg a:=by
  intro a b h h0;rcases zf a with⟨k,e⟩|⟨k,e⟩|⟨k,e⟩
  .rw[e]at h ⊢;exact XW (LU k (U2.1 h.symm))
  .exact absurd e h0
  .rw[e]at h ⊢;have hb:=Wj.1 h.symm;rw[Wj,<-xB];have: -(a+b)= -a+ -b:=by obtain⟨a,rfl⟩:=a.rep;obtain⟨b,rfl⟩:=b.rep;exact xz λn=>by simp only[xZ,zK];grind
   rw[this];exact LU (xB.2 k) (xB.2 hb)
 by_cases h1:sg (y*s)=0
 .rw[if_pos (.inl h1),qY.1 h1,ad0]
 by_cases h2:sg x=sg (y*s)
 .rw[if_pos (.inr h2)];exact hp _ _ h2 (h2▸h1)
 rw[if_neg (by simp[h1,h2])];by_cases h3:sg x=0
 .rw[if_pos h3,qY.1 h3,zad]
 rw[if_neg h3];have h4:sg x=sg (-(y*s)):=by rw[pH];rcases zf x with⟨_,e⟩|⟨_,e⟩|⟨_,e⟩<;>rcases zf (y*s)with⟨_,f⟩|⟨_,f⟩|⟨_,f⟩<;>simp[e,f]at h1 h2 h3 ⊢
 have h5:=hp _ _ h4 h3;have h6:x*x-y*y*(s*s)=(x+y*s)*(x+ -(y*s)):=by obtain⟨x,rfl⟩:=x.rep;obtain⟨y,rfl⟩:=y.rep;obtain⟨s,rfl⟩:=s.rep;exact xz λn=>by simp only[xZ,zK,ke];grind
 rw[h6,ep,h5];rcases zf x with⟨_,e⟩|⟨_,e⟩|⟨_,e⟩<;>simp[e]at h3 ⊢
def tw (a b m:Rat):Int:=if sr b*sr m=0\/sr a=sr b*sr m then sr a else if sr a=0 then sr b*sr m else sr a*sr (a*a-b*b*m)
theorem BW{m:Rat}(h:0<=m):sg (jw m)=sr m:=by
 rcases kF m with⟨k,e⟩|⟨k,e⟩|⟨k,e⟩
 .rw[e];exact XW (NS k)
 .subst k;rw[U1,zL,e]
 .grind
theorem U4(a b:Rat){m:Rat}(h:0<=m):tw a b m=sg (ofR a+ofR b*jw m):=by
 rw[aJ _ _ _ (ZG m),wo h,ep,BW h,<-BV,<-BV,<-qL,<-qL,<-qL,<-wS,<-BV];rfl
noncomputable def qv (a b c d m n:Rat):Rl:=(ofR a+ofR b*jw m)+(ofR c+ofR d*jw m)*jw n
def qs (a b c d m n:Rat):Int:=
 if tw c d m*sr n=0\/tw a b m=tw c d m*sr n then tw a b m else if tw a b m=0 then tw c d m*sr n else
  tw a b m*tw (a*a+b*b*m-n*(c*c+d*d*m)) (2*(a*b-n*(c*d))) m
theorem eu(a b c d:Rat){m n:Rat}(hm:0<=m)(hn:0<=n):qs a b c d m n=sg (qv a b c d m n):=by
 unfold qv;rw[aJ _ _ _ (ZG n),wo hn,ep,BW hn,<-U4 _ _ hm,<-U4 _ _ hm];unfold qs;have:(ofR a+ofR b*jw m)*(ofR a+ofR b*jw m)-(ofR c+ofR d*jw m)*(ofR c+ofR d*jw m)*ofR n
  =ofR (a*a+b*b*m-n*(c*c+d*d*m))+ofR (2*(a*b-n*(c*d)))*jw m:=by
  have e:∀s:Rl,s*s=ofR m->(ofR a+ofR b*s)*(ofR a+ofR b*s)-(ofR c+ofR d*s)*(ofR c+ofR d*s)*ofR n
   =(ofR a*ofR a+ofR b*ofR b*ofR m-ofR n*(ofR c*ofR c+ofR d*ofR d*ofR m))+ofR (2*(a*b-n*(c*d)))*s:=by
   intro s h;rw[<-h];obtain⟨s,rfl⟩:=s.rep;exact xz λn=>by simp only[xZ,zK,ke,kf];grind
  rw[e _ (wo hm)];simp only[wS,ze,qL]
 rw[this,<-U4 _ _ hm]
end Rl
end Eng
end
section
namespace Eng
open Rl
structure Rt where
 a:Rat
 b:Rat
 c:Rat
structure Vc where
 x:Rat
 y:Rat
structure P5 where
 x:Rat
 u:Rat
 y:Rat
 v:Rat
 c:Rat
structure Ln where
 a:Rat
 b:Rat
 c:Rat
structure Ci where
 x:Rat
 y:Rat
 q:Rat
structure Cu where
 arc:Bool
 ln:Ln
 ci:Ci
 cw:Bool
 fr:P5
 tt:P5
 jk:R4
def sqQ (c:Rat):Option Rat:=match BQ c with
 |some (m,n)=>some ((m:Rat)/(n:Rat))
 |none=>none
def rtQ (a:Rat):Rt:=⟨a,0,0⟩
def JQ (a b c:Rat):Rt:=if b=0\/c=0 then rtQ a else⟨a,b,c⟩
def Gu (a b c:Rat):Rt:=match sqQ c with
 |some s=>rtQ (a+b*s)
 |none=>JQ a b c
noncomputable def rv (r:Rt):Rl:=ofR r.a+ofR r.b*jw r.c
def wT (r:Rt):Rat:=r.a*r.a-r.b*r.b*r.c
def BX (r:Rt) (a:Rat):Rt:=⟨r.a+a,r.b,r.c⟩
def lS (r:Rt):Rt:=⟨-r.a, -r.b,r.c⟩
def mulC (r s:Rt) (c:Rat):Rt:=JQ (r.a*s.a+r.b*s.b*c) (r.a*s.b+r.b*s.a) c
def Zz (r s:Rt):Rat:=if r.b=0 then s.c else r.c
def Aa (r s:Rt):Prop:=r.b=0\/s.b=0\/r.c=s.c
def ZH (r s:Rt):Rt:=mulC r s (Zz r s)
def iq (r s:Rt):Rt:=JQ (r.a+s.a) (r.b+s.b) (Zz r s)
def ir (r:Rt):Rt:=JQ (r.a*(1/wT r)) (-(r.b*(1/wT r))) r.c
def atV (v:Vc):P5:=⟨v.x,0,v.y,0,0⟩
def wq (a b c:Rat):Rt:=if b=0 then rtQ a else⟨a,b,c⟩
def xP (p:P5):Rt:=wq p.x p.u p.c
def yP (p:P5):Rt:=wq p.y p.v p.c
noncomputable def px (p:P5):Rl:=ofR p.x+ofR p.u*jw p.c
noncomputable def py (p:P5):Rl:=ofR p.y+ofR p.v*jw p.c
def okP (p:P5):Prop:=(p.u=0/\p.v=0/\p.c=0)\/(¬(p.u=0/\p.v=0)/\0<p.c/\sqQ p.c=none)
noncomputable def zW (p q:P5):Int:=if sg (px p-px q)=0 then sg (py p-py q)else sg (px p-px q)
def ZI (p q:P5):Prop:=px p=px q/\py p=py q
noncomputable def wU (p q:P5):Bool:=zW p q==0
theorem vu{p q:P5}:zW p q=0↔ZI p q:=by
 unfold zW ZI;split
 .rename_i h;rw[qY];exact⟨λk=>⟨jv (qY.1 h),jv k⟩,λk=>by rw[k.2,sbs]⟩
 .rename_i h;refine⟨λk=>absurd k h,λk=>absurd ?_ h⟩;rw[k.1,sbs,zL]
theorem jd{p q:P5}:wU p q=true↔ZI p q:=by
 unfold wU;rw[beq_iff_eq,vu]
def yz (p:P5):P5:=⟨-p.x, -p.u,p.y,p.v,p.c⟩
noncomputable def lnv (l:Ln) (p:P5):Rl:=ofR l.a*px p+ofR l.b*py p-ofR l.c
noncomputable def civ (c:Ci) (p:P5):Rl:=(px p-ofR c.x)*(px p-ofR c.x)+(py p-ofR c.y)*(py p-ofR c.y)-ofR c.q
def iu (l m:Ln):Bool:=decide (l.a*m.b=l.b*m.a)&&(decide (l.a*m.c=l.c*m.a)&&decide (l.b*m.c=l.c*m.b))
def lT (c d:Ci):Bool:=decide (c.x=d.x)&&(decide (c.y=d.y)&&decide (c.q=d.q))
def Ju (l m:Ln):Rat:=l.a*m.b-m.a*l.b
def BY (l m:Ln):Rat:=l.c*m.b-m.c*l.b
def BZ (l m:Ln):Rat:=l.a*m.c-m.a*l.c
def Jv (l m:Ln):List P5:=if Ju l m≠0 then [atV ⟨BY l m/Ju l m,BZ l m/Ju l m⟩]else []
def Hp (l:Ln):Rat:=l.a*l.a+l.b*l.b
def lU (l:Ln) (x y:Rat):Rat:=l.a*x+l.b*y-l.c
def V0 (l:Ln) (c:Ci):Rat:=Hp l*c.q-lU l c.x c.y*lU l c.x c.y
def zr (x u y v c:Rat):P5:=match sqQ c with
 |some s=>atV ⟨x+u*s,y+v*s⟩
 |none=>⟨x,u,y,v,c⟩
def e9 (l:Ln) (c:Ci):Rat:=lU l c.x c.y/Hp l
def Ab (l:Ln) (c:Ci):Rat:=c.x-e9 l c*l.a
def Ac (l:Ln) (c:Ci):Rat:=c.y-e9 l c*l.b
def lcP (l:Ln) (c:Ci):P5:=zr (Ab l c) (-(l.b/Hp l)) (Ac l c) (-(-l.a/Hp l)) (V0 l c)
def lcQ (l:Ln) (c:Ci):P5:=zr (Ab l c) (l.b/Hp l) (Ac l c) (-l.a/Hp l) (V0 l c)
noncomputable def XX (l:Ln) (c:Ci):List P5:=
 if V0 l c<0 then []else if V0 l c=0 then [atV ⟨Ab l c,Ac l c⟩]else
 if 0<zW (lcP l c) (lcQ l c)then [lcQ l c,lcP l c]else [lcP l c,lcQ l c]
def yH (c d:Ci):Prop:=c.x=d.x/\c.y=d.y
instance (c d:Ci):Decidable (yH c d):=inferInstanceAs (Decidable (c.x=d.x/\c.y=d.y))
def Ad (c d:Ci):Ln:=⟨2*(d.x-c.x),2*(d.y-c.y),d.x*d.x+d.y*d.y-d.q-(c.x*c.x+c.y*c.y-c.q)⟩
noncomputable def Qm (c d:Ci):List P5:=if yH c d then []else XX (Ad c d) c
noncomputable def QW (c d:Cu):List P5:=
 if c.arc=true then(if d.arc=true then Qm c.ci d.ci else XX d.ln c.ci)
 else if d.arc=true then XX c.ln d.ci else Jv c.ln d.ln
def jG (c:Ci):P5:=zr c.x (-1) c.y 0 c.q
def xX (c:Ci):P5:=zr c.x 1 c.y 0 c.q
noncomputable def Z0 (c:Cu) (p:P5):Bool:=if c.arc=true then sg (civ c.ci p)==0 else sg (lnv c.ln p)==0
noncomputable def upB (c:Ci) (p:P5):Bool:=decide (0<sg (py p-ofR c.y))||(sg (py p-ofR c.y)==0&&decide (0<sg (px p-ofR c.x)))
noncomputable def qp (c:Ci) (p q:P5):Int:=
 if upB c p=upB c q then(if upB c p=true then-sg (px p-px q)else sg (px p-px q))else if upB c q=true then-1 else 1
noncomputable def vw (c:Ci) (f p q:P5):Int:=
 if decide (qp c p f<0)=decide (qp c q f<0)then qp c p q else if qp c q f<0 then-1 else 1
noncomputable def zZ (c:Cu) (p q:P5):Int:=
 if c.arc=true then(if c.cw=true then vw ⟨-c.ci.x,c.ci.y,c.ci.q⟩ (yz c.fr) (yz p) (yz q)else vw c.ci c.fr p q)
 else if 0<zW c.fr c.tt then-zW p q else zW p q
noncomputable def y5 (c:Cu) (p:P5):Bool:=Z0 c p&&(decide (zZ c c.fr p<=0)&&decide (zZ c p c.tt<=0))
def LV (c:Cu):Cu:={c with fr:=c.tt,tt:=c.fr,cw:=c.arc&&!c.cw}
noncomputable def QX (c:Cu):List P5->P5->List P5
 |[],p=>[p]
 |q::r,p=>if zZ c q p<0 then q::QX c r p else if wU q p=true then q::r else p::q::r
noncomputable def yI (c:Cu) (l:List P5):List P5:=l.foldl (QX c) []
def jx (c:Cu):List P5->List Cu
 |p::q::r=>{c with fr:=p,tt:=q}::jx c (q::r)
 |_=>[]
noncomputable def jy (c:Cu) (l:List P5):List Cu:=if l.all (y5 c)=true then jx c (yI c (c.fr::c.tt::l))else []
def jI (c d:Cu):Bool:=if c.arc=d.arc then(if c.arc=true then lT c.ci d.ci else iu c.ln d.ln)else false
noncomputable def eqC (c d:Cu):Bool:=jI c d&&(c.cw==d.cw&&(wU c.fr d.fr&&wU c.tt d.tt))
noncomputable def XY (c d:Cu):List P5:=if jI c d=true then [c.fr,c.tt,d.fr,d.tt]else QW c d
noncomputable def ja (c d:Cu):List P5:=yI c ((XY c d).filter λp=>y5 c p&&y5 d p)
def Z4:R4:=⟨false,[],false,[]⟩
def JR (a b:Vc):Ln:=⟨a.y-b.y,b.x-a.x,(a.y-b.y)*a.x+(b.x-a.x)*a.y⟩
def oD (a b:Vc):Option Cu:=if a.y-b.y=0/\b.x-a.x=0 then none else some ⟨false,JR a b,⟨0,0,0⟩,false,atV a,atV b,Z4⟩
def Ca (c:Ci):List Cu:=[⟨true,⟨0,0,0⟩,c,false,jG c,xX c,Z4⟩,⟨true,⟨0,0,0⟩,c,false,xX c,jG c,Z4⟩]
noncomputable def Vm (c:Cu):Bool:=(if c.arc=true then decide (0<c.ci.q)else !c.cw&&decide (¬(c.ln.a=0/\c.ln.b=0)))&&(Z0 c c.fr&&(Z0 c c.tt&&!wU c.fr c.tt))
noncomputable def Vn (c:Cu) (p:P5):Bool:=y5 c p&&(!wU c.fr p&&!wU c.tt p)
noncomputable def y6 (c:Cu):Bool:=!c.arc&&(sg (px c.fr-px c.tt)==0)
noncomputable def xC (c:Cu) (p:P5):Int×Rt:=
 if y6 c=true then(2,⟨0,0,0⟩)else if c.arc=false then(0,rtQ (-c.ln.a/c.ln.b))else
 if sg (py p-ofR c.ci.y)=0 then((if c.cw=true then 1 else-1),⟨0,0,0⟩)else
 (0,ZH (lS (BX (xP p) (-c.ci.x))) (ir (BX (yP p) (-c.ci.y))))
def y7 (c:Cu):Int:=if c.arc=false then 0 else if c.cw=true then-1 else 1
def eA (c d:Cu):Int:=if y7 c=y7 d then(if y7 c=0 then 0 else-y7 c*sr (c.ci.q-d.ci.q))else if y7 c<y7 d then-1 else 1
noncomputable def Yb (c d:Cu):Int:=
 if wU c.fr d.fr=false then 0 else
 if(xC c c.fr).1=(xC d d.fr).1 then
  (if(xC c c.fr).1=2 then 0 else if(xC c c.fr).1=0 then
   (if sg (rv (xC c c.fr).2-rv (xC d d.fr).2)=0 then eA c d else sg (rv (xC c c.fr).2-rv (xC d d.fr).2))
  else(xC c c.fr).1*sr (c.ci.q-d.ci.q))
 else if(xC c c.fr).1<(xC d d.fr).1 then-1 else 1
noncomputable def Ae (c d:Cu):Int:=if zW c.fr d.fr=0 then(if Yb c d=0 then zW c.tt d.tt else Yb c d)else zW c.fr d.fr
noncomputable def Hq:List Cu->Cu->List Cu
 |[],p=>[p]
 |q::r,p=>if Ae q p<=0 then q::Hq r p else p::q::r
noncomputable def qw (p:Cu):Cu:=if 0<zW p.fr p.tt then LV p else p
noncomputable def zg (c:Cu):List Cu:=
 ((if c.arc=true then jy c ((if Vn c (jG c.ci)=true then [jG c.ci]else [])++(if Vn c (xX c.ci)=true then [xX c.ci]else []))else [c]).map qw).foldl Hq []
noncomputable def lV (all:List Cu) (i:Nat) (c:Cu):List P5:=((be all.length).filter (· ≠i)).flatMap λk=>match all[k]? with
 |some d=>ja c d
 |none=>[]
noncomputable def XZ (l:List Cu):List Cu:=
 let all:=l.flatMap zg
 (be all.length).flatMap λi=>match all[i]? with
  |some c=>jy c (lV all i c)
  |none=>[]
def ws (f:Nat->Bool):Nat->Int
 |0=> -1
 |n+1=>if f n=true then(n:Int)else ws f n
noncomputable def ES (out:List Cu) (c:Cu) (j:Nat):Bool:=match out[j]? with
 |some d=>eqC d c
 |none=>false
noncomputable def wV (out:List Cu) (c:Cu):List Cu:=
 if ws (ES out c) out.length<0 then out++[c]else out.eraseIdx (ws (ES out c) out.length).toNat
noncomputable def aK (l:List Cu):List Cu:=l.foldl wV []
end Eng
end
section
namespace Eng
open Rl
noncomputable def Qx (c:Cu) (x:Rl):Bool:=decide (sg (px c.fr-x)<=0)&&decide (sg (x-px c.tt)<=0)
noncomputable def xD (c:Cu) (p:P5):Int×Bool:=
 if Qx c (px p)=false then(0,false)else
 if y6 c=true then(if 0<sg (py p-py c.tt)then(1,true)else if sg (py p-py c.fr)<0 then(-1,true)else(0,true))else
 if c.arc=false then(sg (lnv c.ln p)*sr c.ln.b,true)else
 if c.cw=true then(if sg (py p-ofR c.ci.y)<0 then(-1,true)else(sg (civ c.ci p),true))else
 if 0<sg (py p-ofR c.ci.y)then(1,true)else(-sg (civ c.ci p),true)
noncomputable def NU (l:List Cu) (p:P5):Nat->Nat
 |0=>0
 |j+1=>NU l p j+(match l[j]? with
  |some d=>(if wU d.fr p=true then 1 else 0)+(if wU d.tt p=true then 1 else 0)
  |none=>0)
noncomputable def wD (l:List Cu) (p:P5):Nat:=NU l p l.length
noncomputable def Sl (l:List Cu) (p:P5) (j:Nat):Bool:=match l[j]? with
 |some d=>wU d.fr p
 |none=>false
noncomputable def yv (l:List Cu) (p:P5):Int:=ws (Sl l p) l.length
noncomputable def PT (l:List Cu) (i:Nat):Option Nat:=match l[i]? with
 |none=>none
 |some c=>if wD l c.tt=2/\0<=yv l c.tt then
  (match l[(yv l c.tt).toNat]? with
   |some d=>if jI c d=true/\c.cw=d.cw then some (yv l c.tt).toNat else none
   |none=>none)
  else none
def wt (l:List Cu) (i k:Nat):Nat->List Cu
 |0=>[]
 |j+1=>wt l i k j++(if j≠i/\j≠k then l[j]?.toList else [])
noncomputable def Gw (l:List Cu) (i:Nat):Option (List Cu):=match PT l i with
 |none=>none
 |some k=>match l[i]?,l[k]? with
  |some c,some d=>some (wt l i k l.length++[{c with tt:=d.tt}])
  |_,_=>none
noncomputable def yJ (l:List Cu):Nat->Nat->Option (List Cu)
 |0,_=>none
 |n+1,i=>match Gw l i with
  |some m=>some m
  |none=>yJ l n (i+1)
noncomputable def QY:Nat->List Cu->List Cu
 |0,l=>l
 |n+1,l=>match yJ l l.length 0 with
  |none=>l
  |some m=>QY n m
noncomputable def wW (l:List Cu):List Cu:=QY l.length l
noncomputable def TR (c:Cu):List Cu->List Cu
 |[]=>[c]
 |q::r=>if Ae c q<0 then q::TR c r else c::q::r
noncomputable def U5 (l:List Cu):List Cu:=l.foldl (λv c=>TR c v) []
noncomputable def ZJ (l:List Cu):List Cu:=(U5 l).reverse
noncomputable def Cb (l:List Cu):Bool:=l.any λc=>decide (wD l c.fr%2=1)||decide (wD l c.tt%2=1)
noncomputable def Jw (l:List Cu):List Cu:=ZJ (wW (aK (XZ l)))
noncomputable def Qy (l:List Cu):List Cu×Int:=
 if 400<l.length then([],3)else if l.all Vm=false then([],1)else if Cb l=true then([],8)else
 if 400<(Jw l).length then([],3)else(Jw l,0)
noncomputable def onL (l:List Cu) (p:P5):Bool:=l.any λc=>y5 c p
noncomputable def jz (p:P5) (n:Int) (c:Cu):Int:=
 if y6 c=true\/0<sg (px c.fr-px p)\/0<=sg (px p-px c.tt)then n else if 0<(xD c p).1 then-n else n
noncomputable def j8 (l:List Cu) (p:P5):Int:=if onL l p=true then 0 else l.foldl (jz p) (-1)
end Eng
end
section
namespace Eng
open Rl
theorem Yc{a m:Nat}(h:LR a=some m):m*m=a:=by
 unfold LR at h;split at h
 .rename_i h1;simp only[dn]at h;subst h;exact h1
 .simp at h
theorem JS{c s:Rat}(h:sqQ c=some s):s*s=c/\0<=s:=by
 unfold sqQ at h;split at h
 .rename_i m n hm;simp only[dn]at h;subst h;unfold BQ at hm;split at hm
  .simp at hm
  rename_i h0;split at hm
  .rename_i a b ha hb;simp only[dn,Prod.mk.injEq]at hm;obtain⟨rfl,rfl⟩:=hm;have h1:=Yc ha;have h2:=Yc hb;have hd:c.den≠0:=c.den_nz;have hb0:b≠0:=λe=>by subst e;simp at h2;exact hd h2.symm
   have hq:(0:Rat)<(b:Rat):=Rat.natCast_pos.2 (by omega);have e1:(c.num:Rat)=(a:Rat)*(a:Rat):=by
    have:c.num=((a*a:Nat):Int):=by omega
    rw[this,fg,ft]
   have e2:((c.den:Int):Rat)=(b:Rat)*(b:Rat):=by rw[<-h2,fg,ft]
   have e3:c=(c.num:Rat)/((c.den:Int):Rat):=by rw[<-Rat.divInt_eq_div,dy]
   have hbn:(b:Rat)≠0:=by grind
   constructor
   .rw[e3,e1,e2];grind
   .rw[et];exact dA Rat.natCast_nonneg (ec (er.2 hq))
  .simp at hm
 .simp at h
theorem Af{c:Rat}(h:sqQ c=none)(s:Rat):s*s≠c:=by
 intro e;subst e;unfold sqQ at h;rw[FZ]at h;simp at h
def okT (r:Rt):Prop:=(r.b=0/\r.c=0)\/(r.b≠0/\0<r.c/\sqQ r.c=none)
theorem okT.nn{r:Rt}(h:okT r):0<=r.c:=by
 rcases h with h|h<;>grind
theorem Wk(a:Rat):okT (rtQ a):= .inl ⟨rfl,rfl⟩
theorem Gx{a b c:Rat}(h:c=0\/(0<c/\sqQ c=none)):okT (JQ a b c):=by
 unfold JQ;split
 .exact Wk a
 .rename_i h1;exact .inr ⟨λe=>h1 (.inl e),by rcases h with h|h<;>grind⟩
theorem Cc(a:Rat):rv (rtQ a)=ofR a:=by
 show ofR a+ofR 0*jw 0=ofR a;rw[xS,zml,ad0]
theorem Cd(a b c:Rat):rv (JQ a b c)=ofR a+ofR b*jw c:=by
 unfold JQ;split
 .rename_i h;rw[Cc];rcases h with h|h
  .rw[h,xS,zml,ad0]
  .rw[h,U1,ml0,ad0]
 .rfl
theorem Gy{c s:Rat}(h:sqQ c=some s):jw c=ofR s:=by
 obtain⟨h1,h2⟩:=JS h;rw[<-h1,PS h2]
theorem eB(a b c:Rat):rv (Gu a b c)=ofR a+ofR b*jw c:=by
 unfold Gu;split
 .rename_i s hs;rw[Cc,Gy hs,ze,qL]
 .exact Cd a b c
theorem Ah(a b:Rat){c:Rat}(h:0<=c):okT (Gu a b c):=by
 unfold Gu;split
 .exact Wk _
 .rename_i hs;refine Gx ?_;by_cases h1:c=0
  .exact .inl h1
  .exact .inr ⟨by grind,hs⟩
theorem okT.norm{r:Rt}(h:okT r)(h0:¬(r.a=0/\r.b=0)):wT r≠0:=by
 unfold wT;rcases h with⟨h1,h2⟩|⟨h1,h2,h3⟩
 .rw[h1,h2];grind
 .intro e;refine Af h3 (r.a/r.b) ?_;have:r.a*r.a=r.b*r.b*r.c:=by grind
  grind
theorem PU(r:Rt)(h:okT r):ofR (wT r)=rv r*(ofR r.a-ofR r.b*jw r.c):=by
 have e:∀s:Rl,s*s=ofR r.c->ofR (wT r)=(ofR r.a+ofR r.b*s)*(ofR r.a-ofR r.b*s):=by intro s hs;unfold wT;rw[wS,qL,qL,qL,<-hs];obtain⟨s,rfl⟩:=s.rep;exact xz λn=>by simp only[xZ,zK,ke,kf];grind
 exact e _ (wo h.nn)
theorem okT.zero{r:Rt}(h:okT r):rv r=0↔r.a=0/\r.b=0:=by
 constructor
 .intro e;by_cases h0:r.a=0/\r.b=0
  .exact h0
  .exfalso;have h1:=h.norm h0;have h2:=PU r h;rw[e,zml]at h2;exact h1 (yG.1 h2)
 .rintro⟨h1,h2⟩;unfold rv;rw[h1,h2,xS,zml,ad0]
theorem Wl{x:Rat}:sr x=0↔x=0:=by
 rcases kF x with⟨h,e⟩|⟨h,e⟩|⟨h,e⟩<;>rw[e]<;>grind
theorem kv{x:Rat}:sr x<0↔x<0:=by
 rcases kF x with⟨h,e⟩|⟨h,e⟩|⟨h,e⟩<;>rw[e]<;>grind
theorem Yd{x:Rat}:0<sr x↔0<x:=by
 rcases kF x with⟨h,e⟩|⟨h,e⟩|⟨h,e⟩<;>rw[e]<;>grind
theorem Xp(x:Rat):(sr x==0)=decide (x=0):=by
 rcases kF x with⟨h,e⟩|⟨h,e⟩|⟨h,e⟩<;>rw[e]<;>symm
 .exact decide_eq_false (by grind)
 .exact decide_eq_true h
 .exact decide_eq_false (by grind)
theorem pI{r:Rt}(h:okT r):sg (rv r)=(if sr r.a=sr r.b then sr r.a else if sr r.b=0 then sr r.a else if sr r.a=0 then sr r.b else if 0<sr (wT r)then sr r.a else sr r.b):=by
 unfold rv;rw[<-U4 r.a r.b h.nn];unfold tw;have e:sr r.b*sr r.c=sr r.b:=by
  rcases h with⟨h1,h2⟩|⟨_,h1,_⟩
  .rw[h1,h2];rfl
  .have:sr r.c=1:=by unfold sr;rw[if_pos h1]
   rw[this,V1]
 have hn:r.a*r.a-r.b*r.b*r.c=wT r:=rfl;rw[e,hn];by_cases h1:sr r.b=0
 .rw[if_pos (.inl h1)];by_cases h2:sr r.a=sr r.b
  .rw[if_pos h2]
  .rw[if_neg h2,if_pos h1]
 by_cases h2:sr r.a=sr r.b
 .rw[if_pos (.inr h2),if_pos h2]
 rw[if_neg (by simp[h1,h2]),if_neg h2,if_neg h1];split
 .rfl
 .rename_i h3;have hnz:wT r≠0:=h.norm λk=>h3 (Wl.2 k.1)
  rcases kF (wT r)with⟨h4,e4⟩|⟨h4,e4⟩|⟨h4,e4⟩<;>rw[e4]
  .simp
  .exact absurd h4 hnz
  .rcases kF r.a with⟨_,e5⟩|⟨_,e5⟩|⟨_,e5⟩<;>rcases kF r.b with⟨_,e6⟩|⟨_,e6⟩|⟨_,e6⟩<;>simp[e5,e6]at h1 h2 h3 ⊢
theorem Wm(x:Rat): -1<=sr x/\sr x<=1:=by rcases kF x with⟨_,e⟩|⟨_,e⟩|⟨_,e⟩<;>omega
theorem Ce(x:Rl): -1<=sg x/\sg x<=1:=by rcases zf x with⟨_,e⟩|⟨_,e⟩|⟨_,e⟩<;>omega
theorem okP.nn{p:P5}(h:okP p):0<=p.c:=by
 rcases h with⟨_,_,h⟩|⟨_,h,_⟩<;>grind
theorem U6(a b:Rat){p:P5}(h:okP p)(hb:b=p.u\/b=p.v):okT (wq a b p.c):=by
 unfold wq;split
 .exact Wk a
 .rename_i h0;rcases h with⟨h1,h2,_⟩|⟨_,h1,h2⟩
  .exfalso;rcases hb with rfl|rfl<;>contradiction
  .exact .inr ⟨h0,h1,h2⟩
theorem NV(a b c:Rat):rv (wq a b c)=ofR a+ofR b*jw c:=by
 unfold wq;split
 .rename_i h;rw[Cc,h,xS,zml,ad0]
 .rfl
theorem QD{p:P5}(h:okP p):okT (xP p):=U6 _ _ h (.inl rfl)
theorem Za{p:P5}(h:okP p):okT (yP p):=U6 _ _ h (.inr rfl)
theorem Zb(p:P5):rv (xP p)=px p:=NV _ _ _
theorem Wn(p:P5):rv (yP p)=py p:=NV _ _ _
theorem NW(v:Vc):okP (atV v):= .inl ⟨rfl,rfl,rfl⟩
theorem Ai(v:Vc):px (atV v)=ofR v.x:=by
 show ofR v.x+ofR 0*jw 0=_;rw[xS,zml,ad0]
theorem Aj(v:Vc):py (atV v)=ofR v.y:=by
 show ofR v.y+ofR 0*jw 0=_;rw[xS,zml,ad0]
theorem eC{p:P5}(h:okP p):okP (yz p):=by
 rcases h with⟨h1,h2,h3⟩|⟨h1,h2,h3⟩
 .exact .inl ⟨by show-p.u=0;grind,h2,h3⟩
 .exact .inr ⟨λk=>h1 ⟨by have: -p.u=0:=k.1;grind,k.2⟩,h2,h3⟩
theorem Wo(p:P5):px (yz p)= -px p:=by
 have e:∀s:Rl,ofR (-p.x)+ofR (-p.u)*s= -(ofR p.x+ofR p.u*s):=by intro s;rw[wl,wl];obtain⟨s,rfl⟩:=s.rep;exact xz λn=>by simp only[xZ,zK,ke,kf];grind
 exact e _
theorem aM(p:P5):py (yz p)=py p:=rfl
end Eng
end
section
open Go Go.Proofs Eng
namespace Eng
section
variable (Gv:Nat->List A->List A->Prop)(I0:List D->List D->Prop)(M0:List D->Nat)(I1:List D->List D->Prop)(M1:List D->Nat)(I2:List D->List D->Prop)(M2:List D->Nat)(I3:List D->List D->Prop)(M3:List D->Nat)(Q:List A->Prop)
theorem U7(J4:List D->List D->Prop)(J18:List D->List D->Prop)(J20:List D->List D->Prop)(J23:List D->List D->Prop)(es fs:List (List D)):wpF CC Gv (V7 (V7 (V7 (V7 (lz ⟨[.own 12 173 1,.slot 11 (.slice none 0 0),.slot 14 (.int .i64 0)],[],I0,M0⟩ ⟨[.slot 16 (.int .u64 0),.slot 17 (.slice none 0 0)],[.slot 11 (.slice none 0 0),.slot 14 (.int .i64 0),.own 12 173 1],I1,M1⟩ ⟨[.own 19 174 1,.slot 18 (.int .u64 0),.slot 20 (.int .i64 0)],[.slot 11 (.slice none 0 0)],I2,M2⟩) 4 ⟨[],[],J4,λ_=>0⟩) 18 ⟨[.slot 15 (.int .u64 0)],[.slot 11 (.slice none 0 0)],J18,λ_=>0⟩) 20 ⟨[.slot 15 (.int .u64 0)],[.slot 11 (.slice none 0 0)],J20,λ_=>0⟩) 23 ⟨[.slot 16 (.int .u64 0)],[.slot 11 (.slice none 0 0)],J23,λ_=>0⟩) Tryz.f116 [.c (.sl es),.c (.sl fs)] Q=(bB (decide ((J9 es.length)<=2)) (bB (decide ((J9 fs.length)<=2)) (∃i,Gv 117 [aL es] [Dd (F2 .u64 i)]/\∃i_1,Gv 117 [aL fs] [Dd (F2 .u64 i_1)]/\i_1≠0/\∃es,Gv 102 [Dd (F2 .u64 (J7 .u64 (No i i_1)))] [aL es]/\i_1≠0/\∃e1,Gv 102 [Dd (F2 .u64 (Pl i i_1))] [aL e1]/\Q [aL es,aL e1]) (J4 [] [])) (J4 [] [])/\(J4 [] []->(0<=J7 .i64 ((J9 fs.length)-1)/\J7 .i64 ((J9 fs.length)-1)<(J9 fs.length)/\W2 (nth [] fs (Lm (J7 .i64 ((J9 fs.length)-1))))=1)/\∃i,cut (nth [] fs (Lm (J7 .i64 ((J9 fs.length)-1)))) 0 1 [F2 .u32 i]/\J7 .u64 (J7 .u64 i+1)≠0/\∃e1,Gv 176 [aL fs,Dd (F2 .u32 (J7 .u32 (J7 .u64 (No (1000000000:Int) (J7 .u64 (J7 .u64 i+1))))))] [aL e1]/\(0<=J7 .i64 ((J9 e1.length)-1)/\J7 .i64 ((J9 e1.length)-1)<(J9 e1.length)/\W2 (nth [] e1 (Lm (J7 .i64 ((J9 e1.length)-1))))=1)/\∃i_1,cut (nth [] e1 (Lm (J7 .i64 ((J9 e1.length)-1)))) 0 1 [F2 .u32 i_1]/\(0<=J7 .i64 ((J9 es.length)+1)/\J7 .i64 ((J9 es.length)+1)<=J7 .i64 ((J9 es.length)+1)/\room (Lm (J7 .i64 ((J9 es.length)+1))))/\∃e2,Gv 176 [aL es,Dd (F2 .u32 (J7 .u32 (J7 .u64 (No (1000000000:Int) (J7 .u64 (J7 .u64 i+1))))))] [aL e2]/\(0<=(J9 e2.length)/\(J9 e2.length)<=(J9 (W2 (W1 (Lm (J7 .i64 ((J9 es.length)+1))) [F2 .u32 0]))))/\I0 [] [Hu (bb (Lm (J9 e2.length)) (W1 (Lm (J7 .i64 ((J9 es.length)+1))) [F2 .u32 0])),Hu [],dI (J7 .i64 ((J9 e2.length)-1))]/\∀(es e3:List (List D)) (i_2:Int),I0 [] [Hu es,Hu e3,dI i_2]->bB (decide (i_2>=0)) ((0<=i_2/\i_2<(J9 e2.length)/\W2 (nth [] e2 (Lm i_2))=1)/\∃i,cut (nth [] e2 (Lm i_2)) 0 1 [F2 .u32 i]/\(room (1+e3.length)/\lens 1 e3)/\∃e4,Gv 115 [aL ([F2 .u32 i]::e3)] [aL e4]/\bB (decide ((J9 e4.length)>(J9 e1.length))) ((0<=(J9 e1.length)/\(J9 e1.length)<(J9 e4.length)/\W2 (nth [] e4 (Lm (J9 e1.length)))=1)/\∃i,cut (nth [] e4 (Lm (J9 e1.length))) 0 1 [F2 .u32 i]/\J18 [Hu e4] [F2 .u64 (J7 .u64 (J7 .u64 i*1000000000))]) (J18 [Hu e4] [F2 .u64 0])/\∀(i:Int),J18 [Hu e4] [F2 .u64 i]->bB (decide ((J9 e4.length)>=(J9 e1.length))) ((0<=J7 .i64 ((J9 e1.length)-1)/\J7 .i64 ((J9 e1.length)-1)<(J9 e4.length)/\W2 (nth [] e4 (Lm (J7 .i64 ((J9 e1.length)-1))))=1)/\∃i_3,cut (nth [] e4 (Lm (J7 .i64 ((J9 e1.length)-1)))) 0 1 [F2 .u32 i_3]/\J20 [Hu e4] [F2 .u64 (J7 .u64 (i+J7 .u64 i_3))]) (J20 [Hu e4] [F2 .u64 i])/\∀(i:Int),J20 [Hu e4] [F2 .u64 i]->J7 .u64 i_1≠0/\bB (decide (J7 .u64 (No i (J7 .u64 i_1))>999999999)) (J23 [Hu e4] [F2 .u64 999999999]) (J23 [Hu e4] [F2 .u64 (J7 .u64 (No i (J7 .u64 i_1)))])/\∀(i:Int),J23 [Hu e4] [F2 .u64 i]->∃e5,Gv 176 [aL e1,Dd (F2 .u32 (J7 .u32 i))] [aL e5]/\I1 [Hu e4,dI i_2,Hu es] [F2 .u64 i,Hu e5]/\∀(i:Int) (e6:List (List D)),I1 [Hu e4,dI i_2,Hu es] [F2 .u64 i,Hu e6]->∃i_3,Gv 62 [aL e6,aL e4] [aI i_3]/\bB (decide (i_3>0)) (∃e7,Gv 63 [aL e6,aL e1] [aL e7]/\I1 [Hu e4,dI i_2,Hu es] [F2 .u64 (J7 .u64 (i-1)),Hu e7]/\M1 [F2 .u64 (J7 .u64 (i-1)),Hu e7]<M1 [F2 .u64 i,Hu e6]) (∃e7,Gv 63 [aL e4,aL e6] [aL e7]/\(0<=i_2/\i_2<(J9 es.length))/\0<1/\I0 [] [Hu (upd es (Lm i_2) (upd (nth [] es (Lm i_2)) 0 (F2 .u32 (J7 .u32 i)))),Hu e7,dI (J7 .i64 (i_2-1))]/\M0 [Hu (upd es (Lm i_2) (upd (nth [] es (Lm i_2)) 0 (F2 .u32 (J7 .u32 i)))),Hu e7,dI (J7 .i64 (i_2-1))]<M0 [Hu es,Hu e3,dI i_2])) ((0<=(J9 e3.length)/\(J9 e3.length)<=(J9 e3.length)/\room (Lm (J9 e3.length)))/\I2 [Hu e3] [Hu (W1 (Lm (J9 e3.length)) [F2 .u32 0]),F2 .u64 0,dI (J7 .i64 ((J9 e3.length)-1))]/\∀(e4:List (List D)) (i_3 i_4:Int),I2 [Hu e3] [Hu e4,F2 .u64 i_3,dI i_4]->bB (decide (i_4>=0)) ((0<=i_4/\i_4<(J9 e3.length)/\W2 (nth [] e3 (Lm i_4))=1)/\∃i_5,cut (nth [] e3 (Lm i_4)) 0 1 [F2 .u32 i_5]/\J7 .u64 (J7 .u32 (J7 .u64 (No (1000000000:Int) (J7 .u64 (J7 .u64 i+1)))))≠0/\(0<=i_4/\i_4<(J9 e4.length))/\0<1/\J7 .u64 (J7 .u32 (J7 .u64 (No (1000000000:Int) (J7 .u64 (J7 .u64 i+1)))))≠0/\I2 [Hu e3] [Hu (upd e4 (Lm i_4) (upd (nth [] e4 (Lm i_4)) 0 (F2 .u32 (J7 .u32 (J7 .u64 (No (J7 .u64 (J7 .u64 (i_3*1000000000)+J7 .u64 i_5)) (J7 .u64 (J7 .u32 (J7 .u64 (No (1000000000:Int) (J7 .u64 (J7 .u64 i+1)))))))))))),F2 .u64 (Pl (J7 .u64 (J7 .u64 (i_3*1000000000)+J7 .u64 i_5)) (J7 .u64 (J7 .u32 (J7 .u64 (No (1000000000:Int) (J7 .u64 (J7 .u64 i+1))))))),dI (J7 .i64 (i_4-1))]/\M2 [Hu (upd e4 (Lm i_4) (upd (nth [] e4 (Lm i_4)) 0 (F2 .u32 (J7 .u32 (J7 .u64 (No (J7 .u64 (J7 .u64 (i_3*1000000000)+J7 .u64 i_5)) (J7 .u64 (J7 .u32 (J7 .u64 (No (1000000000:Int) (J7 .u64 (J7 .u64 i+1)))))))))))),F2 .u64 (Pl (J7 .u64 (J7 .u64 (i_3*1000000000)+J7 .u64 i_5)) (J7 .u64 (J7 .u32 (J7 .u64 (No (1000000000:Int) (J7 .u64 (J7 .u64 i+1))))))),dI (J7 .i64 (i_4-1))]<M2 [Hu e4,F2 .u64 i_3,dI i_4]) (∃e5,Gv 115 [aL es] [aL e5]/\∃es,Gv 115 [aL e4] [aL es]/\Q [aL e5,aL es])))):=by kernel_rfl
end
end Eng
end
