import Derived.Test.YtmfkgpfkpnmdnaaGreatDoorPaA
import Derived.KernelRfl
open Bool renaming and_eq_true->Aw, true_and->Bx, false_eq_true->Dd, false_and->F0
open Decidable renaming byContradiction->Hu
open Eng.A renaming c->Hv
open Eng.D renaming int->Hx, sl->Hy, bool->J3
open Eng.D.int renaming injEq->No
open Eng.D.sl renaming injEq->Pl
open Eng.Limbs renaming cons->Sz, nil->Tk
open Go.IntKind renaming wrap->Ts
open Int renaming ofNat->bF, toNat->cF, toNat_natCast->cH, tdiv->cL, ofNat_eq_natCast->ea, tmod->eb, tdiv_eq_ediv_of_nonneg->ec, mul_pos->ed, natAbs_natCast->eg, natCast_mul->ei, tmod_eq_emod_of_nonneg->el, natAbs_neg->en, natAbs_mul->ep
open List renaming length->et, replicate->eu, take->ey, drop->ez, length_take->eH, take_of_length_le->eL, drop_eq_getElem_cons->fe, take_length->fg, length_drop->fk, length_append->ft, drop_eq_nil_of_le->fx, take_append_drop->fy, eq_nil_of_length_eq_zero->fz, drop_zero->fR, append_assoc->fS, length_cons->ga, drop_length->gb, take_append_of_le_length->gd, drop_append_of_le_length->gm, getElem?_eq_getElem->gn, eq_of_mem_replicate->gp, getD->gq, mem_of_mem_tail->gr, length_tail->gu, nil_append->gx, append_nil->gy, take_take->gz, tail_cons->g6, map_cons->g7, map_nil->hf
open List.cons renaming injEq->h7
open Nat renaming mul_le_mul_right->h8, mul_comm->h9, mul_le_mul_left->hC, pow_succ->hE, mul_add->hG, mul_assoc->hH, div_lt_iff_lt_mul->hK, mod_eq_of_lt->hM, lt_of_lt_of_le->hO, add_mul->hQ, eq_zero_or_pos->hS, lt_of_not_le->hT, eq_of_beq_eq_true->hX, min_eq_left->ia, div_add_mod->ib, mod_lt->ie, pow_le_pow_right->im, one_mul->it, mul_lt_mul_of_pos_right->iz, mul_le_mul->j2, lt_of_le_of_lt->j4, le_refl->kh, le_of_lt_succ->ks, mul_lt_mul''->ky, le_mul_of_pos_right->k0, div_eq_of_lt->k1, div_div_eq_div_mul->k2, add_zero->k3, div_mul_le_self->k4, blt_eq->k5, mul_zero->k6, lt_or_ge->k7, blt->k8, beq->kH, le_div_iff_mul_le->kO, pow_add->lg, mul_one->lh, le_sub_one_of_lt->ll, mul_left_comm->lm, gcd->ln, mul_add_mod->ls, mul_add_div->l0, sub_self->l4, pow_zero->l8, le_trans->ml
open Option.some renaming injEq->mm
open Prod renaming fst->ms, snd->mu
open Rat renaming num_divInt_den->mv, divInt->mx, divInt_add_divInt->m0, divInt_mul_divInt->m1, neg_num->m2, sub_eq_add_neg->m3, num_intCast->na, den_intCast->nb
set_option maxRecDepth 1000000
section
namespace Eng
open Go Go.Proofs
variable [Env]
def QN:Nat:=((1000000000^100)^100)^4
def Sq (z:Int):Prop:=z.natAbs<QN
def Sr (r:Rat):Prop:=Sq r.num/\Sq (r.den:Int)
omit [Env] in
theorem Gn:QN*QN*2<=Kk:=by decide
omit [Env] in
theorem Sq.sm {z:Int} (h:Sq z):Sm z:=by
 have h0:QN<=Kk:=by decide
 exact hO h h0
omit [Env] in
theorem Sq.mul {x y:Int} (hx:Sq x) (hy:Sq y):Sm (x*y):=by
 unfold Sm;rw[ep];have:=ky hx hy;have:=Gn;omega
omit [Env] in
theorem Sq.mul_add {a b c d:Int} (ha:Sq a) (hb:Sq b) (hc:Sq c) (hd:Sq d):Sm (a*b+c*d):=by
 unfold Sm;have h1:=ky ha hb;have h2:=ky hc hd;rw[<-ep]at h1 h2;have:=Gn;omega
omit [Env] in
theorem Sq.add {a b:Int} (ha:Sq a) (hb:Sq b):Sm (a+b):=by
 unfold Sm;have h0:QN*2<=Kk:=by decide
 have h1:a.natAbs<QN:=ha;have h2:b.natAbs<QN:=hb;omega
omit [Env] in
theorem den_pos (r:Rat):0<(r.den:Int):=by have:=r.den_pos;omega
omit [Env] in
theorem qF (r:Rat):xv r= .ag [.bool (decide (r.num<0)),.sl (raw (lim r.num.natAbs)),.bool (decide ((r.den:Int)<0)),.sl (raw (lim (r.den:Int).natAbs))]:=rfl
omit [Env] in
theorem qX (z:Int):qL z= .ag [.bool (decide (z<0)),.sl (raw (lim z.natAbs))]:=rfl
def q4 (r:Rat):R4:=⟨decide (r.num<0),raw (lim r.num.natAbs),decide ((r.den:Int)<0),raw (lim (r.den:Int).natAbs)⟩
theorem vu (r:Rat):Gives CC 78 [xv r] [.c (.int .i64 (sgn r.num))]:=by
 refine qm (anns:=an0) mixedT Tryz.func78 ?_;rw[qF,OQ];exact⟨_,up (QY r.num),rfl⟩
theorem Gp (n:Int):Gives CC 143 [.c (.int .i64 n)] [.c (.bool false)]:=by
 refine qm (anns:=an0) mixedT Tryz.func143 ?_;rw[OT];simp
theorem Kn (m n:Int):Gives CC 77 [.c (.int .i64 m),.c (.int .i64 n)] [.c (.int .i64 (kd m n))]:=by
 refine qm (anns:=an0) mixedT Tryz.func77 ?_;rw[Km];refine⟨_,Gp m,_,Gp n,?_⟩;refine Qd (λh=>by simp at h) (λ_=>?_);refine Qd (λh=>by simp at h) (λ_=>?_);unfold kd;refine brd (λh=>?_) (λh=>?_)
 .rw[if_pos h]
 .rw[if_neg h];refine brd (λh=>?_) (λh=>?_)
  .rw[if_pos h]
  .rw[if_neg h]
def BG (x y:Rat):Int:=if x<y then-1 else if y<x then 1 else 0
omit [Env] in
theorem Zk (x y:Rat):BG x y=kd (x.num*y.den) (y.num*x.den):=by
 unfold BG kd;simp only[Rat.lt_iff]
theorem Lt {x y:Rat} (hx:Sr x) (hy:Sr y):Gives CC 34 [xv x,xv y] [.c (.int .i64 (BG x y))]:=by
 refine qm (anns:=an0) mixedT Tryz.func34 ?_;have h1:=vu x;have h2:=vu y;rw[qF]at h1 h2;rw[qF,qF,BB];refine⟨_,h1,_,h2,_,Kn _ _,?_⟩;have hm1:=up (jd hx.1.sm hy.2.sm);have hm2:=up (jd hy.1.sm hx.2.sm);have hc:=up (jK (hx.1.mul hy.2) (hy.1.mul hx.2));have px:=den_pos x;have py:=den_pos y;refine brb (λh=>?_) (λh=>?_)
 .have e:kd (sgn x.num) (sgn y.num)=BG x y:=by
   rw[Zk];have hs:∀(z d:Int),0<d->sgn (z*d)=sgn z:=by
    intro z d a0;unfold sgn;rcases Int.lt_trichotomy z 0 with h|h|h
    .have:=Int.mul_neg_of_neg_of_pos h a0;rw[if_pos h,if_pos this]
    .subst h;simp
    .have:=ed h a0;rw[if_neg (show ¬z<0 by omega),if_pos h,if_neg (show ¬z*d<0 by omega),if_pos this]
   rw[<-hs x.num _ py,<-hs y.num _ px]at h ⊢;generalize x.num*(y.den:Int)=a at *;generalize y.num*(x.den:Int)=b at *;unfold kd sgn at *;simp only[bne_iff_ne,ne_eq]at h;split at h<;>split at h<;>(try split at h)<;>(try split at h)<;>split<;>(try split)<;>omega
  rw[e]
 .rw[Zk];exact⟨_,_,hm1,_,_,hm2,_,hc,rfl⟩
theorem Ko {x:Rat} (hx:Sr x):Gives CC 76 [xv x] [xv (-x)]:=by
 refine qm (anns:=an0) mixedT Tryz.func76 ?_;rw[qF,BE];refine⟨_,_,up (Qq hx.1.sm),?_⟩;rw[qF,m2];have:(-x).den=x.den:=rfl;rw[this]
theorem Ya (hd:Vb) {x y:Rat} (hx:Sr x) (hy:Sr y):Gives CC 157 [xv x,xv y] [xv (x*y)]:=by
 refine qm (anns:=an0) mixedT Tryz.func157 ?_;rw[qF,qF,BF];have px:=den_pos x;have py:=den_pos y;have:=ed px py;refine⟨_,_,up (jd hx.1.sm hy.1.sm),_,_,up (jd hx.2.sm hy.2.sm),q4 _,kv hd (hx.1.mul hy.1) (hx.2.mul hy.2) (by omega),?_⟩;have e:x*y=mx (x.num*y.num) (x.den*y.den):=by rw[<-m1,mv,mv]
 rw[e];rfl
theorem Kp (hd:Vb) {x y:Rat} (hx:Sr x) (hy:Sr y):Gives CC 75 [xv x,xv y] [xv (x+y)]:=by
 refine qm (anns:=an0) mixedT Tryz.func75 ?_;rw[qF,qF,BC];have px:=den_pos x;have py:=den_pos y;have hp:=ed px py;have e0:x+y=mx (x.num*y.den+y.num*x.den) (x.den*y.den):=by rw[<-m0 _ _ (by omega) (by omega),mv,mv]
 refine⟨_,up (jK hx.2.sm hy.2.sm),?_⟩;refine brb (λh=>?_) (λh=>?_)
 .have hxy:(x.den:Int)=y.den:=by
   unfold kd at h;split at h
   .simp at h
   .split at h
    .simp at h
    .omega
  have e1:x+y=mx (x.num+y.num) x.den:=by rw[e0,<-hxy,<-Int.add_mul,Rat.divInt_mul_right (by omega)]
  refine⟨_,_,up (Qr hx.1.sm hy.1.sm),q4 _,kv hd (hx.1.add hy.1) hx.2.sm (by omega),?_⟩;rw[e1];rfl
 .refine⟨_,_,up (jd hx.1.sm hy.2.sm),_,_,up (jd hy.1.sm hx.2.sm),_,_,up (Qr (hx.1.mul hy.2) (hy.1.mul hx.2)),_,_,up (jd hx.2.sm hy.2.sm),q4 _,kv hd (hx.1.mul_add hy.2 hy.1 hx.2) (hx.2.mul hy.2) (by omega),?_⟩;rw[e0];rfl
omit [Env] in
theorem Sr.neg {x:Rat} (h:Sr x):Sr (-x):=by
 refine⟨?_,h.2⟩;rw[m2];unfold Sq;rw[en];exact h.1
theorem Yb (hd:Vb) {x y:Rat} (hx:Sr x) (hy:Sr y):Gives CC 33 [xv x,xv y] [xv (x-y)]:=by
 refine qm (anns:=an0) mixedT Tryz.func33 ?_;rw[qF,qF,BD];refine⟨q4 _,Ko hy,q4 _,Kp hd hx hy.neg,?_⟩;rw[m3];rfl
theorem kZ {n:Int} (h1: -9223372036854775808<=n) (h2:n<9223372036854775808):Gives CC 72 [.c (.int .i64 n)] [xv (n:Rat)]:=by
 have hw:Gives CC 131 [qL n] [xv (n:Rat)]:=by refine qm (anns:=an0) mixedT Tryz.func131 ?_;rw[qX,OO];refine⟨_,_,QZ,?_⟩;rw[qF,na,nb];rfl
 refine qm (anns:=an0) mixedT Tryz.func72 ?_;rw[Kl];exact⟨_,_,up (xq h1 h2),q4 _,hw,rfl⟩
end Eng
end
section
open Go Go.Proofs Eng
namespace Eng
def Zl (I0:List D->List D->Prop) (M0:List D->Nat) (es e2 e3 e4:List (List D)) (n1 g:Int):Prop:=((0<=n1/\n1<=Ts .i64 (Ts .i64 (n1+(bF es.length))+1)/\Ts .i64 (Ts .i64 (n1+(bF es.length))+1)<=(bF e3.length))/\((e2≠[]/\yd e2=true/\e2.length<=1073741824)/\0<(cF (Ts .i64 (Ts .i64 (n1+(bF es.length))+1))-cF n1)/\cF n1+(cF (Ts .i64 (Ts .i64 (n1+(bF es.length))+1))-cF n1)<=e3.length/\yd (ey (cF (Ts .i64 (Ts .i64 (n1+(bF es.length))+1))-cF n1) (ez (cF n1) e3))=true)/\br (toB (J3 (decide (0<mu (mu (ke g (xi (ey (cF (Ts .i64 (Ts .i64 (n1+(bF es.length))+1))-cF n1) (ez (cF n1) e3))) (xi e2) (0:Int) (0:Int))))||decide (0<ms (mu (ke g (xi (ey (cF (Ts .i64 (Ts .i64 (n1+(bF es.length))+1))-cF n1) (ez (cF n1) e3))) (xi e2) (0:Int) (0:Int))))))) ((0<=n1/\n1<=Ts .i64 (Ts .i64 (n1+(bF es.length))+1)/\Ts .i64 (Ts .i64 (n1+(bF es.length))+1)<=(bF (et (ey (cF n1) e3++xA (ms (ke g (xi (ey (cF (Ts .i64 (Ts .i64 (n1+(bF es.length))+1))-cF n1) (ez (cF n1) e3))) (xi e2) (0:Int) (0:Int)))++ez (cF n1+(cF (Ts .i64 (Ts .i64 (n1+(bF es.length))+1))-cF n1)) e3))))/\((e2≠[]/\yd e2=true/\e2.length<=1073741824)/\0<(cF (Ts .i64 (Ts .i64 (n1+(bF es.length))+1))-cF n1)/\cF n1+(cF (Ts .i64 (Ts .i64 (n1+(bF es.length))+1))-cF n1)<=et (ey (cF n1) e3++xA (ms (ke g (xi (ey (cF (Ts .i64 (Ts .i64 (n1+(bF es.length))+1))-cF n1) (ez (cF n1) e3))) (xi e2) (0:Int) (0:Int)))++ez (cF n1+(cF (Ts .i64 (Ts .i64 (n1+(bF es.length))+1))-cF n1)) e3)/\yd (ey (cF (Ts .i64 (Ts .i64 (n1+(bF es.length))+1))-cF n1) (ez (cF n1) (ey (cF n1) e3++xA (ms (ke g (xi (ey (cF (Ts .i64 (Ts .i64 (n1+(bF es.length))+1))-cF n1) (ez (cF n1) e3))) (xi e2) (0:Int) (0:Int)))++ez (cF n1+(cF (Ts .i64 (Ts .i64 (n1+(bF es.length))+1))-cF n1)) e3)))=true)/\(0<=n1/\n1<(bF e4.length))/\0<1/\I0 [] [Hy (ey (cF n1) (ey (cF n1) e3++xA (ms (ke g (xi (ey (cF (Ts .i64 (Ts .i64 (n1+(bF es.length))+1))-cF n1) (ez (cF n1) e3))) (xi e2) (0:Int) (0:Int)))++ez (cF n1+(cF (Ts .i64 (Ts .i64 (n1+(bF es.length))+1))-cF n1)) e3)++xA (Z9 (xi (ey (cF (Ts .i64 (Ts .i64 (n1+(bF es.length))+1))-cF n1) (ez (cF n1) (ey (cF n1) e3++xA (ms (ke g (xi (ey (cF (Ts .i64 (Ts .i64 (n1+(bF es.length))+1))-cF n1) (ez (cF n1) e3))) (xi e2) (0:Int) (0:Int)))++ez (cF n1+(cF (Ts .i64 (Ts .i64 (n1+(bF es.length))+1))-cF n1)) e3)))) (xi e2) (0:Int))++ez (cF n1+(cF (Ts .i64 (Ts .i64 (n1+(bF es.length))+1))-cF n1)) (ey (cF n1) e3++xA (ms (ke g (xi (ey (cF (Ts .i64 (Ts .i64 (n1+(bF es.length))+1))-cF n1) (ez (cF n1) e3))) (xi e2) (0:Int) (0:Int)))++ez (cF n1+(cF (Ts .i64 (Ts .i64 (n1+(bF es.length))+1))-cF n1)) e3)),Hy (upd e4 (cF n1) (upd (nth [] e4 (cF n1)) 0 (Hx .u32 (Ts .u32 (Ts .u64 (g-1)))))),Hx .i64 (Ts .i64 (n1-1))]/\M0 [Hy (ey (cF n1) (ey (cF n1) e3++xA (ms (ke g (xi (ey (cF (Ts .i64 (Ts .i64 (n1+(bF es.length))+1))-cF n1) (ez (cF n1) e3))) (xi e2) (0:Int) (0:Int)))++ez (cF n1+(cF (Ts .i64 (Ts .i64 (n1+(bF es.length))+1))-cF n1)) e3)++xA (Z9 (xi (ey (cF (Ts .i64 (Ts .i64 (n1+(bF es.length))+1))-cF n1) (ez (cF n1) (ey (cF n1) e3++xA (ms (ke g (xi (ey (cF (Ts .i64 (Ts .i64 (n1+(bF es.length))+1))-cF n1) (ez (cF n1) e3))) (xi e2) (0:Int) (0:Int)))++ez (cF n1+(cF (Ts .i64 (Ts .i64 (n1+(bF es.length))+1))-cF n1)) e3)))) (xi e2) (0:Int))++ez (cF n1+(cF (Ts .i64 (Ts .i64 (n1+(bF es.length))+1))-cF n1)) (ey (cF n1) e3++xA (ms (ke g (xi (ey (cF (Ts .i64 (Ts .i64 (n1+(bF es.length))+1))-cF n1) (ez (cF n1) e3))) (xi e2) (0:Int) (0:Int)))++ez (cF n1+(cF (Ts .i64 (Ts .i64 (n1+(bF es.length))+1))-cF n1)) e3)),Hy (upd e4 (cF n1) (upd (nth [] e4 (cF n1)) 0 (Hx .u32 (Ts .u32 (Ts .u64 (g-1)))))),Hx .i64 (Ts .i64 (n1-1))]<M0 [Hy e3,Hy e4,Hx .i64 n1]) ((0<=n1/\n1<(bF e4.length))/\0<1/\I0 [] [Hy (ey (cF n1) e3++xA (ms (ke g (xi (ey (cF (Ts .i64 (Ts .i64 (n1+(bF es.length))+1))-cF n1) (ez (cF n1) e3))) (xi e2) (0:Int) (0:Int)))++ez (cF n1+(cF (Ts .i64 (Ts .i64 (n1+(bF es.length))+1))-cF n1)) e3),Hy (upd e4 (cF n1) (upd (nth [] e4 (cF n1)) 0 (Hx .u32 (Ts .u32 g)))),Hx .i64 (Ts .i64 (n1-1))]/\M0 [Hy (ey (cF n1) e3++xA (ms (ke g (xi (ey (cF (Ts .i64 (Ts .i64 (n1+(bF es.length))+1))-cF n1) (ez (cF n1) e3))) (xi e2) (0:Int) (0:Int)))++ez (cF n1+(cF (Ts .i64 (Ts .i64 (n1+(bF es.length))+1))-cF n1)) e3),Hy (upd e4 (cF n1) (upd (nth [] e4 (cF n1)) 0 (Hx .u32 (Ts .u32 g)))),Hx .i64 (Ts .i64 (n1-1))]<M0 [Hy e3,Hy e4,Hx .i64 n1]))
section
variable (Gv:Nat->List A->List A->Prop) (I0:List D->List D->Prop) (M0:List D->Nat) (I1:List D->List D->Prop) (M1:List D->Nat) (I2:List D->List D->Prop) (M2:List D->Nat) (I3:List D->List D->Prop) (M3:List D->Nat) (Q:List A->Prop)
theorem Zm (chk:List A->Bool) (mk:List A->List (List D)) (es fs:List (List D)):wpF (CM chk mk) Gv (YR ⟨[.own 8 180 1,.own 10 181 1,.slot 11 (.int .i64 0)],[],I0,M0⟩ ⟨[.slot 13 (.int .u64 0),.slot 14 (.int .u64 0)],[.slot 12 (.int .u64 0),.slot 11 (.int .i64 0),.own 8 180 1],I1,M1⟩) Tryz.f268 [.c (.sl es),.c (.sl fs)] Q=(∃e1,Gv 214 [Hv (Hy es)] [Hv (Hy e1)]/\∃es,Gv 214 [Hv (Hy fs)] [Hv (Hy es)]/\br (toB (J3 ((bF es.length)==1))) (((0:Int)<=(0:Int)/\0<(bF es.length)/\et (nth [] es 0)=1)/\∃n,cut (nth [] es 0) 0 1 [Hx .u32 n]/\∃es e2,Gv 335 [Hv (Hy e1),Hv (Hx .u32 n)] [Hv (Hy es),Hv (Hy e2)]/\Q [Hv (Hy es),Hv (Hy e2)]) (∃n,Gv 145 [Hv (Hy e1),Hv (Hy es)] [Hv (Hx .i64 n)]/\br (toB (J3 (decide (n<0)))) ((room e1.length/\lens 1 e1)/\Q [Hv (Hy []),Hv (Hy e1)]) ((0<=Ts .i64 ((bF es.length)-1)/\Ts .i64 ((bF es.length)-1)<(bF es.length)/\et (nth [] es (cF (Ts .i64 ((bF es.length)-1))))=1)/\∃n,cut (nth [] es (cF (Ts .i64 ((bF es.length)-1)))) 0 1 [Hx .u32 n]/\Ts .u64 (Ts .u64 n+1)≠0/\chk [Hv (Hy e1),Hv (Hy [[Hx .u32 (Ts .u32 (Ts .u64 (cL (1000000000:Int) (Ts .u64 (Ts .u64 n+1)))))]])]=true/\(room (et (mk [Hv (Hy e1),Hv (Hy [[Hx .u32 (Ts .u32 (Ts .u64 (cL (1000000000:Int) (Ts .u64 (Ts .u64 n+1)))))]])])+1)/\lens 1 [[Hx .u32 0]])/\chk [Hv (Hy es),Hv (Hy [[Hx .u32 (Ts .u32 (Ts .u64 (cL (1000000000:Int) (Ts .u64 (Ts .u64 n+1)))))]])]=true/\∃e2,Gv 214 [Hv (Hy (mk [Hv (Hy es),Hv (Hy [[Hx .u32 (Ts .u32 (Ts .u64 (cL (1000000000:Int) (Ts .u64 (Ts .u64 n+1)))))]])]))] [Hv (Hy e2)]/\(0<=Ts .i64 ((bF (et (mk [Hv (Hy e1),Hv (Hy [[Hx .u32 (Ts .u32 (Ts .u64 (cL (1000000000:Int) (Ts .u64 (Ts .u64 n+1)))))]])]++[[Hx .u32 0]])))-(bF es.length))/\Ts .i64 ((bF (et (mk [Hv (Hy e1),Hv (Hy [[Hx .u32 (Ts .u32 (Ts .u64 (cL (1000000000:Int) (Ts .u64 (Ts .u64 n+1)))))]])]++[[Hx .u32 0]])))-(bF es.length))<=Ts .i64 ((bF (et (mk [Hv (Hy e1),Hv (Hy [[Hx .u32 (Ts .u32 (Ts .u64 (cL (1000000000:Int) (Ts .u64 (Ts .u64 n+1)))))]])]++[[Hx .u32 0]])))-(bF es.length))/\room (cF (Ts .i64 ((bF (et (mk [Hv (Hy e1),Hv (Hy [[Hx .u32 (Ts .u32 (Ts .u64 (cL (1000000000:Int) (Ts .u64 (Ts .u64 n+1)))))]])]++[[Hx .u32 0]])))-(bF es.length)))))/\I0 [] [Hy (mk [Hv (Hy e1),Hv (Hy [[Hx .u32 (Ts .u32 (Ts .u64 (cL (1000000000:Int) (Ts .u64 (Ts .u64 n+1)))))]])]++[[Hx .u32 0]]),Hy (eu (cF (Ts .i64 ((bF (et (mk [Hv (Hy e1),Hv (Hy [[Hx .u32 (Ts .u32 (Ts .u64 (cL (1000000000:Int) (Ts .u64 (Ts .u64 n+1)))))]])]++[[Hx .u32 0]])))-(bF es.length)))) [Hx .u32 0]),Hx .i64 (Ts .i64 (Ts .i64 ((bF (et (mk [Hv (Hy e1),Hv (Hy [[Hx .u32 (Ts .u32 (Ts .u64 (cL (1000000000:Int) (Ts .u64 (Ts .u64 n+1)))))]])]++[[Hx .u32 0]])))-(bF es.length))-1))]/\∀(e3 e4:List (List D)) (n1:Int),I0 [] [Hy e3,Hy e4,Hx .i64 n1]->br (toB (J3 (decide (n1>=0)))) ((0<=Ts .i64 (n1+(bF es.length))/\Ts .i64 (n1+(bF es.length))<(bF e3.length))/\∃n,cut (nth [] e3 (cF (Ts .i64 (n1+(bF es.length))))) 0 1 [Hx .u32 n]/\(0<=Ts .i64 (Ts .i64 (n1+(bF es.length))-1)/\Ts .i64 (Ts .i64 (n1+(bF es.length))-1)<(bF e3.length))/\∃n2,cut (nth [] e3 (cF (Ts .i64 (Ts .i64 (n1+(bF es.length))-1)))) 0 1 [Hx .u32 n2]/\(0<=Ts .i64 ((bF es.length)-1)/\Ts .i64 ((bF es.length)-1)<(bF e2.length)/\et (nth [] e2 (cF (Ts .i64 ((bF es.length)-1))))=1)/\∃n3,cut (nth [] e2 (cF (Ts .i64 ((bF es.length)-1)))) 0 1 [Hx .u32 n3]/\Ts .u64 n3≠0/\(0<=Ts .i64 ((bF es.length)-1)/\Ts .i64 ((bF es.length)-1)<(bF e2.length)/\et (nth [] e2 (cF (Ts .i64 ((bF es.length)-1))))=1)/\∃n4,cut (nth [] e2 (cF (Ts .i64 ((bF es.length)-1)))) 0 1 [Hx .u32 n4]/\Ts .u64 n4≠0/\I1 [Hx .u64 (Ts .u64 (Ts .u64 (Ts .u64 n*1000000000)+Ts .u64 n2)),Hx .i64 n1,Hy e3] [Hx .u64 (Ts .u64 (cL (Ts .u64 (Ts .u64 (Ts .u64 n*1000000000)+Ts .u64 n2)) (Ts .u64 n3))),Hx .u64 (eb (Ts .u64 (Ts .u64 (Ts .u64 n*1000000000)+Ts .u64 n2)) (Ts .u64 n4))]/\∀(n5 n6:Int),I1 [Hx .u64 (Ts .u64 (Ts .u64 (Ts .u64 n*1000000000)+Ts .u64 n2)),Hx .i64 n1,Hy e3] [Hx .u64 n5,Hx .u64 n6]->br (toB (J3 (decide (n5>=1000000000)))) ((0<=Ts .i64 ((bF es.length)-1)/\Ts .i64 ((bF es.length)-1)<(bF e2.length)/\et (nth [] e2 (cF (Ts .i64 ((bF es.length)-1))))=1)/\∃n7,cut (nth [] e2 (cF (Ts .i64 ((bF es.length)-1)))) 0 1 [Hx .u32 n7]/\br (toB (J3 (decide (Ts .u64 (n6+Ts .u64 n7)>=1000000000)))) (Zl I0 M0 es e2 e3 e4 n1 (Ts .u64 (n5-1))) (I1 [Hx .u64 (Ts .u64 (Ts .u64 (Ts .u64 n*1000000000)+Ts .u64 n2)),Hx .i64 n1,Hy e3] [Hx .u64 (Ts .u64 (n5-1)),Hx .u64 (Ts .u64 (n6+Ts .u64 n7))]/\M1 [Hx .u64 (Ts .u64 (n5-1)),Hx .u64 (Ts .u64 (n6+Ts .u64 n7))]<M1 [Hx .u64 n5,Hx .u64 n6])) ((0<=Ts .i64 ((bF es.length)-2)/\Ts .i64 ((bF es.length)-2)<(bF e2.length)/\et (nth [] e2 (cF (Ts .i64 ((bF es.length)-2))))=1)/\∃n7,cut (nth [] e2 (cF (Ts .i64 ((bF es.length)-2)))) 0 1 [Hx .u32 n7]/\(0<=Ts .i64 (Ts .i64 (n1+(bF es.length))-2)/\Ts .i64 (Ts .i64 (n1+(bF es.length))-2)<(bF e3.length))/\∃n8,cut (nth [] e3 (cF (Ts .i64 (Ts .i64 (n1+(bF es.length))-2)))) 0 1 [Hx .u32 n8]/\br (toB (J3 (decide (Ts .u64 (n5*Ts .u64 n7)>Ts .u64 (Ts .u64 (n6*1000000000)+Ts .u64 n8))))) ((0<=Ts .i64 ((bF es.length)-1)/\Ts .i64 ((bF es.length)-1)<(bF e2.length)/\et (nth [] e2 (cF (Ts .i64 ((bF es.length)-1))))=1)/\∃n9,cut (nth [] e2 (cF (Ts .i64 ((bF es.length)-1)))) 0 1 [Hx .u32 n9]/\br (toB (J3 (decide (Ts .u64 (n6+Ts .u64 n9)>=1000000000)))) (Zl I0 M0 es e2 e3 e4 n1 (Ts .u64 (n5-1))) (I1 [Hx .u64 (Ts .u64 (Ts .u64 (Ts .u64 n*1000000000)+Ts .u64 n2)),Hx .i64 n1,Hy e3] [Hx .u64 (Ts .u64 (n5-1)),Hx .u64 (Ts .u64 (n6+Ts .u64 n9))]/\M1 [Hx .u64 (Ts .u64 (n5-1)),Hx .u64 (Ts .u64 (n6+Ts .u64 n9))]<M1 [Hx .u64 n5,Hx .u64 n6])) (Zl I0 M0 es e2 e3 e4 n1 n5))) (((0:Int)<=(0:Int)/\0<=(bF es.length)/\(bF es.length)<=(bF e3.length)/\lens 1 e3)/\∃e5,Gv 214 [Hv (Hy (ez 0 (ey (cF (bF es.length)) e3)))] [Hv (Hy e5)]/\∃es e6,Gv 335 [Hv (Hy e5),Hv (Hx .u32 (Ts .u32 (Ts .u64 (cL (1000000000:Int) (Ts .u64 (Ts .u64 n+1))))))] [Hv (Hy es),Hv (Hy e6)]/\Q [Hv (Hy e4),Hv (Hy es)])))):=by kernel_rfl
end
end Eng
end
section
namespace Eng
open Go
def wl (l:List Nat):List Int:=l.map λ(x:Nat)=>(x:Int)
theorem zp (x:Nat) (l:List Nat):wl (x::l)=(x:Int)::wl l:=rfl
theorem RP (t:Nat):eb (t:Int) 1000000000=((t%1000000000:Nat):Int):=by rw[el (by omega)];omega
theorem RQ (t:Nat):cL (t:Int) 1000000000=((t/1000000000:Nat):Int):=by rw[ec (by omega)];omega
theorem OU {by_ c:Nat} (hby:by_<=1000000000) (hc:c<=1000000000) {vs:List Nat} (hv:Limbs vs):∃t:Nat,aJ (by_:Int) (c:Int) (wl vs)=(t:Int)/\t<=1000000000000000000/\t+by_*(1000000000*val vs.tail)=c+by_*val vs:=by
 cases vs with
 |nil=>exact⟨c,rfl,by omega,by simp[val]⟩
 |cons y vs=>
  obtain⟨h1,h2⟩:=hv.of_cons;have hp:y*by_<=999999999*1000000000:=j2 (by omega) hby;obtain⟨p,a0⟩:∃p,p=y*by_:=⟨_,rfl⟩;rw[<-a0]at hp;have hpi:(y:Int)*(by_:Int)=(p:Int):=by rw[a0];exact(ei _ _).symm
  refine⟨c+p,?_,by omega,?_⟩
  .simp only[aJ,zp];rw[xH (n:=(y:Int)),hpi,xH (n:=(p:Int)),xH];omega
  .simp only[g6,val,hG];rw[a0,h9 y by_];omega
theorem Kq {by_:Nat} (hby:by_<=1000000000):∀{us vs:List Nat} {c b:Nat},Limbs us->Limbs vs->vs.length<=us.length->c<=1000000000->b<=1->
 ∃(r:List Nat) (c' b':Nat),ke (by_:Int) (wl us) (wl vs) (c:Int) (b:Int)=(wl r,(c':Int),(b':Int))/\Limbs r/\r.length=us.length/\c'<=1000000000/\b'<=1/\val us+1000000000^us.length*(c'+b')=val r+by_*val vs+c+b
 |[],vs,c,b,_,_,hl,hc,hb=>by have:vs=[]:=fz (by simpa using hl);subst this;exact⟨[],c,b,rfl,Tk,rfl,hc,hb,by simp[val]⟩
 |x::us,vs,c,b,hu,hv,hl,hc,hb=>by
  obtain⟨hx,hu⟩:=hu.of_cons;obtain⟨t,ht,htb,hte⟩:=OU hby hc hv;have hvt:Limbs vs.tail:=λy hy=>hv y (gr hy)
  have hlt:vs.tail.length<=us.length:=by rw[gu];simp at hl;omega
  have a0:(wl vs).tail=wl vs.tail:=by cases vs<;>rfl
  have hdm:=ib t 1000000000;have hml:=ie t (show 0<1000000000 by omega);obtain⟨q,hq⟩:∃q,q=t/1000000000:=⟨_,rfl⟩;obtain⟨m,hm⟩:∃m,m=t%1000000000:=⟨_,rfl⟩;have a1:by_*(1000000000*val vs.tail)=1000000000*(by_*val vs.tail):=by rw[lm]
  by_cases hlt2:x<m+b
  .obtain⟨r,c',b',h1,h2,h3,h4,h5,h6⟩:=Kq hby (us:=us) (vs:=vs.tail) (c:=q) (b:=1) hu hvt hlt (by omega) (by omega);refine⟨(x+1000000000-(m+b))::r,c',b',?_,Sz (by omega) h2,by simp[h3],h4,h5,?_⟩
   .rw[zp,zp];simp only[ke];rw[ht,RP,RQ,<-hq,<-hm,xH (n:=(x:Int)),xH (n:=(m:Int)+(b:Int)),xH (n:=(q:Int))];rw[decide_eq_true (show(x:Int)<(m:Int)+(b:Int)by omega)];simp only;rw[a0];have a2:ke (by_:Int) (wl us) (wl vs.tail) (q:Int) 1=(wl r,(c':Int),(b':Int)):=h1;rw[a2,xH (n:=(x:Int)+1000000000),xH,j0];congr 2;omega
   .simp only[ga,val];rw[hE,h9 (1000000000^us.length) 1000000000,hH];rw[a1]at hte;omega
  .obtain⟨r,c',b',h1,h2,h3,h4,h5,h6⟩:=Kq hby (us:=us) (vs:=vs.tail) (c:=q) (b:=0) hu hvt hlt (by omega) (by omega);refine⟨(x-(m+b))::r,c',b',?_,Sz (by omega) h2,by simp[h3],h4,h5,?_⟩
   .rw[zp,zp];simp only[ke];rw[ht,RP,RQ,<-hq,<-hm,xH (n:=(x:Int)),xH (n:=(m:Int)+(b:Int)),xH (n:=(q:Int))];rw[decide_eq_false (show ¬(x:Int)<(m:Int)+(b:Int)by omega)];simp only;rw[a0];have a2:ke (by_:Int) (wl us) (wl vs.tail) (q:Int) 0=(wl r,(c':Int),(b':Int)):=h1;rw[a2,xH,j0];congr 2;omega
   .simp only[ga,val];rw[hE,h9 (1000000000^us.length) 1000000000,hH];rw[a1]at hte;omega
theorem Kr:∀{us vs:List Nat} {c:Nat},Limbs us->Limbs vs->vs.length<=us.length->c<=1->
 ∃(r:List Nat) (c':Nat),Z9 (wl us) (wl vs) (c:Int)=wl r/\Limbs r/\r.length=us.length/\c'<=1/\val us+val vs+c=val r+1000000000^us.length*c'
 |[],vs,c,_,_,hl,hc=>by have:vs=[]:=fz (by simpa using hl);subst this;exact⟨[],c,rfl,Tk,rfl,hc,by simp[val]⟩
 |x::us,vs,c,hu,hv,hl,hc=>by
  obtain⟨hx,hu⟩:=hu.of_cons;have hvt:Limbs vs.tail:=λy hy=>hv y (gr hy)
  have hlt:vs.tail.length<=us.length:=by rw[gu];simp at hl;omega
  have a0:(wl vs).tail=wl vs.tail:=by cases vs<;>rfl
  obtain⟨t,ht,htb,hte⟩:∃t:Nat,Br (x:Int) (c:Int) (wl vs)=(t:Int)/\t<=1999999999/\t+1000000000*val vs.tail=x+c+val vs:=by
   cases vs with
   |nil=>refine⟨x+c,?_,by omega,by simp[val]⟩;simp only[Br,wl,hf];rw[j0];omega
   |cons y vs=>obtain⟨h1,h2⟩:=hv.of_cons;refine⟨x+c+y,?_,by omega,by simp only[g6,val];omega⟩;simp only[Br,zp];rw[j0 (n:=(x:Int)+(c:Int)),j0];omega
  by_cases h:1000000000<=t
  .obtain⟨r,c',h1,h2,h3,h4,h5⟩:=Kr (us:=us) (vs:=vs.tail) (c:=1) hu hvt hlt (by omega);refine⟨(t-1000000000)::r,c',?_,Sz (by omega) h2,by simp[h3],h4,?_⟩
   .rw[zp,zp];simp only[Z9];rw[ht,decide_eq_true (show(1000000000:Int)<=(t:Int)by omega)];simp only;rw[a0];have a1:Z9 (wl us) (wl vs.tail) 1=wl r:=h1;rw[a1,j0];congr 1;omega
   .simp only[ga,val];rw[hE,h9 (1000000000^us.length) 1000000000,hH];omega
  .obtain⟨r,c',h1,h2,h3,h4,h5⟩:=Kr (us:=us) (vs:=vs.tail) (c:=0) hu hvt hlt (by omega);refine⟨t::r,c',?_,Sz (by omega) h2,by simp[h3],h4,?_⟩
   .rw[zp,zp];simp only[Z9];rw[ht,decide_eq_false (show ¬(1000000000:Int)<=(t:Int)by omega)];simp only;rw[a0];have a1:Z9 (wl us) (wl vs.tail) 0=wl r:=h1;rw[a1]
   .simp only[ga,val];rw[hE,h9 (1000000000^us.length) 1000000000,hH];omega
end Eng
end
section
namespace Eng
open Go
theorem OV {P V1 vl V U3 ul U g:Nat} (hV:V=V1*P+vl) (hU:U=U3*P+ul) (hvl:vl<P) (hg:g*V1<=U3) (hgB:g<=1000000000) (hBV:1000000000*P<=V):g*V<=U+V:=by
 have h1:g*V1*P<=U3*P:=h8 P hg;have h2:g*vl<=1000000000*P:=j2 hgB (by omega);have h3:g*V=g*V1*P+g*vl:=by rw[hV,hG,hH]
 omega
theorem OW {P V1 vl V U3 ul U g:Nat} (hV:V=V1*P+vl) (hU:U=U3*P+ul) (hul:ul<P) (hg:U3<g*V1):U<g*V:=by
 have h1:(U3+1)*P<=g*V1*P:=h8 P hg;have h3:g*V=g*V1*P+g*vl:=by rw[hV,hG,hH]
 rw[hQ,it]at h1;omega
theorem Lw {U V g qd L r s:Nat} (hq1:qd*V<=U) (hgq:qd<=g) (_hUL:U<L) (_hrL:r<L) (he:U+L*s=r+g*V) (hs:s=0) (hlt:U<(qd+1)*V):g=qd/\r=U-qd*V:=by
 subst hs;have h1:¬qd+1<=g:=λh=>by have:=h8 V h;omega
 have:g=qd:=by omega
 subst this;omega
theorem Lx {U V g qd L r s r' c:Nat} (hq1:qd*V<=U) (hg:g*V<=U+V) (_hUL:U<L) (hrL:r<L) (hVL:V<=L) (he:U+L*s=r+g*V) (hs:s≠0) (hr':r'<L) (hc:c<=1) (he2:r+V=r'+L*c) (hlt:U<(qd+1)*V) (hgq:qd<=g):g=qd+1/\r'=U-qd*V:=by
 have hL:L<=L*s:=k0 L (by omega);have h1:qd+1<=g:=by apply hT;intro h;have:=h8 V h;omega
 have h2:g<=qd+1:=by
  apply ks;apply hT;intro h;have h3:(qd+2)*V<=g*V:=h8 V h;have h4:(qd+2)*V=(qd+1)*V+V:=by rw[show qd+2=(qd+1)+1 from rfl,hQ,it]
  omega
 have:g=qd+1:=by omega
 subst this;refine⟨rfl,?_⟩;have h5:(qd+1)*V=qd*V+V:=by rw[hQ,it]
 have hs1:s=1:=by
  have:s<2:=by apply hT;intro h;have:=hC L h;omega
  omega
 subst hs1;have hc1:c=1:=by
  rcases k7 c 1 with h|h
  .have:c=0:=by omega
   subst this;omega
  .omega
 subst hc1;omega
theorem Jw {b s:Nat} (hb:0<b) (hb2:b<1000000000) (hs:s=1000000000/(b+1)):500000000<=b*s/\1<=s/\s*(b+1)<=1000000000:=by
 have h1:=k4 1000000000 (b+1);have h2:=Nat.lt_div_mul_add (a:=1000000000) (b:=b+1) (by omega);rw[<-hs]at h1 h2;have h3:1<=s:=by
  apply hT;intro h;have:s=0:=by omega
  subst this;omega
 obtain⟨b',rfl⟩:∃b',b=b'+1:=⟨b-1,by omega⟩;obtain⟨s',rfl⟩:∃s',s=s'+1:=⟨s-1,by omega⟩;have h4:(b'+1)*(s'+1)=b'*s'+b'+s'+1:=by rw[hQ,hG];omega
 have h5:(s'+1)*(b'+1+1)=b'*s'+b'+s'+1+(s'+1):=by rw[hG,h9 (s'+1) (b'+1),h4];omega
 omega
end Eng
end
section
namespace Eng
open Go
theorem mlt {a b c:Nat} (h:a<b) (hc:0<c):a*c<b*c:=iz h hc
theorem val2 {v:List Nat} {p:Nat}:val (v.take (p+2))=(v.getD (p+1) 0*1000000000+v.getD p 0)*1000000000^p+val (v.take p):=by
 rw[qK v (p+1),qK v p,hE]
 grind
theorem val3 {u:List Nat} {p:Nat}:val (u.take (p+3))=((u.getD (p+2) 0*1000000000+u.getD (p+1) 0)*1000000000+u.getD p 0)*1000000000^p+val (u.take p):=by
 rw[qK u (p+2),qK u (p+1),qK u p,hE,hE]
 grind
theorem HL {o:List Nat} (h:Limbs o) {j d:Nat} (hd:d<1000000000):Limbs (o.set j d):=λy hy=>by
 rcases List.mem_or_eq_of_mem_set hy with hy|rfl
 .exact h y hy
 .exact hd
structure DInv (n m V U0 kk:Nat) (ul ql:List Nat):Prop where
 hk:kk<=m
 lu:ul.length=n+m
 lq:ql.length=m
 Lu:Limbs ul
 Lq:Limbs ql
 hlt:val ul<V*1000000000^kk
 heq:U0=val (ql.drop kk)*(V*1000000000^kk)+val ul
theorem Ly {V' V X B W lo md h qv:Nat} (hW:W=V'*B) (hV:V<V') (hlo:lo<X) (hlt:lo+X*(md+W*h)<V*(X*B)) (hV0:0<V):
 h=0/\md<V*B/\lo+X*(md%V)<V*X/\qv*(V*(X*B))+(lo+X*(md+W*h))=(md/V+B*qv)*(V*X)+(lo+X*(md%V)):=by
 have h0:h=0:=by
  rcases hS h with h0|h0
  .exact h0
  .exfalso;have h1:W<=W*h:=k0 W h0;have h2:X*W<=X*(md+W*h):=hC X (by omega);have h3:V*(X*B)=X*(V*B):=by grind
   have h4:X*(V*B)<=X*W:=hC X (by rw[hW];exact h8 B (by omega));omega
 subst h0;rw[k6,k3]at hlt ⊢;have h3:V*(X*B)=X*(V*B):=by grind
 have hm:md<V*B:=by apply hT;intro hle;have:=hC X hle;omega
 have a0:=ie md hV0;have hdm:=ib md V;refine⟨rfl,hm,?_,?_⟩
 .have:X*(md%V+1)<=X*V:=hC X a0;rw[hG,lh]at this;rw[h9 V X];omega
 .have e1:(md/V+B*qv)*(V*X)=X*(V*(md/V))+qv*(V*(X*B)):=by grind
  have e2:X*md=X*(V*(md/V))+X*(md%V):=by rw[<-hG,hdm]
  omega
theorem DInv.mid {n m V U0 k:Nat} {ul ql:List Nat} (h:DInv n m V U0 (k+1) ul ql) (hV:V<1000000000^n) (hV0:0<V):
 val ((ul.drop k).take (n+1))<V*1000000000/\∀r:List Nat,Limbs r->r.length=n+1->val r=val ((ul.drop k).take (n+1))%V->
  DInv n m V U0 k (ul.take k++r++ul.drop (k+(n+1))) (ql.set k (val ((ul.drop k).take (n+1))/V)):=by
 have hk:=h.hk;have lu:=h.lu;have lq:=h.lq;have e0:ul=ul.take k++((ul.drop k).take (n+1)++ul.drop (k+(n+1))):=by rw[<-List.drop_drop,fy,fy]
 have l1:(ul.take k).length=k:=by rw[eH];omega
 have l2:((ul.drop k).take (n+1)).length=n+1:=by rw[eH,fk];omega
 have hv:val ul=val (ul.take k)+1000000000^k*(val ((ul.drop k).take (n+1))+1000000000^(n+1)*val (ul.drop (k+(n+1)))):=by
  conv=>lhs;rw[e0]
  rw[qR,qR,l1,l2]
 have a6:=qS (h.Lu.take k);rw[l1]at a6;have a5:=h.hlt;have a0:=h.heq;rw[hv]at a5 a0;have hp:1000000000^(k+1)=1000000000^k*1000000000:=hE ..;rw[hp]at a5 a0;obtain⟨a1,a2,a3,a4⟩:=Ly (V':=1000000000^n) (W:=1000000000^(n+1)) (B:=1000000000) (qv:=val (ql.drop (k+1))) (hE ..) hV a6 a5 hV0;have hq:val ((ul.drop k).take (n+1))/V<1000000000:=by rw[hK hV0,h9];exact a2
 refine⟨a2,λr Lr lr vr=>⟨by omega,?_,by rw[List.length_set];exact lq,?_,HL h.Lq hq,?_,?_⟩⟩
 .rw[ft,ft,l1,lr,fk];omega
 .exact((h.Lu.take k).append Lr).append (h.Lu.drop _)
 .rw[qR,qR,l1,a1,vr,k6,k3];exact a3
 .have e5:(ql.set k (val ((ul.drop k).take (n+1))/V)).drop k=(val ((ul.drop k).take (n+1))/V)::ql.drop (k+1):=by rw[List.drop_set,if_neg (Nat.lt_irrefl k),l4,fe (show k<ql.length by omega),List.set_cons_zero]
  rw[e5,qR,qR,l1,a1,vr,k6,k3,a0,a4];rfl
theorem Yc {V P v1 t3 t2 md r0:Nat} (hV:V<(v1+1)*P) (hV2:v1*P<=V) (hv:500000000<=v1) (hmd:md=(t3*1000000000+t2)*P+r0) (hr0:r0<P) (ht2:t2<1000000000) (hlt:md<V*1000000000) (_hV0:0<V):
 md/V<=(t3*1000000000+t2)/v1/\(t3*1000000000+t2)/v1<=1000000001/\t3<=v1:=by
 have hP:0<P:=by omega
 have ht3:t3<v1+1:=by
  apply hT;intro h;have h1:(v1+1)*1000000000*P<=t3*1000000000*P:=h8 P (h8 _ h);have h2:t3*1000000000*P<=(t3*1000000000+t2)*P:=h8 P (by omega);have h3:(v1+1)*1000000000*P=(v1+1)*P*1000000000:=by grind
  have h4:V*1000000000<(v1+1)*P*1000000000:=mlt hV (Nat.zero_lt_of_ne_zero (by decide));omega
 refine⟨?_,?_,by omega⟩
 .rw[kO (by omega)];have h1:md/V*V<=md:=k4 md V;have h2:md/V*(v1*P)<=md/V*V:=hC _ hV2;have h3:md/V*(v1*P)=md/V*v1*P:=(hH ..).symm;apply ks;apply hT;intro h;have h4:((t3*1000000000+t2)+1)*P<=md/V*v1*P:=h8 P h;rw[hQ,it]at h4;omega
 .apply ks;rw[hK (by omega)];omega
theorem BH {g v1 r t0 v2 B:Nat} (h:r*B+t0<g*v2):(g*v1+r)*B+t0<g*(v1*B+v2):=by
 rw[hG,<-hH,hQ];omega
theorem BI {g v1 r t0 v2 B:Nat} (h:g*v2<=r*B+t0):g*(v1*B+v2)<=(g*v1+r)*B+t0:=by
 rw[hG,<-hH,hQ];omega
theorem FI {g v1 r t0 v2:Nat} (h:r*1000000000+t0<g*v2):(g*v1+r)*1000000000+t0<g*(v1*1000000000+v2):=BH h
theorem FJ {g v1 r t0 v2:Nat} (h:g*v2<=r*1000000000+t0):g*(v1*1000000000+v2)<=(g*v1+r)*1000000000+t0:=BI h
theorem HM {P v1 v2 vl V t0 ul U g r top:Nat} (hV:V=(v1*1000000000+v2)*P+vl) (hU:U=(top*1000000000+t0)*P+ul) (hul:ul<P) (htop:top=g*v1+r) (h:r*1000000000+t0<g*v2) (hV0:0<V):U/V<g:=by
 rw[hK hV0];refine OW (V1:=v1*1000000000+v2) (U3:=top*1000000000+t0) hV hU hul ?_;rw[htop];exact FI h
theorem HN {P v1 v2 vl V t0 ul U g r top:Nat} (hV:V=(v1*1000000000+v2)*P+vl) (hU:U=(top*1000000000+t0)*P+ul) (hvl:vl<P) (htop:top=g*v1+r) (h:g*v2<=r*1000000000+t0) (hg:g<=1000000000) (hv1:1<=v1):g*V<=U+V:=by
 refine OV (V1:=v1*1000000000+v2) (U3:=top*1000000000+t0) hV hU hvl ?_ hg ?_
 .rw[htop];exact FJ h
 .rw[hV];have:1000000000*P<=(v1*1000000000+v2)*P:=h8 P (by omega);exact ml this (Nat.le_add_right _ _)
theorem Lz {us vs:List Nat} {V g:Nat} (hu:Limbs us) (hv:Limbs vs) (hl:vs.length<=us.length) (hV:val vs=V) (hV0:0<V) (hVu:V<=1000000000^us.length) (hq:val us/V<=g) (hg:g<=1000000000) (hgV:g*V<=val us+V):
 ∃(r:List Nat) (c b:Nat),ke (g:Int) (wl us) (wl vs) 0 0=(wl r,(c:Int),(b:Int))/\Limbs r/\r.length=us.length/\
  ((c=0/\b=0/\g=val us/V/\val r=val us%V)\/((c≠0\/b≠0)/\g=val us/V+1/\∃r2:List Nat,Z9 (wl r) (wl vs) 0=wl r2/\Limbs r2/\r2.length=us.length/\val r2=val us%V)):=by
 obtain⟨r,c,b,h1,h2,h3,h4,h5,h6⟩:=Kq (by_:=g) hg (us:=us) (vs:=vs) (c:=0) (b:=0) hu hv hl (by omega) (by omega);have hr:=qS h2;have a3:=qS hu;rw[h3]at hr;have hd:=ib (val us) V;have hm:=ie (val us) hV0;have a0:val us<(val us/V+1)*V:=by rw[hQ,it,h9];omega
 have a1:val us/V*V<=val us:=k4 _ _;have he:val us-val us/V*V=val us%V:=by rw[h9];omega
 refine⟨r,c,b,h1,h2,h3,?_⟩;rw[hV]at h6;by_cases hs:c+b=0
 .obtain⟨e1,e2⟩:=Lw (V:=V) (g:=g) (s:=c+b) a1 hq a3 hr (by omega) hs a0;exact .inl ⟨by omega,by omega,e1,by rw[e2,he]⟩
 .obtain⟨r2,c2,g1,g2,g3,g4,g5⟩:=Kr (us:=r) (vs:=vs) (c:=0) h2 hv (by omega) (by omega);have a2:=qS g2;rw[g3,h3]at a2;rw[h3,hV]at g5;obtain⟨e1,e2⟩:=Lx (V:=V) (g:=g) (s:=c+b) (r':=val r2) (c:=c2) a1 hgV a3 hr hVu (by omega) hs a2 g4 (by omega) a0 hq;exact .inr ⟨by omega,e1,r2,g1,g2,by omega,by rw[e2,he]⟩
end Eng
end
section
namespace Eng
open Go Go.Proofs
variable [Env]
omit [Env] in
theorem Zn (l:List Nat):xi (raw l)=wl l:=by simp[xi,raw,wl,cO]
omit [Env] in
theorem Zo (l:List Nat):xA (wl l)=raw l:=by simp[xA,raw,wl]
omit [Env] in
theorem wR:∀(l:List Nat),yd (raw l)=true
 |[]=>rfl
 |x::l=>by have:=wR l;simp only[raw,g7,yd]at this ⊢;rw[this];rfl
omit [Env] in
theorem RR {l:List Nat} (h:l≠[]):raw l≠[]:=by
 intro e;apply h;exact List.map_eq_nil_iff.1 e
def I0v (n m V U0:Nat):List D->List D->Prop:=λ_ ds=>∃(kk:Nat) (ul ql:List Nat),ds=[.sl (raw ul),.sl (raw ql),.int .i64 ((kk:Int)-1)]/\DInv n m V U0 kk ul ql
def M0v:List D->Nat:=λds=>(toI (nth .undef ds 2)+1).toNat
def aS (es:List (List D)) (k n:Nat):Nat:=valD ((es.drop k).take (n+1))
def I1v (n v1 V:Nat):List D->List D->Prop:=λgs ds=>∃(top k:Nat) (es:List (List D)) (g r:Nat),gs=[.int .u64 (top:Int),.int .i64 (k:Int),.sl es]/\ds=[.int .u64 (g:Int),.int .u64 (r:Int)]/\top=g*v1+r/\aS es k n/V<=g/\g<=1000000001/\r<1000000000
def M1v:List D->Nat:=λds=>(toI (nth .undef ds 0)).toNat
omit [Env] in
theorem OX (ul:List Nat) (k n:Nat):aS (raw ul) k n=val ((ul.drop k).take (n+1)):=by
 unfold aS;rw[yO,jz,yS]
omit [Env] in
theorem OY {n m V U0 k g:Nat} {bl ul ql vl:List Nat} (hn:2<=n) (hb:bl.length=n) (hv:vl.length=n) (lv:Limbs vl) (vV:val vl=V) (hD:DInv n m V U0 (k+1) ul ql) (hm:n+m<=1000000) (hV0:0<V)
 (hq:val ((ul.drop k).take (n+1))/V<=g) (hg:g<=1000000000) (hgV:g*V<=val ((ul.drop k).take (n+1))+V):Zl (I0v n m V U0) M0v (raw bl) (raw vl) (raw ul) (raw ql) (k:Int) (g:Int):=by
 have hk:=hD.hk;have lu:=hD.lu;have lq:=hD.lq;have a3:V<1000000000^n:=by have:=qS lv;rw[hv,vV]at this;exact this
 obtain⟨hlt,a1⟩:=hD.mid a3 hV0;have l1:(ul.take k).length=k:=by rw[eH];omega
 have l2:((ul.drop k).take (n+1)).length=n+1:=by rw[eH,fk];omega
 have Lm:Limbs ((ul.drop k).take (n+1)):=(hD.Lu.drop k).take _;have hdv:val ((ul.drop k).take (n+1))/V<1000000000:=by rw[hK hV0,h9];exact hlt
 obtain⟨r,c,b,hs,Lr,lr,a0⟩:=Lz (us:=(ul.drop k).take (n+1)) (vs:=vl) (V:=V) (g:=g) Lm lv (by omega) vV hV0
  (by rw[l2];exact ml (Nat.le_of_lt a3) (im (by omega) (by omega))) hq hg hgV
 rw[l2]at lr;have a4:vl≠[]:=by intro e;rw[e]at hv;simp at hv;omega
 have w1:Ts .i64 (Ts .i64 ((k:Int)+(n:Int))+1)=((k+n+1:Nat):Int):=by rw[xb (n:=(k:Int)+(n:Int)),xb];omega
 have w2:Ts .i64 ((k:Int)-1)=(k:Int)-1:=xb;unfold Zl;simp only[ea,qe,hb,w1,cH];rw[show k+n+1-k=n+1 by omega,yO,jz,Zn,Zn,hs];simp only;rw[Zo];rw[yO,jz,<-qZ,<-qZ];have l3:(ul.take k++r++ul.drop (k+(n+1))).length=n+m:=by rw[ft,ft,l1,lr,fk];omega
 refine⟨⟨by omega,by omega,by omega⟩,⟨⟨RR a4,wR _,by rw[hv];omega⟩,by omega,by omega,wR _⟩,brb (λh=>?_) (λh=>?_)⟩
 .have hcb:c≠0\/b≠0:=by rw[Bool.or_eq_true,decide_eq_true_eq,decide_eq_true_eq]at h;omega
  rcases a0 with⟨e1,e2,_,_⟩|⟨_,a2,r2,h2,Lr2,a5,vr2⟩
  .omega
  rw[l2]at a5;have e3:(ul.take k++r++ul.drop (k+(n+1))).take k=ul.take k:=by rw[fS,gd (by omega),gz,Nat.min_self]
  have e4:((ul.take k++r++ul.drop (k+(n+1))).drop k).take (n+1)=r:=by rw[fS,gm (by omega),fx (by omega),gx,gd (by omega),eL (by omega)]
  have e5:(ul.take k++r++ul.drop (k+(n+1))).drop (k+(n+1))=ul.drop (k+(n+1)):=by rw[gm (by simp[l1,lr])];rw[fx (by simp[l1,lr]),gx]
  rw[yO,jz,Zn,e4,h2,Zo,jz,e3,yO,e5,<-qZ,<-qZ];have w3:Ts .u32 (Ts .u64 ((g:Int)-1))=((val ((ul.drop k).take (n+1))/V:Nat):Int):=by
   have hg1':1<=g:=by rw[a2];exact Nat.le_add_left 1 _
   have hg2:g-1=val ((ul.drop k).take (n+1))/V:=by rw[a2];exact Nat.add_sub_cancel ..
   rw[<-hg2,xH,j0];omega
  rw[w3,xQ (by omega),qe,l3,w2];refine⟨⟨by omega,by omega,by omega⟩,⟨⟨RR a4,wR _,by rw[hv];omega⟩,by omega,by omega,wR _⟩,⟨by omega,by omega⟩,by omega,⟨k,_,_,rfl,a1 r2 Lr2 a5 vr2⟩,?_⟩;simp only[M0v,nth,toI];omega
 .have hcb:c=0/\b=0:=by rw[Bool.or_eq_false_iff,decide_eq_false_iff_not,decide_eq_false_iff_not]at h;omega
  rcases a0 with⟨_,_,a2,vr⟩|⟨e1,_⟩
  .have w3:Ts .u32 (g:Int)=((val ((ul.drop k).take (n+1))/V:Nat):Int):=by rw[j0];omega
   rw[w3,xQ (by omega),w2];refine⟨⟨by omega,by omega⟩,by omega,⟨k,_,_,rfl,a1 r Lr lr vr⟩,?_⟩;simp only[M0v,nth,toI];omega
  .omega
omit [Env] in
theorem L0 {a b:List Nat} (ha:Limbs a) (hb:Limbs b) (h1:a.length<=536870912) (h2:b.length<=536870912) (h3:0<a.length+b.length):zu [.c (.sl (raw a)),.c (.sl (raw b))]=true:=by
 simp only[zu,Qt ha,Qt hb,qe,Bx,Aw,Nat.ble_eq,k5];exact⟨h1,h2,h3⟩
omit [Env] in
theorem RT (a b:List Nat):jL [.c (.sl (raw a)),.c (.sl (raw b))]=raw (pad (a.length+b.length) (val a*val b)):=by
 simp only[jL,qe,yS]
omit [Env] in
theorem Ks {ul:List Nat} {k n i:Nat} (hi:i<=n):((ul.drop k).take (n+1)).getD i 0=ul.getD (k+i) 0:=by
 simp only[gq,List.getElem?_take,List.getElem?_drop];rw[if_pos (by omega)]
def E8 (I0:List D->List D->Prop) (M0:List D->Nat) (I1:List D->List D->Prop) (M1:List D->Nat):Nat->Ann:=
 YR ⟨[.own 8 180 1,.own 10 181 1,.slot 11 (.int .i64 0)],[],I0,M0⟩ ⟨[.slot 13 (.int .u64 0),.slot 14 (.int .u64 0)],[.slot 12 (.int .u64 0),.slot 11 (.int .i64 0),.own 8 180 1],I1,M1⟩
theorem L1 {a b al:List Nat} {d:Nat} (ta:Gives CC 214 [.c (.sl (raw a))] [.c (.sl (raw al))]) (tb:Gives CC 214 [.c (.sl (raw b))] [.c (.sl (raw [d]))]) (lA:Limbs al) (ra:al.length<=100000) (hd0:0<d) (hd1:d<1000000000):
 Gives CC 268 [.c (.sl (raw a)),.c (.sl (raw b))] [.c (.sl (raw (pad al.length (val al/d)))),.c (.sl (raw [val al%d]))]:=by
 refine qm (anns:=E8 (λ_ _=>True) (λ_=>0) (λ_ _=>True) (λ_=>0)) mixedT Tryz.func268 ?_;show wpF (CM zu jL) _ _ _ _ _;unfold E8;rw[Zm];refine⟨_,ta,_,tb,brb (λ_=>?_) (λh=>?_)⟩
 .exact⟨⟨by omega,by simp[raw],rfl⟩,_,qA (l:=[d]) (i:=0) (by simp),_,_,up (Ju lA hd0 hd1 (by omega)),rfl⟩
 .simp[raw]at h
theorem OZ {a b al bl:List Nat} (ta:Gives CC 214 [.c (.sl (raw a))] [.c (.sl (raw al))]) (tb:Gives CC 214 [.c (.sl (raw b))] [.c (.sl (raw bl))]) (lA:Limbs al) (lB:Limbs bl) (ra:al.length<=100000) (rb:bl.length<=100000) (hn:2<=bl.length) (hlt:val al<val bl):
 Gives CC 268 [.c (.sl (raw a)),.c (.sl (raw b))] [.c (.sl (raw [])),.c (.sl (raw al))]:=by
 refine qm (anns:=E8 (λ_ _=>True) (λ_=>0) (λ_ _=>True) (λ_=>0)) mixedT Tryz.func268 ?_;show wpF (CM zu jL) _ _ _ _ _;unfold E8;rw[Zm];refine⟨_,ta,_,tb,brb (λh=>?_) (λh=>?_)⟩
 .rw[qe]at h;simp only[ea,beq_iff_eq]at h;omega
 .refine⟨_,up (jJ lA lB (by omega) (by omega)),brd (λh2=>?_) (λh2=>?_)⟩
  .exact⟨⟨by rw[qe];unfold room;omega,zG _⟩,rfl⟩
  .rw[Qe,if_pos hlt]at h2;omega
set_option maxHeartbeats 2000000 in
theorem L2 {a b al bl:List Nat} (ta:Gives CC 214 [.c (.sl (raw a))] [.c (.sl (raw al))]) (tb:Gives CC 214 [.c (.sl (raw b))] [.c (.sl (raw bl))]) (lA:Limbs al) (lB:Limbs bl) (ra:al.length<=100000) (rb:bl.length<=100000)
 (vA:val al=val a) (vB:val bl=val b) (zB:bl.getLast?≠some 0) {p:Nat} (hn:bl.length=p+2) (hle:val bl<=val al):
 ∃q r,Gives CC 268 [.c (.sl (raw a)),.c (.sl (raw b))] [.c (.sl (raw q)),.c (.sl (raw r))]/\Limbs q/\Limbs r/\val q=val a/val b/\val r=val a%val b/\q.length<=1073741824/\r.length<=1073741824:=by
 have hBn:bl≠[]:=by intro e;rw[e]at hn;simp at hn
 have b5:p+1<bl.length:=by omega
 obtain⟨d,ba⟩:∃d,bl[p+1]=d:=⟨_,rfl⟩;have hd0:0<d:=by
  rcases hS d with h0|h0
  .exfalso;apply zB;rw[List.getLast?_eq_getElem?,hn,show p+2-1=p+1 by omega,gn b5,ba,h0]
  .exact h0
 have hd1:d<1000000000:=ba▸lB.get b5;obtain⟨s,hs⟩:∃s,s=1000000000/(d+1):=⟨_,rfl⟩;obtain⟨hs1,hs2,hs3⟩:=Jw hd0 hd1 hs;have dr:s<1000000000:=by have:s*2<=s*(d+1):=hC _ (by omega);omega
 obtain⟨B,hB⟩:∃B,val b=B:=⟨_,rfl⟩;obtain⟨A,hA⟩:∃A,val a=A:=⟨_,rfl⟩;rw[hA]at vA ⊢;rw[hB]at vB ⊢;rw[vA,vB]at hle
 --the scaled divisor
 obtain⟨V,hV⟩:∃V,V=B*s:=⟨_,rfl⟩;have bw:B=val (bl.take (p+1))+1000000000^(p+1)*d:=by rw[<-vB,<-ba,<-xp b5,<-qK,eL (by omega)]
 have hlo:val (bl.take (p+1))<1000000000^(p+1):=by have:=qS (lB.take (p+1));rw[eH,hn,ia (by omega)]at this;exact this
 obtain⟨P1,a2⟩:∃P1,1000000000^(p+1)=P1:=⟨_,rfl⟩;have b1:1000000000^(p+2)=P1*1000000000:=by rw[<-a2];exact hE ..
 rw[a2]at bw hlo;have hP0:0<P1:=by rw[<-a2];exact Nat.pow_pos (by omega)
 have ad:V<P1*1000000000:=by
  have h1:B<P1*(d+1):=by rw[hG,lh];omega
  have h2:B*s<P1*(d+1)*s:=iz h1 (by omega);have h3:P1*(d+1)*s=P1*(s*(d+1)):=by rw[hH,h9 (d+1) s]
  have h4:P1*(s*(d+1))<=P1*1000000000:=hC _ hs3;omega
 have bv:500000000*P1<=V:=by
  have h1:P1*d*s<=B*s:=h8 s (by omega);have h2:P1*d*s=d*s*P1:=by rw[hH,h9]
  have h3:500000000*P1<=d*s*P1:=h8 P1 hs1;omega
 have a3:0<V:=by omega
 obtain⟨vl,bb⟩:∃vl,lim V=vl:=⟨_,rfl⟩;have Lv:Limbs vl:=bb▸qc _;have vV:val vl=V:=bb▸qi _;have lv:vl.length=p+2:=by have h1:(lim V).length<=p+2:=qp (by rw[b1];exact ad);have h2:p+1<(lim V).length:=jt (by rw[a2];omega);rw[bb]at h1 h2;omega
 obtain⟨v1,ap⟩:∃v1,vl[p+1]=v1:=⟨_,rfl⟩;obtain⟨v2,cl⟩:∃v2,vl[p]=v2:=⟨_,rfl⟩;have hv1B:v1<1000000000:=ap▸Lv.get _;have hv2B:v2<1000000000:=cl▸Lv.get _;have bt:=val2 (v:=vl) (p:=p);rw[eL (by omega),xp (by omega),xp (by omega),ap,cl,vV]at bt;have cm:val (vl.take p)<1000000000^p:=by have:=qS (Lv.take p);rw[eH,lv,ia (by omega)]at this;exact this
 have hVd1:V=val (vl.take (p+1))+P1*v1:=by rw[<-a2,<-ap,<-xp,<-qK,eL (by omega),vV]
 have dt:val (vl.take (p+1))<P1:=by have:=qS (Lv.take (p+1));rw[eH,lv,ia (by omega),a2]at this;exact this
 have ct:V<(v1+1)*P1:=by rw[h9,hG];omega
 have hVb:v1*P1<=V:=by rw[h9];omega
 have cg:500000000<=v1:=by apply ks;exact Nat.lt_of_mul_lt_mul_right (a:=P1) (j4 bv ct)
 --the scaled dividend
 have hal:p+2<=al.length:=by apply Nat.le_of_not_lt;intro h;have:=QG lA zB hBn (by omega);omega
 obtain⟨m,hm⟩:∃m,al.length=p+m:=⟨al.length-p,by omega⟩;have bh:A*s<1000000000^(al.length+1):=by have h1:=qS lA;rw[vA]at h1;have h2:A*s<=A*1000000000:=hC _ (by omega);have h3:A*1000000000<1000000000^al.length*1000000000:=iz h1 (by omega);rw[hE];omega
 obtain⟨b0,a4⟩:∃b0,pad (al.length+1) (A*s)++[0]=b0:=⟨_,rfl⟩;have co:b0.length=al.length+2:=by rw[<-a4];simp[xu]
 have a1:DInv (p+2) m V (A*s) m b0 (eu m 0):=by
  have bc:val b0=A*s:=by rw[<-a4,qR,jI,hM bh,show val [0]=0 from rfl,k6,k3]
  refine⟨kh _,by omega,List.length_replicate,?_,?_,?_,?_⟩
  .rw[<-a4];exact(xR _ _).append (Sz (by omega) Tk)
  .intro x hx;rw[gp hx];omega
  .rw[bc];have h1:P1*1000000000^m<=V*1000000000^m:=h8 _ (by omega);have h2:P1*1000000000^m=1000000000^(al.length+1):=by rw[<-a2,<-lg,show p+1+m=al.length+1 by omega]
   omega
  .rw[fx (by simp),bc];simp[val]
 have hsc:Ts .u32 (Ts .u64 (cL 1000000000 (Ts .u64 (Ts .u64 (d:Int)+1))))=(s:Int):=by
  have e:cL 1000000000 ((d:Int)+1)=(s:Int):=by rw[hs,ec (by omega),Int.natCast_ediv];have e2:((d+1:Nat):Int)=(d:Int)+1:=Int.natCast_add d 1;rw[e2];exact congrArg (· /((d:Int)+1)) (show(1000000000:Int)=((1000000000:Nat):Int)from rfl)
  rw[xH (n:=(d:Int)),xH (n:=(d:Int)+1),e,xH,j0]
 have mkA:jL [.c (.sl (raw al)),.c (.sl [[.int .u32 (s:Int)]])]=raw (pad (al.length+1) (A*s)):=(RT al [s]).trans (by rw[vA];simp[val]);have mkB:jL [.c (.sl (raw bl)),.c (.sl [[.int .u32 (s:Int)]])]=raw (pad (p+3) V):=(RT bl [s]).trans (by rw[vB,hV,hn];simp[val]);have Ls:Limbs [s]:=Sz dr Tk;have be:zu [.c (.sl (raw al)),.c (.sl [[.int .u32 (s:Int)]])]=true:=L0 lA Ls (by omega) (by simp) (by simp);have bg:zu [.c (.sl (raw bl)),.c (.sl [[.int .u32 (s:Int)]])]=true:=L0 lB Ls (by omega) (by simp) (by simp);have tv:Gives CC 214 [.c (.sl (raw (pad (p+3) V)))] [.c (.sl (raw vl))]:=by have:=up (vt (xR (p+3) V) (by rw[xu];omega));rw[jI,hM (show V<1000000000^(p+3)from hO ad (by rw[<-b1];exact im (by omega) (by omega))),bb]at this;exact this
 have eU:raw (pad (al.length+1) (A*s))++[[Hx .u32 (0:Int)]]=raw b0:=by rw[<-a4,qZ];rfl
 have b4:A*s/V=A/B:=by rw[hV];exact Nat.mul_div_mul_right _ _ (by omega)
 have an:A*s%V=A%B*s:=by rw[hV];exact Nat.mul_mod_mul_right _ _ _
 refine⟨pad m (A/B),pad (lim (A%B*s)).length (A%B),qm (anns:=E8 (I0v (p+2) m V (A*s)) M0v (I1v (p+2) v1 V) M1v) mixedT Tryz.func268 ?_,xR _ _,xR _ _,?_,?_,by rw[xu];omega,?_⟩
 .show wpF (CM zu jL) _ _ _ _ _;unfold E8;rw[Zm];refine⟨_,ta,_,tb,?_⟩;have wn1:Ts .i64 (((p+2:Nat):Int)-1)=((p+1:Nat):Int):=by rw[xb];omega
  have wn2:Ts .i64 (((p+2:Nat):Int)-2)=(p:Int):=by rw[xb];omega
  simp only[ea,qe,hn,wn1,wn2,cH];refine brb (λh=>?_) (λ_=>⟨_,up (jJ lA lB (by omega) (by omega)),brd (λh2=>?_) (λ_=>?_)⟩)
  .simp only[beq_iff_eq]at h;omega
  .rw[Qe,vA,vB,if_neg (by omega)]at h2;split at h2<;>omega
  refine⟨⟨by omega,by omega,qz b5⟩,_,qA b5,?_⟩;rw[ba];simp only[hsc,mkA,mkB,eU,qe,co];have wm:Ts .i64 (((al.length+2:Nat):Int)-((p+2:Nat):Int))=(m:Int):=by rw[xb];omega
  have wm1:Ts .i64 ((m:Int)-1)=(m:Int)-1:=xb;simp only[wm,wm1,cH,xu];refine⟨?_,be,⟨by unfold room;omega,zG [0]⟩,bg,_,tv,⟨by omega,by omega,by unfold room;omega⟩,⟨m,b0,eu m 0,by rw[xn],a1⟩,?_⟩
  .rw[xH (n:=(d:Int)),xH];omega
  rintro es_3 es_4 n_1 ⟨kk,ul,ql,he,hD⟩;simp only[h7,Pl,No,true_and,and_true]at he;obtain⟨rfl,rfl,rfl⟩:=he;have dd:=hD.lu;have hkm:=hD.hk;refine brd (λh=>?_) (λh=>?_)
  .obtain⟨k,rfl⟩:∃k,kk=k+1:=⟨kk-1,by omega⟩;rw[show((k+1:Nat):Int)-1=(k:Int)by omega];have W0:Ts .i64 ((k:Int)+((p+2:Nat):Int))=((k+p+2:Nat):Int):=by rw[xb];omega
   have W1:Ts .i64 (((k+p+2:Nat):Int)-1)=((k+p+1:Nat):Int):=by rw[xb];omega
   have W2:Ts .i64 (((k+p+2:Nat):Int)-2)=((k+p:Nat):Int):=by rw[xb];omega
   simp only[W0,W1,W2,cH,qe,dd,lv];have hVn:V<1000000000^(p+2):=by rw[b1];exact ad
   obtain⟨a7,_⟩:=hD.mid hVn a3;have hlm:((ul.drop k).take (p+2+1)).length=p+3:=by rw[eH,fk];omega
   have Lm:Limbs ((ul.drop k).take (p+2+1)):=(hD.Lu.drop k).take _;obtain⟨t3,cc⟩:∃t,ul[k+p+2]=t:=⟨_,rfl⟩;obtain⟨t2,c4⟩:∃t,ul[k+p+1]=t:=⟨_,rfl⟩;obtain⟨t0,c3⟩:∃t,ul[k+p]=t:=⟨_,rfl⟩;have ht3B:t3<1000000000:=cc▸hD.Lu.get _;have cb:t2<1000000000:=c4▸hD.Lu.get _;have ht0B:t0<1000000000:=c3▸hD.Lu.get _;obtain⟨U,hU⟩:∃U,val ((ul.drop k).take (p+2+1))=U:=⟨_,rfl⟩;rw[hU]at a7;have a6:=val3 (u:=(ul.drop k).take (p+2+1)) (p:=p);rw[eL (by omega),Ks (by omega),Ks (by omega),Ks (by omega),xp (by omega),xp (by omega),xp (by omega)]at a6;simp only[<-Nat.add_assoc,cc,c4,c3]at a6;rw[hU]at a6;have bs:val (((ul.drop k).take (p+2+1)).take p)<1000000000^p:=by have:=qS (Lm.take p);rw[eH,hlm,ia (by omega)]at this;exact this
   obtain⟨a0,cd⟩:∃a0,t3*1000000000+t2=a0:=⟨_,rfl⟩;have bm:U=(t3*1000000000+t2)*P1+(t0*1000000000^p+val (((ul.drop k).take (p+2+1)).take p)):=by rw[a6,<-a2,hE];grind
   have b2:t0*1000000000^p+val (((ul.drop k).take (p+2+1)).take p)<P1:=by have:(t0+1)*1000000000^p<=1000000000*1000000000^p:=h8 _ (by omega);rw[hQ,it]at this;rw[<-a2,hE];omega
   obtain⟨c0,c1,hg3⟩:=Yc ct hVb cg bm b2 cb a7 a3;rw[cd]at c0 c1 a6;have cs:Ts .u64 (Ts .u64 (Ts .u64 (t3:Int)*1000000000)+Ts .u64 (t2:Int))=(a0:Int):=by rw[xH (n:=(t3:Int)),xH (n:=(t3:Int)*1000000000),xH (n:=(t2:Int)),xH];omega
   have bd:Ts .u64 (v1:Int)=(v1:Int):=xH;have wv2:Ts .u64 (v2:Int)=(v2:Int):=xH;have wt0:Ts .u64 (t0:Int)=(t0:Int):=xH;have cv:=ib a0 v1;have hml:=ie a0 (show 0<v1 by omega);have a5:cL (a0:Int) (v1:Int)=((a0/v1:Nat):Int):=by rw[ec (by omega)];rfl
   have b6:eb (a0:Int) (v1:Int)=((a0%v1:Nat):Int):=by rw[el (by omega)];rfl
   obtain⟨g0,hg0⟩:∃g0,a0/v1=g0:=⟨_,rfl⟩;obtain⟨r0,hr0⟩:∃r0,a0%v1=r0:=⟨_,rfl⟩;rw[hg0]at c0 c1 cv a5;rw[hr0]at cv hml b6;have cq:Ts .u64 (cL (a0:Int) (v1:Int))=(g0:Int):=by rw[a5,xH]
   have c2:aS (raw ul) k (p+2)=U:=by rw[OX,hU]
   refine⟨⟨by omega,by omega⟩,_,qA (by omega),⟨by omega,by omega⟩,_,qA (by omega),⟨by omega,by omega,qz (by omega)⟩,_,qA (by omega),?_⟩;rw[cc,c4,ap];refine⟨by rw[bd];omega,⟨by omega,by omega,qz (by omega)⟩,_,qA (by omega),?_⟩;rw[ap,cs,bd,cq,b6];refine⟨by omega,⟨a0,k,raw ul,g0,r0,rfl,rfl,by rw[h9];omega,by rw[c2];exact c0,c1,by omega⟩,?_⟩;rintro n_5 n_6 ⟨cp,k',es',g,r,cx,cy,dc,dl,hgB,hrB⟩;simp only[h7,No,Pl,true_and,and_true]at cx cy;obtain⟨e1,e2,rfl⟩:=cx;obtain⟨rfl,rfl⟩:=cy;obtain rfl:a0=cp:=by omega
   obtain rfl:k=k':=by omega
   rw[c2]at dl;have b3:∀g' r',a0=g'*v1+r'->U/V<=g'->g'<=1000000000->g'*v2<=r'*1000000000+t0->Zl (I0v (p+2) m V (A*s)) M0v (raw bl) (raw vl) (raw ul) (raw ql) (k:Int) (g':Int):=λg' r' h1 h2 h3 h4=>
    OY (by omega) hn lv Lv vV hD (by omega) a3 (by rw[hU];exact h2) h3 (by rw[hU];exact HN bt a6 cm h1 h4 h3 (by omega))
   have cw:U/V<g->br (toB (J3 (decide (Ts .u64 ((r:Int)+(v1:Int))>=1000000000))))
    (Zl (I0v (p+2) m V (A*s)) M0v (raw bl) (raw vl) (raw ul) (raw ql) (k:Int) (Ts .u64 ((g:Int)-1)))
    (I1v (p+2) v1 V [.int .u64 (a0:Int),.int .i64 (k:Int),.sl (raw ul)] [.int .u64 (Ts .u64 ((g:Int)-1)),.int .u64 (Ts .u64 ((r:Int)+(v1:Int)))]/\
     M1v [.int .u64 (Ts .u64 ((g:Int)-1)),.int .u64 (Ts .u64 ((r:Int)+(v1:Int)))]<M1v [.int .u64 (g:Int),.int .u64 (r:Int)]):=by
    intro ag;have hgp:1<=g:=j4 (Nat.zero_le _) ag;have wg:Ts .u64 ((g:Int)-1)=((g-1:Nat):Int):=by rw[xH];omega
    have wr:Ts .u64 ((r:Int)+(v1:Int))=((r+v1:Nat):Int):=by rw[xH];omega
    have ds:a0=(g-1)*v1+(r+v1):=by
     have:g*v1=(g-1)*v1+v1:=by
      conv=>lhs;rw[show g=(g-1)+1 by omega]
      rw[hQ,it]
     omega
    rw[wg,wr];refine brd (λh3=>?_) (λh3=>?_)
    .refine b3 (g-1) (r+v1) ds (ll ag) (by omega) ?_;have h5:(g-1)*v2<=1000000000*1000000000:=j2 (by omega) (by omega);have h6:1000000000*1000000000<=(r+v1)*1000000000:=h8 _ (by omega);omega
    .exact⟨⟨a0,k,raw ul,g-1,r+v1,rfl,rfl,ds,by rw[c2];exact ll ag,by omega,by omega⟩,by simp only[M1v,nth,toI,cH];omega⟩
   have hqB:U/V<1000000000:=by rw[hK a3,h9];exact a7
   refine brd (λh3=>?_) (λh3=>?_)
   .refine⟨⟨by omega,by omega,qz (by omega)⟩,_,qA (by omega),?_⟩;rw[ap,bd];exact cw (by omega)
   .refine⟨⟨by omega,by omega,qz (by omega)⟩,_,qA (by omega),⟨by omega,by omega⟩,_,qA (by omega),?_⟩;rw[cl,c3,wv2,wt0];have hgv:g*v2<=1000000000*1000000000:=j2 (by omega) (by omega);have wgv:Ts .u64 ((g:Int)*(v2:Int))=((g*v2:Nat):Int):=by have e:(g:Int)*(v2:Int)=((g*v2:Nat):Int):=(ei ..).symm;rw[e,xH]
    have wrt:Ts .u64 (Ts .u64 ((r:Int)*1000000000)+(t0:Int))=((r*1000000000+t0:Nat):Int):=by rw[xH (n:=(r:Int)*1000000000),xH];omega
    rw[wgv,wrt];refine brd (λh4=>?_) (λh4=>?_)
    .refine⟨⟨by omega,by omega,qz (by omega)⟩,_,qA (by omega),?_⟩;rw[ap,bd];exact cw (HM bt a6 bs dc (by omega) a3)
    .exact b3 g r dc dl (by omega) (by omega)
  .have hk0:kk=0:=by omega
   subst hk0;have ag:=hD.hlt;have bx:=hD.heq;simp only[l8,lh,fR]at ag bx;have bc:val ul=A*s%V:=by rw[bx,h9,ls,hM ag]
   have dv:val ql=A/B:=by rw[<-b4,bx,h9,l0 a3,k1 ag,k3]
   have htk:val (ul.take (p+2))=A%B*s:=by
    rw[<-an,<-bc];have h1:val ul=val (ul.take (p+2))+1000000000^(p+2)*val (ul.drop (p+2)):=by
     conv=>lhs;rw[<-fy (p+2) ul]
     rw[qR,eH,ia (by omega)]
    rcases hS (val (ul.drop (p+2)))with h0|h0
    .rw[h0]at h1;omega
    .exfalso;have h2:1000000000^(p+2)<=1000000000^(p+2)*val (ul.drop (p+2)):=k0 _ h0;rw[b1]at h2 h1;omega
   have hlul:(lim (A%B*s)).length<=p+2:=by rw[<-an];refine qp ?_;have:=ie (A*s) a3;rw[b1];omega
   have g1:=up (vt (hD.Lu.take (p+2)) (by rw[eH];omega));rw[htk]at g1;have g2:=up (Ju (qc (A%B*s)) (d:=s) (by omega) dr (by omega));rw[qi,Nat.mul_div_cancel _ (show 0<s by omega)]at g2;simp only[fR,jz,qe,dd];refine⟨⟨by omega,by omega,by omega,zG _⟩,_,g1,_,_,g2,?_⟩;have:ql=pad m (A/B):=by refine Li hD.Lq (xR _ _) (by rw[xu];exact hD.lq) ?_;have h1:=qS hD.Lq;rw[hD.lq,dv]at h1;rw[jI,hM h1,dv]
   rw[this]
 .rw[jI,hM];rw[<-b4,hK a3];have h1:=a1.hlt;have h2:=a1.heq;rw[fx (by simp)]at h2;simp only[val,Nat.zero_mul,Nat.zero_add]at h2;rw[<-h2]at h1;rw[h9 (1000000000^m)];exact h1
 .rw[jI,hM];have h1:=qS (qc (A%B*s));rw[qi]at h1;have:A%B*1<=A%B*s:=hC _ hs2;omega
 .rw[xu,<-an];have:(lim (A*s%V)).length<=p+2:=by refine qp ?_;have:=ie (A*s) a3;rw[b1];omega
  omega
theorem wS:Vb:=by
 intro a b la lb hb0 ra rb;have ta:=up (vt la (by omega));have tb:=up (vt lb (by omega));have nA:(lim (val a)).length<=a.length:=qp (qS la);have nB:(lim (val b)).length<=b.length:=qp (qS lb);have a0:lim (val b)≠[]:=by rw[ne_eq,yg];exact hb0
 have hpos:0<(lim (val b)).length:=List.length_pos_iff.2 a0;by_cases h1:(lim (val b)).length=1
 .obtain⟨d,hd⟩:=List.length_eq_one_iff.1 h1;have hv:val b=d:=by rw[<-qi (val b),hd];simp[val]
  rw[hd]at tb;have hd1:d<1000000000:=(qc (val b)) d (by rw[hd];simp);refine⟨_,_,L1 ta tb (qc _) (by omega) (by omega) hd1,xR _ _,Sz ?_ Tk,?_,?_,by rw[xu];omega,by simp⟩
  .have:=ie (val (lim (val a))) (show 0<d by omega);omega
  .rw[jI,qi,hv,hM];have h2:=qS (qc (val a));rw[qi]at h2;exact j4 (Nat.div_le_self _ _) h2
  .rw[qi,hv];simp[val]
 .by_cases h2:val a<val b
  .refine⟨_,_,OZ ta tb (qc _) (qc _) (by omega) (by omega) (by omega) (by rw[qi,qi];exact h2),Tk,qc _,?_,?_,by simp,by omega⟩
   .rw[k1 h2];rfl
   .rw[hM h2,qi]
  .exact L2 (p:=(lim (val b)).length-2) ta tb (qc _) (qc _) (by omega) (by omega) (qi _) (qi _) ((jk _).resolve_left a0) (by omega) (by rw[qi,qi];omega)
end Eng
end
section
namespace Eng
open Go Go.Proofs
variable [Env]
def tabL (_:Nat) (_:List A):Option (List A):=none
theorem tabL_ok (f:Nat) (al rs:List A) (h:tabL f al=some rs):Gives CC f al rs:=by simp[tabL]at h
def Zp:List (List D)->Bool
 |[]=>true
 |[e]=>k8 0 (B8 e)
 |_::r=>Zp r
omit [Env] in
theorem Jx:∀{l:List Nat},Zp (raw l)=true->l=[]\/l.getLast?≠some 0
 |[],_=> .inl rfl
 |[x],h=> .inr (by
  simp only[raw,g7,hf,Zp,B8,cH]at h;rw[k5]at h;simp;omega)
 |x::y::l,h=> .inr (by
  have h2:Zp (raw (y::l))=true:=h;rcases Jx h2 with h3|h3
  .simp at h3
  .rw[List.getLast?_cons_cons];exact h3)
def N5 (b:Bool) (es:List (List D)):Int:=match b with|true=> -(valD es:Int)|false=>(valD es:Int)
def okZ (b:Bool) (es:List (List D)):Bool:=QH es&&(Zp es&&(match es with|[]=>!b|_=>true))
omit [Env] in
theorem L3 {b:Bool} {es:List (List D)} (h:okZ b es=true):cI (N5 b es)=[.bool b,.sl es]:=by
 unfold okZ at h;simp only[Aw]at h;obtain⟨h1,h2,h3⟩:=h;obtain⟨e1,e2,e3⟩:=yR h1;rw[e1]at h2;have hu:=vp e2 (Jx h2);rw[e3]at hu;have hn:(N5 b es).natAbs=valD es:=by
  unfold N5;cases b
  .simp
  .simp
 have hb:decide (N5 b es<0)=b:=by
  cases b with
  |false=>unfold N5;exact decide_eq_false (by simp)
  |true=>
   unfold N5;refine decide_eq_true ?_;have:valD es≠0:=by
    intro h0;rw[h0]at hu;have h4:ZO es=[]:=by rw[<-hu];rfl
    rw[h4]at e1;rw[e1]at h3;simp[raw]at h3
   show-(valD es:Int)<0;omega
 unfold cI;rw[hn,hb,hu,<-e1]
def rdI:A->Option Int
 | .ag [.bool b,.sl es]=>match okZ b es with
  |true=>some (N5 b es)
  |false=>none
 |_=>none
omit [Env] in
theorem L4 {a:A} {z:Int} (h:rdI a=some z):a=qL z:=by
 unfold rdI at h;split at h
 .split at h
  .rename_i hz;simp only[mm]at h;subst h;unfold qL;rw[L3 hz]
  .simp at h
 .simp at h
def BJ (n:Int) (d:Nat):Option Rat:=
 if hd:d≠0 then if h:ln n.natAbs d=1 then some ⟨n,d,hd,h⟩else none else none
omit [Env] in
theorem Pa {n:Int} {d:Nat} {r:Rat} (h:BJ n d=some r):r.num=n/\r.den=d:=by
 unfold BJ at h;split at h
 .split at h
  .simp only[mm]at h;subst h;exact⟨rfl,rfl⟩
  .simp at h
 .simp at h
def hN:Nat:=(1000000000^100)^4
omit [Env] in
theorem FK:hN<=QN:=by decide
def tN:Nat:=(1000000000^100)^10
omit [Env] in
theorem FL:tN<=Kk:=by decide
def RU (z:Int):Bool:=k8 z.natAbs hN
def rdR:A->Option Rat
 | .ag [.bool b,.sl es,.bool c,.sl fs]=>match okZ b es&&(okZ c fs&&(!c&&(RU (N5 b es)&&k8 (valD fs) hN)))with
  |true=>BJ (N5 b es) (valD fs)
  |false=>none
 |_=>none
omit [Env] in
theorem Jy {a:A} {r:Rat} (h:rdR a=some r):a=xv r/\Sr r:=by
 unfold rdR at h;split at h
 .rename_i b es c fs;split at h
  .rename_i hz;simp only[Aw,Bool.not_eq_true']at hz;obtain⟨h1,h2,rfl,h3,h4⟩:=hz;obtain⟨e1,e2⟩:=Pa h;have hd:N5 false fs=(r.den:Int):=by rw[e2];rfl
   refine⟨?_,?_,?_⟩
   .unfold xv cR;rw[e1,L3 h1,<-hd,L3 h2];rfl
   .rw[e1];unfold RU at h3;rw[k5]at h3;exact hO h3 FK
   .rw[k5]at h4;show((r.den:Int)).natAbs<QN;rw[eg,e2];exact hO h4 FK
  .simp at h
 .simp at h
def Gq (al:List A):Option (Int×Int):=match al with
 |[a,b]=>match rdI a,rdI b with
  |some x,some y=>match k8 x.natAbs tN&&k8 y.natAbs tN with
   |true=>some (x,y)
   |false=>none
  |_,_=>none
 |_=>none
omit [Env] in
theorem ju {al:List A} {x y:Int} (h:Gq al=some (x,y)):al=[qL x,qL y]/\Sm x/\Sm y:=by
 unfold Gq at h;split at h
 .split at h
  .rename_i x' y' h1 h2;split at h
   .rename_i h3;simp only[mm,Prod.mk.injEq]at h;obtain⟨rfl,rfl⟩:=h;simp only[Aw,k5]at h3;rw[L4 h1,L4 h2];exact⟨rfl,hO h3.1 FL,hO h3.2 FL⟩
   .simp at h
  .simp at h
 .simp at h
def N6 (al:List A):Option (Rat×Rat):=match al with
 |[a,b]=>match rdR a,rdR b with
  |some x,some y=>some (x,y)
  |_,_=>none
 |_=>none
omit [Env] in
theorem wT {al:List A} {x y:Rat} (h:N6 al=some (x,y)):al=[xv x,xv y]/\Sr x/\Sr y:=by
 unfold N6 at h;split at h
 .split at h
  .rename_i x' y' h1 h2;simp only[mm,Prod.mk.injEq]at h;obtain⟨rfl,rfl⟩:=h;rw[(Jy h1).1,(Jy h2).1];exact⟨rfl,(Jy h1).2,(Jy h2).2⟩
  .simp at h
 .simp at h
def E9 (a b:Int):Int:=match decide (a<b)with|true=> -1|false=>match decide (b<a)with|true=>1|false=>0
omit [Env] in
theorem Kt (a b:Int):E9 a b=kd a b:=by
 unfold E9 kd;by_cases h:a<b
 .rw[decide_eq_true h,if_pos h]
 .rw[decide_eq_false h,if_neg h];by_cases h2:b<a
  .rw[decide_eq_true h2,if_pos h2]
  .rw[decide_eq_false h2,if_neg h2]
def N7 (n d:Int):A:= .ag (cI (n/(ln n.natAbs d.natAbs:Nat))++cI (d/(ln n.natAbs d.natAbs:Nat)))
def cX (f:Nat) (al:List A):Option (List A):=
 match f with
 |157=>match N6 al with|some (x,y)=>some [N7 (x.num*y.num) (x.den*y.den)]|none=>none
 |75=>match N6 al with|some (x,y)=>some [N7 (x.num*y.den+y.num*x.den) (x.den*y.den)]|none=>none
 |33=>match N6 al with|some (x,y)=>some [N7 (x.num*y.den+(-y.num)*x.den) (x.den*y.den)]|none=>none
 |34=>match N6 al with|some (x,y)=>some [.c (.int .i64 (E9 (x.num*y.den) (y.num*x.den)))]|none=>none
 |72=>match al with
  |[.c (.int .i64 n)]=>match decide (-9223372036854775808<=n)&&decide (n<9223372036854775808)with
   |true=>some [.ag (cI n++cI 1)]
   |false=>none
  |_=>none
 |80=>match Gq al with|some (x,y)=>some [qL (x*y)]|none=>none
 |79=>match Gq al with|some (x,y)=>some [.c (.int .i64 (E9 x y))]|none=>none
 |141=>match Gq al with|some (x,y)=>some [qL (x+y)]|none=>none
 |312=>match Gq al with|some (x,y)=>some [qL (x-y)]|none=>none
 |210=>match Gq al with|some (x,y)=>some [qL (ln x.natAbs y.natAbs:Nat)]|none=>none
 |132=>match al with
  |[.c (.int .i64 n)]=>match decide (-9223372036854775808<=n)&&decide (n<9223372036854775808)with
   |true=>some [qL n]
   |false=>none
  |_=>none
 |_=>tabL f al
omit [Env] in
theorem Qu {n d:Int} (hd:0<d):N7 n d=xv (mx n d):=(kY hd).symm
theorem BK (f:Nat) (al rs:List A) (h:cX f al=some rs):Gives CC f al rs:=by
 unfold cX at h;split at h
 .split at h
  .rename_i x y h1;obtain⟨rfl,hx,hy⟩:=wT h1;simp only[mm]at h;subst h;rw[Qu (ed (den_pos x) (den_pos y))];have e:x*y=mx (x.num*y.num) (x.den*y.den):=by rw[<-m1,mv,mv]
   rw[<-e];exact Ya wS hx hy
  .simp at h
 .split at h
  .rename_i x y h1;obtain⟨rfl,hx,hy⟩:=wT h1;simp only[mm]at h;subst h;have px:=den_pos x;have py:=den_pos y;rw[Qu (ed px py)];have e:x+y=mx (x.num*y.den+y.num*x.den) (x.den*y.den):=by rw[<-m0 _ _ (by omega) (by omega),mv,mv]
   rw[<-e];exact Kp wS hx hy
  .simp at h
 .split at h
  .rename_i x y h1;obtain⟨rfl,hx,hy⟩:=wT h1;simp only[mm]at h;subst h;have px:=den_pos x;have py:=den_pos y;rw[Qu (ed px py)];have e:x-y=mx (x.num*y.den+(-y.num)*x.den) (x.den*y.den):=by
    rw[m3,<-m0 _ _ (by omega) (by omega),mv];have:mx (-y.num) y.den= -y:=by rw[<-m2];exact mv (-y)
    rw[this]
   rw[<-e];exact Yb wS hx hy
  .simp at h
 .split at h
  .rename_i x y h1;obtain⟨rfl,hx,hy⟩:=wT h1;simp only[mm]at h;subst h;rw[Kt,<-Zk];exact Lt hx hy
  .simp at h
 .split at h
  .split at h
   .rename_i hb;simp only[mm]at h;subst h;simp only[Aw,decide_eq_true_eq]at hb;have g:=kZ hb.1 hb.2;unfold xv cR at g;rw[na,nb]at g;exact g
   .simp at h
  .simp at h
 .split at h
  .rename_i x y h1;obtain⟨rfl,hx,hy⟩:=ju h1;simp only[mm]at h;subst h;exact up (jd hx hy)
  .simp at h
 .split at h
  .rename_i x y h1;obtain⟨rfl,hx,hy⟩:=ju h1;simp only[mm]at h;subst h;rw[Kt];exact up (jK hx hy)
  .simp at h
 .split at h
  .rename_i x y h1;obtain⟨rfl,hx,hy⟩:=ju h1;simp only[mm]at h;subst h;exact up (Qr hx hy)
  .simp at h
 .split at h
  .rename_i x y h1;obtain⟨rfl,hx,hy⟩:=ju h1;simp only[mm]at h;subst h;exact up (Ll hx hy)
  .simp at h
 .split at h
  .rename_i x y h1;obtain⟨rfl,hx,hy⟩:=ju h1;simp only[mm]at h;subst h;exact VZ wS hx hy
  .simp at h
 .split at h
  .split at h
   .rename_i hb;simp only[mm]at h;subst h;simp only[Aw,decide_eq_true_eq]at hb;exact up (xq hb.1 hb.2)
   .simp at h
  .simp at h
 .exact tabL_ok f al rs h
end Eng
end
section
namespace Eng
open Go Go.Proofs
variable [Env]
def eqL {α:Type} (e:α->α->Bool):List α->List α->Bool
 |[],[]=>true
 |a::xs,b::ys=>e a b&&eqL e xs ys
 |_,_=>false
omit [Env] in
theorem zP {α:Type} {e:α->α->Bool} (h:∀a b,e a b=true->a=b):∀{xs ys:List α},eqL e xs ys=true->xs=ys
 |[],[],_=>rfl
 |a::xs,b::ys,hh=>by simp only[eqL,Aw]at hh;rw[h a b hh.1,zP h hh.2]
 |[],_::_,hh=>by simp[eqL]at hh
 |_::_,[],hh=>by simp[eqL]at hh
def eqB:UInt8->UInt8->Bool:=λa b=>kH a.toNat b.toNat
def aU (a b:Int×List Nat):Bool:=decide (a.1=b.1)&&eqL kH a.2 b.2
omit [Env] in
theorem L5 (a b:Int×List Nat) (h:aU a b=true):a=b:=by
 unfold aU at h;rw[Aw,decide_eq_true_eq]at h;exact Prod.ext h.1 (zP (λa b hh=>hX hh) h.2)
def eqD:Nat->D->D->Bool
 |0,_,_=>false
 |_+1,.undef,.undef=>true
 |_+1,.bool a,.bool b=>a==b
 |_+1,.int k a,.int k' b=>decide (k=k')&&decide (a=b)
 |_+1,.str s,.str t=>eqL eqB s t
 |n+1,.sl es,.sl fs=>eqL (eqL (eqD n)) es fs
 |_+1,.ifc a,.ifc b=>a==b
 |_+1,.fn a,.fn b=>kH a b
 |_+1,.nilP,.nilP=>true
 |n+1,.ptr cs,.ptr ds=>eqL (eqD n) cs ds
 |n+1,.clo f ps,.clo g qs=>kH f g&&eqL (eqD n) ps qs
 |_+1,.tok p i,.tok q j=>kH i j&&eqL aU p q
 |_+1,_,_=>false
omit [Env] in
theorem FM (a b:UInt8) (h:eqB a b=true):a=b:=UInt8.toNat_inj.1 (hX h)
omit [Env] in
theorem Zq (n:Nat):∀(a b:D),eqD n a b=true->a=b:=by
 induction n with
 |zero=>intro a b h;simp[eqD]at h
 |succ n ih=>
  intro a b h;cases a<;>cases b<;>simp only[eqD,Aw,decide_eq_true_eq,beq_iff_eq,Dd]at h
  all_goals first
   |rfl
   |(rw[h];done)
   |(rw[h.1,h.2];done)
   |(rw[zP FM h];done)
   |(rw[zP ih h];done)
   |(rw[hX h.1,zP ih h.2];done)
   |(rw[zP (λa b hh=>zP ih hh) h];done)
   |(rw[hX h];done)
   |rw[hX h.1,zP L5 h.2]
def eqA:A->A->Bool
 | .c a,.c b=>eqD 20 a b
 | .ag a,.ag b=>eqL (eqD 20) a b
 |_,_=>false
omit [Env] in
theorem RV (a b:A) (h:eqA a b=true):a=b:=by
 unfold eqA at h;split at h
 .rw[Zq _ _ _ h]
 .rw[zP (Zq 20) h]
 .simp at h
end Eng
end
section
open Go Go.Proofs Eng
namespace Eng
section
variable (Gv:Nat->List A->List A->Prop) (I0:List D->List D->Prop) (M0:List D->Nat) (I1:List D->List D->Prop) (M1:List D->Nat) (I2:List D->List D->Prop) (M2:List D->Nat) (I3:List D->List D->Prop) (M3:List D->Nat) (Q:List A->Prop)
theorem Vd (J4:List D->List D->Prop) (J18:List D->List D->Prop) (J20:List D->List D->Prop) (J23:List D->List D->Prop) (es fs:List (List D)):wpF CC Gv (N0 (N0 (N0 (N0 (cP ⟨[.own 12 173 1,.slot 11 (.slice none 0 0),.slot 14 (.int .i64 0)],[],I0,M0⟩ ⟨[.slot 16 (.int .u64 0),.slot 17 (.slice none 0 0)],[.slot 11 (.slice none 0 0),.slot 14 (.int .i64 0),.own 12 173 1],I1,M1⟩ ⟨[.own 19 174 1,.slot 18 (.int .u64 0),.slot 20 (.int .i64 0)],[.slot 11 (.slice none 0 0)],I2,M2⟩) 4 ⟨[],[],J4,λ_=>0⟩) 18 ⟨[.slot 15 (.int .u64 0)],[.slot 11 (.slice none 0 0)],J18,λ_=>0⟩) 20 ⟨[.slot 15 (.int .u64 0)],[.slot 11 (.slice none 0 0)],J20,λ_=>0⟩) 23 ⟨[.slot 16 (.int .u64 0)],[.slot 11 (.slice none 0 0)],J23,λ_=>0⟩) Tryz.f241 [.c (.sl es),.c (.sl fs)] Q=(bB (decide ((bF es.length)<=2)) (bB (decide ((bF fs.length)<=2)) (∃i,Gv 242 [aL es] [Hv (Hx .u64 i)]/\∃i_1,Gv 242 [aL fs] [Hv (Hx .u64 i_1)]/\i_1≠0/\∃es,Gv 188 [Hv (Hx .u64 (Ts .u64 (cL i i_1)))] [aL es]/\i_1≠0/\∃e1,Gv 188 [Hv (Hx .u64 (eb i i_1))] [aL e1]/\Q [aL es,aL e1]) (J4 [] [])) (J4 [] [])/\(J4 [] []->(0<=Ts .i64 ((bF fs.length)-1)/\Ts .i64 ((bF fs.length)-1)<(bF fs.length)/\et (nth [] fs (cF (Ts .i64 ((bF fs.length)-1))))=1)/\∃i,cut (nth [] fs (cF (Ts .i64 ((bF fs.length)-1)))) 0 1 [Hx .u32 i]/\Ts .u64 (Ts .u64 i+1)≠0/\∃e1,Gv 309 [aL fs,Hv (Hx .u32 (Ts .u32 (Ts .u64 (cL (1000000000:Int) (Ts .u64 (Ts .u64 i+1))))))] [aL e1]/\(0<=Ts .i64 ((bF e1.length)-1)/\Ts .i64 ((bF e1.length)-1)<(bF e1.length)/\et (nth [] e1 (cF (Ts .i64 ((bF e1.length)-1))))=1)/\∃i_1,cut (nth [] e1 (cF (Ts .i64 ((bF e1.length)-1)))) 0 1 [Hx .u32 i_1]/\(0<=Ts .i64 ((bF es.length)+1)/\Ts .i64 ((bF es.length)+1)<=Ts .i64 ((bF es.length)+1)/\room (cF (Ts .i64 ((bF es.length)+1))))/\∃e2,Gv 309 [aL es,Hv (Hx .u32 (Ts .u32 (Ts .u64 (cL (1000000000:Int) (Ts .u64 (Ts .u64 i+1))))))] [aL e2]/\(0<=(bF e2.length)/\(bF e2.length)<=(bF (et (eu (cF (Ts .i64 ((bF es.length)+1))) [Hx .u32 0]))))/\I0 [] [Hy (ey (cF (bF e2.length)) (eu (cF (Ts .i64 ((bF es.length)+1))) [Hx .u32 0])),Hy [],dI (Ts .i64 ((bF e2.length)-1))]/\∀(es e3:List (List D)) (i_2:Int),I0 [] [Hy es,Hy e3,dI i_2]->bB (decide (i_2>=0)) ((0<=i_2/\i_2<(bF e2.length)/\et (nth [] e2 (cF i_2))=1)/\∃i,cut (nth [] e2 (cF i_2)) 0 1 [Hx .u32 i]/\(room (1+e3.length)/\lens 1 e3)/\∃e4,Gv 240 [aL ([Hx .u32 i]::e3)] [aL e4]/\bB (decide ((bF e4.length)>(bF e1.length))) ((0<=(bF e1.length)/\(bF e1.length)<(bF e4.length)/\et (nth [] e4 (cF (bF e1.length)))=1)/\∃i,cut (nth [] e4 (cF (bF e1.length))) 0 1 [Hx .u32 i]/\J18 [Hy e4] [Hx .u64 (Ts .u64 (Ts .u64 i*1000000000))]) (J18 [Hy e4] [Hx .u64 0])/\∀(i:Int),J18 [Hy e4] [Hx .u64 i]->bB (decide ((bF e4.length)>=(bF e1.length))) ((0<=Ts .i64 ((bF e1.length)-1)/\Ts .i64 ((bF e1.length)-1)<(bF e4.length)/\et (nth [] e4 (cF (Ts .i64 ((bF e1.length)-1))))=1)/\∃i_3,cut (nth [] e4 (cF (Ts .i64 ((bF e1.length)-1)))) 0 1 [Hx .u32 i_3]/\J20 [Hy e4] [Hx .u64 (Ts .u64 (i+Ts .u64 i_3))]) (J20 [Hy e4] [Hx .u64 i])/\∀(i:Int),J20 [Hy e4] [Hx .u64 i]->Ts .u64 i_1≠0/\bB (decide (Ts .u64 (cL i (Ts .u64 i_1))>999999999)) (J23 [Hy e4] [Hx .u64 999999999]) (J23 [Hy e4] [Hx .u64 (Ts .u64 (cL i (Ts .u64 i_1)))])/\∀(i:Int),J23 [Hy e4] [Hx .u64 i]->∃e5,Gv 309 [aL e1,Hv (Hx .u32 (Ts .u32 i))] [aL e5]/\I1 [Hy e4,dI i_2,Hy es] [Hx .u64 i,Hy e5]/\∀(i:Int) (e6:List (List D)),I1 [Hy e4,dI i_2,Hy es] [Hx .u64 i,Hy e6]->∃i_3,Gv 189 [aL e6,aL e4] [aI i_3]/\bB (decide (i_3>0)) (∃e7,Gv 310 [aL e6,aL e1] [aL e7]/\I1 [Hy e4,dI i_2,Hy es] [Hx .u64 (Ts .u64 (i-1)),Hy e7]/\M1 [Hx .u64 (Ts .u64 (i-1)),Hy e7]<M1 [Hx .u64 i,Hy e6]) (∃e7,Gv 310 [aL e4,aL e6] [aL e7]/\(0<=i_2/\i_2<(bF es.length))/\0<1/\I0 [] [Hy (upd es (cF i_2) (upd (nth [] es (cF i_2)) 0 (Hx .u32 (Ts .u32 i)))),Hy e7,dI (Ts .i64 (i_2-1))]/\M0 [Hy (upd es (cF i_2) (upd (nth [] es (cF i_2)) 0 (Hx .u32 (Ts .u32 i)))),Hy e7,dI (Ts .i64 (i_2-1))]<M0 [Hy es,Hy e3,dI i_2])) ((0<=(bF e3.length)/\(bF e3.length)<=(bF e3.length)/\room (cF (bF e3.length)))/\I2 [Hy e3] [Hy (eu (cF (bF e3.length)) [Hx .u32 0]),Hx .u64 0,dI (Ts .i64 ((bF e3.length)-1))]/\∀(e4:List (List D)) (i_3 i_4:Int),I2 [Hy e3] [Hy e4,Hx .u64 i_3,dI i_4]->bB (decide (i_4>=0)) ((0<=i_4/\i_4<(bF e3.length)/\et (nth [] e3 (cF i_4))=1)/\∃i_5,cut (nth [] e3 (cF i_4)) 0 1 [Hx .u32 i_5]/\Ts .u64 (Ts .u32 (Ts .u64 (cL (1000000000:Int) (Ts .u64 (Ts .u64 i+1)))))≠0/\(0<=i_4/\i_4<(bF e4.length))/\0<1/\Ts .u64 (Ts .u32 (Ts .u64 (cL (1000000000:Int) (Ts .u64 (Ts .u64 i+1)))))≠0/\I2 [Hy e3] [Hy (upd e4 (cF i_4) (upd (nth [] e4 (cF i_4)) 0 (Hx .u32 (Ts .u32 (Ts .u64 (cL (Ts .u64 (Ts .u64 (i_3*1000000000)+Ts .u64 i_5)) (Ts .u64 (Ts .u32 (Ts .u64 (cL (1000000000:Int) (Ts .u64 (Ts .u64 i+1)))))))))))),Hx .u64 (eb (Ts .u64 (Ts .u64 (i_3*1000000000)+Ts .u64 i_5)) (Ts .u64 (Ts .u32 (Ts .u64 (cL (1000000000:Int) (Ts .u64 (Ts .u64 i+1))))))),dI (Ts .i64 (i_4-1))]/\M2 [Hy (upd e4 (cF i_4) (upd (nth [] e4 (cF i_4)) 0 (Hx .u32 (Ts .u32 (Ts .u64 (cL (Ts .u64 (Ts .u64 (i_3*1000000000)+Ts .u64 i_5)) (Ts .u64 (Ts .u32 (Ts .u64 (cL (1000000000:Int) (Ts .u64 (Ts .u64 i+1)))))))))))),Hx .u64 (eb (Ts .u64 (Ts .u64 (i_3*1000000000)+Ts .u64 i_5)) (Ts .u64 (Ts .u32 (Ts .u64 (cL (1000000000:Int) (Ts .u64 (Ts .u64 i+1))))))),dI (Ts .i64 (i_4-1))]<M2 [Hy e4,Hx .u64 i_3,dI i_4]) (∃e5,Gv 240 [aL es] [aL e5]/\∃es,Gv 240 [aL e4] [aL es]/\Q [aL e5,aL es])))):=by kernel_rfl
end
end Eng
end
section
open Go Go.Proofs Eng
namespace Eng
section
variable (Gv:Nat->List A->List A->Prop) (I0:List D->List D->Prop) (M0:List D->Nat) (I1:List D->List D->Prop) (M1:List D->Nat) (I2:List D->List D->Prop) (M2:List D->Nat) (I3:List D->List D->Prop) (M3:List D->Nat) (Q:List A->Prop)
theorem Pb (es:List (List D)):wpF CC Gv (λ_=>⟨[.slot 0 (.slice none 0 0)],[],I0,M0⟩) Tryz.f240 [.c (.sl es)] Q=(I0 [] [Hy es]/\∀(es:List (List D)),I0 [] [Hy es]->bB (decide ((bF es.length)>0)) ((0<=Ts .i64 ((bF es.length)-1)/\Ts .i64 ((bF es.length)-1)<(bF es.length)/\et (nth [] es (cF (Ts .i64 ((bF es.length)-1))))=1)/\∃n,cut (nth [] es (cF (Ts .i64 ((bF es.length)-1)))) 0 1 [Hx .u32 n]/\bB (n==0) (((0:Int)<=(0:Int)/\0<=Ts .i64 ((bF es.length)-1)/\Ts .i64 ((bF es.length)-1)<=(bF es.length)/\lens 1 es)/\I0 [] [Hy (ez 0 (ey (cF (Ts .i64 ((bF es.length)-1))) es))]/\M0 [Hy (ez 0 (ey (cF (Ts .i64 ((bF es.length)-1))) es))]<M0 [Hy es]) (Q [aL es])) (Q [aL es])):=by kernel_rfl
theorem HO (b:Bool) (es:List (List D)):wpF CC Gv an0 Tryz.f187 [.c (.bool b),.c (.sl es)] Q=(∃e1,Gv 240 [aL es] [aL e1]/\br b (Q [aZ (decide ((bF e1.length)>0)) e1]) (Q [aZ false e1])):=by kernel_rfl
theorem L6 (n:Int):wpF CC Gv (λ_=>⟨[.own 3 15 1,.slot 0 (.int .u64 0)],[],I0,M0⟩) Tryz.f188 [.c (.int .u64 n)] Q=(I0 [] [Hy [],Hx .u64 n]/\∀(es:List (List D)) (n:Int),I0 [] [Hy es,Hx .u64 n]->bB (decide (n>0)) ((1000000000:Int)≠(0:Int)/\(room (es.length+1)/\lens 1 [[Hx .u32 (Ts .u32 (eb n (1000000000:Int)))]])/\(1000000000:Int)≠(0:Int)/\I0 [] [Hy (es++[[Hx .u32 (Ts .u32 (eb n (1000000000:Int)))]]),Hx .u64 (Ts .u64 (cL n (1000000000:Int)))]/\M0 [Hy (es++[[Hx .u32 (Ts .u32 (eb n (1000000000:Int)))]]),Hx .u64 (Ts .u64 (cL n (1000000000:Int)))]<M0 [Hy es,Hx .u64 n]) (Q [aL es])):=by kernel_rfl
theorem Ku (n:Int):wpF CC Gv an0 Tryz.f116 [.c (.int .i64 n)] Q=(bB (decide (n<0)) (∃es,Gv 188 [Hv (Hx .u64 (Ts .u64 (0-Ts .u64 n)))] [aL es]/\∃b e1,Gv 187 [aB true,aL es] [aZ b e1]/\Q [aZ b e1]) (∃es,Gv 188 [Hv (Hx .u64 (Ts .u64 n))] [aL es]/\∃b e1,Gv 187 [aB false,aL es] [aZ b e1]/\Q [aZ b e1])):=by kernel_rfl
theorem L7 (es:List (List D)):wpF CC Gv (λ_=>⟨[.slot 3 (.int .u64 0),.slot 4 (.int .i64 0)],[],I0,M0⟩) Tryz.f242 [.c (.sl es)] Q=(I0 [] [Hx .u64 0,dI (Ts .i64 ((bF es.length)-1))]/\∀(n n1:Int),I0 [] [Hx .u64 n,dI n1]->bB (decide (n1>=0)) ((0<=n1/\n1<(bF es.length)/\et (nth [] es (cF n1))=1)/\∃n2,cut (nth [] es (cF n1)) 0 1 [Hx .u32 n2]/\I0 [] [Hx .u64 (Ts .u64 (Ts .u64 (n*1000000000)+Ts .u64 n2)),dI (Ts .i64 (n1-1))]/\M0 [Hx .u64 (Ts .u64 (Ts .u64 (n*1000000000)+Ts .u64 n2)),dI (Ts .i64 (n1-1))]<M0 [Hx .u64 n,dI n1]) (Q [Hv (Hx .u64 n)])):=by kernel_rfl
theorem Pc (p:Bool) (es:List (List D)):wpF CC Gv an0 Tryz.f182 [.ag [.bool p,.sl es]] Q=(bB ((bF es.length)==0) (Q [aI (0:Int)]) (br p (Q [aI (-1:Int)]) (Q [aI (1:Int)]))):=by kernel_rfl
theorem Yd (es fs:List (List D)):wpF CC Gv (λ_=>⟨[.slot 5 (.int .i64 0)],[],I0,M0⟩) Tryz.f189 [.c (.sl es),.c (.sl fs)] Q=(bB ((bF es.length) !=(bF fs.length)) (bB (decide ((bF es.length)<(bF fs.length))) (Q [aI (-1:Int)]) (Q [aI (1:Int)])) (I0 [] [dI (Ts .i64 ((bF es.length)-1))]/\∀(n:Int),I0 [] [dI n]->bB (decide (n>=0)) ((0<=n/\n<(bF es.length)/\et (nth [] es (cF n))=1)/\∃n1,cut (nth [] es (cF n)) 0 1 [Hx .u32 n1]/\(0<=n/\n<(bF fs.length)/\et (nth [] fs (cF n))=1)/\∃n2,cut (nth [] fs (cF n)) 0 1 [Hx .u32 n2]/\bB (decide (n1<n2)) (Q [aI (-1:Int)]) ((0<=n/\n<(bF es.length)/\et (nth [] es (cF n))=1)/\∃n3,cut (nth [] es (cF n)) 0 1 [Hx .u32 n3]/\(0<=n/\n<(bF fs.length)/\et (nth [] fs (cF n))=1)/\∃n4,cut (nth [] fs (cF n)) 0 1 [Hx .u32 n4]/\bB (decide (n3>n4)) (Q [aI (1:Int)]) (I0 [] [dI (Ts .i64 (n-1))]/\M0 [dI (Ts .i64 (n-1))]<M0 [dI n]))) (Q [aI (0:Int)]))):=by kernel_rfl
theorem BL (p q:Bool) (es fs:List (List D)):wpF CC Gv an0 Tryz.f118 [.ag [.bool p,.sl es],.ag [.bool q,.sl fs]] Q=(bB (!p==q) (br p (Q [aI (-1:Int)]) (Q [aI (1:Int)])) (br p (∃n,Gv 189 [aL fs,aL es] [aI n]/\Q [aI n]) (∃n,Gv 189 [aL es,aL fs] [aI n]/\Q [aI n]))):=by kernel_rfl
end
def Gr (Gv:Nat->List A->List A->Prop) (I0:List D->List D->Prop) (M0:List D->Nat) (Q:List A->Prop) (es fs:List (List D)):Prop:=((0<=Ts .i64 ((bF es.length)+1)/\Ts .i64 ((bF es.length)+1)<=Ts .i64 ((bF es.length)+1)/\room (cF (Ts .i64 ((bF es.length)+1))))/\I0 [] [Hy (eu (cF (Ts .i64 ((bF es.length)+1))) [Hx .u32 0]),Hx .u32 0,Hx .i64 0]/\∀(e1:List (List D)) (n n1:Int),I0 [] [Hy e1,Hx .u32 n,Hx .i64 n1]->br (toB (J3 (decide (n1<(bF es.length))))) ((0<=n1/\n1<(bF es.length)/\et (nth [] es (cF n1))=1)/\∃n2,cut (nth [] es (cF n1)) 0 1 [Hx .u32 n2]/\br (toB (J3 (decide (n1<(bF fs.length))))) ((0<=n1/\n1<(bF fs.length)/\et (nth [] fs (cF n1))=1)/\∃n3,cut (nth [] fs (cF n1)) 0 1 [Hx .u32 n3]/\(1000000000:Int)≠(0:Int)/\(0<=n1/\n1<(bF e1.length))/\0<1/\(1000000000:Int)≠(0:Int)/\I0 [] [Hy (upd e1 (cF n1) (upd (nth [] e1 (cF n1)) 0 (Hx .u32 (eb (Ts .u32 (Ts .u32 (n+n2)+n3)) (1000000000:Int))))),Hx .u32 (Ts .u32 (cL (Ts .u32 (Ts .u32 (n+n2)+n3)) (1000000000:Int))),Hx .i64 (Ts .i64 (n1+1))]/\M0 [Hy (upd e1 (cF n1) (upd (nth [] e1 (cF n1)) 0 (Hx .u32 (eb (Ts .u32 (Ts .u32 (n+n2)+n3)) (1000000000:Int))))),Hx .u32 (Ts .u32 (cL (Ts .u32 (Ts .u32 (n+n2)+n3)) (1000000000:Int))),Hx .i64 (Ts .i64 (n1+1))]<M0 [Hy e1,Hx .u32 n,Hx .i64 n1]) ((1000000000:Int)≠(0:Int)/\(0<=n1/\n1<(bF e1.length))/\0<1/\(1000000000:Int)≠(0:Int)/\I0 [] [Hy (upd e1 (cF n1) (upd (nth [] e1 (cF n1)) 0 (Hx .u32 (eb (Ts .u32 (n+n2)) (1000000000:Int))))),Hx .u32 (Ts .u32 (cL (Ts .u32 (n+n2)) (1000000000:Int))),Hx .i64 (Ts .i64 (n1+1))]/\M0 [Hy (upd e1 (cF n1) (upd (nth [] e1 (cF n1)) 0 (Hx .u32 (eb (Ts .u32 (n+n2)) (1000000000:Int))))),Hx .u32 (Ts .u32 (cL (Ts .u32 (n+n2)) (1000000000:Int))),Hx .i64 (Ts .i64 (n1+1))]<M0 [Hy e1,Hx .u32 n,Hx .i64 n1])) ((0<=(bF es.length)/\(bF es.length)<(bF e1.length))/\0<1/\∃e2,Gv 240 [Hv (Hy (upd e1 (cF (bF es.length)) (upd (nth [] e1 (cF (bF es.length))) 0 (Hx .u32 n))))] [Hv (Hy e2)]/\Q [Hv (Hy e2)]))
section
variable (Gv:Nat->List A->List A->Prop) (I0:List D->List D->Prop) (M0:List D->Nat) (I1:List D->List D->Prop) (M1:List D->Nat) (I2:List D->List D->Prop) (M2:List D->Nat) (I3:List D->List D->Prop) (M3:List D->Nat) (Q:List A->Prop)
theorem Gs (es fs:List (List D)):wpF CC Gv (λ_=>⟨[.own 5 55 1,.slot 6 (.int .u32 0),.slot 7 (.int .i64 0)],[],I0,M0⟩) Tryz.f359 [.c (.sl es),.c (.sl fs)] Q=(bB (decide ((bF es.length)<(bF fs.length))) (Gr Gv I0 M0 Q fs es) (Gr Gv I0 M0 Q es fs)):=by kernel_rfl
theorem L8 (es fs:List (List D)):wpF CC Gv (λ_=>⟨[.own 5 45 1,.slot 6 (.int .u32 0),.slot 7 (.int .i64 0)],[],I0,M0⟩) Tryz.f310 [.c (.sl es),.c (.sl fs)] Q=((0<=(bF es.length)/\(bF es.length)<=(bF es.length)/\room (cF (bF es.length)))/\I0 [] [Hy (eu (cF (bF es.length)) [Hx .u32 0]),Hx .u32 0,dI (0:Int)]/\∀(e1:List (List D)) (n n1:Int),I0 [] [Hy e1,Hx .u32 n,dI n1]->bB (decide (n1<(bF es.length))) ((0<=n1/\n1<(bF es.length)/\et (nth [] es (cF n1))=1)/\∃n2,cut (nth [] es (cF n1)) 0 1 [Hx .u32 n2]/\bB (decide (n1<(bF fs.length))) ((0<=n1/\n1<(bF fs.length)/\et (nth [] fs (cF n1))=1)/\∃n3,cut (nth [] fs (cF n1)) 0 1 [Hx .u32 n3]/\bB (decide (Ts .u32 (Ts .u32 (Ts .u32 (n2+1000000000)-n)-n3)>=1000000000)) ((0<=n1/\n1<(bF e1.length))/\0<1/\I0 [] [Hy (upd e1 (cF n1) (upd (nth [] e1 (cF n1)) 0 (Hx .u32 (Ts .u32 (Ts .u32 (Ts .u32 (Ts .u32 (n2+1000000000)-n)-n3)-1000000000))))),Hx .u32 0,dI (Ts .i64 (n1+1))]/\M0 [Hy (upd e1 (cF n1) (upd (nth [] e1 (cF n1)) 0 (Hx .u32 (Ts .u32 (Ts .u32 (Ts .u32 (Ts .u32 (n2+1000000000)-n)-n3)-1000000000))))),Hx .u32 0,dI (Ts .i64 (n1+1))]<M0 [Hy e1,Hx .u32 n,dI n1]) ((0<=n1/\n1<(bF e1.length))/\0<1/\I0 [] [Hy (upd e1 (cF n1) (upd (nth [] e1 (cF n1)) 0 (Hx .u32 (Ts .u32 (Ts .u32 (Ts .u32 (n2+1000000000)-n)-n3))))),Hx .u32 1,dI (Ts .i64 (n1+1))]/\M0 [Hy (upd e1 (cF n1) (upd (nth [] e1 (cF n1)) 0 (Hx .u32 (Ts .u32 (Ts .u32 (Ts .u32 (n2+1000000000)-n)-n3))))),Hx .u32 1,dI (Ts .i64 (n1+1))]<M0 [Hy e1,Hx .u32 n,dI n1])) (bB (decide (Ts .u32 (Ts .u32 (n2+1000000000)-n)>=1000000000)) ((0<=n1/\n1<(bF e1.length))/\0<1/\I0 [] [Hy (upd e1 (cF n1) (upd (nth [] e1 (cF n1)) 0 (Hx .u32 (Ts .u32 (Ts .u32 (Ts .u32 (n2+1000000000)-n)-1000000000))))),Hx .u32 0,dI (Ts .i64 (n1+1))]/\M0 [Hy (upd e1 (cF n1) (upd (nth [] e1 (cF n1)) 0 (Hx .u32 (Ts .u32 (Ts .u32 (Ts .u32 (n2+1000000000)-n)-1000000000))))),Hx .u32 0,dI (Ts .i64 (n1+1))]<M0 [Hy e1,Hx .u32 n,dI n1]) ((0<=n1/\n1<(bF e1.length))/\0<1/\I0 [] [Hy (upd e1 (cF n1) (upd (nth [] e1 (cF n1)) 0 (Hx .u32 (Ts .u32 (Ts .u32 (n2+1000000000)-n))))),Hx .u32 1,dI (Ts .i64 (n1+1))]/\M0 [Hy (upd e1 (cF n1) (upd (nth [] e1 (cF n1)) 0 (Hx .u32 (Ts .u32 (Ts .u32 (n2+1000000000)-n))))),Hx .u32 1,dI (Ts .i64 (n1+1))]<M0 [Hy e1,Hx .u32 n,dI n1]))) (∃es,Gv 240 [aL e1] [aL es]/\Q [aL es])):=by kernel_rfl
theorem L9 (es fs:List (List D)):wpF CC Gv (YR ⟨[.own 5 68 1,.slot 6 (.int .i64 0)],[],I0,M0⟩ ⟨[.own 5 68 1,.slot 7 (.int .u64 0),.slot 8 (.int .i64 0)],[.slot 6 (.int .i64 0),.own 5 68 1],I1,M1⟩) Tryz.f190 [.c (.sl es),.c (.sl fs)] Q=((0<=Ts .i64 ((bF es.length)+(bF fs.length))/\Ts .i64 ((bF es.length)+(bF fs.length))<=Ts .i64 ((bF es.length)+(bF fs.length))/\room (cF (Ts .i64 ((bF es.length)+(bF fs.length)))))/\I0 [] [Hy (eu (cF (Ts .i64 ((bF es.length)+(bF fs.length)))) [Hx .u32 0]),dI (0:Int)]/\∀(e1:List (List D)) (n:Int),I0 [] [Hy e1,dI n]->bB (decide (n<(bF es.length))) (I1 [dI n,Hy e1] [Hy e1,Hx .u64 0,dI (0:Int)]/\∀(e2:List (List D)) (n1 n2:Int),I1 [dI n,Hy e1] [Hy e2,Hx .u64 n1,dI n2]->bB (decide (n2<(bF fs.length))) ((0<=Ts .i64 (n+n2)/\Ts .i64 (n+n2)<(bF e2.length))/\∃n3,cut (nth [] e2 (cF (Ts .i64 (n+n2)))) 0 1 [Hx .u32 n3]/\(0<=n/\n<(bF es.length)/\et (nth [] es (cF n))=1)/\∃n4,cut (nth [] es (cF n)) 0 1 [Hx .u32 n4]/\(0<=n2/\n2<(bF fs.length)/\et (nth [] fs (cF n2))=1)/\∃n5,cut (nth [] fs (cF n2)) 0 1 [Hx .u32 n5]/\(1000000000:Int)≠(0:Int)/\(0<=Ts .i64 (n+n2)/\Ts .i64 (n+n2)<(bF e2.length))/\0<1/\(1000000000:Int)≠(0:Int)/\I1 [dI n,Hy e1] [Hy (upd e2 (cF (Ts .i64 (n+n2))) (upd (nth [] e2 (cF (Ts .i64 (n+n2)))) 0 (Hx .u32 (Ts .u32 (eb (Ts .u64 (Ts .u64 (n1+Ts .u64 n3)+Ts .u64 (Ts .u64 n4*Ts .u64 n5))) (1000000000:Int)))))),Hx .u64 (Ts .u64 (cL (Ts .u64 (Ts .u64 (n1+Ts .u64 n3)+Ts .u64 (Ts .u64 n4*Ts .u64 n5))) (1000000000:Int))),dI (Ts .i64 (n2+1))]/\M1 [Hy (upd e2 (cF (Ts .i64 (n+n2))) (upd (nth [] e2 (cF (Ts .i64 (n+n2)))) 0 (Hx .u32 (Ts .u32 (eb (Ts .u64 (Ts .u64 (n1+Ts .u64 n3)+Ts .u64 (Ts .u64 n4*Ts .u64 n5))) (1000000000:Int)))))),Hx .u64 (Ts .u64 (cL (Ts .u64 (Ts .u64 (n1+Ts .u64 n3)+Ts .u64 (Ts .u64 n4*Ts .u64 n5))) (1000000000:Int))),dI (Ts .i64 (n2+1))]<M1 [Hy e2,Hx .u64 n1,dI n2]) ((0<=Ts .i64 (n+(bF fs.length))/\Ts .i64 (n+(bF fs.length))<(bF e2.length))/\0<1/\I0 [] [Hy (upd e2 (cF (Ts .i64 (n+(bF fs.length)))) (upd (nth [] e2 (cF (Ts .i64 (n+(bF fs.length))))) 0 (Hx .u32 (Ts .u32 n1)))),dI (Ts .i64 (n+1))]/\M0 [Hy (upd e2 (cF (Ts .i64 (n+(bF fs.length)))) (upd (nth [] e2 (cF (Ts .i64 (n+(bF fs.length))))) 0 (Hx .u32 (Ts .u32 n1)))),dI (Ts .i64 (n+1))]<M0 [Hy e1,dI n])) (∃es,Gv 240 [aL e1] [aL es]/\Q [aL es])):=by kernel_rfl
theorem FN (es:List (List D)) (n:Int):wpF CC Gv an0 Tryz.f309 [.c (.sl es),.c (.int .u32 n)] Q=(∃e1,Gv 240 [aL [[Hx .u32 n]]] [aL e1]/\∃e2,Gv 190 [aL es,aL e1] [aL e2]/\Q [aL e2]):=by kernel_rfl
theorem BM (p:Bool) (es:List (List D)):wpF CC Gv an0 Tryz.f311 [.ag [.bool p,.sl es]] Q=(∃b e1,Gv 187 [aB (!p),aL es] [aZ b e1]/\Q [aZ b e1]):=by kernel_rfl
theorem BN (p q:Bool) (es fs:List (List D)):wpF CC Gv an0 Tryz.f308 [.ag [.bool p,.sl es],.ag [.bool q,.sl fs]] Q=(bB (p==q) (∃e1,Gv 359 [aL es,aL fs] [aL e1]/\∃b es,Gv 187 [aB p,aL e1] [aZ b es]/\Q [aZ b es]) (∃n,Gv 189 [aL es,aL fs] [aI n]/\bB (decide (n>=0)) (∃e1,Gv 310 [aL es,aL fs] [aL e1]/\∃b es,Gv 187 [aB p,aL e1] [aZ b es]/\Q [aZ b es]) (∃e1,Gv 310 [aL fs,aL es] [aL e1]/\∃b es,Gv 187 [aB q,aL e1] [aZ b es]/\Q [aZ b es]))):=by kernel_rfl
theorem BO (p q:Bool) (es fs:List (List D)):wpF CC Gv an0 Tryz.f387 [.ag [.bool p,.sl es],.ag [.bool q,.sl fs]] Q=(∃b e1,Gv 311 [aZ q fs] [aZ b e1]/\∃b1 e2,Gv 308 [aZ p es,aZ b e1] [aZ b1 e2]/\Q [aZ b1 e2]):=by kernel_rfl
theorem BP (p q:Bool) (es fs:List (List D)):wpF CC Gv an0 Tryz.f119 [.ag [.bool p,.sl es],.ag [.bool q,.sl fs]] Q=(∃e1,Gv 190 [aL es,aL fs] [aL e1]/\∃b es,Gv 187 [Hv (J3 !p==q),aL e1] [aZ b es]/\Q [aZ b es]):=by kernel_rfl
theorem BQ (p q:Bool) (es fs:List (List D)):wpF CC Gv (YR ⟨[.slot 5 (.slice none 0 0),.slot 6 (.slice none 0 0)],[],I0,M0⟩ ⟨[.slot 9 (.int .u64 0),.slot 10 (.int .u64 0)],[],I1,M1⟩) Tryz.f184 [.ag [.bool p,.sl es],.ag [.bool q,.sl fs]] Q=(I0 [] [Hy es,Hy fs]/\∀(es e1:List (List D)),I0 [] [Hy es,Hy e1]->bB (decide ((bF e1.length)>0)) (bB (decide ((bF es.length)>2)) (∃e2 e3,Gv 241 [aL es,aL e1] [aL e2,aL e3]/\I0 [] [Hy e1,Hy e3]/\M0 [Hy e1,Hy e3]<M0 [Hy es,Hy e1]) (bB (decide ((bF e1.length)>2)) (∃e2 e3,Gv 241 [aL es,aL e1] [aL e2,aL e3]/\I0 [] [Hy e1,Hy e3]/\M0 [Hy e1,Hy e3]<M0 [Hy es,Hy e1]) (bB ((bF e1.length)==0) (∃b e2,Gv 187 [aB false,aL es] [aZ b e2]/\Q [aZ b e2]) (∃n,Gv 242 [aL es] [Hv (Hx .u64 n)]/\∃n1,Gv 242 [aL e1] [Hv (Hx .u64 n1)]/\I1 [] [Hx .u64 n,Hx .u64 n1]/\∀(n n2:Int),I1 [] [Hx .u64 n,Hx .u64 n2]->bB (decide (n2>0)) (n2≠0/\I1 [] [Hx .u64 n2,Hx .u64 (eb n n2)]/\M1 [Hx .u64 n2,Hx .u64 (eb n n2)]<M1 [Hx .u64 n,Hx .u64 n2]) (∃es,Gv 188 [Hv (Hx .u64 n)] [aL es]/\∃b e2,Gv 187 [aB false,aL es] [aZ b e2]/\Q [aZ b e2]))))) (bB ((bF e1.length)==0) (∃b e2,Gv 187 [aB false,aL es] [aZ b e2]/\Q [aZ b e2]) (∃n,Gv 242 [aL es] [Hv (Hx .u64 n)]/\∃n1,Gv 242 [aL e1] [Hv (Hx .u64 n1)]/\I1 [] [Hx .u64 n,Hx .u64 n1]/\∀(n n2:Int),I1 [] [Hx .u64 n,Hx .u64 n2]->bB (decide (n2>0)) (n2≠0/\I1 [] [Hx .u64 n2,Hx .u64 (eb n n2)]/\M1 [Hx .u64 n2,Hx .u64 (eb n n2)]<M1 [Hx .u64 n,Hx .u64 n2]) (∃es,Gv 188 [Hv (Hx .u64 n)] [aL es]/\∃b e2,Gv 187 [aB false,aL es] [aZ b e2]/\Q [aZ b e2])))):=by kernel_rfl
theorem HP (p q:Bool) (es fs:List (List D)):wpF CC Gv an0 Tryz.f345 [.ag [.bool p,.sl es],.ag [.bool q,.sl fs]] Q=(bB ((bF fs.length)==0) (Q [aZ false [],aZ false [],aI (6:Int)]) (∃e1 e2,Gv 241 [aL es,aL fs] [aL e1,aL e2]/\∃b es,Gv 187 [Hv (J3 !p==q),aL e1] [aZ b es]/\∃b1 e3,Gv 187 [aB p,aL e2] [aZ b1 e3]/\bB (decide ((bF e2.length)>0)) (bB (!p==q) (∃b2 e4,Gv 116 [aI (1:Int)] [aZ b2 e4]/\∃b3 e5,Gv 387 [aZ b es,aZ b2 e4] [aZ b3 e5]/\∃b es,Gv 308 [aZ b1 e3,aZ q fs] [aZ b es]/\Q [aZ b3 e5,aZ b es,aI (0:Int)]) (Q [aZ b es,aZ b1 e3,aI (0:Int)])) (Q [aZ b es,aZ b1 e3,aI (0:Int)]))):=by kernel_rfl
end
end Eng
end
section
namespace Eng
open Go Go.Proofs
variable [Env]
omit [Env] in
theorem Kv {n:Nat} (h:0<n):lim n=n%1000000000::lim (n/1000000000):=by
 have e:n=val (n%1000000000::lim (n/1000000000)):=by simp only[val,qi];omega
 conv=>lhs;rw[e]
 refine vp (Sz (ie _ (by omega)) (qc _)) (.inr ?_);rw[List.getLast?_cons];rcases jk (n/1000000000)with h1|h1
 .rw[h1];have:n/1000000000=0:=yg.1 h1;simp;omega
 .cases hh:(lim (n/1000000000)).getLast? with
  |none=>have:n/1000000000=0:=yg.1 (List.getLast?_eq_none_iff.1 hh);simp;omega
  |some x=>rw[hh]at h1;simpa using h1
omit [Env] in
theorem qE (z:Int):qL z= .ag [.bool (decide (z<0)),.sl (raw (lim z.natAbs))]:=rfl
theorem j1 {l:List Nat} (hl:Limbs l) (hr:l.length<=1073741824):Gives CC 240 [.c (.sl (raw l))] [.c (.sl (raw (lim (val l))))]:=by
 refine qm (anns:=λ_=>⟨[.slot 0 (.slice none 0 0)],[],λ_ ds=>∃k,k<=l.length/\ds=[.sl (raw (l.take k))]/\val (l.take k)=val l,λds=>(toL (nth .undef ds 0)).length⟩) mixedT Tryz.func240 ?_;rw[Pb];simp only[ea];refine⟨⟨l.length,kh _,by rw[fg],by rw[fg]⟩,?_⟩;rintro es ⟨k,hk,he,hv⟩;simp only[h7,Pl,and_true]at he;subst he;have a0:(raw (l.take k)).length=k:=by rw[qe,eH];omega
 have a1:(k=0\/∃h:k-1<l.length,l[k-1]≠0)->[Hv (Hy (raw (l.take k)))]=[Hv (Hy (raw (lim (val l))))]:=by
  intro h;rw[<-hv,vp (hl.take k)];rcases h with rfl|⟨h,hne⟩
  .exact .inl (by simp)
  .refine .inr ?_;rw[List.getLast?_take];split
   .simp
   .rw[gn h]
    simpa using hne
 refine brd (λh=>?_) (λh=>?_)
 .rw[a0]at h ⊢;have hk0:0<k:=by omega
  have hw:Ts .i64 ((k:Int)-1)=((k-1:Nat):Int):=by rw[xb];omega
  rw[hw];have a2:k-1<(l.take k).length:=by rw[eH];omega
  have hg:(l.take k)[k-1]=l[k-1]:=List.getElem_take ..;refine⟨⟨by omega,by omega,qz a2⟩,_,qA a2,brb (λhz=>?_) (λhz=>?_)⟩
  .have hz:l[k-1]=0:=by rw[hg]at hz;simpa using hz
   refine⟨⟨by omega,by omega,by omega,zG _⟩,⟨k-1,by omega,?_,?_⟩,?_⟩
   .simp only[cH,jz,fR,gz];congr 4;omega
   .have:l.take k=l.take (k-1)++[l[k-1]]:=by have:=List.take_succ_eq_append_getElem (l:=l) (i:=k-1) (by omega);rw[show k-1+1=k by omega]at this;exact this
    rw[<-hv,this,hz,qR];simp[val]
   .simp only[cH,nth,toL,fR,eH,a0];omega
  .exact a1 (.inr ⟨by omega,by rw[hg]at hz;simpa using hz⟩)
 .rw[a0]at h;exact a1 (.inl (by omega))
theorem HQ {l:List Nat} (b:Bool) (hl:Limbs l) (hr:l.length<=1073741824):Gives CC 187 [.c (.bool b),.c (.sl (raw l))] [.ag [.bool (b&&decide (0<val l)),.sl (raw (lim (val l)))]]:=by
 refine qm (anns:=an0) mixedT Tryz.func187 ?_;rw[HO];refine⟨_,j1 hl hr,?_⟩;have hd:decide ((bF (et (raw (lim (val l)))))>(0:Int))=decide (0<val l):=by rw[decide_eq_decide,qe,<-qD (n:=val l)];simp only[ea];omega
 rw[hd];refine Qd (λhb=>?_) (λhb=>?_)
 .subst hb;rw[Bx]
 .subst hb;rw[F0]
theorem xf {l:List Nat} (b:Bool) (hl:Limbs l) (hr:l.length<=1073741824) {z:Int} (hz:z=if b then-(val l:Int)else(val l:Int)):
 Gives CC 187 [.c (.bool b),.c (.sl (raw l))] [qL z]:=by
 have h:=HQ b hl hr;have e:qL z= .ag [.bool (b&&decide (0<val l)),.sl (raw (lim (val l)))]:=by
  unfold qL cI;cases b with
  |false=>simp only[Dd,if_false]at hz;subst hz;rw[eg,F0,decide_eq_false (by omega)]
  |true=>simp only[if_true]at hz;subst hz;rw[en,eg,Bx];congr 3;rw[decide_eq_decide];omega
 rw[e];exact h
theorem wU {u:Nat} (hu:u<18446744073709551616):Gives CC 188 [.c (.int .u64 (u:Int))] [.c (.sl (raw (lim u)))]:=by
 have h3:(lim u).length<=3:=qp (hO hu (by decide));refine qm (anns:=λ_=>⟨[.own 3 15 1,.slot 0 (.int .u64 0)],[],λ_ ds=>∃(h:List Nat) (v:Nat),ds=[.sl (raw h),.int .u64 (v:Int)]/\v<=u/\lim u=h++lim v,λds=>(toI (nth .undef ds 1)).toNat⟩) mixedT Tryz.func188 ?_;rw[L6];refine⟨⟨[],u,rfl,kh _,rfl⟩,?_⟩;rintro es n ⟨h,v,he,hv,hl⟩;simp only[h7,Pl,No,true_and,and_true]at he;obtain⟨rfl,rfl⟩:=he;have hlen:h.length<=3:=by have:=congrArg et hl;rw[ft]at this;omega
 refine brd (λh0=>?_) (λh0=>?_)
 .have a0:0<v:=by omega
  rw[HJ,HK,j0,xH];refine⟨by omega,⟨by rw[qe];unfold room;omega,zG [v%1000000000]⟩,by omega,⟨h++[v%1000000000],v/1000000000,?_,by omega,?_⟩,?_⟩
  .rw[qZ];rfl
  .rw[hl,Kv a0,fS];rfl
  .simp only[nth,toI,cH];omega
 .have a0:v=0:=by omega
  subst a0;rw[hl,Ki,gy]
theorem zI {n:Int} (h1: -9223372036854775808<=n) (h2:n<9223372036854775808):Gives CC 116 [.c (.int .i64 n)] [qL n]:=by
 refine qm (anns:=an0) mixedT Tryz.func116 ?_;rw[Ku];have hl:∀u:Nat,u<18446744073709551616->(lim u).length<=1073741824:=λu hu=>by have:(lim u).length<=3:=qp (hO hu (by decide));omega
 refine brd (λh=>?_) (λh=>?_)
 .obtain⟨u,rfl⟩:∃u:Nat,n= -(u:Int):=⟨n.natAbs,by omega⟩;have e:Ts .u64 (0-Ts .u64 (-(u:Int)))=(u:Int):=by simp[Ts,IntKind.bits,IntKind.signed];omega
  rw[e];exact⟨_,wU (by omega),_,_,xf true (qc u) (hl u (by omega)) (z:= -(u:Int)) (by simp[qi]),rfl⟩
 .obtain⟨u,rfl⟩:∃u:Nat,n=(u:Int):=⟨n.natAbs,by omega⟩;rw[xH];exact⟨_,wU (by omega),_,_,xf false (qc u) (hl u (by omega)) (z:=(u:Int)) (by simp[qi]),rfl⟩
theorem yT {l:List Nat} (hl:Limbs l) (h2:l.length<=2):Gives CC 242 [.c (.sl (raw l))] [.c (.int .u64 (val l:Int))]:=by
 refine qm (anns:=λ_=>⟨[.slot 3 (.int .u64 0),.slot 4 (.int .i64 0)],[],λ_ ds=>∃k:Nat,k<=l.length/\ds=[.int .u64 (val (l.drop k):Int),.int .i64 ((k:Int)-1)],λds=>(toI (nth .undef ds 1)+1).toNat⟩) mixedT Tryz.func242 ?_;rw[L7];simp only[ea,qe];refine⟨⟨l.length,kh _,by rw[gb,xb];rfl⟩,?_⟩;rintro n m ⟨k,hk,he⟩;simp only[h7,No,true_and,and_true]at he;obtain⟨rfl,rfl⟩:=he;refine brd (λh=>?_) (λh=>?_)
 .have a0:k-1<l.length:=by omega
  have ht:((k:Int)-1).toNat=k-1:=by omega
  rw[ht];have hd:val (l.drop (k-1))=l[k-1]+1000000000*val (l.drop k):=by rw[fe a0,show k-1+1=k by omega];rfl
  have hlt:=qS (hl.drop k);have hdl:(l.drop k).length<=1:=by rw[fk];omega
  have hlt2:val (l.drop k)<1000000000:=by have:1000000000^(l.drop k).length<=1000000000^1:=im (by omega) hdl;omega
  have hx:=hl.get a0;have hw:Ts .u64 (Ts .u64 ((val (l.drop k):Int)*1000000000)+Ts .u64 (l[k-1]:Int))=(val (l.drop (k-1)):Int):=by rw[xH (n:=(val (l.drop k):Int)*1000000000),xH (n:=(l[k-1]:Int)),xH];omega
  have a1:Ts .i64 ((k:Int)-1-1)=((k-1:Nat):Int)-1:=by rw[xb];omega
  refine⟨⟨by omega,by omega,qz a0⟩,_,qA a0,⟨k-1,by omega,by rw[hw,a1]⟩,?_⟩;rw[a1];simp only[nth,toI];omega
 .have a0:k=0:=by omega
  subst a0;rw[fR]
theorem yU (z:Int):Gives CC 182 [qL z] [.c (.int .i64 (sgn z))]:=by
 refine qm (anns:=an0) mixedT Tryz.func182 ?_;rw[qE,Pc];simp only[ea,qe];unfold sgn;refine brb (λh=>?_) (λh=>?_)
 .have h0:(lim z.natAbs).length=0:=by simpa using h
  have:z.natAbs=0:=yg.1 (fz h0);rw[if_neg (by omega),if_neg (by omega)]
 .have h0:(lim z.natAbs).length≠0:=by simpa using h
  have:0<z.natAbs:=qD.1 (by omega);refine Qd (λh=>?_) (λh=>?_)
  .rw[if_pos (by simpa using h)]
  .have:¬z<0:=by simpa using h
   rw[if_neg this,if_pos (by omega)]
theorem jM {x y:Nat} (hra:(lim x).length<=1073741824) (hrb:(lim y).length<=1073741824):Gives CC 189 [.c (.sl (raw (lim x))),.c (.sl (raw (lim y)))] [.c (.int .i64 (Qe x y))]:=by
 generalize hA:lim x=A at *;generalize hB:lim y=B at *;have lA:Limbs A:=hA▸qc _;have lB:Limbs B:=hB▸qc _;have vA:val A=x:=hA▸qi _;have vB:val B=y:=hB▸qi _;have zA:A=[]\/A.getLast?≠some 0:=hA▸jk _;have zB:B=[]\/B.getLast?≠some 0:=hB▸jk _;refine qm (anns:=λ_=>⟨[.slot 5 (.int .i64 0)],[],λ_ ds=>∃k:Nat,k<=A.length/\ds=[.int .i64 ((k:Int)-1)]/\A.drop k=B.drop k,λds=>(toI (nth .undef ds 0)+1).toNat⟩) mixedT Tryz.func189 ?_;rw[Yd];simp only[ea,qe];refine brb (λh=>?_) (λh=>?_)
 .have h:A.length≠B.length:=by intro e;rw[e]at h;simp at h
  refine brd (λh1=>?_) (λh1=>?_)
  .have a2:B≠[]:=(by intro e;have h0:B.length=0:=(by rw[e];rfl);omega);have:=QG lA (zB.resolve_left a2) a2 (by omega);rw[Qe,if_pos (by omega)]
  .have a2:A≠[]:=(by intro e;have h0:A.length=0:=(by rw[e];rfl);omega);have:=QG lB (zA.resolve_left a2) a2 (by omega);rw[Qe,if_neg (by omega),if_pos (by omega)]
 .have h:A.length=B.length:=by
   have:(A.length:Int)=B.length:=by simpa using h
   omega
  refine⟨⟨A.length,kh _,by rw[xb],by rw[gb,h,gb]⟩,?_⟩;rintro n ⟨k,hk,he,hd⟩;simp only[h7,No,true_and,and_true]at he;subst he;refine brd (λh1=>?_) (λh1=>?_)
  .have a0:k-1<A.length:=by omega
   have a1:k-1<B.length:=by omega
   have ht:((k:Int)-1).toNat=k-1:=by omega
   have a3:A.drop (k-1+1)=B.drop (k-1+1):=by rw[show k-1+1=k by omega];exact hd
   rw[ht];refine⟨⟨by omega,by omega,qz a0⟩,_,qA a0,⟨by omega,by omega,qz a1⟩,_,qA a1,brd (λh2=>?_) (λh2=>?_)⟩
   .have:=kW lA h a0 a3 (by omega);rw[Qe,if_pos (by omega)]
   .refine⟨⟨by omega,by omega,qz a0⟩,_,qA a0,⟨by omega,by omega,qz a1⟩,_,qA a1,brd (λh3=>?_) (λh3=>?_)⟩
    .have:=kW lB h.symm a1 a3.symm (by omega);rw[Qe,if_neg (by omega),if_pos (by omega)]
    .have hw:Ts .i64 ((k:Int)-1-1)=((k-1:Nat):Int)-1:=by rw[xb];omega
     rw[hw];refine⟨⟨k-1,by omega,rfl,?_⟩,?_⟩
     .rw[fe a0,fe a1,a3];congr 1;omega
     .simp only[nth,toI];omega
  .have a0:k=0:=by omega
   subst a0;have:A=B:=by simpa using hd
   rw[Qe,<-vA,<-vB,this,if_neg (by omega),if_neg (by omega)]
theorem Kw {x y:Int} (hx:Sm x) (hy:Sm y):Gives CC 118 [qL x,qL y] [.c (.int .i64 (kd x y))]:=by
 refine qm (anns:=an0) mixedT Tryz.func118 ?_;have lx:=hx.len;have ly:=hy.len;rw[qE x,qE y,BL];have c1:=jM (x:=x.natAbs) (y:=y.natAbs) (by omega) (by omega);have c2:=jM (x:=y.natAbs) (y:=x.natAbs) (by omega) (by omega);refine brb (λh=>?_) (λh=>?_)
 .refine Qd (λh1=>?_) (λh1=>?_)
  .have h1:x<0:=by simpa using h1
   have h2:¬y<0:=by intro h2;rw[decide_eq_true h1,decide_eq_true h2]at h;simp at h
   rw[kd,if_pos (by omega)]
  .have h1:¬x<0:=by simpa using h1
   have h2:y<0:=by apply Hu;intro h2;rw[decide_eq_false h1,decide_eq_false h2]at h;simp at h
   rw[kd,if_neg (by omega),if_pos (by omega)]
 .refine Qd (λh1=>?_) (λh1=>?_)
  .have h1:x<0:=by simpa using h1
   have h2:y<0:=by apply Hu;intro h2;rw[decide_eq_true h1,decide_eq_false h2]at h;simp at h
   refine⟨_,c2,?_⟩;have:Qe y.natAbs x.natAbs=kd x y:=by
    unfold Qe kd;by_cases h3:x<y
    .rw[if_pos h3,if_pos (by omega)]
    .rw[if_neg h3,if_neg (by omega)];by_cases h4:y<x
     .rw[if_pos h4,if_pos (by omega)]
     .rw[if_neg h4,if_neg (by omega)]
   rw[this]
  .have h1:¬x<0:=by simpa using h1
   have h2:¬y<0:=by intro h2;rw[decide_eq_false h1,decide_eq_true h2]at h;simp at h
   refine⟨_,c1,?_⟩;have:Qe x.natAbs y.natAbs=kd x y:=by
    unfold Qe kd;by_cases h3:x<y
    .rw[if_pos h3,if_pos (by omega)]
    .rw[if_neg h3,if_neg (by omega)];by_cases h4:y<x
     .rw[if_pos h4,if_pos (by omega)]
     .rw[if_neg h4,if_neg (by omega)]
   rw[this]
omit [Env] in
theorem Pd {o:List Nat} {k c:Nat} (ho:o.length=k):(o++[0]).set k c=o++[c]:=by
 rw[List.set_append_right _ _ (by omega),ho];simp
def qpI (a b:List Nat):List D->List D->Prop:=λ_ ds=>∃(k:Nat) (o:List Nat) (c:Nat),k<=a.length/\o.length=k/\ds=[.sl (raw (o++eu (a.length+1-k) 0)),.int .u32 (c:Int),.int .i64 (k:Int)]/\Limbs o/\c<=1/\val o+1000000000^k*c=val (a.take k)+val (b.take k)
def qpM (a:List Nat):List D->Nat:=λds=>a.length-(toI (nth .undef ds 2)).toNat
theorem Jz {a b:List Nat} (ha:Limbs a) (hb:Limbs b) (hra:a.length<=1073741823) (hab:b.length<=a.length):
 Gr (Gives CC) (qpI a b) (qpM a)
  (λr=>r=[.c (.sl (raw (lim (val a+val b))))]) (raw a) (raw b):=by
 unfold Gr qpI qpM;simp only[ea,qe];have hn:Ts .i64 ((a.length:Int)+1)=((a.length+1:Nat):Int):=by rw[xb];omega
 rw[hn,cH];refine⟨⟨by omega,by omega,by unfold room;omega⟩,⟨0,[],0,by omega,rfl,by rw[xn];rfl,Tk,by omega,by simp[val]⟩,?_⟩;rintro es n m ⟨k,o,c,hk,ho,he,lo,hc,hv⟩;simp only[h7,No,Pl,true_and,and_true]at he;obtain⟨rfl,rfl,rfl⟩:=he;have a1:(o++eu (a.length+1-k) 0).length=a.length+1:=by simp[ho];omega
 refine brd (λh1=>?_) (λh1=>?_)
 .have a0:k<a.length:=by omega
  have hxk:=ha.get a0;have hk1:Ts .i64 ((k:Int)+1)=((k+1:Nat):Int):=by rw[xb];omega
  rw[cH,hk1,qe,a1];have a3:∀(t:Nat),t<=1999999999->t=a[k]+c+b.getD k 0->
   (((0:Int)<=(k:Int)/\(k:Int)<((a.length+1:Nat):Int))/\0<1/\(1000000000:Int)≠0/\
     (∃(k':Nat) (o':List Nat) (c':Nat),k'<=a.length/\o'.length=k'/\[Hy (upd (raw (o++eu (a.length+1-k) 0)) k (upd (nth [] (raw (o++eu (a.length+1-k) 0)) k) 0 (Hx .u32 (eb (t:Int) 1000000000)))),Hx .u32 (Ts .u32 (cL (t:Int) 1000000000)),Hx .i64 ((k+1:Nat):Int)]=
        [.sl (raw (o'++eu (a.length+1-k') 0)),.int .u32 (c':Int),.int .i64 (k':Int)]/\Limbs o'/\c'<=1/\val o'+1000000000^k'*c'=val (a.take k')+val (b.take k'))/\
     a.length-(toI (nth .undef [Hy (upd (raw (o++eu (a.length+1-k) 0)) k (upd (nth [] (raw (o++eu (a.length+1-k) 0)) k) 0 (Hx .u32 (eb (t:Int) 1000000000)))),Hx .u32 (Ts .u32 (cL (t:Int) 1000000000)),Hx .i64 ((k+1:Nat):Int)] 2)).toNat<
      a.length-(toI (nth .undef [Hy (raw (o++eu (a.length+1-k) 0)),Hx .u32 (c:Int),Hx .i64 (k:Int)] 2)).toNat):=by
   intro t ht hte;rw[HJ,HK,j0,xQ (by rw[a1];omega),kX ho (by omega)];refine⟨⟨by omega,by omega⟩,by omega,by omega,⟨k+1,o++[t%1000000000],t/1000000000,by omega,by simp[ho],by rw[show a.length+1-k-1=a.length+1-(k+1)by omega],lo.append (Sz (by omega) Tk),by omega,zH a0 ho hv (by omega)⟩,?_⟩;simp only[nth,toI];omega
  refine⟨⟨by omega,by omega,qz a0⟩,_,qA a0,brd (λh2=>?_) (λh2=>?_)⟩
  .have a2:k<b.length:=by omega
   have hyk:=hb.get a2;have hgd:b.getD k 0=b[k]:=by simp[gq,a2]
   have hw:Ts .u32 (Ts .u32 ((c:Int)+(a[k]:Int))+(b[k]:Int))=((a[k]+c+b[k]:Nat):Int):=by rw[j0 (n:=(c:Int)+(a[k]:Int)),j0];omega
   refine⟨⟨by omega,by omega,qz a2⟩,_,qA a2,by omega,?_⟩;rw[hw];exact a3 _ (by omega) (by omega)
  .have hgd:b.getD k 0=0:=Zg (by omega);have hw:Ts .u32 ((c:Int)+(a[k]:Int))=((a[k]+c:Nat):Int):=by rw[j0];omega
   rw[hw];exact⟨by omega,a3 _ (by omega) (by omega)⟩
 .have a0:k=a.length:=by omega
  subst a0;rw[fg,eL hab]at hv;have e1:a.length+1-a.length=1:=by omega
  rw[e1]at a1 ⊢;rw[cH,qe,a1,xQ (by rw[a1];omega),List.replicate_one,Pd ho];have hg:=j1 (l:=o++[c]) (lo.append (Sz (by omega) Tk)) (by simp[ho];omega);rw[yP,ho,hv]at hg;exact⟨⟨by omega,by omega⟩,by omega,_,hg,rfl⟩
theorem Pe {a b:List Nat} (ha:Limbs a) (hb:Limbs b) (hra:a.length<=1073741823) (hrb:b.length<=1073741823):Gives CC 359 [.c (.sl (raw a)),.c (.sl (raw b))] [.c (.sl (raw (lim (val a+val b))))]:=by
 by_cases hab:a.length<b.length
 .refine qm (anns:=λ_=>⟨[.own 5 55 1,.slot 6 (.int .u32 0),.slot 7 (.int .i64 0)],[],qpI b a,qpM b⟩) mixedT Tryz.func359 ?_;have h:=Jz hb ha hrb (by omega);rw[Gs];simp only[ea,qe];refine brd (λ_=>?_) (λh0=>by omega);rw[Nat.add_comm (val b)]at h;exact h
 .refine qm (anns:=λ_=>⟨[.own 5 55 1,.slot 6 (.int .u32 0),.slot 7 (.int .i64 0)],[],qpI a b,qpM a⟩) mixedT Tryz.func359 ?_;have h:=Jz ha hb hra (by omega);rw[Gs];simp only[ea,qe];exact brd (λh0=>by omega) (λ_=>h)
end Eng
end
section
namespace Eng
open Go Go.Proofs
theorem Xa:∀(i n:Nat),(lim n).getD i 0=n/1000000000^i%1000000000
 |0,n=>by
  rw[l8,Nat.div_one];rcases hS n with h|h
  .rw[h];rfl
  .rw[Kv h];rfl
 |i+1,n=>by
  rcases hS n with h|h
  .rw[h,Ki,Nat.zero_div];rfl
  .rw[Kv h,hE,h9,<-k2];exact Xa i (n/1000000000)
theorem Ve {n i:Nat} (h:(lim n).length<=i):n/1000000000^i=0:=by
 apply k1;rcases k7 n (1000000000^i)with h2|h2
 .exact h2
 .have:=jt h2;omega
theorem Vf {R n:Nat}:R/1000000000^(n+1)*1000000000+R/1000000000^n%1000000000=R/1000000000^n:=by
 rw[hE,<-k2];generalize R/1000000000^n=q;omega
theorem FO {R V v1 P vl:Nat} (hV:V=v1*P+vl) (hV0:0<v1*P):R/V<=R/P/v1:=by
 rw[k2,h9 P v1];exact Nat.div_le_div_left (by omega) hV0
theorem FP {R V d:Nat} (hV:0<V) (h:R<V*d):R/V<d:=by
 rw[hK hV,h9];exact h
theorem FQ {R V d:Nat} (hV:0<V) (h:V*d<=R) (h2:R/V<=d):d=R/V:=by
 have:d<=R/V:=(kO hV).2 (by rw[h9];exact h);omega
theorem BR {R V:Nat}:R-V*(R/V)=R%V:=by
 have:=ib R V;omega
theorem LA {V Q R c B:Nat}:(((c+B*R)/V)+B*Q)*V+(c+B*R)%V=c+B*(Q*V+R):=by
 have h:=ib (c+B*R) V;generalize (c+B*R)/V=d at *;generalize (c+B*R)%V=e at *;have e1:(d+B*Q)*V+e=(V*d+e)+B*(Q*V):=by rw[hQ,h9 d V,hH];omega
 rw[e1,h,hG];omega
theorem Gt {V R c B:Nat} (hc:c<B) (hR:R<V):c+B*R<B*V:=by
 have:B*(R+1)<=B*V:=hC _ hR;rw[hG]at this;omega
theorem wV {V R c B:Nat} (hc:c<B) (hR:R<V):(c+B*R)/V<B:=by
 rw[hK (by omega)];exact Gt hc hR
theorem Pf {u:List Nat} {k:Nat} (h:k<u.length):val (u.drop k)=u[k]+1000000000*val (u.drop (k+1)):=by
 rw[fe h];rfl
theorem Ye {U V q r:Nat} (h:q*V+r=U) (hr:r<V):q=U/V/\r=U%V:=by
 have hV:0<V:=by omega
 subst h;constructor
 .rw[h9,l0 hV,k1 hr];omega
 .rw[h9,ls,hM hr]
theorem Gu {k d:Nat} {q:List Nat}:(eu (k+1) 0++q).set k d=eu k 0++d::q:=by
 rw[List.replicate_succ',fS,List.set_append];simp
end Eng
end
section
namespace Eng
open Go Go.Proofs
variable [Env]
theorem yV {a b:List Nat} (ha:Limbs a) (hb:Limbs b) (hra:a.length<=1073741824) (hab:val b<=val a):Gives CC 310 [.c (.sl (raw a)),.c (.sl (raw b))] [.c (.sl (raw (lim (val a-val b))))]:=by
 refine qm (anns:=λ_=>⟨[.own 5 45 1,.slot 6 (.int .u32 0),.slot 7 (.int .i64 0)],[],λ_ ds=>∃(k:Nat) (o:List Nat) (c:Nat),k<=a.length/\o.length=k/\ds=[.sl (raw (o++eu (a.length-k) 0)),.int .u32 (c:Int),.int .i64 (k:Int)]/\Limbs o/\c<=1/\val o+val (b.take k)=val (a.take k)+1000000000^k*c,λds=>a.length-(toI (nth .undef ds 2)).toNat⟩) mixedT Tryz.func310 ?_;rw[L8];simp only[ea,qe];refine⟨⟨by omega,by omega,by unfold room;omega⟩,⟨0,[],0,by omega,rfl,by rw[cH,xn];rfl,Tk,by omega,by simp[val]⟩,?_⟩;rintro es n m ⟨k,o,c,hk,ho,he,lo,hc,hv⟩;simp only[h7,No,Pl,true_and,and_true]at he;obtain⟨rfl,rfl,rfl⟩:=he;have hol:(o++eu (a.length-k) 0).length=a.length:=by simp[ho];omega
 refine brd (λh1=>?_) (λh1=>?_)
 .have a0:k<a.length:=by omega
  have hxk:=ha.get a0;have hk1:Ts .i64 ((k:Int)+1)=((k+1:Nat):Int):=by rw[xb];omega
  rw[cH,hk1,qe,hol];have hw0:Ts .u32 (Ts .u32 ((a[k]:Int)+1000000000)-(c:Int))=((a[k]+1000000000-c:Nat):Int):=by rw[j0 (n:=(a[k]:Int)+1000000000),j0];omega
  refine⟨⟨by omega,by omega,qz a0⟩,_,qA a0,?_⟩;rw[hw0];refine brd (λh2=>?_) (λh2=>?_)
  .have a2:k<b.length:=by omega
   have hyk:=hb.get a2;have a1:b.getD k 0=b[k]:=by simp[gq,a2]
   refine⟨⟨by omega,by omega,qz a2⟩,_,qA a2,?_⟩;have hw:Ts .u32 (((a[k]+1000000000-c:Nat):Int)-(b[k]:Int))=((a[k]+1000000000-c-b[k]:Nat):Int):=by rw[j0];omega
   rw[hw];refine brd (λh3=>?_) (λh3=>?_)
   .have a3:Ts .u32 (((a[k]+1000000000-c-b[k]:Nat):Int)-1000000000)=((a[k]-(c+b[k]):Nat):Int):=by rw[j0];omega
    rw[a3,xQ (by simp[ho];omega),kX ho (by omega)];refine⟨⟨by omega,by omega⟩,by omega,⟨k+1,o++[a[k]-(c+b[k])],0,by omega,by simp[ho],by rw[show a.length-k-1=a.length-(k+1)by omega];rfl,lo.append (Sz (by omega) Tk),by omega,z3 a0 ho hv (by have:=a1;omega)⟩,?_⟩;simp only[nth,toI];omega
   .rw[xQ (by simp[ho];omega),kX ho (by omega)];refine⟨⟨by omega,by omega⟩,by omega,⟨k+1,o++[a[k]+1000000000-c-b[k]],1,by omega,by simp[ho],by rw[show a.length-k-1=a.length-(k+1)by omega];rfl,lo.append (Sz (by omega) Tk),by omega,z3 a0 ho hv (by have:=a1;omega)⟩,?_⟩;simp only[nth,toI];omega
  .have a1:b.getD k 0=0:=Zg (by omega);refine brd (λh3=>?_) (λh3=>?_)
   .have a3:Ts .u32 (((a[k]+1000000000-c:Nat):Int)-1000000000)=((a[k]-c:Nat):Int):=by rw[j0];omega
    rw[a3,xQ (by simp[ho];omega),kX ho (by omega)];refine⟨⟨by omega,by omega⟩,by omega,⟨k+1,o++[a[k]-c],0,by omega,by simp[ho],by rw[show a.length-k-1=a.length-(k+1)by omega];rfl,lo.append (Sz (by omega) Tk),by omega,z3 a0 ho hv (by have:=a1;omega)⟩,?_⟩;simp only[nth,toI];omega
   .rw[xQ (by simp[ho];omega),kX ho (by omega)];refine⟨⟨by omega,by omega⟩,by omega,⟨k+1,o++[a[k]+1000000000-c],1,by omega,by simp[ho],by rw[show a.length-k-1=a.length-(k+1)by omega];rfl,lo.append (Sz (by omega) Tk),by omega,z3 a0 ho hv (by have:=a1;omega)⟩,?_⟩;simp only[nth,toI];omega
 .have a0:k=a.length:=by omega
  subst a0;rw[fg]at hv;rw[l4,List.replicate_zero,gy];have h2:=qS lo;rw[ho]at h2;have h3:val b=val (b.take a.length)+1000000000^(b.take a.length).length*val (b.drop a.length):=by rw[<-qR,fy]
  have h4:=qS ha;have h5:val (b.take a.length)=val b:=by
   rcases k7 b.length a.length with hl|hl
   .rw[eL (by omega)]
   .rw[eH,ia hl]at h3;rcases hS (val (b.drop a.length))with h6|h6
    .rw[h6]at h3;omega
    .have:=hC (1000000000^a.length) h6;omega
  have h6:c=0:=by
   rcases hS c with h6|h6
   .exact h6
   .have:=hC (1000000000^a.length) h6;omega
  subst h6;have hg:=j1 lo (by omega);rw[show val o=val a-val b by omega]at hg;exact⟨_,hg,rfl⟩
set_option maxHeartbeats 1000000 in
theorem Vg {a b:List Nat} (ha:Limbs a) (hb:Limbs b) (hra:a.length<=536870912) (hrb:b.length<=536870912):
 Gives CC 190 [.c (.sl (raw a)),.c (.sl (raw b))] [.c (.sl (raw (lim (val a*val b))))]:=by
 refine qm (anns:=YR
  ⟨[.own 5 68 1,.slot 6 (.int .i64 0)],[],λ_ ds=>∃(i:Nat) (o:List Nat),i<=a.length/\ds=[.sl (raw o),.int .i64 (i:Int)]/\o.length=a.length+b.length/\Limbs o/\(∀j,i+b.length<=j->o.getD j 0=0)/\val o=val (a.take i)*val b,λds=>a.length-(toI (nth .undef ds 1)).toNat⟩
  ⟨[.own 5 68 1,.slot 7 (.int .u64 0),.slot 8 (.int .i64 0)],[.slot 6 (.int .i64 0),.own 5 68 1],λg ds=>∃(i k c:Nat) (o0 o:List Nat),g=[.int .i64 (i:Int),.sl (raw o0)]/\i<a.length/\k<=b.length/\c<1000000000/\ds=[.sl (raw o),.int .u64 (c:Int),.int .i64 (k:Int)]/\o.length=a.length+b.length/\Limbs o/\(∀j,i+b.length<=j->o.getD j 0=0)/\val o+1000000000^(i+k)*c=val o0+1000000000^i*(a.getD i 0*val (b.take k)),λds=>b.length-(toI (nth .undef ds 2)).toNat⟩) mixedT Tryz.func190 ?_
 rw[L9];simp only[ea,qe];have hab:Ts .i64 ((a.length:Int)+(b.length:Int))=((a.length+b.length:Nat):Int):=by rw[xb];omega
 rw[hab,cH,xn];refine⟨⟨by omega,by omega,by unfold room;omega⟩,⟨0,eu (a.length+b.length) 0,by omega,rfl,by simp,λy hy=>by rw[gp hy];omega,λj _=>by simp[gq,List.getElem?_replicate];split<;>rfl,by simp[kV,val]⟩,?_⟩;rintro es n ⟨i,o0,hi,he,hol,lo,hz,hv⟩;simp only[h7,No,Pl,true_and,and_true]at he;obtain⟨rfl,rfl⟩:=he;refine brd (λh1=>?_) (λh1=>?_)
 .have a0:i<a.length:=by omega
  have hai:=ha.get a0;refine⟨⟨i,0,0,o0,o0,rfl,a0,by omega,by omega,rfl,hol,lo,hz,by simp[val]⟩,?_⟩;rintro es m k' ⟨i',k,c,o0',o,hg,_,hk,hc,he,a2,ad,a7,ag⟩;simp only[h7,No,Pl,true_and,and_true]at hg he;obtain⟨hi',a5⟩:=hg;obtain⟨rfl,rfl,rfl⟩:=he;have a3:i'=i:=by omega
  subst a3;have a5:=VX a5;subst a5;rw[xp a0]at ag;refine brd (λh2=>?_) (λh2=>?_)
  .have a1:k<b.length:=by omega
   have hbk:=hb.get a1;have hj:i'+k<o.length:=by omega
   have hoj:=ad.get hj;have hw:Ts .i64 ((i':Int)+(k:Int))=((i'+k:Nat):Int):=by rw[xb];omega
   have a4:Ts .i64 ((k:Int)+1)=((k+1:Nat):Int):=by rw[xb];omega
   rw[hw,a4,cH,cH,cH,qe];refine⟨⟨by omega,by omega⟩,_,qA hj,⟨by omega,by omega,qz a0⟩,_,qA a0,⟨by omega,by omega,qz a1⟩,_,qA a1,by omega,⟨by omega,by omega⟩,by omega,by omega,?_⟩;have hp:a[i']*b[k]<=999999999*999999999:=j2 (by omega) (by omega);obtain⟨p,a6⟩:∃p,p=a[i']*b[k]:=⟨_,rfl⟩;rw[<-a6]at hp;have hpi:(a[i']:Int)*(b[k]:Int)=(p:Int):=by rw[a6];exact(ei _ _).symm
   obtain⟨t,hte⟩:∃t,t=o[i'+k]+p+c:=⟨_,rfl⟩;have ht:Ts .u64 (Ts .u64 ((c:Int)+Ts .u64 (o[i'+k]:Int))+Ts .u64 (Ts .u64 (a[i']:Int)*Ts .u64 (b[k]:Int)))=(t:Int):=by rw[xH (n:=(o[i'+k]:Int)),xH (n:=(a[i']:Int)),xH (n:=(b[k]:Int)),hpi,xH (n:=(p:Int)),xH (n:=(c:Int)+(o[i'+k]:Int)),xH];omega
   rw[ht,HJ,HK,j0 (n:=((t%1000000000:Nat):Int)),xH (n:=((t/1000000000:Nat):Int)),xQ hj];refine⟨⟨i',k+1,t/1000000000,o0,o.set (i'+k) (t%1000000000),rfl,a0,by omega,by omega,rfl,by simp[a2],yQ ad (by omega),λj hjj=>by rw[jc (by omega)];exact a7 j hjj,?_⟩,?_⟩
   .have h3:=Zh (t%1000000000) hj;rw[xp hj]at h3;rw[xp a0,qK,xp a1];have h4:=Kj (k:=i'+k) (show t%1000000000+1000000000*(t/1000000000)=t by omega);rw[show i'+(k+1)=i'+k+1 by omega];have h5:1000000000^(i'+k)*t=1000000000^(i'+k)*o[i'+k]+1000000000^(i'+k)*p+1000000000^(i'+k)*c:=by rw[hte,hG,hG]
    have h6:1000000000^i'*(a[i']*(val (b.take k)+1000000000^k*b[k]))=1000000000^i'*(a[i']*val (b.take k))+1000000000^(i'+k)*p:=by rw[hG,hG,a6,lg];congr 1;simp only[hH,lm]
    omega
   .simp only[nth,toI];omega
  .have a1:k=b.length:=by omega
   subst a1;have hj:i'+b.length<o.length:=by omega
   have hw:Ts .i64 ((i':Int)+(b.length:Int))=((i'+b.length:Nat):Int):=by rw[xb];omega
   have a4:Ts .i64 ((i':Int)+1)=((i'+1:Nat):Int):=by rw[xb];omega
   rw[hw,a4,cH,qe,j0 (n:=(c:Int)),xQ hj];refine⟨⟨by omega,by omega⟩,by omega,⟨i'+1,o.set (i'+b.length) c,by omega,rfl,by simp[a2],yQ ad hc,λj hjj=>by rw[jc (by omega)];exact a7 j (by omega),?_⟩,?_⟩
   .have h3:=Zh c hj;rw[a7 _ (kh _)]at h3;rw[fg]at ag;rw[qK,xp a0,hQ,<-hv,hH];omega
   .simp only[nth,toI];omega
 .have a0:i=a.length:=by omega
  subst a0;rw[fg]at hv;have hg:=j1 lo (by omega);rw[hv]at hg;exact⟨_,hg,rfl⟩
theorem LB {a:List Nat} {d:Nat} (ha:Limbs a) (hd:d<1000000000) (hra:a.length<=536870912):Gives CC 309 [.c (.sl (raw a)),.c (.int .u32 (d:Int))] [.c (.sl (raw (lim (val a*d))))]:=by
 refine qm (anns:=an0) mixedT Tryz.func309 ?_;rw[FN];have h1:=j1 (l:=[d]) (Sz hd Tk) (by simp);have hv:val [d]=d:=by simp[val]
 rw[hv]at h1;have hl:(lim d).length<=536870912:=by have:(lim d).length<=1:=qp (by omega);omega
 have h2:=Vg ha (qc d) hra hl;rw[qi]at h2;exact⟨_,h1,_,h2,rfl⟩
theorem Zr {x:Int} (hx:Sm x):Gives CC 311 [qL x] [qL (-x)]:=by
 refine qm (anns:=an0) mixedT Tryz.func311 ?_;have lx:=hx.len;rw[qE x,BM];refine⟨_,_,xf (!decide (x<0)) (qc x.natAbs) (by omega) (z:= -x) ?_,rfl⟩;rw[qi];by_cases h:x<0
 .simp[h];omega
 .simp[h];omega
omit [Env] in
theorem Yf {x y n:Nat} (hx:(lim x).length<=n) (hy:(lim y).length<=n):(lim (x+y)).length<=n+1:=by
 refine qp ?_;have h1:=qS (qc x);have h2:=qS (qc y);rw[qi]at h1 h2;have hB:∀{i j:Nat},i<=j->(1000000000:Nat)^i<=1000000000^j:=λh=>im (by decide) h
 have h3:=hB hx;have h4:=hB hy;rw[hE];generalize (1000000000:Nat)^n=T at *;omega
theorem Zs {x y:Int} (hx:Sm x) (hy:Sm y):Gives CC 308 [qL x,qL y] [qL (x+y)]:=by
 refine qm (anns:=an0) mixedT Tryz.func308 ?_;have lx:=hx.len;have ly:=hy.len;have a2:(lim (x.natAbs+y.natAbs)).length<=1073741824:=by have:=Yf (n:=100000) lx ly;omega
 have a0:∀{m n:Nat},m<=n->(lim m).length<=(lim n).length:=λ{m n} h=>qp (j4 h (by have:=qS (qc n);rw[qi]at this;exact this))
 rw[qE x,qE y,BN];have hp:=Pe (qc x.natAbs) (qc y.natAbs) (by omega) (by omega);rw[qi,qi]at hp;have hc:=jM (x:=x.natAbs) (y:=y.natAbs) (by omega) (by omega);refine brb (λh=>?_) (λh=>?_)
 .have hs:(x<0)↔(y<0):=by
   have:decide (x<0)=decide (y<0):=by simpa using h
   rw[decide_eq_decide]at this;exact this
  refine⟨_,hp,_,_,xf (decide (x<0)) (qc _) a2 (z:=x+y) ?_,rfl⟩;rw[qi];by_cases h1:x<0
  .have:=hs.1 h1;simp[h1];omega
  .have:¬y<0:=λh2=>h1 (hs.2 h2)
   simp[h1];omega
 .have hs:(x<0)↔¬(y<0):=by
   have h2:¬(decide (x<0)=decide (y<0)):=by simpa using h
   rw[decide_eq_decide]at h2;constructor
   .intro a b;exact h2 ⟨λ_=>b,λ_=>a⟩
   .intro b;apply Hu;intro a;exact h2 ⟨λc=>absurd c a,λc=>absurd c b⟩
  refine⟨_,hc,brd (λh1=>?_) (λh1=>?_)⟩
  .have a1:y.natAbs<=x.natAbs:=by
    unfold Qe at h1;split at h1
    .omega
    .omega
   have hm:=yV (qc x.natAbs) (qc y.natAbs) (by omega) (by rw[qi,qi];exact a1);rw[qi,qi]at hm;refine⟨_,hm,_,_,xf (decide (x<0)) (qc _) (by have:=a0 (show x.natAbs-y.natAbs<=x.natAbs by omega);omega) (z:=x+y) ?_,rfl⟩;rw[qi];by_cases h2:x<0
   .have:=hs.1 h2;simp[h2];omega
   .have:y<0:=by apply Hu;intro h3;exact h2 (hs.2 h3)
    simp[h2];omega
  .have a1:x.natAbs<=y.natAbs:=by
    unfold Qe at h1;split at h1
    .omega
    .split at h1<;>omega
   have hm:=yV (qc y.natAbs) (qc x.natAbs) (by omega) (by rw[qi,qi];exact a1);rw[qi,qi]at hm;refine⟨_,hm,_,_,xf (decide (y<0)) (qc _) (by have:=a0 (show y.natAbs-x.natAbs<=y.natAbs by omega);omega) (z:=x+y) ?_,rfl⟩;rw[qi];by_cases h2:y<0
   .have:¬x<0:=λh3=>(hs.1 h3) h2
    simp[h2];omega
   .have:=hs.2 h2;simp[h2];omega
omit [Env] in
theorem BS {x:Int} (h:Sm x):Sm (-x):=by unfold Sm at *;rw[en];exact h
theorem LC {x y:Int} (hx:Sm x) (hy:Sm y):Gives CC 387 [qL x,qL y] [qL (x-y)]:=by
 refine qm (anns:=an0) mixedT Tryz.func387 ?_;have h1:=Zr hy;have h2:=Zs hx (BS hy);rw[qE y]at h1;rw[qE x]at h2;rw[qE x,qE y,BO];exact⟨_,_,h1,_,_,h2,rfl⟩
theorem je {x y:Int} (hx:Sm x) (hy:Sm y):Gives CC 119 [qL x,qL y] [qL (x*y)]:=by
 refine qm (anns:=an0) mixedT Tryz.func119 ?_;have lx:=hx.len;have ly:=hy.len;have ht:=Vg (qc x.natAbs) (qc y.natAbs) (by omega) (by omega);rw[qi,qi]at ht;have lp:(lim (x.natAbs*y.natAbs)).length<=1073741824:=by
  have h1:=qS (qc x.natAbs);have h2:=qS (qc y.natAbs);rw[qi]at h1 h2;have h3:x.natAbs*y.natAbs<1000000000^((lim x.natAbs).length+(lim y.natAbs).length):=by rw[lg];exact ky h1 h2
  have:=qp h3;omega
 rw[qE x,qE y,BP];refine⟨_,ht,_,_,xf (!(decide (x<0)==decide (y<0))) (qc _) lp (z:=x*y) ?_,rfl⟩;rw[qi];have hm:(x*y).natAbs=x.natAbs*y.natAbs:=ep x y;by_cases h1:x<0<;>by_cases h2:y<0
 .have:=Int.mul_pos_of_neg_of_neg h1 h2;simp[h1,h2];omega
 .have:x*y<=0:=Int.mul_nonpos_of_nonpos_of_nonneg (by omega) (by omega);simp[h1,h2];omega
 .have:x*y<=0:=Int.mul_nonpos_of_nonneg_of_nonpos (by omega) (by omega);simp[h1,h2];omega
 .have:0<=x*y:=Int.mul_nonneg (by omega) (by omega);simp[h1,h2];omega
end Eng
end
