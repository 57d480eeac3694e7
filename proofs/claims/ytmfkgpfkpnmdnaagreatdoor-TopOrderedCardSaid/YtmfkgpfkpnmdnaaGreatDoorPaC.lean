import Derived.Test.YtmfkgpfkpnmdnaaGreatDoorPaB
import Derived.Test.YtmfkgpfkpnmdnaaGreatDoorEngF
import Derived.KernelRfl
import Derived.WalkKit
import Derived.Maps.Keyed
open Bool renaming and_self->Aw, eq_false_iff->Bx, and_eq_true->Dd, false_and->F0, and_false->Hu
open Eng.A renaming ag->Hv, c->Hx
open Eng.D renaming sl->Hy, int->J4, bool->Lm, str->Lr, ptr->Ls
open Eng.D.int renaming injEq->Lv
open Eng.D.sl renaming injEq->No
open Go.IntKind renaming wrap->Pl, u64->P1
open Go.MapKept renaming run_getObj_map->Sz, run_findKey->Tk
open Int renaming ofNat->Ts, toNat->U0, toNat_natCast->U3, ofNat_eq_natCast->V1, ofNat_tdiv->W0, mul_pos->W1, natAbs_natCast->W2, tdiv->bs, tmod->bv, ediv_emod_unique->bw, natCast_mul->cb, ofNat_tmod->cc, natAbs_neg->cg, mul_neg->cm
open List renaming length->cp, getElem_mem->cv, length_replicate->c0, getElem?_eq_getElem->c1, replicate->c3, length_append->c4, mem_iff_getElem->cH, getElem_range->cL, length_cons->dc, getElem_map->dl, ext_getElem->dv, getD->ea, all_eq_true->eb, append_nil->ed, range->eg
open List.cons renaming injEq->ei
open Nat renaming le_refl->el, zero_le->en, beq->ep, eq_of_beq_eq_true->et, lt_of_le_of_lt->eu, gcd->ey, mod_lt->ez, le_trans->e7, div_le_self->eH, div_lt_iff_lt_mul->eL, pow_le_pow_right->eU, eq_zero_or_pos->fg, pow_succ->ft, lt_or_ge->fx, gcd_comm->fy, pow_pos->fz, mul_lt_mul_of_pos_right->fR, mul_comm->fS, le_of_lt->gb, mul_le_mul_left->gd, lt_of_lt_of_le->gm, gcd_zero_right->gn, mod_eq_of_lt->gx, lt_trans->gy, blt->gz, mul_pos->g0, gcd_rec->g4, blt_eq->g5
open Option.some renaming injEq->g6
open Rat renaming num_divInt_den->g7, divInt->h7, divInt_mul_divInt->h8, divInt_add_divInt->h9, neg_num->hA, sub_eq_add_neg->hC, num_intCast->hD, num_eq_zero->hE, den_intCast->hH
set_option maxRecDepth 1000000
section
namespace Eng
open Go Go.Proofs
section
variable (Gv:Nat->List A->List A->Prop) (I0:List D->List D->Prop) (M0:List D->Nat) (I1:List D->List D->Prop) (M1:List D->Nat) (I2:List D->List D->Prop) (M2:List D->Nat) (I3:List D->List D->Prop) (M3:List D->Nat) (Q:List A->Prop)
theorem Pg:wpF CC Gv an0 Tryz.f117 [] Q=(∃b es,Gv 116 [aI (1:Int)] [aZ b es]/\Q [aZ b es]):=by kernel_rfl
theorem FR (J3:List D->List D->Prop) (p q:Bool) (es fs:List (List D)):wpF CC Gv (N0 an0 3 ⟨[.box 2 [.bool false,.slice none 0 0],.box 3 [.bool false,.slice none 0 0]],[.box 2 [.bool false,.slice none 0 0],.box 3 [.bool false,.slice none 0 0]],J3,λ_=>0⟩) Tryz.f307 [.ag [.bool p,.sl es],.ag [.bool q,.sl fs]] Q=((∃i,Gv 182 [aZ q fs] [aI i]/\bB (decide (i<0)) (∃b e1,Gv 311 [aZ p es] [aZ b e1]/\∃b1 e2,Gv 311 [aZ q fs] [aZ b1 e2]/\J3 [Lm p,Hy es,Lm q,Hy fs] [Lm b,Hy e1,Lm b1,Hy e2]) (J3 [Lm p,Hy es,Lm q,Hy fs] [Lm p,Hy es,Lm q,Hy fs]))/\∀(b:Bool) (e1:List (List D)) (b1:Bool) (e2:List (List D)),J3 [Lm p,Hy es,Lm q,Hy fs] [Lm b,Hy e1,Lm b1,Hy e2]->∃b2 es,Gv 184 [aZ b e1,aZ b1 e2] [aZ b2 es]/\∃b3 e3 b4 e4 i,Gv 345 [aZ b e1,aZ b2 es] [aZ b3 e3,aZ b4 e4,aI i]/\∃b e5 b5 e6 i,Gv 345 [aZ b1 e2,aZ b2 es] [aZ b e5,aZ b5 e6,aI i]/\Q [Hv [Lm b3,Hy e3,Lm b,Hy e5]]):=by kernel_rfl
theorem Ph (p q:Bool) (es fs:List (List D)):wpF CC Gv an0 Tryz.f354 [.ag [.bool p,.sl es],.ag [.bool q,.sl fs]] Q=(∃i,Gv 182 [aZ q fs] [aI i]/\bB (i==0) (Q [Hv [Lm false,Hy [],Lm false,Hy []],aI (6:Int)]) (∃x,Gv 307 [aZ p es,aZ q fs] [aR x]/\Q [aR x,aI (0:Int)])):=by kernel_rfl
theorem Kx (n:Int):wpF CC Gv an0 Tryz.f63 [.c (.int .i64 n)] Q=(∃b es,Gv 116 [aI n] [aZ b es]/\∃b1 e1,Gv 117 [] [aZ b1 e1]/\Q [Hv [Lm b,Hy es,Lm b1,Hy e1]]):=by kernel_rfl
theorem Pi (p q:Bool) (es fs:List (List D)):wpF CC Gv an0 Tryz.f114 [.ag [.bool p,.sl es,.bool q,.sl fs]] Q=(∃i,Gv 182 [aZ p es] [aI i]/\Q [aI i]):=by kernel_rfl
theorem BT (p q:Bool) (es fs:List (List D)):wpF CC Gv an0 Tryz.f245 [.ag [.bool p,.sl es,.bool q,.sl fs]] Q=(∃b e1,Gv 311 [aZ p es] [aZ b e1]/\Q [Hv [Lm b,Hy e1,Lm q,Hy fs]]):=by kernel_rfl
theorem BU (p q r s:Bool) (es fs gs hs:List (List D)):wpF CC Gv an0 Tryz.f238 [.ag [.bool p,.sl es,.bool q,.sl fs],.ag [.bool r,.sl gs,.bool s,.sl hs]] Q=(∃b e1,Gv 119 [aZ p es,aZ s hs] [aZ b e1]/\∃b1 es,Gv 119 [aZ r gs,aZ q fs] [aZ b1 es]/\∃b2 e2,Gv 308 [aZ b e1,aZ b1 es] [aZ b2 e2]/\∃b es,Gv 119 [aZ q fs,aZ s hs] [aZ b es]/\∃x,Gv 307 [aZ b2 e2,aZ b es] [aR x]/\Q [aR x]):=by kernel_rfl
theorem BV (p q r s:Bool) (es fs gs hs:List (List D)):wpF CC Gv an0 Tryz.f237 [.ag [.bool p,.sl es,.bool q,.sl fs],.ag [.bool r,.sl gs,.bool s,.sl hs]] Q=(∃x,Gv 245 [Hv [Lm r,Hy gs,Lm s,Hy hs]] [aR x]/\∃x1,Gv 238 [Hv [Lm p,Hy es,Lm q,Hy fs],aR x] [aR x1]/\Q [aR x1]):=by kernel_rfl
theorem BW (p q r s:Bool) (es fs gs hs:List (List D)):wpF CC Gv an0 Tryz.f64 [.ag [.bool p,.sl es,.bool q,.sl fs],.ag [.bool r,.sl gs,.bool s,.sl hs]] Q=(∃b e1,Gv 119 [aZ p es,aZ s hs] [aZ b e1]/\∃b1 es,Gv 119 [aZ r gs,aZ q fs] [aZ b1 es]/\∃i,Gv 118 [aZ b e1,aZ b1 es] [aI i]/\Q [aI i]):=by kernel_rfl
theorem BX (p q r s:Bool) (es fs gs hs:List (List D)):wpF CC Gv an0 Tryz.f239 [.ag [.bool p,.sl es,.bool q,.sl fs],.ag [.bool r,.sl gs,.bool s,.sl hs]] Q=(∃b e1,Gv 119 [aZ p es,aZ r gs] [aZ b e1]/\∃b1 es,Gv 119 [aZ q fs,aZ s hs] [aZ b1 es]/\∃x,Gv 307 [aZ b e1,aZ b1 es] [aR x]/\Q [aR x]):=by kernel_rfl
theorem BY (p q r s:Bool) (es fs gs hs:List (List D)):wpF CC Gv an0 Tryz.f292 [.ag [.bool p,.sl es,.bool q,.sl fs],.ag [.bool r,.sl gs,.bool s,.sl hs]] Q=(∃b e1,Gv 119 [aZ p es,aZ s hs] [aZ b e1]/\∃b1 es,Gv 119 [aZ q fs,aZ r gs] [aZ b1 es]/\∃x i,Gv 354 [aZ b e1,aZ b1 es] [aR x,aI i]/\Q [aR x,aI i]):=by kernel_rfl
end
end Eng
end
section
namespace Eng
open Go Go.Proofs
variable [Env]
def wa:Prop:=∀x y:Nat,y≠0->(lim x).length<=100000->(lim y).length<=100000->
 Gives CC 241 [.c (.sl (raw (lim x))),.c (.sl (raw (lim y)))] [.c (.sl (raw (lim (x/y)))),.c (.sl (raw (lim (x%y))))]
omit [Env] in
theorem RW {m n:Nat} (h:m<=n):(lim m).length<=(lim n).length:=
 qp (eu h (by have:=qS (qc n);rw[qi]at this;exact this))
theorem Yg (hd:wa) {x y:Int} (hx:Sm x) (hy:Sm y):Gives CC 184 [qL x,qL y] [qL (ey x.natAbs y.natAbs:Nat)]:=by
 generalize hG:ey x.natAbs y.natAbs=G;refine qm (anns:=YR
  ⟨[.slot 5 (.slice none 0 0),.slot 6 (.slice none 0 0)],[],λ_ ds=>∃m n:Nat,ds=[.sl (raw (lim m)),.sl (raw (lim n))]/\ey m n=G/\m<Kk/\n<Kk,λds=>valD (toL (nth .undef ds 1))⟩
  ⟨[.slot 9 (.int .u64 0),.slot 10 (.int .u64 0)],[],λ_ ds=>∃u v:Nat,ds=[.int .u64 (u:Int),.int .u64 (v:Int)]/\ey u v=G/\u<1000000000000000000/\v<1000000000000000000,λds=>(toI (nth .undef ds 1)).toNat⟩) mixedT Tryz.func184 ?_
 rw[qE x,qE y,BQ];simp only[V1];refine⟨⟨x.natAbs,y.natAbs,rfl,hG,hx,hy⟩,?_⟩;rintro es fs ⟨m,n,he,hg,hm,hn⟩;simp only[ei,No,and_true]at he;obtain⟨rfl,rfl⟩:=he;have lm:=(smN.2 hm).len;have ln:=(smN.2 hn).len;rw[W2]at lm ln;rw[qe,qe];have a2:0<n->∃es_2 es_3,Gives CC 241 [Hx (Hy (raw (lim m))),Hx (Hy (raw (lim n)))] [Hx (Hy es_2),Hx (Hy es_3)]/\
  (∃m' n':Nat,[Hy (raw (lim n)),Hy es_3]=[.sl (raw (lim m')),.sl (raw (lim n'))]/\ey m' n'=G/\m'<Kk/\n'<Kk)/\
  valD (toL (nth .undef [Hy (raw (lim n)),Hy es_3] 1))<valD (toL (nth .undef [Hy (raw (lim m)),Hy (raw (lim n))] 1)):=by
  intro a1;have a3:=ez m a1;refine⟨_,_,hd m n (by omega) lm ln,⟨n,m%n,rfl,?_,hn,by omega⟩,?_⟩
  .rw[<-hg,fy n,<-g4,fy]
  .simp only[nth,toL,yS,qi];exact a3
 have a0:∀{k:Nat},¬((lim k).length:Int)>2->k<1000000000000000000:=by
  intro k hk;have h1:=qS (qc k);rw[qi]at h1;have h2:1000000000^(lim k).length<=1000000000^2:=eU (by omega) (by omega);have h3:(1000000000:Nat)^2=1000000000000000000:=by decide
  omega
 have a4:n=0->∃b es_2,Gives CC 187 [Hx (Lm false),Hx (Hy (raw (lim m)))] [Hv [Lm b,Hy es_2]]/\[Hv [Lm b,Hy es_2]]=[qL (G:Int)]:=by intro a1;subst a1;rw[gn]at hg;subst hg;exact⟨_,_,xf false (qc m) (by omega) (z:=(m:Int)) (by simp[qi]),rfl⟩
 have a5:m<1000000000000000000->n<1000000000000000000->
  ∃a,Gives CC 242 [Hx (Hy (raw (lim m)))] [Hx (J4 P1 a)]/\∃b,Gives CC 242 [Hx (Hy (raw (lim n)))] [Hx (J4 P1 b)]/\
   (∃u v:Nat,[J4 P1 a,J4 P1 b]=[.int .u64 (u:Int),.int .u64 (v:Int)]/\ey u v=G/\u<1000000000000000000/\v<1000000000000000000)/\
   ∀(n n_2:Int),(∃u v:Nat,[J4 P1 n,J4 P1 n_2]=[.int .u64 (u:Int),.int .u64 (v:Int)]/\ey u v=G/\u<1000000000000000000/\v<1000000000000000000)->
    br (toB (Lm (decide (n_2>(0:Int)))))
     (n_2≠(0:Int)/\
      (∃u v:Nat,[J4 P1 n_2,J4 P1 (bv n n_2)]=[.int .u64 (u:Int),.int .u64 (v:Int)]/\ey u v=G/\u<1000000000000000000/\v<1000000000000000000)/\
       (toI (nth .undef [J4 P1 n_2,J4 P1 (bv n n_2)] 1)).toNat<(toI (nth .undef [J4 P1 n,J4 P1 n_2] 1)).toNat)
     (∃es,Gives CC 188 [Hx (J4 P1 n)] [Hx (Hy es)]/\
      ∃b es_2,Gives CC 187 [Hx (Lm false),Hx (Hy es)] [Hv [Lm b,Hy es_2]]/\[Hv [Lm b,Hy es_2]]=[qL (G:Int)]):=by
  intro sm sn;have h3:(1000000000:Nat)^2=1000000000000000000:=by decide
  have g1:=yT (qc m) (qp (by omega));have g2:=yT (qc n) (qp (by omega));rw[qi]at g1 g2;refine⟨_,g1,_,g2,⟨m,n,rfl,hg,sm,sn⟩,?_⟩;rintro a b ⟨u,v,he,a6,hu,hv⟩;simp only[ei,Lv,true_and,and_true]at he;obtain⟨rfl,rfl⟩:=he;refine brd (λh2=>?_) (λh2=>?_)
  .have a7:0<v:=by omega
   have e2:bv (u:Int) (v:Int)=((u%v:Nat):Int):=by rw[Int.tmod_eq_emod_of_nonneg (by omega)];rfl
   have a3:=ez u a7;rw[e2];refine⟨by omega,⟨v,u%v,rfl,by rw[<-a6,fy v,<-g4,fy],hv,by omega⟩,?_⟩;simp only[nth,toI,U3];exact a3
  .have a7:v=0:=by omega
   subst a7;rw[gn]at a6;subst a6;have:(lim u).length<=2:=qp (by omega);exact⟨_,wU (by omega),_,_,xf false (qc u) (by omega) (z:=(u:Int)) (by simp[qi]),rfl⟩
 refine brd (λh=>?_) (λh=>?_)
 .have a1:0<n:=qD.1 (by omega);refine brd (λh1=>a2 a1) (λh1=>brd (λh2=>a2 a1) (λh2=>brb (λh3=>?_) (λ_=>a5 (a0 h1) (a0 h2))));have:((lim n).length:Int)=0:=by simpa using h3
  omega
 .have a1:n=0:=by
   rcases fg n with h0|h0
   .exact h0
   .have:=qD.2 h0;omega
  refine brb (λ_=>a4 a1) (λh3=>?_);subst a1;simp[Ki]at h3
theorem kw (hd:wa) {x y:Int} (hx:Sm x) (hy:Sm y) (hy0:0<y):Gives CC 345 [qL x,qL y] [qL (x/y),qL (x%y),.c (.int .i64 0)]:=by
 refine qm (anns:=an0) mixedT Tryz.func345 ?_;have lx:=hx.len;have ly:=hy.len;have hyn:y.natAbs≠0:=by omega
 have hlp:0<(lim y.natAbs).length:=qD.2 (by omega);have h1:=hd x.natAbs y.natAbs hyn lx ly;have hqs:(x/y).natAbs<=x.natAbs+1:=by have:=Int.natAbs_ediv_le_natAbs x y;omega
 rw[qE x,qE y,HP];simp only[V1];obtain⟨a,ha⟩:∃a:Nat,x.natAbs=a:=⟨_,rfl⟩;obtain⟨b,hb⟩:∃b:Nat,y=(b:Int):=⟨y.natAbs,by omega⟩;have a0:y.natAbs=b:=by omega
 have hb0:0<b:=by omega
 rw[ha,a0]at h1;rw[ha]at lx;rw[a0]at ly;have hdm:=Nat.div_add_mod a b;have hml:=ez a hb0;have lq:(lim (a/b)).length<=100000:=e7 (RW (eH a b)) lx;have lr:(lim (a%b)).length<=100000:=e7 (RW (Nat.mod_le a b)) lx;refine brb (λh=>?_) (λ_=>?_)
 .rw[qe]at h;have:((lim y.natAbs).length:Int)=0:=by simpa using h
  omega
 have a2:decide (y<0)=false:=decide_eq_false (by omega);rw[a2];by_cases hx0:x<0
 .have hxt:decide (x<0)=true:=decide_eq_true hx0;rw[hxt,ha,a0];have a1:x= -(a:Int):=by omega
  have gq:=xf true (qc (a/b)) (by omega) (z:= -((a/b:Nat):Int)) (by rw[qi];rfl);have gr:=xf true (qc (a%b)) (by omega) (z:= -((a%b:Nat):Int)) (by rw[qi];rfl);refine⟨_,_,h1,_,_,gq,_,_,gr,?_⟩;rw[qe];refine brd (λh=>brb (λh2=>?_) (λh2=>?_)) (λh=>?_)
  .have hr0:0<a%b:=qD.1 (by omega);have g1:=zI (n:=1) (by omega) (by omega);have hq:(a/b)<Kk:=eu (eH _ _) (ha▸hx);have sq:Sm (-((a/b:Nat):Int)):=by unfold Sm;rw[cg,W2];exact hq
   have sr:Sm (-((a%b:Nat):Int)):=by unfold Sm;rw[cg,W2];exact gy hml (a0▸hy)
   have gs:=LC sq Gl;have ga:=Zs sr hy;have ga2:Gives CC 308 [qL (-((a%b:Nat):Int)),.ag [.bool false,.sl (raw (lim b))]] [qL (-((a%b:Nat):Int)+y)]:=by
    have e0:qL y= .ag [.bool false,.sl (raw (lim b))]:=by rw[qE y,a2,a0]
    rw[e0]at ga;exact ga
   refine⟨_,_,g1,_,_,gs,_,_,ga2,?_⟩;have e1:x/y= -((a/b:Nat):Int)-1/\x%y= -((a%b:Nat):Int)+y:=by
    have:=bw (a:=x) (b:=y) (r:= -((a%b:Nat):Int)+y) (q:= -((a/b:Nat):Int)-1) hy0;refine this.2 ⟨?_,by omega,by omega⟩;rw[a1,hb];have h5:(b:Int)*(-((a/b:Nat):Int)-1)= -((b*(a/b):Nat):Int)-b:=by rw[Int.mul_sub,cm,Int.mul_one,cb]
    rw[h5];omega
   rw[e1.1,e1.2];rfl
  .simp at h2
  .have hr0:a%b=0:=by
    rcases fg (a%b)with h0|h0
    .exact h0
    .have:=qD.2 h0;omega
   have e1:x/y= -((a/b:Nat):Int)/\x%y= -((a%b:Nat):Int):=by have:=bw (a:=x) (b:=y) (r:= -((a%b:Nat):Int)) (q:= -((a/b:Nat):Int)) hy0;refine this.2 ⟨?_,by omega,by omega⟩;rw[a1,hb,cm,<-cb];omega
   rw[e1.1,e1.2];rfl
 .have hxf:decide (x<0)=false:=decide_eq_false hx0;rw[hxf,ha,a0];have a1:x=(a:Int):=by omega
  have gq:=xf false (qc (a/b)) (by omega) (z:=((a/b:Nat):Int)) (by rw[qi];rfl);have gr:=xf false (qc (a%b)) (by omega) (z:=((a%b:Nat):Int)) (by rw[qi];rfl);refine⟨_,_,h1,_,_,gq,_,_,gr,?_⟩;have e1:x/y=((a/b:Nat):Int)/\x%y=((a%b:Nat):Int):=by rw[a1,hb];exact⟨rfl,rfl⟩
  refine brd (λh=>brb (λh2=>?_) (λh2=>?_)) (λh=>?_)
  .simp at h2
  .rw[e1.1,e1.2];rfl
  .rw[e1.1,e1.2];rfl
theorem Ky:Gives CC 117 [] [qL 1]:=by
 refine qm (anns:=an0) mixedT Tryz.func117 ?_;rw[Pg];exact⟨_,_,zI (n:=1) (by omega) (by omega),rfl⟩
omit [Env] in
theorem Pj (z:Int):cI z=[.bool (decide (z<0)),.sl (raw (lim z.natAbs))]:=rfl
theorem LE (hd:wa) {x y:Int} (hx:Sm x) (hy:Sm y) (hy0:y≠0):Gives CC 307 [qL x,qL y] [xv (h7 x y)]:=by
 refine qm (anns:=N0 an0 3 ⟨[.box 2 [.bool false,.slice none 0 0],.box 3 [.bool false,.slice none 0 0]],[.box 2 [.bool false,.slice none 0 0],.box 3 [.bool false,.slice none 0 0]],λ_ ds=>∃u v:Int,ds=cI u++cI v/\Sm u/\Sm v/\0<v/\h7 u v=h7 x y,λ_=>0⟩) mixedT Tryz.func307 ?_;rw[qE x,qE y,FR];have hS:=yU y;rw[qE y]at hS;have a1:=Zr hx;have a2:=Zr hy;rw[qE x,qE]at a1;rw[qE y,qE]at a2;refine⟨⟨_,hS,brd (λh=>?_) (λh=>?_)⟩,?_⟩
 .have a3:y<0:=by
   unfold sgn at h;split at h
   .assumption
   .split at h<;>omega
  exact⟨_,_,a1,_,_,a2, -x, -y,rfl,Gm hx,Gm hy,by omega,by rw[Rat.neg_divInt_neg]⟩
 .have a3:0<y:=by
   unfold sgn at h;split at h
   .omega
   .omega
  exact⟨x,y,rfl,hx,hy,a3,rfl⟩
 .rintro b1 es1 b2 es2 ⟨u,v,he,hu,hv,hv0,hr⟩;simp only[Pj,List.cons_append,List.nil_append,ei,D.bool.injEq,No,and_true]at he;obtain⟨rfl,rfl,rfl,rfl⟩:=he;obtain⟨g,hg⟩:∃g:Nat,g=ey u.natAbs v.natAbs:=⟨_,rfl⟩;have hgp:0<g:=by rw[hg];exact Nat.gcd_pos_of_pos_right _ (by omega)
  have a0:Sm (g:Int):=smN.2 (by rw[hg];exact eu (Nat.gcd_le_right _ (by omega)) hv);have g1:=Yg hd hu hv;rw[<-hg]at g1;have g2:=kw hd hu a0 (by omega);have g3:=kw hd hv a0 (by omega);refine⟨_,_,g1,_,_,_,_,_,g2,_,_,_,_,_,g3,?_⟩;rw[<-hr,kY hv0,<-hg];rfl
theorem Pk (hd:wa) {x y:Int} (hx:Sm x) (hy:Sm y):
 Gives CC 354 [qL x,qL y] (if y=0 then [.ag [.bool false,.sl [],.bool false,.sl []],.c (.int .i64 6)]else [xv (h7 x y),.c (.int .i64 0)]):=by
 refine qm (anns:=an0) mixedT Tryz.func354 ?_;rw[qX x,qX y,Ph];refine⟨_,yU y,?_⟩;refine brb (λh=>?_) (λh=>?_)
 .have:y=0:=by
   unfold sgn at h;split at h
   .simp at h
   .split at h
    .simp at h
    .omega
  rw[if_pos this]
 .have:y≠0:=by rintro rfl;simp[sgn]at h
  rw[if_neg this];exact⟨q4 _,LE hd hx hy this,rfl⟩
theorem Gw (r:Rat):Gives CC 114 [xv r] [.c (.int .i64 (sgn r.num))]:=by
 refine qm (anns:=an0) mixedT Tryz.func114 ?_;rw[qF,Pi];exact⟨_,yU r.num,rfl⟩
theorem Yh {x:Rat} (hx:Sr x):Gives CC 245 [xv x] [xv (-x)]:=by
 refine qm (anns:=an0) mixedT Tryz.func245 ?_;rw[qF,BT];refine⟨_,_,Zr hx.1.sm,?_⟩;rw[qF,hA];have:(-x).den=x.den:=rfl;rw[this]
theorem Yi (hd:wa) {x y:Rat} (hx:Sr x) (hy:Sr y):Gives CC 238 [xv x,xv y] [xv (x+y)]:=by
 refine qm (anns:=an0) mixedT Tryz.func238 ?_;rw[qF,qF,BU];have px:=den_pos x;have py:=den_pos y;have hp:=W1 px py;have e0:x+y=h7 (x.num*y.den+y.num*x.den) (x.den*y.den):=by rw[<-h9 _ _ (by omega) (by omega),g7,g7]
 refine⟨_,_,je hx.1.sm hy.2.sm,_,_,je hy.1.sm hx.2.sm,_,_,Zs (hx.1.mul hy.2) (hy.1.mul hx.2),_,_,je hx.2.sm hy.2.sm,q4 _,LE hd (hx.1.mul_add hy.2 hy.1 hx.2) (hx.2.mul hy.2) (by omega),?_⟩;rw[e0];rfl
theorem LF (hd:wa) {x y:Rat} (hx:Sr x) (hy:Sr y):Gives CC 237 [xv x,xv y] [xv (x-y)]:=by
 refine qm (anns:=an0) mixedT Tryz.func237 ?_;rw[qF,qF,BV];refine⟨q4 _,Yh hy,q4 _,Yi hd hx hy.neg,?_⟩;rw[hC];rfl
theorem LG {x y:Rat} (hx:Sr x) (hy:Sr y):Gives CC 64 [xv x,xv y] [.c (.int .i64 (BG x y))]:=by
 refine qm (anns:=an0) mixedT Tryz.func64 ?_;rw[qF,qF,BW];rw[Zk];exact⟨_,_,je hx.1.sm hy.2.sm,_,_,je hy.1.sm hx.2.sm,_,Kw (hx.1.mul hy.2) (hy.1.mul hx.2),rfl⟩
theorem LH (hd:wa) {x y:Rat} (hx:Sr x) (hy:Sr y):Gives CC 239 [xv x,xv y] [xv (x*y)]:=by
 refine qm (anns:=an0) mixedT Tryz.func239 ?_;rw[qF,qF,BX];have px:=den_pos x;have py:=den_pos y;have:=W1 px py;refine⟨_,_,je hx.1.sm hy.1.sm,_,_,je hx.2.sm hy.2.sm,q4 _,LE hd (hx.1.mul hy.1) (hx.2.mul hy.2) (by omega),?_⟩;have e:x*y=h7 (x.num*y.num) (x.den*y.den):=by rw[<-h8,g7,g7]
 rw[e];rfl
theorem BZ (hd:wa) {x y:Rat} (hx:Sr x) (hy:Sr y):
 Gives CC 292 [xv x,xv y] (if y=0 then [.ag [.bool false,.sl [],.bool false,.sl []],.c (.int .i64 6)]else [xv (x/y),.c (.int .i64 0)]):=by
 refine qm (anns:=an0) mixedT Tryz.func292 ?_;rw[qF,qF,BY];have px:=den_pos x;have py:=den_pos y;have hm:=Pk hd (hx.1.mul hy.2) (hx.2.mul hy.1);by_cases hn:y.num=0
 .have:y=0:=hE.1 hn;rw[if_pos this];rw[if_pos (by rw[hn,Int.mul_zero])]at hm;exact⟨_,_,je hx.1.sm hy.2.sm,_,_,je hx.2.sm hy.1.sm,⟨false,[],false,[]⟩,_,hm,rfl⟩
 .have:y≠0:=λh=>hn (hE.2 h)
  rw[if_neg this];have h0:(x.den:Int)*y.num≠0:=Int.mul_ne_zero (by omega) hn;rw[if_neg h0]at hm;refine⟨_,_,je hx.1.sm hy.2.sm,_,_,je hx.2.sm hy.1.sm,q4 _,_,hm,?_⟩;have e:x/y=h7 (x.num*y.den) (x.den*y.num):=by rw[Rat.div_def,<-h8,g7,<-Rat.inv_divInt,g7]
  rw[e];rfl
theorem zJ {n:Int} (h1: -9223372036854775808<=n) (h2:n<9223372036854775808):Gives CC 63 [.c (.int .i64 n)] [xv (n:Rat)]:=by
 refine qm (anns:=an0) mixedT Tryz.func63 ?_;rw[Kx];refine⟨_,_,zI h1 h2,_,_,Ky,?_⟩;rw[qF,hD,hH];rfl
end Eng
end
section
namespace Eng
open Go Go.Proofs
variable [Env]
omit [Env] in
theorem yW {a b:Nat} (h:raw (lim a)=raw (lim b)):a=b:=by
 have:=VX h;rw[<-qi a,<-qi b,this]
def aW (a b c j4 j18 j20 j23:Ann):Nat->Ann:=N0 (N0 (N0 (N0 (cP a b c) 4 j4) 18 j18) 20 j20) 23 j23
omit [Env] in
theorem yh {x s:Nat} (hs:s<1000000000):(lim (x*s)).length<=(lim x).length+1:=by
 apply qp;have h:=qS (qc x);rw[qi]at h;rw[ft]
 calc x*s<=x*1000000000:=gd _ (by omega)
  _<1000000000^(lim x).length*1000000000:=fR h (by omega)
omit [Env] in
theorem Pm {y:Nat} (hy:y≠0):∃d s:Nat,0<d/\d<1000000000/\(∀h:(lim y).length-1<(lim y).length,(lim y)[(lim y).length-1]=d)/\0<s/\s=1000000000/(d+1)/\s<1000000000:=by
 have hl:0<(lim y).length:=qD.2 (by omega);have a2:(lim y).length-1<(lim y).length:=by omega
 obtain⟨d,hd⟩:∃d,(lim y)[(lim y).length-1]=d:=⟨_,rfl⟩;have a1:d<1000000000:=hd▸(qc y).get a2;have a0:0<d:=by
  rcases fg d with h0|h0
  .exfalso;rcases jk y with h|h
   .rw[h]at hl;simp at hl
   .apply h;rw[List.getLast?_eq_getElem?,c1 a2,hd,h0]
  .exact h0
 obtain⟨_,hs2,hs3⟩:=Jw a0 a1 (s:=1000000000/(d+1)) rfl;refine⟨d,1000000000/(d+1),a0,a1,λ_=>hd,by omega,rfl,?_⟩;generalize 1000000000/(d+1)=s at *;have:s*2<=s*(d+1):=gd _ (by omega);omega
omit [Env] in
theorem FS {V p:Nat} (hp:(lim V).length=p+1):∃v1:Nat,v1=V/1000000000^p/\0<v1/\v1<1000000000/\(∀h:p<(lim V).length,(lim V)[p]=v1)/\v1*1000000000^p<=V/\V<1000000000^(p+1):=by
 have hB:V<1000000000^(p+1):=by have h:=qS (qc V);rw[qi,hp]at h;exact h
 have hP:1000000000^p<=V:=by
  rcases fx V (1000000000^p)with h|h
  .have:=qp h;omega
  .exact h
 have a0:0<1000000000^p:=fz (by omega);have hv:V/1000000000^p<1000000000:=by rw[eL a0,fS,<-ft];exact hB
 refine⟨V/1000000000^p,rfl,Nat.div_pos hP a0,hv,λh=>?_,Nat.div_mul_le_self _ _,hB⟩;have h2:=Xa p V;rw[gx hv]at h2;rw[<-h2];simp[ea,h]
omit [Env] in
theorem Ca {T V p:Nat} (h:T<1000000000*V) (hV:V<1000000000^(p+1)):T/1000000000^(p+1)<1000000000/\T/1000000000^p<1000000000000000000:=by
 have h1:T<1000000000*1000000000^(p+1):=gy h (Nat.mul_lt_mul_of_pos_left hV (by omega));constructor
 .rw[eL (fz (by omega))];exact h1
 .rw[eL (fz (by omega))];rw[ft]at h1
  calc T<1000000000*(1000000000^p*1000000000):=h1
   _=1000000000000000000*1000000000^p:=by rw[fS (1000000000^p),<-Nat.mul_assoc]
def qr (u:List Nat) (V:Nat) (kk:Nat) (ql:List Nat) (R:Nat):Prop:=
 kk+ql.length=u.length/\Limbs ql/\R<V/\val ql*V+R=val (u.drop kk)
omit [Env] in
theorem qr.start {u:List Nat} {V:Nat} (hV:0<V):qr u V u.length [] 0:=by
 refine⟨rfl,Limbs.nil,hV,?_⟩;rw[List.drop_length];simp[val]
omit [Env] in
theorem qr.next {u:List Nat} {V k R c:Nat} {ql:List Nat} (h:qr u V (k+1) ql R) (hc:c<1000000000) (hk:∀h:k<u.length,u[k]=c):qr u V k ((c+1000000000*R)/V::ql) ((c+1000000000*R)%V):=by
 obtain⟨h1,h2,h3,h4⟩:=h;have a0:k<u.length:=by omega
 refine⟨by simp only[dc];omega,h2.cons (wV hc h3),ez _ (by omega),?_⟩;rw[Pf a0,<-h4,hk a0,<-LA];rfl
omit [Env] in
theorem qr.fin {u:List Nat} {V R:Nat} {ql:List Nat} (h:qr u V 0 ql R):val ql=val u/V/\R=val u%V:=by
 obtain⟨h1,h2,h3,h4⟩:=h;rw[List.drop_zero]at h4;exact Ye h4 h3
theorem Yj {x y:Nat} (h1:(lim x).length<=2) (h2:(lim y).length<=2) (hy:y≠0) {Q:List A->Prop} (hQ:Q [.c (.sl (raw (lim (x/y)))),.c (.sl (raw (lim (x%y))))]):
 ∃n,Gives CC 242 [Hx (Hy (raw (lim x)))] [Hx (J4 P1 n)]/\
  ∃n_1,Gives CC 242 [Hx (Hy (raw (lim y)))] [Hx (J4 P1 n_1)]/\n_1≠(0:Int)/\
   ∃es,Gives CC 188 [Hx (J4 P1 (Pl P1 (bs n n_1)))] [Hx (Hy es)]/\
    n_1≠(0:Int)/\∃es_1,Gives CC 188 [Hx (J4 P1 (bv n n_1))] [Hx (Hy es_1)]/\Q [Hx (Hy es),Hx (Hy es_1)]:=by
 have hx:=yT (qc x) h1;have a0:=yT (qc y) h2;rw[qi]at hx a0;have bx:x<1000000000000000000:=by have h:=qS (qc x);rw[qi]at h;exact gm h (e7 (eU (by omega) h1) (by decide))
 have by_:y<1000000000000000000:=by have h:=qS (qc y);rw[qi]at h;exact gm h (e7 (eU (by omega) h2) (by decide))
 have e1:bs (x:Int) (y:Int)=((x/y:Nat):Int):=(W0 x y).symm;have e2:bv (x:Int) (y:Int)=((x%y:Nat):Int):=(cc x y).symm;have l1:x/y<=x:=eH _ _;have l2:x%y<y:=ez _ (by omega);refine⟨_,hx,_,a0,by omega,?_⟩;rw[e1,e2];generalize x/y=q at *;generalize x%y=r at *;rw[xH];exact⟨_,wU (by omega),by omega,_,wU (by omega),hQ⟩
theorem jv:wa:=by
 intro x y hy hlx hly;by_cases hsmall:(lim x).length<=2/\(lim y).length<=2
 .refine qm (anns:=aW ⟨[.own 12 173 1,.slot 11 (.slice none 0 0),.slot 14 (.int .i64 0)],[],λ_ _=>True,λ_=>0⟩ ⟨[.slot 16 (.int .u64 0),.slot 17 (.slice none 0 0)],[.slot 11 (.slice none 0 0),.slot 14 (.int .i64 0),.own 12 173 1],λ_ _=>True,λ_=>0⟩ ⟨[.own 19 174 1,.slot 18 (.int .u64 0),.slot 20 (.int .i64 0)],[.slot 11 (.slice none 0 0)],λ_ _=>True,λ_=>0⟩
   ⟨[],[],λ_ _=>False,λ_=>0⟩ ⟨[.slot 15 (.int .u64 0)],[.slot 11 (.slice none 0 0)],λ_ _=>True,λ_=>0⟩ ⟨[.slot 15 (.int .u64 0)],[.slot 11 (.slice none 0 0)],λ_ _=>True,λ_=>0⟩ ⟨[.slot 16 (.int .u64 0)],[.slot 11 (.slice none 0 0)],λ_ _=>True,λ_=>0⟩) mixedT Tryz.func241 ?_
  unfold aW;rw[Vd];simp only[V1,qe];refine⟨brd (λ_=>brd (λ_=>Yj (Q:=λrs=>rs=[.c (.sl (raw (lim (x/y)))),.c (.sl (raw (lim (x%y))))]) hsmall.1 hsmall.2 hy rfl) (λh=>?_)) (λh=>?_),λh=>h.elim⟩
  .exact h (by have:=hsmall.2;omega)
  .exact h (by have:=hsmall.1;omega)
 ·--the scale
  obtain⟨d,s,hd0,hd1,hdl,ap,hs,b0⟩:=Pm hy;have hlyp:0<(lim y).length:=qD.2 (by omega);obtain⟨V,hV⟩:∃V,V=y*s:=⟨_,rfl⟩;obtain⟨U,hU⟩:∃U,U=x*s:=⟨_,rfl⟩;have an:0<V:=by rw[hV];exact g0 (by omega) ap
  have bg:=LB (qc y) b0 (by omega);have be:=LB (qc x) b0 (by omega);rw[qi,<-hV]at bg;rw[qi,<-hU]at be;have hlV:(lim V).length<=(lim y).length+1:=by rw[hV];exact yh b0
  have hlU:(lim U).length<=(lim x).length+1:=by rw[hU];exact yh b0
  have hlVp:0<(lim V).length:=qD.2 an;obtain⟨p,hp⟩:∃p,(lim V).length=p+1:=⟨(lim V).length-1,by omega⟩;obtain⟨v1,hv1,hv0,hvB,hvl,hvP,bc⟩:=FS hp;have hwd:Pl .u32 (Pl .u64 (bs 1000000000 (Pl .u64 (Pl .u64 (d:Int)+1))))=(s:Int):=by rw[xH (n:=(d:Int)),xH (n:=(d:Int)+1)];have:bs (1000000000:Int) ((d:Int)+1)=((1000000000/(d+1):Nat):Int):=(W0 1000000000 (d+1)).symm;rw[this,<-hs,xH,j0]
  have hws:Pl .u64 (s:Int)=(s:Int):=xH;have hwp:Pl .i64 (((lim V).length:Int)-1)=(p:Int):=by rw[hp,xb];omega
  have hwv:Pl .u64 (v1:Int)=(v1:Int):=xH;refine qm (anns:=aW
   ⟨[.own 12 173 1,.slot 11 (.slice none 0 0),.slot 14 (.int .i64 0)],[],λ_ ds=>∃(kk:Nat) (ql:List Nat) (R:Nat),ds=[.sl (raw (c3 kk 0++ql)),.sl (raw (lim R)),.int .i64 ((kk:Int)-1)]/\qr (lim U) V kk ql R,λds=>(toI (nth .undef ds 2)+1).toNat⟩
   ⟨[.slot 16 (.int .u64 0),.slot 17 (.slice none 0 0)],[.slot 11 (.slice none 0 0),.slot 14 (.int .i64 0),.own 12 173 1],λgs ds=>∃(T g:Nat),nth .undef gs 0= .sl (raw (lim T))/\ds=[.int .u64 (g:Int),.sl (raw (lim (V*g)))]/\T/V<=g/\g<=999999999,λds=>(toI (nth .undef ds 0)).toNat⟩
   ⟨[.own 19 174 1,.slot 18 (.int .u64 0),.slot 20 (.int .i64 0)],[.slot 11 (.slice none 0 0)],λgs ds=>∃(R kk:Nat) (ql:List Nat) (t:Nat),gs=[.sl (raw (lim R))]/\ds=[.sl (raw (c3 kk 0++ql)),.int .u64 (t:Int),.int .i64 ((kk:Int)-1)]/\qr (lim R) s kk ql t,λds=>(toI (nth .undef ds 2)+1).toNat⟩
   ⟨[],[],λ_ _=>True,λ_=>0⟩
   ⟨[.slot 15 (.int .u64 0)],[.slot 11 (.slice none 0 0)],λgs ds=>∃T:Nat,gs=[.sl (raw (lim T))]/\ds=[.int .u64 ((T/1000000000^(p+1)*1000000000:Nat):Int)],λ_=>0⟩
   ⟨[.slot 15 (.int .u64 0)],[.slot 11 (.slice none 0 0)],λgs ds=>∃T:Nat,gs=[.sl (raw (lim T))]/\ds=[.int .u64 ((T/1000000000^p:Nat):Int)],λ_=>0⟩
   ⟨[.slot 16 (.int .u64 0)],[.slot 11 (.slice none 0 0)],λgs ds=>∃(T g:Nat),gs=[.sl (raw (lim T))]/\ds=[.int .u64 (g:Int)]/\T/V<=g/\g<=999999999,λ_=>0⟩) mixedT Tryz.func241 ?_
  unfold aW;rw[Vd];simp only[V1,qe];refine⟨brd (λ_=>brd (λh=>?_) (λ_=>trivial)) (λ_=>trivial),λ_=>?_⟩
  .exact absurd ⟨by omega,by omega⟩ hsmall
  have hwl:Pl .i64 (((lim y).length:Int)-1)=(((lim y).length-1:Nat):Int):=by rw[xb];omega
  have hwx:Pl .i64 (((lim x).length:Int)+1)=(((lim x).length+1:Nat):Int):=by rw[xb];omega
  rw[hwl,hwx,U3,U3];have hdc:cut (nth [] (raw (lim y)) ((lim y).length-1)) 0 1 [.int .u32 (d:Int)]:=by have:=qA (l:=lim y) (i:=(lim y).length-1) (by omega);rw[hdl (by omega)]at this;exact this
  refine⟨⟨by omega,by omega,qz (by omega)⟩,_,hdc,?_⟩;rw[hwd];refine⟨?_,_,bg,?_⟩
  .rw[xH (n:=(d:Int)),xH (n:=(d:Int)+1)];omega
  have hvc:cut (nth [] (raw (lim V)) p) 0 1 [.int .u32 (v1:Int)]:=by have:=qA (l:=lim V) (i:=p) (by omega);rw[hvl (by omega)]at this;exact this
  rw[qe,hwp,U3];refine⟨⟨by omega,by omega,qz (by omega)⟩,_,hvc,⟨by omega,by omega,by unfold room;omega⟩,_,be,?_⟩;rw[hws,hwv];simp only[qe,c0,U3];refine⟨⟨by omega,by omega⟩,⟨(lim U).length,[],0,?_,qr.start an⟩,?_⟩
  .rw[List.take_replicate,Nat.min_eq_left hlU,xn,ed,xb];rfl
  rintro es es_3 n_2 ⟨kk,ql,R,he,hq⟩;simp only[ei,No,Lv,true_and,and_true]at he;obtain⟨rfl,rfl,rfl⟩:=he;refine brd (λh=>?_) (λh=>?_)
  .obtain⟨k,rfl⟩:∃k,kk=k+1:=⟨kk-1,by omega⟩;have b5:((k+1:Nat):Int)-1=(k:Int):=by omega
   have a3:k<(lim U).length:=by have:=hq.1;omega
   obtain⟨c,hc⟩:∃c,(lim U)[k]=c:=⟨_,rfl⟩;have a1:c<1000000000:=hc▸(qc U).get a3;have a6:R<V:=hq.2.2.1;obtain⟨T,hT⟩:∃T,T=c+1000000000*R:=⟨_,rfl⟩;have a0:=hq.next a1 (λ_=>hc)
   rw[<-hT]at a0;have ba:T<1000000000*V:=hT▸Gt a1 a6;have bb:T/V<1000000000:=hT▸wV a1 a6;have hlR:(lim R).length<=(lim V).length:=RW (gb a6);have hlT:(lim T).length<=(lim V).length+1:=by refine e7 (RW (gb ba)) ?_;rw[fS];apply qp;rw[hp,ft];exact fR bc (by omega)
   have al:Gives CC 240 [.c (.sl ([J4 .u32 (c:Int)]::raw (lim R)))] [.c (.sl (raw (lim T)))]:=by have h:=j1 (l:=c::lim R) ((qc R).cons a1) (by rw[dc];omega);rw[show val (c::lim R)=T by show c+1000000000*val (lim R)=T;rw[qi,hT]]at h;exact h
   have a2:cut (nth [] (raw (lim U)) k) 0 1 [.int .u32 (c:Int)]:=by have h:=qA (l:=lim U) (i:=k) a3;rw[hc]at h;exact h
   obtain⟨hH1,hH0⟩:=Ca ba bc;rw[b5,U3];refine⟨⟨by omega,by omega,qz a3⟩,_,a2,⟨by rw[qe];unfold room;omega,zG _⟩,_,al,?_⟩;simp only[qe];rw[hp];refine⟨brd (λh2=>?_) (λh2=>?_),?_⟩
   .have a4:p+1<(lim T).length:=by omega
    have a7:=qA (l:=lim T) (i:=p+1) a4;have hg:=Xa (p+1) T;rw[gx hH1,ea,c1 a4,Option.getD_some]at hg;rw[hg]at a7;refine⟨⟨by omega,by omega,qz a4⟩,_,a7,T,rfl,?_⟩;generalize T/1000000000^(p+1)=t at *;rw[xH (n:=(t:Int)),xH];rfl
   .have:=Ve (n:=T) (i:=p+1) (by omega);exact⟨T,rfl,by rw[this];rfl⟩
   rintro n ⟨T',h2,h3⟩;simp only[ei,No,Lv,true_and,and_true]at h2 h3;obtain rfl:=yW h2;subst h3;refine⟨brd (λh2=>?_) (λh2=>?_),?_⟩
   .have a4:p<(lim T).length:=by omega
    have a7:=qA (l:=lim T) (i:=p) a4;have hg:=Xa p T;rw[ea,c1 a4,Option.getD_some]at hg;rw[hg]at a7;refine⟨⟨by omega,by omega,qz a4⟩,_,a7,T,rfl,?_⟩;have b1:=Vf (R:=T) (n:=p);have hm:=ez (T/1000000000^p) (show 1000000000>0 by omega);generalize T/1000000000^(p+1)=t at *;generalize T/1000000000^p=t2 at *;generalize t2%1000000000=t3 at *;rw[xH (n:=(t3:Int)),xH,<-b1];rfl
   .have h4:=Ve (n:=T) (i:=p) (by omega);have b1:=Vf (R:=T) (n:=p);rw[h4,Nat.zero_mod,Nat.add_zero]at b1;exact⟨T,rfl,by rw[h4,b1]⟩
   rintro n ⟨T',h2,h3⟩;simp only[ei,No,Lv,true_and,and_true]at h2 h3;obtain rfl:=yW h2;subst h3;have hup:T/V<=T/1000000000^p/v1:=FO (vl:=V-v1*1000000000^p) (Nat.add_sub_cancel' hvP).symm (g0 hv0 (fz (by omega)));have htd:bs ((T/1000000000^p:Nat):Int) (v1:Int)=((T/1000000000^p/v1:Nat):Int):=(W0 _ _).symm;have hle:T/1000000000^p/v1<=T/1000000000^p:=eH _ _;rw[htd];generalize T/1000000000^p/v1=G at *;generalize T/1000000000^p=H at *;rw[xH (n:=(G:Int))];refine⟨by omega,brd (λh2=>?_) (λh2=>?_),?_⟩
   .exact⟨T,999999999,rfl,rfl,by generalize T/V=q at *;omega,by omega⟩
   .exact⟨T,G,rfl,rfl,hup,by omega⟩
   rintro n ⟨T',g,h2,h3,bh,hg2⟩;simp only[ei,No,Lv,true_and,and_true]at h2 h3;obtain rfl:=yW h2;subst h3;have bd:=LB (qc V) (d:=g) (by omega) (by omega);rw[qi]at bd;rw[j0 (n:=(g:Int))];refine⟨_,bd,⟨T,g,rfl,rfl,bh,hg2⟩,?_⟩;rintro n es_6 ⟨T',g',h2,h3,ad,hg2'⟩;simp only[nth,ei,No,Lv,true_and,and_true]at h2 h3;obtain rfl:=yW h2;obtain⟨rfl,rfl⟩:=h3;have hlg:(lim (V*g')).length<=(lim V).length+1:=yh (by omega);refine⟨_,jM (x:=V*g') (y:=T) (by omega) (by omega),brd (λh2=>?_) (λh2=>?_)⟩
   .have hgt:T<V*g':=by
     unfold Qe at h2;split at h2
     .omega
     .split at h2
      .assumption
      .omega
    have b2:T/V<g':=FP an hgt;have b3:0<g':=eu (en _) b2;have b4:T/V<=g'-1:=Nat.le_sub_one_of_lt b2;clear b2 bh ad bb;have hm:=yV (qc (V*g')) (qc V) (by omega) (by rw[qi,qi];exact Nat.le_mul_of_pos_right _ b3);rw[qi,qi,show V*g'-V=V*(g'-1)by rw[Nat.mul_sub_one]]at hm;have hw:Pl .u64 ((g':Int)-1)=((g'-1:Nat):Int):=by rw[xH];omega
    rw[hw];exact⟨_,hm,⟨T,g'-1,rfl,rfl,b4,by omega⟩,by simp only[nth,toI];omega⟩
   .have ag:V*g'<=T:=by
     unfold Qe at h2;split at h2
     .omega
     .split at h2
      .omega
      .omega
    have bl:=FQ an ag ad;have hm:=yV (qc T) (qc (V*g')) (by omega) (by rw[qi,qi];exact ag);rw[qi,qi,bl,BR]at hm;rw[bl];have a5:Pl .u32 ((T/V:Nat):Int)=((T/V:Nat):Int):=by have h5:=bb;generalize T/V=q at h5;exact j0
    rw[a5,xQ (by rw[c4,c0];omega),Gu];have hw:Pl .i64 ((k:Int)-1)=(k:Int)-1:=xb;rw[hw];refine⟨_,hm,⟨by omega,by simp only[c4,c0];omega⟩,by omega,⟨k,_,_,rfl,a0⟩,?_⟩;simp only[nth,toI];omega
  .obtain rfl:kk=0:=by omega
   have b6:=hq.fin;rw[qi]at b6;have e1:U/V=x/y:=by rw[hU,hV];exact Nat.mul_div_mul_right _ _ ap
   have e2:U%V=x%y*s:=by rw[hU,hV];exact Nat.mul_mod_mul_right _ _ _
   rw[e1,e2]at b6;obtain⟨hv,hR⟩:=b6;have a6:R<V:=hq.2.2.1;have hlR:(lim R).length<=(lim V).length:=RW (gb a6);have hlq:ql.length=(lim U).length:=by have:=hq.1;omega
   have hLq:Limbs ql:=hq.2.1;simp only[qe];refine⟨⟨by omega,by omega,by unfold room;omega⟩,⟨R,(lim R).length,[],0,rfl,?_,qr.start ap⟩,?_⟩
   .rw[ed,xn,xb];rfl
   rintro es_4 n_3 n_4 ⟨R',kk,ll,t,h2,h3,hr⟩;simp only[ei,No,Lv,true_and,and_true]at h2 h3;obtain rfl:=yW h2;obtain⟨rfl,rfl,rfl⟩:=h3;refine brd (λh4=>?_) (λh4=>?_)
   .obtain⟨k,rfl⟩:∃k,kk=k+1:=⟨kk-1,by omega⟩;have b5:((k+1:Nat):Int)-1=(k:Int):=by omega
    have a3:k<(lim R).length:=by have:=hr.1;omega
    obtain⟨c,hc⟩:∃c,(lim R)[k]=c:=⟨_,rfl⟩;have a1:c<1000000000:=hc▸(qc R).get a3;have hts:t<s:=hr.2.2.1;have a0:=hr.next a1 (λ_=>hc)
    have hq:=wV a1 hts;have a2:cut (nth [] (raw (lim R)) k) 0 1 [.int .u32 (c:Int)]:=by have h:=qA (l:=lim R) (i:=k) a3;rw[hc]at h;exact h
    have hw:Pl .u64 (Pl .u64 ((t:Int)*1000000000)+Pl .u64 (c:Int))=((c+1000000000*t:Nat):Int):=by rw[xH (n:=(c:Int)),xH (n:=(t:Int)*1000000000),xH];omega
    generalize c+1000000000*t=T at *;have hd:=(W0 T s).symm;have hm:=(cc T s).symm;rw[b5,U3];refine⟨⟨by omega,by omega,qz a3⟩,_,a2,?_⟩;rw[hw];rw[hd,hm];have a5:Pl .u32 (Pl .u64 ((T/s:Nat):Int))=((T/s:Nat):Int):=by have h5:=hq;generalize T/s=q at h5;rw[xH];exact j0
    rw[a5,xQ (by rw[c4,c0];omega),Gu];have hw:Pl .i64 ((k:Int)-1)=(k:Int)-1:=xb;rw[hw];refine⟨by omega,⟨by omega,by simp only[qe,c4,c0];omega⟩,by omega,by omega,⟨R,k,_,_,rfl,rfl,a0⟩,?_⟩;simp only[nth,toI];omega
   .obtain rfl:kk=0:=by omega
    have bm:=hr.fin;rw[qi,hR,Nat.mul_div_cancel _ ap]at bm;have ho:=j1 hLq (by omega);rw[hv]at ho;have hl:=j1 hr.2.1 (by have:=hr.1;omega);rw[bm.1]at hl;exact⟨_,ho,_,hl,rfl⟩
end Eng
end
section
namespace Eng
open Go Go.Proofs
variable [Env]
omit [Env] in
theorem tmul (x y:Rat):N7 (x.num*y.num) (x.den*y.den)=xv (x*y):=by
 rw[Qu (W1 (den_pos x) (den_pos y))];have e:x*y=h7 (x.num*y.num) (x.den*y.den):=by rw[<-h8,g7,g7]
 rw[<-e]
omit [Env] in
theorem tadd (x y:Rat):N7 (x.num*y.den+y.num*x.den) (x.den*y.den)=xv (x+y):=by
 have px:=den_pos x;have py:=den_pos y;rw[Qu (W1 px py)];have e:x+y=h7 (x.num*y.den+y.num*x.den) (x.den*y.den):=by rw[<-h9 _ _ (by omega) (by omega),g7,g7]
 rw[<-e]
omit [Env] in
theorem tsub (x y:Rat):N7 (x.num*y.den+(-y.num)*x.den) (x.den*y.den)=xv (x-y):=by
 have px:=den_pos x;have py:=den_pos y;rw[Qu (W1 px py)];have e:x-y=h7 (x.num*y.den+(-y.num)*x.den) (x.den*y.den):=by
  rw[hC,<-h9 _ _ (by omega) (by omega),g7];have:h7 (-y.num) y.den= -y:=by rw[<-hA];exact g7 (-y)
  rw[this]
 rw[<-e]
omit [Env] in
theorem tneg (x:Rat):Hv (cI (-x.num)++cI x.den)=xv (-x):=by
 unfold xv cR;rw[hA];rfl
def sgZ (a:Int):Int:=match decide (a<0)with|true=> -1|false=>match decide (0<a)with|true=>1|false=>0
omit [Env] in
theorem LI (a:Int):sgZ a=sgn a:=by
 unfold sgZ sgn;by_cases h:a<0
 .rw[decide_eq_true h,if_pos h]
 .rw[decide_eq_false h,if_neg h];by_cases h2:0<a
  .rw[decide_eq_true h2];simp;omega
  .rw[decide_eq_false h2];simp;omega
def EA (al:List A):Option Rat:=match al with
 |[a]=>rdR a
 |_=>none
omit [Env] in
theorem Kz {al:List A} {x:Rat} (h:EA al=some x):al=[xv x]/\Sr x:=by
 unfold EA at h;split at h
 .rw[(Jy h).1];exact⟨rfl,(Jy h).2⟩
 .simp at h
def cY (al:List A):Option Int:=match al with
 |[a]=>rdI a
 |_=>none
omit [Env] in
theorem Cb {al:List A} {x:Int} (h:cY al=some x):al=[qL x]:=by
 unfold cY at h;split at h
 .rw[L4 h]
 .simp at h
def RX (f:Nat) (al:List A):Option (List A):=
 match f with
 |239=>match N6 al with|some (x,y)=>some [N7 (x.num*y.num) (x.den*y.den)]|none=>none
 |238=>match N6 al with|some (x,y)=>some [N7 (x.num*y.den+y.num*x.den) (x.den*y.den)]|none=>none
 |237=>match N6 al with|some (x,y)=>some [N7 (x.num*y.den+(-y.num)*x.den) (x.den*y.den)]|none=>none
 |64=>match N6 al with|some (x,y)=>some [.c (.int .i64 (E9 (x.num*y.den) (y.num*x.den)))]|none=>none
 |245=>match EA al with|some x=>some [.ag (cI (-x.num)++cI x.den)]|none=>none
 |76=>match EA al with|some x=>some [.ag (cI (-x.num)++cI x.den)]|none=>none
 |114=>match EA al with|some x=>some [.c (.int .i64 (sgZ x.num))]|none=>none
 |78=>match EA al with|some x=>some [.c (.int .i64 (sgZ x.num))]|none=>none
 |63=>match al with
  |[.c (.int .i64 n)]=>match decide (-9223372036854775808<=n)&&decide (n<9223372036854775808)with
   |true=>some [.ag (cI n++cI 1)]
   |false=>none
  |_=>none
 |119=>match Gq al with|some (x,y)=>some [qL (x*y)]|none=>none
 |308=>match Gq al with|some (x,y)=>some [qL (x+y)]|none=>none
 |387=>match Gq al with|some (x,y)=>some [qL (x-y)]|none=>none
 |118=>match Gq al with|some (x,y)=>some [.c (.int .i64 (E9 x y))]|none=>none
 |184=>match Gq al with|some (x,y)=>some [qL (ey x.natAbs y.natAbs:Nat)]|none=>none
 |345=>match Gq al with
  |some (x,y)=>match decide (0<y)with
   |true=>some [qL (x/y),qL (x%y),.c (.int .i64 0)]
   |false=>none
  |none=>none
 |246=>match Gq al with
  |some (x,y)=>match decide (0<y)with
   |true=>some [qL (x/y),qL (x%y),.c (.int .i64 0)]
   |false=>none
  |none=>none
 |182=>match cY al with|some x=>some [.c (.int .i64 (sgZ x))]|none=>none
 |117=>match al with|[]=>some [qL 1]|_=>none
 |116=>match al with
  |[.c (.int .i64 n)]=>match decide (-9223372036854775808<=n)&&decide (n<9223372036854775808)with
   |true=>some [qL n]
   |false=>none
  |_=>none
 |_=>cX f al
theorem K0 (f:Nat) (al rs:List A) (h:RX f al=some rs):Gives CC f al rs:=by
 unfold RX at h;split at h
 .split at h
  .rename_i x y h1;obtain⟨rfl,hx,hy⟩:=wT h1;simp only[g6]at h;subst h;rw[tmul];exact LH jv hx hy
  .simp at h
 .split at h
  .rename_i x y h1;obtain⟨rfl,hx,hy⟩:=wT h1;simp only[g6]at h;subst h;rw[tadd];exact Yi jv hx hy
  .simp at h
 .split at h
  .rename_i x y h1;obtain⟨rfl,hx,hy⟩:=wT h1;simp only[g6]at h;subst h;rw[tsub];exact LF jv hx hy
  .simp at h
 .split at h
  .rename_i x y h1;obtain⟨rfl,hx,hy⟩:=wT h1;simp only[g6]at h;subst h;rw[Kt,<-Zk];exact LG hx hy
  .simp at h
 .split at h
  .rename_i x h1;obtain⟨rfl,hx⟩:=Kz h1;simp only[g6]at h;subst h;rw[tneg];exact Yh hx
  .simp at h
 .split at h
  .rename_i x h1;obtain⟨rfl,hx⟩:=Kz h1;simp only[g6]at h;subst h;rw[tneg];exact Ko hx
  .simp at h
 .split at h
  .rename_i x h1;obtain⟨rfl,hx⟩:=Kz h1;simp only[g6]at h;subst h;rw[LI];exact Gw x
  .simp at h
 .split at h
  .rename_i x h1;obtain⟨rfl,hx⟩:=Kz h1;simp only[g6]at h;subst h;rw[LI];exact vu x
  .simp at h
 .split at h
  .split at h
   .rename_i hb;simp only[g6]at h;subst h;simp only[Dd,decide_eq_true_eq]at hb;have g:=zJ hb.1 hb.2;unfold xv cR at g;rw[hD,hH]at g;exact g
   .simp at h
  .simp at h
 .split at h
  .rename_i x y h1;obtain⟨rfl,hx,hy⟩:=ju h1;simp only[g6]at h;subst h;exact je hx hy
  .simp at h
 .split at h
  .rename_i x y h1;obtain⟨rfl,hx,hy⟩:=ju h1;simp only[g6]at h;subst h;exact Zs hx hy
  .simp at h
 .split at h
  .rename_i x y h1;obtain⟨rfl,hx,hy⟩:=ju h1;simp only[g6]at h;subst h;exact LC hx hy
  .simp at h
 .split at h
  .rename_i x y h1;obtain⟨rfl,hx,hy⟩:=ju h1;simp only[g6]at h;subst h;rw[Kt];exact Kw hx hy
  .simp at h
 .split at h
  .rename_i x y h1;obtain⟨rfl,hx,hy⟩:=ju h1;simp only[g6]at h;subst h;exact Yg jv hx hy
  .simp at h
 .split at h
  .rename_i x y h1;obtain⟨rfl,hx,hy⟩:=ju h1;split at h
   .rename_i h2;simp only[g6]at h;subst h;exact kw jv hx hy (of_decide_eq_true h2)
   .simp at h
  .simp at h
 .split at h
  .rename_i x y h1;obtain⟨rfl,hx,hy⟩:=ju h1;split at h
   .rename_i h2;simp only[g6]at h;subst h;exact ku wS hx hy (of_decide_eq_true h2)
   .simp at h
  .simp at h
 .split at h
  .rename_i x h1;obtain rfl:=Cb h1;simp only[g6]at h;subst h;rw[LI];exact yU x
  .simp at h
 .split at h
  .simp only[g6]at h;subst h;exact Ky
  .simp at h
 .split at h
  .split at h
   .rename_i hb;simp only[g6]at h;subst h;simp only[Dd,decide_eq_true_eq]at hb;exact zI hb.1 hb.2
   .simp at h
  .simp at h
 .exact BK f al rs h
end Eng
end
section
namespace Eng
open Go Go.Proofs
variable [Env]
abbrev wq:=Option Nat->List V->List Obj->R
def FU (t:TypeId) (d:Option Nat):Bool:=FF t d||match d with
 |some d=>((ep t 54||ep t 46)&&(ep d 28||(ep d 56||ep d 59)))||((ep t 345&&ep d 34)||((ep t 267&&ep d 46)||((ep t 30&&ep d 11)||((ep t 99998&&ep d 38)||(ep t 193&&(ep d 38||(ep d 31||(ep d 61||ep d 64))))))))
 |none=>false
def HR (f:Nat):List (Nat×wq)->Option wq
 |[]=>none
 |(g,e)::r=>match ep f g with
  |true=>some e
  |false=>HR f r
def cZ (ex:List (Nat×wq)) (f:Nat):Option wq:=
 match HR f ex with
 |some e=>some e
 |none=>FG zu jL f
noncomputable def CX (ex:List (Nat×wq)):Cx:=⟨Tryz.prog,λ_=>none,λ_=>false,cZ ex,FU,λ_=>false⟩
def aX (C:Cx):List (Nat×wq)->Prop
 |[]=>True
 |(f,e)::r=>EffAt C f e/\aX C r
theorem K1 {C:Cx} {f:Nat} {e:wq}:∀{ex:List (Nat×wq)},aX C ex->HR f ex=some e->EffAt C f e
 |[],_,h=>by simp[HR]at h
 |(g,e0)::r,ha,h=>by
  obtain⟨h1,h2⟩:=ha;unfold HR at h;split at h
  .rename_i hb;obtain rfl:=et hb;simp only[g6]at h;subst h;exact h1
  .exact K1 h2 h
theorem zK {ex:List (Nat×wq)} (ha:aX (CX ex) ex) (f:Nat) (e:wq) (h:(CX ex).eff f=some e):EffAt (CX ex) f e:=by
 replace h:cZ ex f=some e:=h;unfold cZ at h;split at h
 .rename_i e' he;simp only[g6]at h;subst h;exact K1 ha he
 unfold FG at h;split at h
 .rename_i hb;obtain rfl:=et hb;simp only[g6]at h;subst h;exact W5 (C:=CX ex) aQ
 .split at h
  .rename_i hb;obtain rfl:=et hb;simp only[g6]at h;subst h;exact W6 (C:=CX ex) aQ
  .split at h
   .rename_i hb;obtain rfl:=et hb;simp only[g6]at h;subst h;exact Jv (C:=CX ex) Tryz.func147 (by simp[Tryz.f147]) (by decide) λal hc=>XY (C:=C0) (C':=CX ex) rfl rfl (Va al hc)
   .simp at h
theorem upX {ex:List (Nat×wq)} {f:Nat} {al rs:List A} (h:Gives CC f al rs):Gives (CX ex) f al rs:=xP rfl rfl h
theorem Pn {ex:List (Nat×wq)} (f:Nat) (al rs:List A) (h:RX f al=some rs):Gives (CX ex) f al rs:=upX (K0 f al rs h)
noncomputable def CB:Cx:=CX []
instance:EffOk CB:=xd (zK trivial)
end Eng
end
section
namespace Eng
open Go Go.Proofs
def iR (l:List Int):List (List D):=l.map λn=>[.int .i64 n]
theorem Gx (l:List Int):(iR l).length=l.length:=by simp[iR]
theorem LJ {l:List Int} {i:Nat} (h:i<l.length):nth [] (iR l) i=[.int .i64 l[i]]:=by rw[qw];simp[iR,h]
theorem zi {α:Type} {l:List α} {i:Nat} {d:α} (h:i<l.length):l.getD i d=l[i]:=by rw[List.getD_eq_getElem?_getD,c1 h];rfl
theorem RY {l:List Int} {i:Nat} {x:Int} (h:i<l.length):upd (iR l) i (upd (nth [] (iR l) i) 0 (.int .i64 x))=iR (l.set i x):=by
 rw[LJ h];show upd (iR l) i [.int .i64 x]=_;clear h
 induction l generalizing i with
 |nil=>rfl
 |cons a l ih=>
  cases i with
  |zero=>rfl
  |succ i=>show [J4 .i64 a]::upd (iR l) i [.int .i64 x]=[J4 .i64 a]::iR (l.set i x);rw[ih]
end Eng
end
section
open Go Go.Proofs Eng
namespace Eng
section
variable (Gv:Nat->List A->List A->Prop) (I0:List D->List D->Prop) (M0:List D->Nat) (I1:List D->List D->Prop) (M1:List D->Nat) (I2:List D->List D->Prop) (M2:List D->Nat) (I3:List D->List D->Prop) (M3:List D->Nat) (Q:List A->Prop)
theorem FV (i0:Int) (i1:Int):wpF CC Gv an0 Tryz.f86 [.c (.int .i64 i0),.c (.int .i64 i1)] Q=(i1≠0/\Q [aI (Pl .i64 (bs (Pl .i64 (Pl .i64 (i0+i1)-1)) i1))]):=by kernel_rfl
theorem Po (i0:Int) (i1:Int) (Q:List A->Prop):wpF CC Gv (λ_=>⟨[.own 7 46 1,.slot 32 (.int .i64 0)],[],I0,M0⟩) Tryz.f40 [.c (.int .i64 i0),.c (.int .i64 i1)] Q=(bB (decide (i0<1)) (Q [aL [],aI (1:Int)]) (bB (decide (i0>10000000)) (Q [aL [],aI (1:Int)]) (bB (decide (i1<1)) (Q [aL [],aI (1:Int)]) (bB (decide (i1>10000000)) (Q [aL [],aI (1:Int)]) (∃i,Gv 86 [aI i0,aI i1] [aI i]/\bB (decide (i>1000)) (Q [aL [],aI (3:Int)]) ((0<=i/\i<=i/\room (U0 i))/\I0 [] [Hy (c3 (U0 i) [dI (0:Int)]),dI (0:Int)]/\∀(es:List (List D)) (i_1:Int),I0 [] [Hy es,dI i_1]->bB (decide (i_1<(Ts (cp (c3 (U0 i) [dI (0:Int)]))))) (∃i_2,Gv 86 [aI (Pl .i64 (Pl .i64 (i_1+1)*i0)),aI i] [aI i_2]/\(0<=i_1/\i_1<(Ts es.length))/\0<1/\I0 [] [Hy (upd es (U0 i_1) (upd (nth [] es (U0 i_1)) 0 (dI i_2))),dI (Pl .i64 (i_1+1))]/\M0 [Hy (upd es (U0 i_1) (upd (nth [] es (U0 i_1)) 0 (dI i_2))),dI (Pl .i64 (i_1+1))]<M0 [Hy es,dI i_1]) (Q [aL es,aI (0:Int)]))))))):=by kernel_rfl
theorem Pp (l0:List (List D)) (i0:Int) (i1:Int) (Q:List A->Prop):wpF CC Gv (λ_=>⟨[.slot 7 (.int .i64 0),.slot 12 (.int .i64 0)],[],I0,M0⟩) Tryz.f87 [.c (.sl l0),.c (.int .i64 i0),.c (.int .i64 i1)] Q=(I0 [] [dI (0:Int),dI (0:Int)]/\∀(i i_1:Int),I0 [] [dI i,dI i_1]->bB (decide (i_1<(Ts l0.length))) ((0<=i_1/\i_1<(Ts l0.length)/\cp (nth [] l0 (U0 i_1))=1)/\∃i_2,cut (nth [] l0 (U0 i_1)) 0 1 [dI i_2]/\bB (decide (i_2<=i)) (Q [aB false]) (bB (decide (Pl .i64 (i_2-i)>i1)) (Q [aB false]) (I0 [] [dI i_2,dI (Pl .i64 (i_1+1))]/\M0 [dI i_2,dI (Pl .i64 (i_1+1))]<M0 [dI i,dI i_1]))) (bB (decide ((Ts l0.length)>0)) (Q [aB (i==i0)]) (Q [aB false]))):=by kernel_rfl
theorem LK (i0:Int) (i1:Int) (i2:Int):wpF CC Gv an0 Tryz.f88 [.c (.int .i64 i0),.c (.int .i64 i1),.c (.int .i64 i2)] Q=(bB (i0==1) (bB (i1==1) (Q [aB (i2==1)]) (bB (i1==3) (Q [aB (i2==1)]) (Q [aB false]))) (bB (i0==2) (bB (i1==1) (Q [aB (i2==1)]) (Q [aB false])) (bB (i0==3) (bB (i1==3) (Q [aB (i2==2)]) (Q [aB false])) (bB (i0==4) (bB (i1==1) (Q [aB (i2==3)]) (bB (i1==3) (Q [aB (i2==3)]) (Q [aB false]))) (bB (i0==5) (bB (i1==4) (Q [aB (i2==1)]) (Q [aB false])) (Q [aB false])))))):=by kernel_rfl
theorem LL (i0:Int) (i1:Int) (i2:Int) (i3:Int) (i4:Int) (i5:Int) (i6:Int) (i7:Int) (i8:Int):wpF CC Gv an0 Tryz.f71 [.ag (.int .i64 i0::(.int .i64 i1::(.int .i64 i2::(.int .i64 i3::(.int .i64 i4::(.int .i64 i5::(.int .i64 i6::(.int .i64 i7::[])))))))),.c (.int .i64 i8)] Q=(bB (i1==1) (bB (decide (i2<i8)) (Q [aB (decide (Pl .i64 (i8-i2)<=i2))]) (Q [aB false])) (Q [aB false])):=by kernel_rfl
theorem LM (l0:List (List D)) (i0:Int) (i1:Int):wpF CC Gv (λ_=>⟨[.slot 9 (.int .i64 0),.slot 20 (.int .i64 0)],[],I0,M0⟩) Tryz.f29 [.c (.sl l0),.c (.int .i64 i0),.c (.int .i64 i1)] Q=(bB (decide (i0<1)) (Q [aI (0:Int),aB false,aI (1:Int)]) (bB (decide (i1<1)) (Q [aI (0:Int),aB false,aI (1:Int)]) (I0 [] [dI (-1:Int),dI (0:Int)]/\∀(i i_1:Int),I0 [] [dI i,dI i_1]->bB (decide (i_1<(Ts l0.length))) ((0<=i_1/\i_1<(Ts l0.length)/\cp (nth [] l0 (U0 i_1))=8)/\∃i_2 i_3 i_4 i_5 i_6 i_7 i_8 i_9,cut (nth [] l0 (U0 i_1)) 0 8 [dI i_2,dI i_3,dI i_4,dI i_5,dI i_6,dI i_7,dI i_8,dI i_9]/\bB (decide (i_5<i1)) (I0 [] [dI i,dI (Pl .i64 (i_1+1))]/\M0 [dI i,dI (Pl .i64 (i_1+1))]<M0 [dI i,dI i_1]) (bB (i_3==2) (bB (i_4==i0) (Q [aI i_1,aB true,aI (0:Int)]) (∃b,Gv 71 [Hv [dI i_2,dI i_3,dI i_4,dI i_5,dI i_6,dI i_7,dI i_8,dI i_9],aI i0] [aB b]/\br b (bB (decide (i<0)) (I0 [] [dI i_1,dI (Pl .i64 (i_1+1))]/\M0 [dI i_1,dI (Pl .i64 (i_1+1))]<M0 [dI i,dI i_1]) ((0<=i/\i<(Ts l0.length)/\cp (nth [] l0 (U0 i))=8)/\∃i_10,cut (nth [] l0 (U0 i)) 2 1 [dI i_10]/\bB (decide (i_4>i_10)) (I0 [] [dI i_1,dI (Pl .i64 (i_1+1))]/\M0 [dI i_1,dI (Pl .i64 (i_1+1))]<M0 [dI i,dI i_1]) (I0 [] [dI i,dI (Pl .i64 (i_1+1))]/\M0 [dI i,dI (Pl .i64 (i_1+1))]<M0 [dI i,dI i_1]))) (I0 [] [dI i,dI (Pl .i64 (i_1+1))]/\M0 [dI i,dI (Pl .i64 (i_1+1))]<M0 [dI i,dI i_1]))) (∃b,Gv 71 [Hv [dI i_2,dI i_3,dI i_4,dI i_5,dI i_6,dI i_7,dI i_8,dI i_9],aI i0] [aB b]/\br b (bB (decide (i<0)) (I0 [] [dI i_1,dI (Pl .i64 (i_1+1))]/\M0 [dI i_1,dI (Pl .i64 (i_1+1))]<M0 [dI i,dI i_1]) ((0<=i/\i<(Ts l0.length)/\cp (nth [] l0 (U0 i))=8)/\∃i_10,cut (nth [] l0 (U0 i)) 2 1 [dI i_10]/\bB (decide (i_4>i_10)) (I0 [] [dI i_1,dI (Pl .i64 (i_1+1))]/\M0 [dI i_1,dI (Pl .i64 (i_1+1))]<M0 [dI i,dI i_1]) (I0 [] [dI i,dI (Pl .i64 (i_1+1))]/\M0 [dI i,dI (Pl .i64 (i_1+1))]<M0 [dI i,dI i_1]))) (I0 [] [dI i,dI (Pl .i64 (i_1+1))]/\M0 [dI i,dI (Pl .i64 (i_1+1))]<M0 [dI i,dI i_1])))) (bB (decide (i<0)) (Q [aI (0:Int),aB false,aI (16:Int)]) (Q [aI i,aB false,aI (0:Int)]))))):=by kernel_rfl
theorem Pq (l0:List (List D)) (i0:Int) (r0:R4) (b0:Bool):wpF CC Gv (λ_=>⟨[.slot 9 (.int .i64 0),.slot 14 (.int .i64 0)],[],I0,M0⟩) Tryz.f30 [.c (.sl l0),.c (.int .i64 i0),.ag (rk r0 []),.c (.bool b0)] Q=(I0 [] [dI (-1:Int),dI (0:Int)]/\∀(i i_1:Int),I0 [] [dI i,dI i_1]->bB (decide (i_1<(Ts l0.length))) ((0<=i_1/\i_1<(Ts l0.length)/\cp (nth [] l0 (U0 i_1))=8)/\∃i_2 i_3 i_4 i_5 i_6 i_7 i_8 i_9,cut (nth [] l0 (U0 i_1)) 0 8 [dI i_2,dI i_3,dI i_4,dI i_5,dI i_6,dI i_7,dI i_8,dI i_9]/\bB (i_3 !=1) (I0 [] [dI i,dI (Pl .i64 (i_1+1))]/\M0 [dI i,dI (Pl .i64 (i_1+1))]<M0 [dI i,dI i_1]) (bB (decide (i_5<i0)) (I0 [] [dI i,dI (Pl .i64 (i_1+1))]/\M0 [dI i,dI (Pl .i64 (i_1+1))]<M0 [dI i,dI i_1]) (∃x,Gv 31 [aI (Pl .i64 (2*i_4))] [aR x]/\∃i_10,Gv 34 [aR x,aR r0] [aI i_10]/\bB (decide (i_10>0)) (I0 [] [dI i,dI (Pl .i64 (i_1+1))]/\M0 [dI i,dI (Pl .i64 (i_1+1))]<M0 [dI i,dI i_1]) (bB (decide (i<0)) (I0 [] [dI i_1,dI (Pl .i64 (i_1+1))]/\M0 [dI i_1,dI (Pl .i64 (i_1+1))]<M0 [dI i,dI i_1]) (br b0 ((0<=i/\i<(Ts l0.length)/\cp (nth [] l0 (U0 i))=8)/\∃i_11,cut (nth [] l0 (U0 i)) 2 1 [dI i_11]/\bB (decide (i_4>i_11)) (I0 [] [dI i_1,dI (Pl .i64 (i_1+1))]/\M0 [dI i_1,dI (Pl .i64 (i_1+1))]<M0 [dI i,dI i_1]) (bB (!b0) ((0<=i/\i<(Ts l0.length)/\cp (nth [] l0 (U0 i))=8)/\∃i_12,cut (nth [] l0 (U0 i)) 2 1 [dI i_12]/\bB (decide (i_4<i_12)) (I0 [] [dI i_1,dI (Pl .i64 (i_1+1))]/\M0 [dI i_1,dI (Pl .i64 (i_1+1))]<M0 [dI i,dI i_1]) (I0 [] [dI i,dI (Pl .i64 (i_1+1))]/\M0 [dI i,dI (Pl .i64 (i_1+1))]<M0 [dI i,dI i_1])) (I0 [] [dI i,dI (Pl .i64 (i_1+1))]/\M0 [dI i,dI (Pl .i64 (i_1+1))]<M0 [dI i,dI i_1]))) (bB (!b0) ((0<=i/\i<(Ts l0.length)/\cp (nth [] l0 (U0 i))=8)/\∃i_11,cut (nth [] l0 (U0 i)) 2 1 [dI i_11]/\bB (decide (i_4<i_11)) (I0 [] [dI i_1,dI (Pl .i64 (i_1+1))]/\M0 [dI i_1,dI (Pl .i64 (i_1+1))]<M0 [dI i,dI i_1]) (I0 [] [dI i,dI (Pl .i64 (i_1+1))]/\M0 [dI i,dI (Pl .i64 (i_1+1))]<M0 [dI i,dI i_1])) (I0 [] [dI i,dI (Pl .i64 (i_1+1))]/\M0 [dI i,dI (Pl .i64 (i_1+1))]<M0 [dI i,dI i_1]))))))) (Q [aI i])):=by kernel_rfl
theorem Cc (i0:Int):wpF CC Gv an0 Tryz.f154 [.c (.int .i64 i0)] Q=(bB (decide (i0>=1)) (Q [aB (decide (i0<=10000000))]) (Q [aB false])):=by kernel_rfl
theorem Pr (l0:List (List D)) (i0:Int):wpF CC Gv an0 Tryz.f84 [.c (.sl l0),.c (.int .i64 i0)] Q=(∃i,Gv 155 [aL l0,Hx (D.clo 156 [Ls [dI i0]])] [aI i]/\bB (decide (i<0)) (Q [aI (0:Int),aI (4:Int)]) (Q [aI i,aI (0:Int)])):=by kernel_rfl
theorem LN (i0:Int) (i1:Int) (i2:Int) (i3:Int) (i4:Int) (i5:Int) (i6:Int) (i7:Int) (m:Int):wpF CC Gv an0 Tryz.f156 [.ag (.int .i64 i0::(.int .i64 i1::(.int .i64 i2::(.int .i64 i3::(.int .i64 i4::(.int .i64 i5::(.int .i64 i6::(.int .i64 i7::[])))))))),.c (.ptr [.int .i64 m])] Q=(∃i,cut [dI m] 0 1 [dI i]/\Q [aB (i0==i)]):=by kernel_rfl
end
end Eng
end
section
namespace Eng
open Go Go.Proofs
theorem RZ {i k:Nat} (h:i<k):gz i k=true:=by rw[g5];exact h
theorem EB {i k:Nat} (h:¬i<k):gz i k=false:=by rw[Bx,ne_eq,g5];exact h
def Vs (a b:Int):Int:=(a+b-1)/b
def psF (d:Int) (n:Nat) (i:Nat):Int:=Vs (((i:Int)+1)*d) n
def psM (d:Int) (n k:Nat):List Int:=(eg n).map λi=>match gz i k with
 |true=>psF d n i
 |false=>0
def psL (d:Int) (n:Nat):List Int:=(eg n).map (psF d n)
theorem LO (d:Int) (n k:Nat):(psM d n k).length=n:=by simp[psM]
theorem da (d:Int) (n:Nat):psM d n 0=c3 n 0:=by
 apply dv (by simp[psM]);intro i h1 h2;simp only[psM,dl,cL,List.getElem_replicate];rw[EB (by omega)]
theorem db (d:Int) (n:Nat):psM d n n=psL d n:=by
 apply dv (by simp[psM,psL]);intro i h1 h2;simp only[psM,psL,dl,cL];rw[RZ (by simpa [psM]using h1)]
theorem Cd (d:Int) (n k:Nat):(psM d n k).set k (psF d n k)=psM d n (k+1):=by
 apply dv (by simp[psM]);intro i h1 h2;rw[List.getElem_set];simp only[psM,dl,cL];by_cases e:k=i
 .subst e;rw[if_pos rfl,RZ (Nat.lt_succ_self k)]
 .rw[if_neg e];by_cases q:i<k
  .rw[RZ q,RZ (by omega)]
  .rw[EB q,EB (by omega)]
def nPs (d s:Int):Nat:=(Vs d s).toNat
def Ps (s:Int):Prop:=s=2000\/s=1500
theorem Sa {d s:Int} (h1:1<=d) (h2:d<=6000) (hs:Ps s):Vs d s=nPs d s/\(nPs d s=1\/nPs d s=2\/nPs d s=3\/nPs d s=4)/\d<=nPs d s*s/\(nPs d s:Int)<=d:=by
 unfold nPs Vs;rcases hs with rfl|rfl<;>omega
theorem de {d:Int} {n i:Nat} (h1:1<=d) (h2:d<=6000) (hn:n=1\/n=2\/n=3\/n=4) (hi:i<n):0<psF d n i/\psF d n i<=d:=by
 unfold psF Vs;have hi4:i=0\/i=1\/i=2\/i=3:=by omega
 rcases hn with rfl|rfl|rfl|rfl<;>rcases hi4 with rfl|rfl|rfl|rfl<;>simp<;>omega
section
variable [Env]
theorem FW {a b:Int} (h1:0<=a) (h2:1<=b) (h3:a+b<=1000000000000):Gives CC 86 [.c (.int .i64 a),.c (.int .i64 b)] [.c (.int .i64 (Vs a b))]:=by
 refine qm (C:=CC) (anns:=an0) mixedT Tryz.func86 ?_;rw[FV,xb (n:=a+b) (by omega) (by omega),xb (n:=a+b-1) (by omega) (by omega),Int.tdiv_eq_ediv_of_nonneg (by omega)];refine⟨by omega,?_⟩;have e:(a+b-1)/b<=a+b-1:=Int.ediv_le_self _ (by omega);have e2:0<=(a+b-1)/b:=Int.ediv_nonneg (by omega) (by omega);rw[xb (by omega) (by omega)];rfl
theorem LP {d s:Int} (h1:1<=d) (h2:d<=6000) (hs:Ps s):Gives CC 40 [.c (.int .i64 d),.c (.int .i64 s)] [.c (.sl (iR (psL d (nPs d s)))),.c (.int .i64 0)]:=by
 obtain⟨n1,n2,n3,n4⟩:=Sa h1 h2 hs;have hv:=Po (Gives CC) (λ_ ds=>∃k:Nat,k<=nPs d s/\ds=[.sl (iR (psM d (nPs d s) k)),.int .i64 (k:Int)]) (λds=>(nPs d s-toI (nth .undef ds 1)).toNat) d s (· =[.c (.sl (iR (psL d (nPs d s)))),.c (.int .i64 0)]);refine qm (C:=CC) mixedT Tryz.func40 (hv.mpr ?_);clear hv;have hs2:1<=s/\s<=2000:=by rcases hs with rfl|rfl<;>omega
 have gu:=FW (a:=d) (b:=s) (by omega) (by omega) (by omega);rw[n1]at gu;refine brd (λh=>by omega) λ_=>brd (λh=>by omega) λ_=>brd (λh=>by omega) λ_=>brd (λh=>by omega) λ_=>⟨_,gu,brd (λh=>by omega) λ_=>⟨⟨by omega,by omega,by unfold room;omega⟩,⟨0,en _,?_⟩,?_⟩⟩
 .rw[U3,da];simp[iR]
 rintro es i ⟨k,hk,e⟩;simp only[ei,No,Lv,true_and,and_true]at e;obtain⟨rfl,rfl⟩:=e;simp only[V1,c0,U3,Gx,LO];refine brd (λh=>?_) (λh=>?_)
 .have hb:=de (i:=k) h1 h2 n2 (by omega);have hw:Pl .i64 ((k:Int)+1)=((k+1:Nat):Int):=by rw[xb (by omega) (by omega)];omega
  have hm:0<=((k:Int)+1)*d/\((k:Int)+1)*d<=30000:=by
   have hk4:k=0\/k=1\/k=2\/k=3:=by omega
   rcases hk4 with rfl|rfl|rfl|rfl<;>simp<;>omega
  have hw2:Pl .i64 (((k+1:Nat):Int)*d)=((k:Int)+1)*d:=by
   have:((k+1:Nat):Int)=(k:Int)+1:=by omega
   rw[this];exact xb (by omega) (by omega)
  have g2:=FW (a:=((k:Int)+1)*d) (b:=(nPs d s:Nat)) (by omega) (by omega) (by omega);rw[hw,hw2];refine⟨_,g2,⟨by omega,by omega⟩,by omega,⟨k+1,by omega,?_⟩,by simp only[nth,toI];omega⟩;rw[RY (by rw[LO];omega)];show [Hy (iR ((psM d (nPs d s) k).set k (psF d (nPs d s) k))),_]=_;rw[Cd]
 .obtain rfl:k=nPs d s:=by omega
  rw[db]
theorem LQ {d s:Int} (h1:1<=d) (h2:d<=6000) (hs:Ps s):Gives CC 87 [.c (.sl (iR (psL d (nPs d s)))),.c (.int .i64 d),.c (.int .i64 s)] [.c (.bool true)]:=by
 obtain⟨n1,n2,n3,n4⟩:=Sa h1 h2 hs;generalize nPs d s=n at *;have hv:=Pp (Gives CC) (λ_ ds=>∃k:Nat,k<=n/\ds=[.int .i64 (Vs ((k:Int)*d) n),.int .i64 (k:Int)]) (λds=>(n-toI (nth .undef ds 1)).toNat) (iR (psL d n)) d s (· =[.c (.bool true)]);refine qm (C:=CC) mixedT Tryz.func87 (hv.mpr ?_);clear hv;have ln:(psL d n).length=n:=by simp[psL]
 refine⟨⟨0,en _,?_⟩,?_⟩
 .have:Vs (((0:Nat):Int)*d) n=0:=by unfold Vs;rcases n2 with rfl|rfl|rfl|rfl<;>simp
  rw[this];rfl
 rintro i i1 ⟨k,hk,e⟩;simp only[ei,Lv,true_and,and_true]at e;obtain⟨rfl,rfl⟩:=e;simp only[V1,Gx,ln,U3];refine brd (λh=>?_) (λh=>?_)
 .have hw:Pl .i64 ((k:Int)+1)=((k+1:Nat):Int):=by rw[xb (by omega) (by omega)];omega
  have e:nth [] (iR (psL d n)) k=[.int .i64 (psF d n k)]:=by rw[LJ (by omega)];simp[psL]
  have hst:Vs ((k:Int)*d) n<psF d n k/\psF d n k-Vs ((k:Int)*d) n<=s/\0<=Vs ((k:Int)*d) n/\psF d n k<=6000/\psF d n k=Vs (((k+1:Nat):Int)*d) n:=by
   have hk4:k=0\/k=1\/k=2\/k=3:=by omega
   unfold psF Vs;rcases n2 with rfl|rfl|rfl|rfl<;>rcases hk4 with rfl|rfl|rfl|rfl<;>simp<;>omega
  rw[e,hw];refine⟨⟨by omega,by omega,rfl⟩,_,⟨rfl,el 1⟩,brd (λh3=>by omega) λ_=>?_⟩;rw[xb (by omega) (by omega)];exact brd (λh3=>by omega) λ_=>⟨⟨k+1,by omega,by rw[hst.2.2.2.2]⟩,by simp only[nth,toI];omega⟩
 .obtain rfl:k=n:=by omega
  have hl:Vs ((k:Int)*d) k=d:=by unfold Vs;rcases n2 with rfl|rfl|rfl|rfl<;>simp<;>omega
  rw[hl];exact brd (λ_=>by simp) λh=>by omega
end
end Eng
end
section
open Go Go.Proofs Eng
namespace Eng
section
variable (Gv:Nat->List A->List A->Prop) (I0:List D->List D->Prop) (M0:List D->Nat) (I1:List D->List D->Prop) (M1:List D->Nat) (I2:List D->List D->Prop) (M2:List D->Nat) (I3:List D->List D->Prop) (M3:List D->Nat) (Q:List A->Prop)
theorem Ce (l0:List (List D)) (m:Int):wpF CC Gv (λ_=>⟨[.slot 8 (.int .i64 0)],[],I0,M0⟩) Tryz.f155 [.c (.sl l0),.c (.clo 156 [.ptr [.int .i64 m]])] Q=(I0 [] [dI (0:Int)]/\∀(i:Int),I0 [] [dI i]->bB (decide (i<(Ts l0.length))) ((0<=i/\i<(Ts l0.length)/\cp (nth [] l0 (U0 i))=8)/\∃i_1 i_2 i_3 i_4 i_5 i_6 i_7 i_8,cut (nth [] l0 (U0 i)) 0 8 [dI i_1,dI i_2,dI i_3,dI i_4,dI i_5,dI i_6,dI i_7,dI i_8]/\∃b,Gv 156 [Hv [dI i_1,dI i_2,dI i_3,dI i_4,dI i_5,dI i_6,dI i_7,dI i_8],Hx (Ls [dI m])] [aB b]/\br b (Q [aI i]) (I0 [] [dI (Pl .i64 (i+1))]/\M0 [dI (Pl .i64 (i+1))]<M0 [dI i])) (Q [aI (-1:Int)])):=by kernel_rfl
theorem Cf (l0:List (List D)) (m:List UInt8):wpF CC Gv (λ_=>⟨[.slot 8 (.int .i64 0)],[],I0,M0⟩) Tryz.f151 [.c (.sl l0),.c (.clo 152 [.ptr [.str m]])] Q=(I0 [] [dI (0:Int)]/\∀(i:Int),I0 [] [dI i]->bB (decide (i<(Ts l0.length))) ((0<=i/\i<(Ts l0.length)/\cp (nth [] l0 (U0 i))=4)/\∃s i_1 i_2 es,cut (nth [] l0 (U0 i)) 0 4 [Lr s,dI i_1,dI i_2,Hy es]/\∃b,Gv 152 [Hv [Lr s,dI i_1,dI i_2,Hy es],Hx (Ls [Lr m])] [aB b]/\br b (Q [aI i]) (I0 [] [dI (Pl .i64 (i+1))]/\M0 [dI (Pl .i64 (i+1))]<M0 [dI i])) (Q [aI (-1:Int)])):=by kernel_rfl
theorem LR (fn:List UInt8) (fk fd:Int) (fe:List (List D)) (m:List UInt8):wpF CC Gv an0 Tryz.f152 [.ag [.str fn,.int .i64 fk,.int .i64 fd,.sl fe],.c (.ptr [.str m])] Q=(∃s,cut [Lr m] 0 1 [Lr s]/\Q [aB (fn==s)]):=by kernel_rfl
theorem Pt (th:Int) (fs:List (List D)) (s0:List UInt8):wpF CC Gv an0 Tryz.f82 [.ag [.int .i64 th,.sl fs],.c (.str s0)] Q=(∃i,Gv 151 [aL fs,Hx (D.clo 152 [Ls [Lr s0]])] [aI i]/\Q [aI i]):=by kernel_rfl
theorem LS (fn:List UInt8) (fk fd:Int) (fe:List (List D)) (i0:Int):wpF CC Gv an0 Tryz.f81 [.ag [.str fn,.int .i64 fk,.int .i64 fd,.sl fe],.c (.int .i64 i0)] Q=(∃b,Gv 148 [Hx (Lr fn)] [aB b]/\bB (!b) (Q [aB false]) (bB ((Ts fe.length)==0) (Q [aB false]) (∃b,Gv 149 [Hv [Hy fe]] [aB b]/\bB (!b) (Q [aB false]) (bB (decide (fd<1)) (Q [aB false]) (bB (decide (fd>i0)) (Q [aB false]) (bB (fk==1) (Q [aB true]) (bB (fk==3) (∃b,Gv 150 [Hv [Hy fe]] [aB b]/\Q [aB b]) (bB (fk==4) (Q [aB (fd==i0)]) (Q [aB false]))))))))):=by kernel_rfl
theorem LT (th:Int) (fs:List (List D)) (Q:List A->Prop):wpF CC Gv (YR ⟨[.slot 3 (.int .i64 0),.slot 23 (.int .i64 0)],[],I0,M0⟩ ⟨[.slot 45 (.int .i64 0)],[],I1,M1⟩) Tryz.f35 [.ag [.int .i64 th,.sl fs]] Q=(bB (decide ((Ts fs.length)>40)) (Q [aI (3:Int)]) (bB (decide (th<1)) (Q [aI (1:Int)]) (bB (decide (th>10000000)) (Q [aI (1:Int)]) (I0 [] [dI (0:Int),dI (0:Int)]/\∀(i i_1:Int),I0 [] [dI i,dI i_1]->bB (decide (i_1<(Ts fs.length))) ((0<=i_1/\i_1<(Ts fs.length)/\cp (nth [] fs (U0 i_1))=4)/\∃s i_2 i_3 es,cut (nth [] fs (U0 i_1)) 0 4 [Lr s,dI i_2,dI i_3,Hy es]/\bB (i_2==4) (bB (decide (Pl .i64 (i+1)>1)) (Q [aI (1:Int)]) (∃b,Gv 81 [Hv [Lr s,dI i_2,dI i_3,Hy es],aI th] [aB b]/\bB (!b) (Q [aI (1:Int)]) (I0 [] [dI (Pl .i64 (i+1)),dI (Pl .i64 (i_1+1))]/\M0 [dI (Pl .i64 (i+1)),dI (Pl .i64 (i_1+1))]<M0 [dI i,dI i_1]))) (bB (decide (i>1)) (Q [aI (1:Int)]) (∃b,Gv 81 [Hv [Lr s,dI i_2,dI i_3,Hy es],aI th] [aB b]/\bB (!b) (Q [aI (1:Int)]) (I0 [] [dI i,dI (Pl .i64 (i_1+1))]/\M0 [dI i,dI (Pl .i64 (i_1+1))]<M0 [dI i,dI i_1])))) (I1 [] [dI (0:Int)]/\∀(i:Int),I1 [] [dI i]->bB (decide (i<(Ts fs.length))) ((0<=i/\i<(Ts fs.length)/\cp (nth [] fs (U0 i))=4)/\∃s i_2 i_3 es,cut (nth [] fs (U0 i)) 0 4 [Lr s,dI i_2,dI i_3,Hy es]/\∃i_4,Gv 82 [Hv [dI th,Hy fs],Hx (Lr s)] [aI i_4]/\bB (decide (i_4<i)) (Q [aI (5:Int)]) (I1 [] [dI (Pl .i64 (i+1))]/\M1 [dI (Pl .i64 (i+1))]<M1 [dI i])) (Q [aI (0:Int)])))))):=by kernel_rfl
theorem Pu (i0:Int) (i1:Int) (i2:Int) (i3:Int):wpF CC Gv an0 Tryz.f120 [.c (.int .i64 i0),.c (.int .i64 i1),.c (.int .i64 i2),.c (.int .i64 i3)] Q=(bB (decide (i0<i2)) (bB (decide (i1<i3)) (bB (decide (i0>=(-10000000:Int))) (bB (decide (i1>=(-10000000:Int))) (bB (decide (i2<=10000000)) (Q [aB (decide (i3<=10000000))]) (Q [aB false])) (Q [aB false])) (Q [aB false])) (Q [aB false])) (Q [aB false])):=by kernel_rfl
theorem HS (i0:Int) (i1:Int):wpF CC Gv an0 Tryz.f121 [.c (.int .i64 i0),.c (.int .i64 i1)] Q=(bB (decide (i0>=i1)) (Q [aB (decide (i0<=10000000))]) (Q [aB false])):=by kernel_rfl
theorem LU (x0 y0 x1 y1 st gp:Int) (cl:List (List D)) (sf:Int):wpF CC Gv an0 Tryz.f122 [.ag [.int .i64 x0,.int .i64 y0,.int .i64 x1,.int .i64 y1,.int .i64 st,.int .i64 gp,.sl cl,.int .i64 sf]] Q=(Q [aI (Pl .i64 (Pl .i64 (0-st)-gp))]):=by kernel_rfl
theorem LV (x0 y0 x1 y1 st gp:Int) (cl:List (List D)) (sf:Int):wpF CC Gv (λ_=>⟨[.slot 42 (.int .i64 0)],[],I0,M0⟩) Tryz.f66 [.ag [.int .i64 x0,.int .i64 y0,.int .i64 x1,.int .i64 y1,.int .i64 st,.int .i64 gp,.sl cl,.int .i64 sf]] Q=(∃b,Gv 120 [aI x0,aI y0,aI x1,aI y1] [aB b]/\bB (!b) (Q [aI (1:Int)]) (∃b,Gv 121 [aI st,aI (1:Int)] [aB b]/\bB (!b) (Q [aI (1:Int)]) (∃b,Gv 121 [aI gp,aI (0:Int)] [aB b]/\bB (!b) (Q [aI (1:Int)]) (∃b,Gv 121 [aI sf,aI (1:Int)] [aB b]/\bB (!b) (Q [aI (1:Int)]) (bB (decide ((Ts cl.length)>50)) (Q [aI (1:Int)]) (I0 [] [dI (0:Int)]/\∀(i:Int),I0 [] [dI i]->bB (decide (i<(Ts cl.length))) ((0<=i/\i<(Ts cl.length)/\cp (nth [] cl (U0 i))=5)/\∃i_1 i_2 i_3 i_4 i_5,cut (nth [] cl (U0 i)) 0 5 [dI i_1,dI i_2,dI i_3,dI i_4,dI i_5]/\∃b,Gv 120 [aI i_1,aI i_2,aI i_3,aI i_4] [aB b]/\bB (!b) (Q [aI (1:Int)]) (∃i_6,Gv 122 [Hv [dI x0,dI y0,dI x1,dI y1,dI st,dI gp,Hy cl,dI sf]] [aI i_6]/\∃b,Gv 121 [aI i_5,aI i_6] [aB b]/\bB (!b) (Q [aI (1:Int)]) (bB (decide (i_5>=sf)) (Q [aI (1:Int)]) (I0 [] [dI (Pl .i64 (i+1))]/\M0 [dI (Pl .i64 (i+1))]<M0 [dI i])))) (Q [aI (0:Int)]))))))):=by kernel_rfl
end
end Eng
end
section
namespace Eng
open Go Go.Proofs
structure TL where
 (n k r f h s d p:Int)
def tlD (t:TL):List D:=[.int .i64 t.n,.int .i64 t.k,.int .i64 t.r,.int .i64 t.f,.int .i64 t.h,.int .i64 t.s,.int .i64 t.d,.int .i64 t.p]
def mgD (ts:List TL):List (List D):=ts.map tlD
theorem wb (ts:List TL):(mgD ts).length=ts.length:=by simp[mgD]
theorem wW {ts:List TL} {i:Nat} (h:i<ts.length):nth [] (mgD ts) i=tlD ts[i]:=by rw[qw];simp[mgD,h]
def lnI (x:Int):Prop:=1<=x/\x<=10000000
structure TL.Ok (t:TL):Prop where
 n:1<=t.n/\t.n<=9999
 k:1<=t.k/\t.k<=4
 r:lnI t.r
 f:lnI t.f
 s:lnI t.s
 d:lnI t.d
 p:lnI t.p
 h:t.r<=t.h/\t.h<=10000000
 sf:t.s<=t.f
structure MagOk (ts:List TL):Prop where
 ok:∀t∈ts,t.Ok
 len:ts.length<=200
 dis:∀i j (hi:i<ts.length) (hj:j<ts.length),ts[i].n=ts[j].n->i=j
section
variable [Env]
theorem Cg {x:Int} (h:lnI x):Gives CC 154 [.c (.int .i64 x)] [.c (.bool true)]:=by
 refine qm (C:=CC) (anns:=an0) mixedT Tryz.func154 ?_;rw[Cc];exact brd (λ_=>by rw[decide_eq_true h.2]) λh2=>absurd h.1 h2
theorem Pv {ts:List TL} (h:MagOk ts) {i:Nat} (hi:i<ts.length):Gives CC 84 [.c (.sl (mgD ts)),.c (.int .i64 ts[i].n)] [.c (.int .i64 (i:Int)),.c (.int .i64 0)]:=by
 have hl:=h.len;have h1:∀(t:TL) (m:Int),Gives CC 156 [.ag (tlD t),.c (.ptr [.int .i64 m])] [.c (.bool (t.n==m))]:=λt m=>by refine qm (C:=CC) (anns:=an0) mixedT Tryz.func156 ?_;unfold tlD;rw[LN];exact⟨_,⟨rfl,el 1⟩,rfl⟩
 have h2:Gives CC 155 [.c (.sl (mgD ts)),.c (.clo 156 [.ptr [.int .i64 ts[i].n]])] [.c (.int .i64 (i:Int))]:=by
  refine qm (C:=CC) (anns:=λ_=>⟨[.slot 8 (.int .i64 0)],[],λ_ ds=>∃k:Nat,k<=i/\ds=[.int .i64 (k:Int)],λds=>(i-toI (nth .undef ds 0)).toNat⟩) mixedT Tryz.func155 ?_;rw[Ce];refine⟨⟨0,en _,rfl⟩,?_⟩;rintro _ ⟨k,hk,e⟩;simp only[ei,Lv,true_and,and_true]at e;subst e;simp only[V1,wb,U3];refine brd (λ_=>?_) λh2=>by omega
  have a0:k<ts.length:=by omega
  rw[wW a0];have hw:Pl .i64 ((k:Int)+1)=((k+1:Nat):Int):=by rw[xb (by omega) (by omega)];omega
  rw[hw];refine⟨⟨by omega,by omega,rfl⟩,_,_,_,_,_,_,_,_,⟨rfl,el 8⟩,_,h1 _ _,Qd (λh3=>?_) λh3=>?_⟩
  .have:=h.dis k i a0 hi (by simpa using h3);subst this;rfl
  .have hki:k≠i:=λe=>by subst e;simp at h3
   exact⟨⟨k+1,by omega,rfl⟩,by simp only[nth,toI];omega⟩
 refine qm (C:=CC) (anns:=an0) mixedT Tryz.func84 ?_;rw[Pr];exact⟨_,h2,brd (λh3=>by omega) λ_=>rfl⟩
end
end Eng
end
section
namespace Eng
open Go Go.Proofs Go.Maps
theorem keyedI:Keyed Tryz.prog 3:=int_keyed (q:= .i64) (by kernel_rfl)
def LW (l:List (Int×List UInt8)) (k:Int):List UInt8:=match Ob l k with
 |some s=>s
 |none=>[]
theorem Ch {w:World} {r:Nat} {es:Array MapEntry} {cl:Nat} {l:List (Int×List UInt8)} (hb:w.heap[r]? =some (.map es cl)) (hm:SX es l) {k:Int} (hk:(Lit.int .i64 k).wf=true):
 (Instr.lookup 278 (.map (some r)) (.int .i64 k) false).run Tryz.prog w= .ok (.string ⟨⟨LW l k⟩⟩) w:=by
 have ht:Tryz.prog.underlying 278=some (.map 3 9):=by kernel_rfl
 have h3:Tryz.prog.underlying 3=some (.int .i64):=by kernel_rfl
 have hz:(zeroValue 9).run Tryz.prog w= .ok (.string ⟨⟨[]⟩⟩) w:=by kernel_rfl
 have hc:=keyedI.check w es.isEmpty (keyOf_int_mk h3 hk);have h:=hm k;unfold LW;cases e:Ob l k with
 |none=>rw[e]at h;have hf:=Tk (w:=w) h3 h;simp[Instr.lookup,run_underlying ht,Sz hb,hc,hf,hz,Result.andThen]
 |some s=>rw[e]at h;obtain⟨i,h⟩:=h;have hf:=Tk (w:=w) h3 h;simp[Instr.lookup,run_underlying ht,Sz hb,hc,hf,Result.andThen]
end Eng
end
section
namespace Eng
open Go Go.Proofs Go.Maps Go.RowKit
variable [Env]
theorem Ci {C:Cx} (hP:C.P=Tryz.prog) {l:List (Int×List UInt8)} (hG:C.G 0=some [.map l]) {k:Int} (hk:(Lit.int .i64 k).wf=true):Gives C 153 [.c (.int .i64 k)] [.c (.str (LW l k))]:=by
 intro w F vs hb hi ha;obtain⟨h0,cs,t,fr,hc,a0⟩:=hi 0 _ hG;obtain⟨cs⟩:=cs
 match cs,a0 with
 |[v],⟨hv,_⟩=>
  cases hv with
  |map _ r es cl hF hbk hm=>
   have hrun:=Ch (k:=k) hbk hm hk;have a1:w.cell? ⟨0,0,none⟩=some (.map (some r)):=by simp[World.cell?,hc]
   match vs,ha with
   |[x],⟨h1,_⟩=>
    have h1:=Ld (a:= .c (.int .i64 k)) rfl h1;subst h1;rw[hP]
    go_enter Tryz.func153,Tryz.ntmps153
    go_wp2
    go_ret
    exact⟨Below.refl _ _,_,rfl,.str _⟩
end Eng
end
section
namespace Eng
open Go Go.Proofs
def LX:List (Int×List UInt8):=[(1,[109,105,108,108]),(2,[100,114,105,108,108]),(3,[99,104,97,109,102,101,114]),(4,[112,114,111,98,101])]
def gvN (g:Nat):Option (List D):=match g with
 |0=>some [.map LX]
 |_=>none
section
variable [Env]
noncomputable def CN (ex:List (Nat×wq)):Cx:=⟨Tryz.prog,gvN,λ_=>false,λf=>HR f ex,FU,λ_=>false⟩
theorem LY {ex:List (Nat×wq)} (ha:aX (CN ex) ex) (f:Nat) (e:wq) (h:(CN ex).eff f=some e):EffAt (CN ex) f e:=K1 ha h
instance:EffOk (CN []):=xd (LY trivial)
theorem upN {ex:List (Nat×wq)} {f:Nat} {al rs:List A} (h:Gives CC f al rs):Gives (CN ex) f al rs:=λw F vs hF _ ha=>h w F vs hF (λg cs hg=>by cases hg) ha
theorem FX {ex:List (Nat×wq)} {k:Int} (h1:1<=k) (h2:k<=4):∃s:List UInt8,(s==[])=false/\Gives (CN ex) 153 [.c (.int .i64 k)] [.c (.str s)]:=by
 have hk:k=1\/k=2\/k=3\/k=4:=by omega
 rcases hk with rfl|rfl|rfl|rfl
 all_goals exact⟨_,by rfl,Ci (C:=CN ex) rfl (l:=LX) rfl (by decide)⟩
end
end Eng
end
section
open Go Go.Proofs Eng
namespace Eng
section
variable (Gv:Nat->List A->List A->Prop) (I0:List D->List D->Prop) (M0:List D->Nat) (I1:List D->List D->Prop) (M1:List D->Nat) (I2:List D->List D->Prop) (M2:List D->Nat) (I3:List D->List D->Prop) (M3:List D->Nat) (Q:List A->Prop)
theorem LZ (i0:Int) (i1:Int) (i2:Int) (i3:Int) (i4:Int) (i5:Int) (i6:Int) (i7:Int):wpF (CN []) Gv (λ_=>⟨[.slot 33 (.int .i64 0)],[],I0,M0⟩) Tryz.f83 [.ag (.int .i64 i0::(.int .i64 i1::(.int .i64 i2::(.int .i64 i3::(.int .i64 i4::(.int .i64 i5::(.int .i64 i6::(.int .i64 i7::[]))))))))] Q=(bB (decide (i0<1)) (Q [aI (1:Int)]) (bB (decide (i0>9999)) (Q [aI (1:Int)]) (∃s,Gv 153 [aI i1] [Hx (Lr s)]/\bB (s==[]) (Q [aI (1:Int)]) (I0 [] [dI (0:Int)]/\∀(i:Int),I0 [] [dI i]->bB (decide (i<6)) ((0<=i/\i<6)/\∃i_1,cut (nth [] [[dI i2],[dI i3],[dI i4],[dI i5],[dI i6],[dI i7]] (U0 i)) 0 1 [dI i_1]/\∃b,Gv 154 [aI i_1] [aB b]/\bB (!b) (Q [aI (1:Int)]) (I0 [] [dI (Pl .i64 (i+1))]/\M0 [dI (Pl .i64 (i+1))]<M0 [dI i])) (bB (decide (i4<i2)) (Q [aI (1:Int)]) (bB (decide (i5>i3)) (Q [aI (1:Int)]) (Q [aI (0:Int)]))))))):=by kernel_rfl
theorem Cj (l0:List (List D)) (Q:List A->Prop):wpF (CN []) Gv (YR ⟨[.slot 15 (.int .i64 0)],[],I0,M0⟩ ⟨[.slot 27 (.int .i64 0)],[],I1,M1⟩) Tryz.f36 [.c (.sl l0)] Q=(bB (decide ((Ts l0.length)>200)) (Q [aI (3:Int)]) (I0 [] [dI (0:Int)]/\∀(i:Int),I0 [] [dI i]->bB (decide (i<(Ts l0.length))) ((0<=i/\i<(Ts l0.length)/\cp (nth [] l0 (U0 i))=8)/\∃i_1 i_2 i_3 i_4 i_5 i_6 i_7 i_8,cut (nth [] l0 (U0 i)) 0 8 [dI i_1,dI i_2,dI i_3,dI i_4,dI i_5,dI i_6,dI i_7,dI i_8]/\∃i_9,Gv 83 [Hv [dI i_1,dI i_2,dI i_3,dI i_4,dI i_5,dI i_6,dI i_7,dI i_8]] [aI i_9]/\bB (i_9 !=0) (Q [aI i_9]) (I0 [] [dI (Pl .i64 (i+1))]/\M0 [dI (Pl .i64 (i+1))]<M0 [dI i])) (I1 [] [dI (0:Int)]/\∀(i:Int),I1 [] [dI i]->bB (decide (i<(Ts l0.length))) ((0<=i/\i<(Ts l0.length)/\cp (nth [] l0 (U0 i))=8)/\∃i_1 i_2 i_3 i_4 i_5 i_6 i_7 i_8,cut (nth [] l0 (U0 i)) 0 8 [dI i_1,dI i_2,dI i_3,dI i_4,dI i_5,dI i_6,dI i_7,dI i_8]/\∃i_9 i_10,Gv 84 [aL l0,aI i_1] [aI i_9,aI i_10]/\bB (decide (i_9<i)) (Q [aI (5:Int)]) (I1 [] [dI (Pl .i64 (i+1))]/\M1 [dI (Pl .i64 (i+1))]<M1 [dI i])) (Q [aI (0:Int)])))):=by kernel_rfl
theorem HT (th:Int) (fs:List (List D)) (x0 y0 x1 y1 st gp:Int) (cl:List (List D)) (sf:Int) (l0:List (List D)):wpF (CN []) Gv an0 Tryz.f27 [.ag [.int .i64 th,.sl fs],.ag [.int .i64 x0,.int .i64 y0,.int .i64 x1,.int .i64 y1,.int .i64 st,.int .i64 gp,.sl cl,.int .i64 sf],.c (.sl l0)] Q=(∃i,Gv 35 [Hv [dI th,Hy fs]] [aI i]/\bB (i !=0) (Q [aI i]) (∃i,Gv 66 [Hv [dI x0,dI y0,dI x1,dI y1,dI st,dI gp,Hy cl,dI sf]] [aI i]/\bB (i !=0) (Q [aI i]) (∃i,Gv 36 [aL l0] [aI i]/\bB (i !=0) (Q [aI i]) (bB (th !=st) (Q [aI (1:Int)]) (Q [aI (0:Int)]))))):=by kernel_rfl
theorem HU (th:Int) (fs:List (List D)) (x0 y0 x1 y1 st gp:Int) (cl:List (List D)) (sf:Int) (l0:List (List D)):wpF (CN []) Gv (λ_=>⟨[.own 9 110 2,.slot 31 (.int .i64 0)],[],I0,M0⟩) Tryz.f8 [.ag [.int .i64 th,.sl fs],.ag [.int .i64 x0,.int .i64 y0,.int .i64 x1,.int .i64 y1,.int .i64 st,.int .i64 gp,.sl cl,.int .i64 sf],.c (.sl l0)] Q=(∃i,Gv 27 [Hv [dI th,Hy fs],Hv [dI x0,dI y0,dI x1,dI y1,dI st,dI gp,Hy cl,dI sf],aL l0] [aI i]/\bB (i !=0) (Q [aL [],aI i]) (I0 [] [Hy [],dI (0:Int)]/\∀(es:List (List D)) (i:Int),I0 [] [Hy es,dI i]->bB (decide (i<(Ts fs.length))) ((0<=i/\i<(Ts fs.length)/\cp (nth [] fs (U0 i))=4)/\∃s i_1 i_2 e1,cut (nth [] fs (U0 i)) 0 4 [Lr s,dI i_1,dI i_2,Hy e1]/\bB (i_1==3) (∃i_3 i_4 i_5 i_6,Gv 28 [Hv [Lr s,dI i_1,dI i_2,Hy e1]] [Hv [dI i_3,dI i_4],aI i_5,aI i_6]/\bB (i_6 !=0) (Q [aL [],aI i_6]) (∃i_7 b i_8,Gv 29 [aL l0,aI i_5,aI i_2] [aI i_7,aB b,aI i_8]/\bB (i_8 !=0) (Q [aL [],aI i_8]) (bB (decide (i_7<0)) (Q [aL [],aI (16:Int)]) ((room (es.length+1)/\lens 2 [[dI i_7,dI i_7]])/\I0 [] [Hy (es++[[dI i_7,dI i_7]]),dI (Pl .i64 (i+1))]/\M0 [Hy (es++[[dI i_7,dI i_7]]),dI (Pl .i64 (i+1))]<M0 [Hy es,dI i])))) (bB (i_1==4) (∃x,Gv 31 [aI (20000000:Int)] [aR x]/\∃i_3,Gv 30 [aL l0,aI i_2,aR x,aB false] [aI i_3]/\bB (decide (i_3<0)) (Q [aL [],aI (16:Int)]) ((room (es.length+1)/\lens 2 [[dI i_3,dI i_3]])/\I0 [] [Hy (es++[[dI i_3,dI i_3]]),dI (Pl .i64 (i+1))]/\M0 [Hy (es++[[dI i_3,dI i_3]]),dI (Pl .i64 (i+1))]<M0 [Hy es,dI i])) (∃x x_1 x2 x3 b,Gv 32 [Hv [Hy e1]] [Hv (rk x (rk x_1 (rk x2 (rk x3 [])))),aB b]/\∃x4,Gv 33 [aR x2,aR x] [aR x4]/\∃x,Gv 33 [aR x3,aR x_1] [aR x]/\∃i_3,Gv 34 [aR x,aR x4] [aI i_3]/\bB (decide (i_3<0)) (∃i_4,Gv 30 [aL l0,aI i_2,aR x,aB true] [aI i_4]/\∃i_5,Gv 30 [aL l0,aI i_2,aR x,aB false] [aI i_5]/\bB (decide (i_4<0)) (Q [aL [],aI (16:Int)]) ((room (es.length+1)/\lens 2 [[dI i_4,dI i_5]])/\I0 [] [Hy (es++[[dI i_4,dI i_5]]),dI (Pl .i64 (i+1))]/\M0 [Hy (es++[[dI i_4,dI i_5]]),dI (Pl .i64 (i+1))]<M0 [Hy es,dI i])) (∃i_4,Gv 30 [aL l0,aI i_2,aR x4,aB true] [aI i_4]/\∃i_5,Gv 30 [aL l0,aI i_2,aR x4,aB false] [aI i_5]/\bB (decide (i_4<0)) (Q [aL [],aI (16:Int)]) ((room (es.length+1)/\lens 2 [[dI i_4,dI i_5]])/\I0 [] [Hy (es++[[dI i_4,dI i_5]]),dI (Pl .i64 (i+1))]/\M0 [Hy (es++[[dI i_4,dI i_5]]),dI (Pl .i64 (i+1))]<M0 [Hy es,dI i]))))) (Q [aL es,aI (0:Int)]))):=by kernel_rfl
end
end Eng
end
section
namespace Eng
open Go Go.Proofs
section
variable [Env]
theorem HV {t:TL} (h:t.Ok):Gives (CN []) 83 [.ag (tlD t)] [.c (.int .i64 0)]:=by
 refine qm (C:=CN []) (anns:=λ_=>⟨[.slot 33 (.int .i64 0)],[],λ_ ds=>∃k:Nat,k<=6/\ds=[.int .i64 (k:Int)],λds=>(6-toI (nth .undef ds 0)).toNat⟩) mixedT Tryz.func83 ?_;unfold tlD;rw[LZ];refine brd (λh2=>absurd h.n.1 (by omega)) λ_=>brd (λh2=>absurd h.n.2 (by omega)) λ_=>?_
 obtain⟨s,hs,hk⟩:=FX (ex:=[]) h.k.1 h.k.2;refine⟨s,hk,brb (λh2=>by rw[hs]at h2;cases h2) λ_=>⟨⟨0,en _,rfl⟩,?_⟩⟩;rintro _ ⟨k,hk6,e⟩;simp only[ei,Lv,true_and,and_true]at e;subst e;refine brd (λh2=>?_) λh2=>brd (λh3=>absurd h.h.1 (by omega)) λ_=>brd (λh3=>absurd h.sf (by omega)) λ_=>rfl
 have hw:Pl .i64 ((k:Int)+1)=((k+1:Nat):Int):=by rw[xb (by omega) (by omega)];omega
 rw[hw];simp only[U3];have nx:(∃k':Nat,k'<=6/\[J4 .i64 ((k+1:Nat):Int)]=[.int .i64 (k':Int)])/\(6-toI (nth .undef [J4 .i64 ((k+1:Nat):Int)] 0)).toNat<(6-toI (nth .undef [J4 .i64 (k:Int)] 0)).toNat:=⟨⟨k+1,by omega,rfl⟩,by simp only[nth,toI];omega⟩;have a0:∀x,lnI x->nth [] [[J4 .i64 t.r],[J4 .i64 t.f],[J4 .i64 t.h],[J4 .i64 t.s],[J4 .i64 t.d],[J4 .i64 t.p]] k=[.int .i64 x]->∃i_1,cut (nth [] [[J4 .i64 t.r],[J4 .i64 t.f],[J4 .i64 t.h],[J4 .i64 t.s],[J4 .i64 t.d],[J4 .i64 t.p]] k) 0 1 [J4 .i64 i_1]/\∃b,Gives (CN []) 154 [.c (.int .i64 i_1)] [.c (.bool b)]/\br (toB (Lm !b)) ([Hx (.int .i64 1)]=[Hx (.int .i64 0)]) ((∃k':Nat,k'<=6/\[J4 .i64 ((k+1:Nat):Int)]=[.int .i64 (k':Int)])/\(6-toI (nth .undef [J4 .i64 ((k+1:Nat):Int)] 0)).toNat<(6-toI (nth .undef [J4 .i64 (k:Int)] 0)).toNat):=λx hx e=>by rw[e];exact⟨_,⟨rfl,el 1⟩,_,upN (Cg hx),brb (λh3=>by cases h3) λ_=>nx⟩
 have hh:lnI t.h:=⟨by have:=h.h.1;have:=h.r.1;omega,h.h.2⟩;refine⟨⟨by omega,by omega⟩,?_⟩;have hk:k=0\/k=1\/k=2\/k=3\/k=4\/k=5:=by omega
 rcases hk with rfl|rfl|rfl|rfl|rfl|rfl
 .exact a0 _ h.r rfl
 .exact a0 _ h.f rfl
 .exact a0 _ hh rfl
 .exact a0 _ h.s rfl
 .exact a0 _ h.d rfl
 .exact a0 _ h.p rfl
theorem Yk {ts:List TL} (h:MagOk ts):Gives (CN []) 36 [.c (.sl (mgD ts))] [.c (.int .i64 0)]:=by
 have hl:=h.len;have hv:=Cj (Gives (CN [])) (λ_ ds=>∃k:Nat,k<=ts.length/\ds=[.int .i64 (k:Int)]) (λds=>(ts.length-toI (nth .undef ds 0)).toNat) (λ_ ds=>∃k:Nat,k<=ts.length/\ds=[.int .i64 (k:Int)]) (λds=>(ts.length-toI (nth .undef ds 0)).toNat) (mgD ts) (· =[.c (.int .i64 0)]);refine qm (C:=CN []) mixedT Tryz.func36 (hv.mpr ?_);clear hv;simp only[V1,wb];refine brd (λh2=>by omega) λ_=>⟨⟨0,en _,rfl⟩,?_⟩
 rintro _ ⟨k,hk,e⟩;simp only[ei,Lv,true_and,and_true]at e;subst e;simp only[U3];refine brd (λh2=>?_) λh2=>⟨⟨0,en _,rfl⟩,?_⟩
 .have a0:k<ts.length:=by omega
  have hw:Pl .i64 ((k:Int)+1)=((k+1:Nat):Int):=by rw[xb (by omega) (by omega)];omega
  rw[wW a0,hw];exact⟨⟨by omega,by omega,rfl⟩,_,_,_,_,_,_,_,_,⟨rfl,el 8⟩,_,HV (h.ok _ (cv a0)),brb (λh3=>by cases h3) λ_=>⟨⟨k+1,by omega,rfl⟩,by simp only[nth,toI];omega⟩⟩
 .rintro _ ⟨k,hk,e⟩;simp only[ei,Lv,true_and,and_true]at e;subst e;simp only[U3];refine brd (λh2=>?_) λh2=>by trivial
  have a0:k<ts.length:=by omega
  have hw:Pl .i64 ((k:Int)+1)=((k+1:Nat):Int):=by rw[xb (by omega) (by omega)];omega
  rw[wW a0,hw];exact⟨⟨by omega,by omega,rfl⟩,_,_,_,_,_,_,_,_,⟨rfl,el 8⟩,_,_,upN (Pv h a0),brd (λh3=>by omega) λ_=>⟨⟨k+1,by omega,rfl⟩,by simp only[nth,toI];omega⟩⟩
end
structure FT where
 nm:List UInt8
 k:Int
 d:Int
 es:List (List D)
def ftD (f:FT):List D:=[.str f.nm,.int .i64 f.k,.int .i64 f.d,.sl f.es]
def J0 (fs:List FT):List (List D):=fs.map ftD
theorem yX (fs:List FT):(J0 fs).length=fs.length:=by simp[J0]
theorem Gy {fs:List FT} {i:Nat} (h:i<fs.length):nth [] (J0 fs) i=ftD fs[i]:=by rw[qw];simp[J0,h]
def pfN:List FT->Nat->Nat
 |_,0=>0
 |[],_=>0
 |f::fs,k+1=>(match f.k==4 with
  |true=>1
  |false=>0)+pfN fs k
theorem FY:∀{fs:List FT} {k:Nat} (h:k<fs.length),pfN fs (k+1)=pfN fs k+(match fs[k].k==4 with
 |true=>1
 |false=>0)
 |f::fs,0,_=>by cases fs<;>simp[pfN]
 |f::fs,k+1,h=>by have:=FY (fs:=fs) (k:=k) (by simpa using h);simp only[pfN,List.getElem_cons_succ]at this ⊢;omega
theorem Ck:∀{fs:List FT} {k:Nat},pfN fs k<=pfN fs fs.length
 |[],0=>el _
 |[],k+1=>el _
 |f::fs,0=>en _
 |f::fs,k+1=>by have:=Ck (fs:=fs) (k:=k);simp only[pfN,dc];omega
section
variable [Env]
structure FOk (f:FT):Prop where
 nP:Gives CC 148 [.c (.str f.nm)] [.c (.bool true)]
 vP:Gives CC 149 [.ag [.sl f.es]] [.c (.bool true)]
 ne:0<f.es.length
 d:1<=f.d/\f.d<=6000
 k:f.k=1\/(f.k=3/\Gives CC 150 [.ag [.sl f.es]] [.c (.bool true)])\/(f.k=4/\f.d=6000)
structure POk (fs:List FT):Prop where
 ok:∀f∈fs,FOk f
 len:fs.length<=40
 one:pfN fs fs.length<=1
 dis:∀i j (hi:i<fs.length) (hj:j<fs.length),fs[i].nm=fs[j].nm->i=j
theorem Vh {f:FT} (h:FOk f):Gives CC 81 [.ag (ftD f),.c (.int .i64 6000)] [.c (.bool true)]:=by
 refine qm (C:=CC) (anns:=an0) mixedT Tryz.func81 ?_;unfold ftD;rw[LS];refine⟨_,h.nP,brb (λh2=>by cases h2) λ_=>brb (λh2=>?_) λ_=>⟨_,h.vP,brb (λh2=>by cases h2) λ_=>?_⟩⟩
 .have:=h.ne;simp only[V1,beq_iff_eq]at h2;omega
 refine brd (λh2=>absurd h.d.1 (by omega)) λ_=>brd (λh2=>absurd h.d.2 (by omega)) λ_=>?_
 rcases h.k with e|⟨e,g⟩|⟨e,g⟩<;>rw[e]
 .exact brb (λ_=>rfl) λh2=>by cases h2
 .exact brb (λh2=>by cases h2) λ_=>brb (λ_=>⟨_,g,rfl⟩) λh2=>by cases h2
 .exact brb (λh2=>by cases h2) λ_=>brb (λh2=>by cases h2) λ_=>brb (λ_=>by rw[g];rfl) λh2=>by cases h2
theorem Pw {fs:List FT} (h:POk fs) {i:Nat} (hi:i<fs.length):Gives CC 82 [.ag [.int .i64 6000,.sl (J0 fs)],.c (.str fs[i].nm)] [.c (.int .i64 (i:Int))]:=by
 have hl:=h.len;have h1:∀(f:FT) (m:List UInt8),Gives CC 152 [.ag (ftD f),.c (.ptr [.str m])] [.c (.bool (f.nm==m))]:=λf m=>by refine qm (C:=CC) (anns:=an0) mixedT Tryz.func152 ?_;unfold ftD;rw[LR];exact⟨_,⟨rfl,el 1⟩,rfl⟩
 have h2:Gives CC 151 [.c (.sl (J0 fs)),.c (.clo 152 [.ptr [.str fs[i].nm]])] [.c (.int .i64 (i:Int))]:=by
  refine qm (C:=CC) (anns:=λ_=>⟨[.slot 8 (.int .i64 0)],[],λ_ ds=>∃k:Nat,k<=i/\ds=[.int .i64 (k:Int)],λds=>(i-toI (nth .undef ds 0)).toNat⟩) mixedT Tryz.func151 ?_;rw[Cf];refine⟨⟨0,en _,rfl⟩,?_⟩;rintro _ ⟨k,hk,e⟩;simp only[ei,Lv,true_and,and_true]at e;subst e;simp only[V1,yX,U3];refine brd (λ_=>?_) λh2=>by omega
  have a0:k<fs.length:=by omega
  rw[Gy a0];have hw:Pl .i64 ((k:Int)+1)=((k+1:Nat):Int):=by rw[xb (by omega) (by omega)];omega
  rw[hw];refine⟨⟨by omega,by omega,rfl⟩,_,_,_,_,⟨rfl,el 4⟩,_,h1 _ _,Qd (λh3=>?_) λh3=>?_⟩
  .have:=h.dis k i a0 hi (by simpa using h3);subst this;rfl
  .have hki:k≠i:=λe=>by subst e;simp at h3
   exact⟨⟨k+1,by omega,rfl⟩,by simp only[nth,toI];omega⟩
 refine qm (C:=CC) (anns:=an0) mixedT Tryz.func82 ?_;rw[Pt];exact⟨_,h2,rfl⟩
theorem Zt {fs:List FT} (h:POk fs):Gives CC 35 [.ag [.int .i64 6000,.sl (J0 fs)]] [.c (.int .i64 0)]:=by
 have hl:=h.len;have hv:=LT (Gives CC) (λ_ ds=>∃k:Nat,k<=fs.length/\ds=[.int .i64 (pfN fs k:Int),.int .i64 (k:Int)]) (λds=>(fs.length-toI (nth .undef ds 1)).toNat)
  (λ_ ds=>∃k:Nat,k<=fs.length/\ds=[.int .i64 (k:Int)]) (λds=>(fs.length-toI (nth .undef ds 0)).toNat) 6000 (J0 fs) (· =[.c (.int .i64 0)])
 refine qm (C:=CC) mixedT Tryz.func35 (hv.mpr ?_);clear hv;simp only[V1,yX];refine brd (λh2=>by omega) λ_=>brd (λh2=>by omega) λ_=>brd (λh2=>by omega) λ_=>⟨⟨0,en _,by cases fs<;>rfl⟩,?_⟩
 rintro _ _ ⟨k,hk,e⟩;simp only[ei,Lv,true_and,and_true]at e;obtain⟨rfl,rfl⟩:=e;have hm:=Ck (fs:=fs) (k:=k);have hm1:=Ck (fs:=fs) (k:=k+1);have h1:=h.one;simp only[U3];refine brd (λh2=>?_) λh2=>⟨⟨0,en _,rfl⟩,?_⟩
 .have a0:k<fs.length:=by omega
  have hw:Pl .i64 ((k:Int)+1)=((k+1:Nat):Int):=by rw[xb (by omega) (by omega)];omega
  have a1:Pl .i64 ((pfN fs k:Int)+1)=((pfN fs k+1:Nat):Int):=by rw[xb (by omega) (by omega)];omega
  have hs:=FY a0;rw[Gy a0,hw,a1];refine⟨⟨by omega,by omega,rfl⟩,_,_,_,_,⟨rfl,el 4⟩,brb (λh3=>?_) λh3=>?_⟩
  .rw[h3]at hs;replace hs:pfN fs (k+1)=pfN fs k+1:=hs;refine brd (λh4=>by omega) λ_=>⟨_,Vh (h.ok _ (cv a0)),brb (λh5=>by cases h5) λ_=>⟨⟨k+1,by omega,by rw[hs]⟩,by simp only[nth,toI];omega⟩⟩
  .rw[h3]at hs;refine brd (λh4=>by omega) λ_=>⟨_,Vh (h.ok _ (cv a0)),brb (λh5=>by cases h5) λ_=>⟨⟨k+1,by omega,by rw[hs];rfl⟩,by simp only[nth,toI];omega⟩⟩
 .rintro _ ⟨k,hk,e⟩;simp only[ei,Lv,true_and,and_true]at e;subst e;simp only[U3];refine brd (λh2=>?_) λh2=>by trivial
  have a0:k<fs.length:=by omega
  have a1:Pl .i64 ((k:Int)+1)=((k+1:Nat):Int):=by rw[xb (by omega) (by omega)];omega
  rw[Gy a0,a1];exact⟨⟨by omega,by omega,rfl⟩,_,_,_,_,⟨rfl,el 4⟩,_,Pw h a0,brd (λh3=>by omega) λ_=>⟨⟨k+1,by omega,rfl⟩,by simp only[nth,toI];omega⟩⟩
end
end Eng
end
section
open Go Go.Proofs Eng
namespace Eng
section
variable (Gv:Nat->List A->List A->Prop) (I0:List D->List D->Prop) (M0:List D->Nat) (I1:List D->List D->Prop) (M1:List D->Nat) (I2:List D->List D->Prop) (M2:List D->Nat) (I3:List D->List D->Prop) (M3:List D->Nat) (Q:List A->Prop)
theorem Px (i0:Int) (i1:Int) (i2:Int) (i3:Int) (i4:Int) (i5:Int) (i6:Int) (i7:Int) (r0:R4):wpF CC Gv an0 Tryz.f89 [.ag (.int .i64 i0::(.int .i64 i1::(.int .i64 i2::(.int .i64 i3::(.int .i64 i4::(.int .i64 i5::(.int .i64 i6::(.int .i64 i7::[])))))))),.ag (rk r0 [])] Q=(∃x,Gv 72 [aI i2] [aR x]/\∃x1,Gv 157 [aR x,aR x] [aR x1]/\∃i,Gv 34 [aR x1,aR r0] [aI i]/\bB (i1==2) (Q [aB (i==0)]) (bB (i1 !=1) (Q [aB true]) (bB (decide (i<0)) (∃x,Gv 72 [aI (4:Int)] [aR x]/\∃x2,Gv 157 [aR x,aR x1] [aR x2]/\∃i,Gv 34 [aR r0,aR x2] [aI i]/\Q [aB (decide (i<=0))]) (Q [aB false])))):=by kernel_rfl
theorem Ma (ok of ot:Int) (od:List (List D)) (ol:Int) (th:Int) (fs:List (List D)) (l0:List (List D)):wpF CC Gv an0 Tryz.f41 [.ag [.int .i64 ok,.int .i64 of,.int .i64 ot,.sl od,.int .i64 ol],.ag [.int .i64 th,.sl fs],.c (.sl l0)] Q=(bB (decide (of<0)) (Q [aI (1:Int)]) (bB (decide (of>=(Ts fs.length))) (Q [aI (1:Int)]) (bB (decide (ot<0)) (Q [aI (1:Int)]) (bB (decide (ot>=(Ts l0.length))) (Q [aI (1:Int)]) (bB (decide (ol<0)) (Q [aI (1:Int)]) (bB (decide (ol>10000000)) (Q [aI (1:Int)]) ((0<=of/\of<(Ts fs.length)/\cp (nth [] fs (U0 of))=4)/\∃s i i_1 es,cut (nth [] fs (U0 of)) 0 4 [Lr s,dI i,dI i_1,Hy es]/\(0<=ot/\ot<(Ts l0.length)/\cp (nth [] l0 (U0 ot))=8)/\∃i_2 i_3 i_4 i_5 i_6 i_7 i_8 i_9,cut (nth [] l0 (U0 ot)) 0 8 [dI i_2,dI i_3,dI i_4,dI i_5,dI i_6,dI i_7,dI i_8,dI i_9]/\bB (ok !=4) (∃b,Gv 87 [aL od,aI i_1,aI i_7] [aB b]/\∃b1,Gv 88 [aI ok,aI i,aI i_3] [aB b1]/\bB (!b1) (Q [aI (1:Int)]) (bB (!b) (Q [aI (1:Int)]) (bB (ok !=4) (bB (decide (i_5<i_1)) (Q [aI (16:Int)]) (bB (i==3) (bB (decide ((Ts es.length)>0)) (((0:Int)<=(0:Int)/\0<(Ts es.length)/\cp (nth [] es 0)=66)/\∃x,cut (nth [] es 0) 21 4 (rk x [])/\∃b,Gv 89 [Hv [dI i_2,dI i_3,dI i_4,dI i_5,dI i_6,dI i_7,dI i_8,dI i_9],aR x] [aB b]/\bB (!b) (Q [aI (16:Int)]) (Q [aI (0:Int)])) (Q [aI (0:Int)])) (Q [aI (0:Int)]))) (bB (i==3) (bB (decide ((Ts es.length)>0)) (((0:Int)<=(0:Int)/\0<(Ts es.length)/\cp (nth [] es 0)=66)/\∃x,cut (nth [] es 0) 21 4 (rk x [])/\∃b,Gv 89 [Hv [dI i_2,dI i_3,dI i_4,dI i_5,dI i_6,dI i_7,dI i_8,dI i_9],aR x] [aB b]/\bB (!b) (Q [aI (16:Int)]) (Q [aI (0:Int)])) (Q [aI (0:Int)])) (Q [aI (0:Int)]))))) (∃b,Gv 88 [aI ok,aI i,aI i_3] [aB b]/\bB (!b) (Q [aI (1:Int)]) (bB (!(Ts od.length)==0) (Q [aI (1:Int)]) (bB (ok !=4) (bB (decide (i_5<i_1)) (Q [aI (16:Int)]) (bB (i==3) (bB (decide ((Ts es.length)>0)) (((0:Int)<=(0:Int)/\0<(Ts es.length)/\cp (nth [] es 0)=66)/\∃x,cut (nth [] es 0) 21 4 (rk x [])/\∃b,Gv 89 [Hv [dI i_2,dI i_3,dI i_4,dI i_5,dI i_6,dI i_7,dI i_8,dI i_9],aR x] [aB b]/\bB (!b) (Q [aI (16:Int)]) (Q [aI (0:Int)])) (Q [aI (0:Int)])) (Q [aI (0:Int)]))) (bB (i==3) (bB (decide ((Ts es.length)>0)) (((0:Int)<=(0:Int)/\0<(Ts es.length)/\cp (nth [] es 0)=66)/\∃x,cut (nth [] es 0) 21 4 (rk x [])/\∃b,Gv 89 [Hv [dI i_2,dI i_3,dI i_4,dI i_5,dI i_6,dI i_7,dI i_8,dI i_9],aR x] [aB b]/\bB (!b) (Q [aI (16:Int)]) (Q [aI (0:Int)])) (Q [aI (0:Int)])) (Q [aI (0:Int)])))))))))))):=by kernel_rfl
theorem Mb (r0:R4):wpF CC Gv an0 Tryz.f67 [.ag (rk r0 [])] Q=(∃i b,Gv 123 [aZ (R4.b r0) (R4.l r0)] [aI i,aB b]/\br b (∃x,Gv 72 [aI i] [aR x]/\∃i_1,Gv 34 [aR r0,aR x] [aI i_1]/\bB (i_1==0) (∃b,Gv 124 [aI i] [aB b]/\Q [aI i,aB b]) (Q [aI i,aB false])) (Q [aI i,aB false])):=by kernel_rfl
theorem FZ (i0:Int):wpF CC Gv an0 Tryz.f124 [.c (.int .i64 i0)] Q=(bB (decide (i0>=(-10000000:Int))) (Q [aB (decide (i0<=10000000))]) (Q [aB false])):=by kernel_rfl
theorem HW (fn:List UInt8) (fk fd:Int) (fe:List (List D)):wpF CC Gv an0 Tryz.f28 [.ag [.str fn,.int .i64 fk,.int .i64 fd,.sl fe]] Q=(bB (fk !=3) (Q [Hv [dI (0:Int),dI (0:Int)],aI (0:Int),aI (1:Int)]) (bB ((Ts fe.length) !=2) (Q [Hv [dI (0:Int),dI (0:Int)],aI (0:Int),aI (1:Int)]) (((0:Int)<=(0:Int)/\0<(Ts fe.length)/\cp (nth [] fe 0)=66)/\∃b,cut (nth [] fe 0) 0 1 [Lm b]/\bB (!b) (Q [Hv [dI (0:Int),dI (0:Int)],aI (0:Int),aI (1:Int)]) (((0:Int)<=(0:Int)/\0<(Ts fe.length)/\cp (nth [] fe 0)=66)/\∃x x1 x2,cut (nth [] fe 0) 13 12 (rk x (rk x1 (rk x2 [])))/\∃i b,Gv 67 [aR x] [aI i,aB b]/\∃i_1 b1,Gv 67 [aR x1] [aI i_1,aB b1]/\∃x3 b2,Gv 68 [aR x2] [aR x3,aB b2]/\bB (!b) (Q [Hv [dI (0:Int),dI (0:Int)],aI (0:Int),aI (1:Int)]) (bB (!b1) (Q [Hv [dI (0:Int),dI (0:Int)],aI (0:Int),aI (1:Int)]) (bB (!b2) (Q [Hv [dI (0:Int),dI (0:Int)],aI (0:Int),aI (1:Int)]) (∃i_2 b,Gv 67 [aR x3] [aI i_2,aB b]/\∃es i_3,Gv 69 [aT x x1 x2] [Hv [Hy es],aI i_3]/\bB (!b) (Q [Hv [dI (0:Int),dI (0:Int)],aI (0:Int),aI (1:Int)]) (bB (decide (i_2<1)) (Q [Hv [dI (0:Int),dI (0:Int)],aI (0:Int),aI (1:Int)]) (bB (i_3 !=0) (Q [Hv [dI (0:Int),dI (0:Int)],aI (0:Int),aI (1:Int)]) (∃b,Gv 70 [Hv [Hy fe],Hv [Hy es]] [aB b]/\bB (!b) (Q [Hv [dI (0:Int),dI (0:Int)],aI (0:Int),aI (1:Int)]) (Q [Hv [dI i,dI i_1],aI i_2,aI (0:Int)]))))))))))):=by kernel_rfl
theorem Cl (i0:Int):wpF CC Gv an0 Tryz.f31 [.c (.int .i64 i0)] Q=(∃x,Gv 72 [aI i0] [aR x]/\Q [aR x]):=by kernel_rfl
end
end Eng
end
section
namespace Eng
open Go Go.Proofs
structure GF extends FT where
 (wx wy R:Int)
def Vi (a b:Int):Int:=match decide (a<b)with
 |true=> -1
 |false=>match decide (a=b)with
  |true=>0
  |false=>1
theorem Cm {a b:Int}:decide (Vi a b<=0)=decide (a<=b):=by
 unfold Vi;by_cases h:a<b
 .rw[decide_eq_true h,decide_eq_true (show a<=b by omega)];rfl
 .rw[decide_eq_false h];by_cases e:a=b
  .rw[decide_eq_true e,decide_eq_true (show a<=b by omega)];rfl
  .rw[decide_eq_false e,decide_eq_false (show ¬a<=b by omega)];rfl
theorem Cn {a b:Int}:decide (Vi a b>0)=decide (a>b):=by
 unfold Vi;by_cases h:a<b
 .rw[decide_eq_true h,decide_eq_false (show ¬a>b by omega)];rfl
 .rw[decide_eq_false h];by_cases e:a=b
  .rw[decide_eq_true e,decide_eq_false (show ¬a>b by omega)];rfl
  .rw[decide_eq_false e,decide_eq_true (show a>b by omega)];rfl
theorem Mc {a b:Int}:decide (Vi a b<0)=decide (a<b):=by
 unfold Vi;by_cases h:a<b
 .rw[decide_eq_true h];rfl
 .rw[decide_eq_false h];by_cases e:a=b
  .rw[decide_eq_true e];rfl
  .rw[decide_eq_false e];rfl
def QO (f:FT) (t:TL):Bool:=t.k==1||(f.k==3&&t.k==2)
def Gz (R:Int) (t:TL):Bool:=match t.k==2 with
 |true=>t.r==R
 |false=>decide (t.r<R)&&decide (R<=2*t.r)
def df (g:GF) (t:TL):Int:=match QO g.toFT t with
 |false=>1
 |true=>match decide (t.f<g.d)with
  |true=>16
  |false=>match g.k==3&&!Gz g.R t with
   |true=>16
   |false=>0
def jn (g:GF) (t:TL):Bool:=match df g t==0 with
 |false=>false
 |true=>match g.k==1 with
  |true=>decide (2*t.r<=g.wx)&&decide (2*t.r<=g.wy)
  |false=>true
section
variable [Env]
structure BoxOk (bF sF nF cF:Nat) (g:GF):Prop where
 ex:∃x0 y0 x1 y1 w h:R4,Gives CC bF [.ag [.sl g.es]] [.ag (rk x0 (rk y0 (rk x1 (rk y1 [])))),.c (.bool true)]/\Gives CC sF [.ag (rk x1 []),.ag (rk x0 [])] [.ag (rk w [])]/\Gives CC sF [.ag (rk y1 []),.ag (rk y0 [])] [.ag (rk h [])]/\
  Gives CC cF [.ag (rk h []),.ag (rk w [])] [.c (.int .i64 (Vi g.wy g.wx))]/\
  ∀n:Int,0<=n->n<=100000000->∃q:R4,Gives CC nF [.c (.int .i64 n)] [.ag (rk q [])]/\Gives CC cF [.ag (rk q []),.ag (rk w [])] [.c (.int .i64 (Vi n g.wx))]/\Gives CC cF [.ag (rk q []),.ag (rk h [])] [.c (.int .i64 (Vi n g.wy))]
structure HolOk (g:GF):Prop where
 row:∃q:R4,(nth [] g.es 0).length=66/\cut (nth [] g.es 0) 21 4 (rk q [])/\∀t:TL,t.Ok->(t.k=1\/t.k=2)->Gives CC 89 [.ag (tlD t),.ag (rk q [])] [.c (.bool (Gz g.R t))]
 ctr:∃x y:Int,Gives CC 28 [.ag (ftD g.toFT)] [.ag [.int .i64 x,.int .i64 y],.c (.int .i64 g.R),.c (.int .i64 0)]
 R:1<=g.R/\g.R<=10000000
structure GOk (g:GF):Prop where
 f:FOk g.toFT
 bP:g.k=1->BoxOk 32 33 72 34 g
 h:g.k=3->HolOk g
def gsF (gs:List GF):List FT:=gs.map GF.toFT
omit [Env] in
theorem Qv (gs:List GF):(gsF gs).length=gs.length:=by simp[gsF]
omit [Env] in
theorem G0 {gs:List GF} {i:Nat} (h:i<gs.length):nth [] (J0 (gsF gs)) i=ftD gs[i].toFT:=by
 rw[Gy (by rw[Qv];exact h)];simp[gsF]
end
end Eng
end
section
namespace Eng
open Go Go.Proofs
def dTL:TL:=⟨0,0,0,0,0,0,0,0⟩
def Qw (greater:Bool) (ts:List TL) (b:Int) (t:TL):Bool:=match decide (b<0)with
 |true=>true
 |false=>match greater with
  |true=>decide (t.r>((ts.getD b.toNat dTL).r))
  |false=>decide (t.r<((ts.getD b.toNat dTL).r))
def okM (d w:Int) (t:TL):Bool:=match t.k !=1 with
 |true=>false
 |false=>match decide (t.f<d)with
  |true=>false
  |false=>!decide (2*t.r>w)
def zk (ts:List TL) (d w:Int) (g:Bool):Nat->Int
 |0=> -1
 |k+1=>match okM d w (ts.getD k dTL)with
  |false=>zk ts d w g k
  |true=>match Qw g ts (zk ts d w g k) (ts.getD k dTL)with
   |true=>(k:Int)
   |false=>zk ts d w g k
theorem Xb {ts:List TL} {d w:Int} {g:Bool}:∀k,(zk ts d w g k= -1/\∀i<k,okM d w (ts.getD i dTL)=false)\/∃i<k,zk ts d w g k=(i:Int)/\okM d w (ts.getD i dTL)=true
 |0=> .inl ⟨rfl,λ_ h=>by omega⟩
 |k+1=>by
  have ih:=Xb (ts:=ts) (d:=d) (w:=w) (g:=g) k;unfold zk;cases e:okM d w (ts.getD k dTL)with
  |false=>
   rcases ih with⟨a,b⟩|⟨i,a,b,c⟩
   .refine .inl ⟨a,λi hi=>?_⟩;rcases fx i k with q|q
    .exact b i q
    .obtain rfl:i=k:=by omega
     exact e
   .exact .inr ⟨i,by omega,b,c⟩
  |true=>
   cases e2:Qw g ts (zk ts d w g k) (ts.getD k dTL)with
   |true=>exact .inr ⟨k,by omega,rfl,e⟩
   |false=>
    rcases ih with⟨a,b⟩|⟨i,a,b,c⟩
    .rw[a]at e2;simp[Qw]at e2
    .exact .inr ⟨i,by omega,b,c⟩
def HX (R:Int) (t:TL):Bool:=t.k==1&&(decide (t.r<R)&&decide (R-t.r<=t.r))
def xV (ts:List TL) (R d:Int):Nat->Bool×Int
 |0=>(false, -1)
 |k+1=>match(xV ts R d k).1 with
  |true=>xV ts R d k
  |false=>match decide ((ts.getD k dTL).f<d)with
   |true=>xV ts R d k
   |false=>match(ts.getD k dTL).k==2&&(ts.getD k dTL).r==R with
    |true=>(true,(k:Int))
    |false=>match HX R (ts.getD k dTL)&&Qw true ts (xV ts R d k).2 (ts.getD k dTL)with
     |true=>(false,(k:Int))
     |false=>xV ts R d k
def Md (R d:Int) (t:TL):Bool:=!decide (t.f<d)&&((t.k==2&&t.r==R)||HX R t)
theorem K2 {ts:List TL} {R d:Int}:∀k,(xV ts R d k=(false, -1)/\∀i<k,Md R d (ts.getD i dTL)=false)\/∃i<k,(xV ts R d k).2=(i:Int)/\Md R d (ts.getD i dTL)=true
 |0=> .inl ⟨rfl,λ_ h=>by omega⟩
 |k+1=>by
  have ih:=K2 (ts:=ts) (R:=R) (d:=d) k;have same:xV ts R d (k+1)=xV ts R d k->(xV ts R d k=(false, -1)->Md R d (ts.getD k dTL)=false)->(xV ts R d (k+1)=(false, -1)/\∀i<k+1,Md R d (ts.getD i dTL)=false)\/∃i<k+1,(xV ts R d (k+1)).2=(i:Int)/\Md R d (ts.getD i dTL)=true:=λe hn=>by
   rw[e];rcases ih with⟨a,b⟩|⟨i,a,b,c⟩
   .refine .inl ⟨a,λi hi=>?_⟩;rcases fx i k with q|q
    .exact b i q
    .obtain rfl:i=k:=by omega
     exact hn a
   .exact .inr ⟨i,by omega,b,c⟩
  cases e1:(xV ts R d k).1 with
  |true=>exact same (by simp only[xV,e1]) λh=>by rw[h]at e1;cases e1
  |false=>
   cases e2:decide ((ts.getD k dTL).f<d)with
   |true=>exact same (by simp only[xV,e1,e2]) λ_=>by unfold Md;rw[e2];rfl
   |false=>
    cases e3:(ts.getD k dTL).k==2&&(ts.getD k dTL).r==R with
    |true=>exact .inr ⟨k,by omega,by simp only[xV,e1,e2,e3],by unfold Md;rw[e2,e3];rfl⟩
    |false=>
     cases e4:HX R (ts.getD k dTL)with
     |false=>exact same (by simp only[xV,e1,e2,e3,e4,F0]) λ_=>by unfold Md;rw[e2,e3,e4];rfl
     |true=>
      cases e5:Qw true ts (xV ts R d k).2 (ts.getD k dTL)with
      |true=>exact .inr ⟨k,by omega,by simp only[xV,e1,e2,e3,e4,e5,Aw],by unfold Md;rw[e2,e3,e4];rfl⟩
      |false=>exact same (by simp only[xV,e1,e2,e3,e4,e5,Hu]) λh=>by rw[h]at e5;simp[Qw]at e5
theorem Me {ts:List TL} {R d:Int} {k:Nat} (h:(xV ts R d k).1=true):∀j,xV ts R d (k+j)=xV ts R d k
 |0=>rfl
 |j+1=>by
  have ih:=Me h j;show xV ts R d (k+j+1)=_
  conv=>lhs;unfold xV
  simp only[ih,h]
def aY (ts:List TL) (R d:Int):List A:=match(xV ts R d ts.length).1 with
 |true=>[.c (.int .i64 (xV ts R d ts.length).2),.c (.bool true),.c (.int .i64 0)]
 |false=>match decide ((xV ts R d ts.length).2<0)with
  |true=>[.c (.int .i64 0),.c (.bool false),.c (.int .i64 16)]
  |false=>[.c (.int .i64 (xV ts R d ts.length).2),.c (.bool false),.c (.int .i64 0)]
section
variable [Env]
theorem Py {t:TL} (ht:t.Ok) {R:Int} (hR:1<=R/\R<=10000000):Gives CC 71 [.ag (tlD t),.c (.int .i64 R)] [.c (.bool (HX R t))]:=by
 refine qm (C:=CC) (anns:=an0) mixedT Tryz.func71 ?_;unfold tlD;rw[LL,xb (n:=R-t.r) (by have:=ht.r.2;omega) (by have:=ht.r.1;omega)];unfold HX;refine brb (λh=>?_) λh=>by rw[h];rfl
 rw[h];exact brd (λh2=>by rw[decide_eq_true h2];rfl) λh2=>by rw[decide_eq_false h2];rfl
theorem Pz {ts:List TL} (hok:∀t∈ts,t.Ok) (hl:ts.length<=1000) {R d:Int} (hR:1<=R/\R<=10000000) (hd:1<=d):Gives CC 29 [.c (.sl (mgD ts)),.c (.int .i64 R),.c (.int .i64 d)] (aY ts R d):=by
 refine qm (C:=CC) (anns:=λ_=>⟨[.slot 9 (.int .i64 0),.slot 20 (.int .i64 0)],[],λ_ ds=>∃k:Nat,k<=ts.length/\(xV ts R d k).1=false/\ds=[.int .i64 (xV ts R d k).2,.int .i64 (k:Int)],λds=>(ts.length-toI (nth .undef ds 1)).toNat⟩) mixedT Tryz.func29 ?_;rw[LM];refine brd (λh=>by omega) λ_=>brd (λh=>by omega) λ_=>⟨⟨0,en _,rfl,rfl⟩,?_⟩
 rintro _ _ ⟨k,hk,hf,e⟩;simp only[ei,Lv,true_and,and_true]at e;obtain⟨rfl,rfl⟩:=e;simp only[V1,wb,U3];refine brd (λh=>?_) λh=>?_
 .have a1:k<ts.length:=by omega
  have hw:Pl .i64 ((k:Int)+1)=((k+1:Nat):Int):=by rw[xb (by omega) (by omega)];omega
  have hg:ts.getD k dTL=ts[k]:=zi a1;have htk:=hok _ (cv a1);have ms:∀x,xV ts R d (k+1)=(false,x)->(∃k':Nat,k'<=ts.length/\(xV ts R d k').1=false/\[J4 .i64 x,.int .i64 ((k+1:Nat):Int)]=[.int .i64 (xV ts R d k').2,.int .i64 (k':Int)])/\
   (ts.length-toI (nth .undef [J4 .i64 x,.int .i64 ((k+1:Nat):Int)] 1)).toNat<(ts.length-toI (nth .undef [J4 .i64 (xV ts R d k).2,.int .i64 (k:Int)] 1)).toNat:=λx e=>
   ⟨⟨k+1,by omega,by rw[e],by rw[e]⟩,by simp only[nth,toI];omega⟩
  have hp:xV ts R d k=(false,(xV ts R d k).2):=by rw[<-hf]
  rw[wW a1,hw];refine⟨⟨by omega,by omega,rfl⟩,_,_,_,_,_,_,_,_,⟨rfl,el 8⟩,brd (λh2=>ms _ ?_) λh2=>?_⟩
  .simp only[xV,hf,hg,decide_eq_true h2];exact hp
  have a0:(ts[k].k==2&&ts[k].r==R)=false->(∃b,Gives CC 71 [.ag (tlD ts[k]),.c (.int .i64 R)] [.c (.bool b)]/\br b
   (br (toB (Lm (decide ((xV ts R d k).2<0))))
    ((∃k':Nat,k'<=ts.length/\(xV ts R d k').1=false/\[J4 .i64 (k:Int),.int .i64 ((k+1:Nat):Int)]=[.int .i64 (xV ts R d k').2,.int .i64 (k':Int)])/\
      (ts.length-toI (nth .undef [J4 .i64 (k:Int),.int .i64 ((k+1:Nat):Int)] 1)).toNat<(ts.length-toI (nth .undef [J4 .i64 (xV ts R d k).2,.int .i64 (k:Int)] 1)).toNat)
    ((0<=(xV ts R d k).2/\(xV ts R d k).2<(ts.length:Int)/\(nth [] (mgD ts) (xV ts R d k).2.toNat).length=8)/\
      ∃r,cut (nth [] (mgD ts) (xV ts R d k).2.toNat) 2 1 [J4 .i64 r]/\br (toB (Lm (decide (ts[k].r>r))))
       ((∃k':Nat,k'<=ts.length/\(xV ts R d k').1=false/\[J4 .i64 (k:Int),.int .i64 ((k+1:Nat):Int)]=[.int .i64 (xV ts R d k').2,.int .i64 (k':Int)])/\
         (ts.length-toI (nth .undef [J4 .i64 (k:Int),.int .i64 ((k+1:Nat):Int)] 1)).toNat<(ts.length-toI (nth .undef [J4 .i64 (xV ts R d k).2,.int .i64 (k:Int)] 1)).toNat)
       ((∃k':Nat,k'<=ts.length/\(xV ts R d k').1=false/\[J4 .i64 (xV ts R d k).2,.int .i64 ((k+1:Nat):Int)]=[.int .i64 (xV ts R d k').2,.int .i64 (k':Int)])/\
         (ts.length-toI (nth .undef [J4 .i64 (xV ts R d k).2,.int .i64 ((k+1:Nat):Int)] 1)).toNat<(ts.length-toI (nth .undef [J4 .i64 (xV ts R d k).2,.int .i64 (k:Int)] 1)).toNat)))
   ((∃k':Nat,k'<=ts.length/\(xV ts R d k').1=false/\[J4 .i64 (xV ts R d k).2,.int .i64 ((k+1:Nat):Int)]=[.int .i64 (xV ts R d k').2,.int .i64 (k':Int)])/\
     (ts.length-toI (nth .undef [J4 .i64 (xV ts R d k).2,.int .i64 ((k+1:Nat):Int)] 1)).toNat<(ts.length-toI (nth .undef [J4 .i64 (xV ts R d k).2,.int .i64 (k:Int)] 1)).toNat)):=λe3=>by
   have e2:=decide_eq_false h2;refine⟨_,Py htk hR,Qd (λh4=>?_) λh4=>ms _ ?_⟩
   .rcases K2 (ts:=ts) (R:=R) (d:=d) k with⟨a,_⟩|⟨i,a,b,_⟩
    .rw[a];refine brd (λ_=>?_) λh5=>absurd (show(-1:Int)<0 by omega) h5
     have:=ms k (by simp only[xV,hg,e2,e3,h4,a,Qw];rfl);rw[a]at this;exact this
    .have a2:i<ts.length:=by omega
     rw[b];refine brd (λh5=>by omega) λ_=>?_
     simp only[U3];rw[wW a2];refine⟨⟨by omega,by omega,rfl⟩,_,⟨rfl,by show 2+1<=8;omega⟩,?_⟩;have hb:Qw true ts (xV ts R d k).2 ts[k]=decide (ts[k].r>ts[i].r):=by unfold Qw;rw[b,decide_eq_false (by omega)];have hgi:ts.getD i dTL=ts[i]:=zi a2;simp only[U3,hgi]
     refine brb (λh5=>?_) λh5=>?_
     .have:=ms k (by simp only[xV,hf,hg,e2,e3,h4,hb,h5,Aw]);rw[b]at this;exact this
     .have:=ms (xV ts R d k).2 (by simp only[xV,hf,hg,e2,e3,h4,hb,h5,Hu];exact hp);rw[b]at this;exact this
   .simp only[xV,hf,hg,e2,e3,h4,F0];exact hp
  refine brb (λh3=>brb (λh4=>?_) λh4=>a0 (by rw[h3,h4];rfl)) λh3=>a0 (by rw[h3];rfl)
  have e1:xV ts R d (k+1)=(true,(k:Int)):=by simp only[xV,hf,hg,decide_eq_false h2,h3,h4,Aw]
  have e2:=Me (ts:=ts) (R:=R) (d:=d) (k:=k+1) (by rw[e1]) (ts.length-(k+1));rw[show k+1+(ts.length-(k+1))=ts.length by omega,e1]at e2;unfold aY;rw[e2]
 .obtain rfl:k=ts.length:=by omega
  unfold aY;rw[hf];exact brd (λh2=>by rw[decide_eq_true h2]) λh2=>by rw[decide_eq_false h2]
end
end Eng
end
section
namespace Eng
open Go Go.Proofs
structure CLp where
 (x0 y0 x1 y1 top:Int)
def clpD (c:CLp):List D:=[.int .i64 c.x0,.int .i64 c.y0,.int .i64 c.x1,.int .i64 c.y1,.int .i64 c.top]
def Mf (cs:List CLp):List (List D):=cs.map clpD
theorem Mg (cs:List CLp):(Mf cs).length=cs.length:=by simp[Mf]
theorem Co {cs:List CLp} {i:Nat} (h:i<cs.length):nth [] (Mf cs) i=clpD cs[i]:=by rw[qw];simp[Mf,h]
structure CLp.Ok (c:CLp):Prop where
 x:0<=c.x0/\c.x0<c.x1/\c.x1<=1000000
 y:0<=c.y0/\c.y0<c.y1/\c.y1<=1000000
 top:0<=c.top/\c.top<25000
def Us (cs:List CLp):A:= .ag [.int .i64 0,.int .i64 0,.int .i64 30000,.int .i64 30000,.int .i64 6000,.int .i64 5000,.sl (Mf cs),.int .i64 25000]
section
variable [Env]
def Aa (r0:R4) (w:Int):Prop:=∀n:Int,0<=n->n<=100000000->∃q:R4,Gives CC 72 [.c (.int .i64 n)] [.ag (rk q [])]/\Gives CC 34 [.ag (rk q []),.ag (rk r0 [])] [.c (.int .i64 (Vi n w))]
theorem Mh {n:Int} {q:R4} (h:Gives CC 72 [.c (.int .i64 n)] [.ag (rk q [])]):Gives CC 31 [.c (.int .i64 n)] [.ag (rk q [])]:=by
 refine qm (C:=CC) (anns:=an0) mixedT Tryz.func31 ?_;rw[Cl];exact⟨_,h,rfl⟩
theorem jN {ts:List TL} (hok:∀t∈ts,t.Ok) (hl:ts.length<=1000) {d w:Int} {r0:R4} (hw0:Aa r0 w) (g:Bool):Gives CC 30 [.c (.sl (mgD ts)),.c (.int .i64 d),.ag (rk r0 []),.c (.bool g)] [.c (.int .i64 (zk ts d w g ts.length))]:=by
 refine qm (C:=CC) (anns:=λ_=>⟨[.slot 9 (.int .i64 0),.slot 14 (.int .i64 0)],[],λ_ ds=>∃k:Nat,k<=ts.length/\ds=[.int .i64 (zk ts d w g k),.int .i64 (k:Int)],λds=>(ts.length-toI (nth .undef ds 1)).toNat⟩) mixedT Tryz.func30 ?_;rw[Pq];refine⟨⟨0,en _,rfl⟩,?_⟩;rintro _ _ ⟨k,hk,e⟩;simp only[ei,Lv,true_and,and_true]at e;obtain⟨rfl,rfl⟩:=e;simp only[V1,wb,U3];refine brd (λh=>?_) λh=>?_
 .have a0:k<ts.length:=by omega
  have hw:Pl .i64 ((k:Int)+1)=((k+1:Nat):Int):=by rw[xb (by omega) (by omega)];omega
  have hg:ts.getD k dTL=ts[k]:=zi a0;have htk:=hok _ (cv a0);have hr:=htk.r;have ms:∀x,zk ts d w g (k+1)=x->(∃k':Nat,k'<=ts.length/\[J4 .i64 x,.int .i64 ((k+1:Nat):Int)]=[.int .i64 (zk ts d w g k'),.int .i64 (k':Int)])/\
   (ts.length-toI (nth .undef [J4 .i64 x,.int .i64 ((k+1:Nat):Int)] 1)).toNat<(ts.length-toI (nth .undef [J4 .i64 (zk ts d w g k),.int .i64 (k:Int)] 1)).toNat:=λx e=>
   ⟨⟨k+1,by omega,by rw[e]⟩,by simp only[nth,toI];omega⟩
  have no:okM d w ts[k]=false->zk ts d w g (k+1)=zk ts d w g k:=λe=>by simp only[zk,hg,e]
  have a2:okM d w ts[k]=true->Qw g ts (zk ts d w g k) ts[k]=true->zk ts d w g (k+1)=(k:Int):=λe e2=>by simp only[zk,hg,e,e2]
  have yno:okM d w ts[k]=true->Qw g ts (zk ts d w g k) ts[k]=false->zk ts d w g (k+1)=zk ts d w g k:=λe e2=>by simp only[zk,hg,e,e2]
  rw[wW a0,hw];obtain⟨q,q1,q2⟩:=hw0 (2*ts[k].r) (by have:=hr.1;omega) (by have:=hr.2;omega);have hw2:Pl .i64 (2*ts[k].r)=2*ts[k].r:=xb (by have:=hr.1;omega) (by have:=hr.2;omega);refine⟨⟨by omega,by omega,rfl⟩,_,_,_,_,_,_,_,_,⟨rfl,el 8⟩,brb (λh2=>ms _ (no (by unfold okM;rw[h2]))) λh2=>?_⟩;refine brd (λh3=>ms _ (no (by unfold okM;rw[h2,decide_eq_true h3]))) λh3=>?_
  rw[hw2];refine⟨_,Mh q1,_,q2,?_⟩;rw[Cn];refine brd (λh4=>ms _ (no (by unfold okM;rw[h2,decide_eq_false h3,decide_eq_true h4];rfl))) λh4=>?_
  have ok:okM d w ts[k]=true:=by unfold okM;rw[h2,decide_eq_false h3,decide_eq_false h4];rfl
  rcases Xb (ts:=ts) (d:=d) (w:=w) (g:=g) k with⟨a,_⟩|⟨i,a,b,_⟩
  .have:=ms _ (a2 ok (by rw[a];rfl));rw[a]at this ⊢;exact brd (λ_=>this) λh5=>absurd (show(-1:Int)<0 by omega) h5
  .have a1:i<ts.length:=by omega
   have hgi:ts.getD i dTL=ts[i]:=zi a1;have m1:=λe=>ms _ (a2 ok e)
   have m2:=λe=>ms _ (yno ok e)
   have hb:Qw g ts (zk ts d w g k) ts[k]=match g with
    |true=>decide (ts[k].r>ts[i].r)
    |false=>decide (ts[k].r<ts[i].r):=by
    unfold Qw;rw[b,decide_eq_false (by omega)];simp only[U3,hgi];cases g<;>rfl
   rw[hb]at m1 m2;rw[b]at m1 m2 ⊢;refine brd (λh5=>by omega) λ_=>?_
   simp only[U3];rw[wW a1];cases g with
   |true=>
    refine Qd (λ_=>⟨⟨by omega,by omega,rfl⟩,_,⟨rfl,by show 2+1<=8;omega⟩,brb (λh5=>m1 h5) λh5=>?_⟩) λh5=>by cases h5
    exact brb (λh6=>by cases h6) λ_=>m2 h5
   |false=>
    refine Qd (λh5=>by cases h5) λ_=>?_
    refine brb (λ_=>⟨⟨by omega,by omega,rfl⟩,_,⟨rfl,by show 2+1<=8;omega⟩,brb (λh5=>m1 h5) λh5=>m2 h5⟩) λh5=>by cases h5
 .obtain rfl:k=ts.length:=by omega
  rfl
theorem G1 {a b c d:Int} (h1:a<c) (h2:b<d) (h3: -10000000<=a) (h4: -10000000<=b) (h5:c<=10000000) (h6:d<=10000000):Gives CC 120 [.c (.int .i64 a),.c (.int .i64 b),.c (.int .i64 c),.c (.int .i64 d)] [.c (.bool true)]:=by
 refine qm (C:=CC) (anns:=an0) mixedT Tryz.func120 ?_;rw[Pu];refine brd (λ_=>?_) λh=>absurd h1 h
 refine brd (λ_=>?_) λh=>absurd h2 h
 refine brd (λ_=>?_) λh=>absurd h3 h
 refine brd (λ_=>?_) λh=>absurd h4 h
 exact brd (λ_=>by rw[decide_eq_true h6]) λh=>absurd h5 h
theorem vw {n l:Int} (h1:l<=n) (h2:n<=10000000):Gives CC 121 [.c (.int .i64 n),.c (.int .i64 l)] [.c (.bool true)]:=by
 refine qm (C:=CC) (anns:=an0) mixedT Tryz.func121 ?_;rw[HS];exact brd (λ_=>by rw[decide_eq_true h2]) λh=>absurd h1 h
theorem Mi (cs:List CLp):Gives CC 122 [Us cs] [.c (.int .i64 (-11000))]:=by
 refine qm (C:=CC) (anns:=an0) mixedT Tryz.func122 ?_;unfold Us;rw[LU];rfl
theorem Mj {cs:List CLp} (hc:∀c∈cs,c.Ok) (hl:cs.length<=50):Gives CC 66 [Us cs] [.c (.int .i64 0)]:=by
 have ht:=Mi cs;refine qm (C:=CC) (anns:=λ_=>⟨[.slot 42 (.int .i64 0)],[],λ_ ds=>∃k:Nat,k<=cs.length/\ds=[.int .i64 (k:Int)],λds=>(cs.length-toI (nth .undef ds 0)).toNat⟩) mixedT Tryz.func66 ?_;unfold Us at ht ⊢;rw[LV];simp only[V1,Mg];refine⟨_,G1 (by omega) (by omega) (by omega) (by omega) (by omega) (by omega),brb (λh=>by cases h) λ_=>?_⟩;refine⟨_,vw (by omega) (by omega),brb (λh=>by cases h) λ_=>?_⟩;refine⟨_,vw (by omega) (by omega),brb (λh=>by cases h) λ_=>?_⟩;refine⟨_,vw (by omega) (by omega),brb (λh=>by cases h) λ_=>?_⟩;refine brd (λh=>by omega) λ_=>⟨⟨0,en _,rfl⟩,?_⟩
 rintro _ ⟨k,hk,e⟩;simp only[ei,Lv,true_and,and_true]at e;subst e;simp only[U3];refine brd (λh=>?_) λ_=>by trivial
 have a1:k<cs.length:=by omega
 have a0:=hc _ (cv a1);have hx:=a0.x;have hy:=a0.y;have htp:=a0.top;have hw:Pl .i64 ((k:Int)+1)=((k+1:Nat):Int):=by rw[xb (by omega) (by omega)];omega
 rw[Co a1,hw];refine⟨⟨by omega,by omega,rfl⟩,_,_,_,_,_,⟨rfl,el 5⟩,_,G1 (by omega) (by omega) (by omega) (by omega) (by omega) (by omega),brb (λh=>by cases h) λ_=>?_⟩;refine⟨_,ht,_,vw (by omega) (by omega),brb (λh=>by cases h) λ_=>brd (λh=>by omega) λ_=>⟨⟨k+1,by omega,rfl⟩,by simp only[nth,toI];omega⟩⟩
end
end Eng
end
section
namespace Eng
open Go Go.Proofs
def N8 (g:GF):Int:=match decide (g.wy<g.wx)with
 |true=>g.wy
 |false=>g.wx
def chA (ts:List TL) (g:GF):Int×Int:=match g.k==3 with
 |true=>((xV ts g.R g.d ts.length).2,(xV ts g.R g.d ts.length).2)
 |false=>match g.k==4 with
  |true=>(zk ts g.d 20000000 false ts.length,zk ts g.d 20000000 false ts.length)
  |false=>(zk ts g.d (N8 g) true ts.length,zk ts g.d (N8 g) false ts.length)
def prR (l:List (Int×Int)):List (List D):=l.map λp=>[.int .i64 p.1,.int .i64 p.2]
def EC (ts:List TL) (gs:List GF):Bool:=gs.all λg=>decide (0<=(chA ts g).1)
def HY (ts:List TL) (gs:List GF):List A:=match EC ts gs with
 |true=>[.c (.sl (prR (gs.map (chA ts)))),.c (.int .i64 0)]
 |false=>[.c (.sl []),.c (.int .i64 16)]
section
variable [Env]
structure PlOk (gs:List GF) (ts:List TL) (cs:List CLp):Prop where
 p:POk (gsF gs)
 g:∀g∈gs,GOk g
 m:MagOk ts
 c:∀c∈cs,c.Ok
 cl:cs.length<=50
 n:∀m:Int,0<=m->m<=100000000->∃r:R4,Gives CC 72 [.c (.int .i64 m)] [.ag (rk r [])]/\Aa r m
theorem HZ {gs:List GF} {ts:List TL} {cs:List CLp} (h:PlOk gs ts cs):Gives (CN []) 27 [.ag [.int .i64 6000,.sl (J0 (gsF gs))],Us cs,.c (.sl (mgD ts))] [.c (.int .i64 0)]:=by
 have hs:=upN (ex:=[]) (Mj h.c h.cl);refine qm (C:=CN []) (anns:=an0) mixedT Tryz.func27 ?_;unfold Us at hs ⊢;rw[HT];exact⟨_,upN (Zt h.p),brb (λh=>by cases h) λ_=>⟨_,hs,brb (λh=>by cases h) λ_=>⟨_,Yk h.m,brb (λh=>by cases h) λ_=>brb (λh=>by cases h) λ_=>rfl⟩⟩⟩
theorem Ua {gs:List GF} {ts:List TL} {cs:List CLp} (h:PlOk gs ts cs):Gives (CN []) 8 [.ag [.int .i64 6000,.sl (J0 (gsF gs))],Us cs,.c (.sl (mgD ts))] (HY ts gs):=by
 have hc:=HZ h;have hl:gs.length<=40:=by have:=h.p.len;rw[Qv]at this;exact this
 have a1:ts.length<=1000:=by have:=h.m.len;omega
 have a2:=h.m.ok;refine qm (C:=CN []) (anns:=λ_=>⟨[.own 9 110 2,.slot 31 (.int .i64 0)],[],λ_ ds=>∃k:Nat,k<=gs.length/\(∀i (hi:i<gs.length),i<k->0<=(chA ts gs[i]).1)/\ds=[.sl (prR ((gs.take k).map (chA ts))),.int .i64 (k:Int)],λds=>(gs.length-toI (nth .undef ds 1)).toNat⟩) mixedT Tryz.func8 ?_;unfold Us at hc ⊢;rw[HU];refine⟨_,hc,brb (λh=>by cases h) λ_=>⟨⟨0,en _,λ_ _ h=>by omega,rfl⟩,?_⟩⟩;rintro _ _ ⟨k,hk,a3,e⟩;simp only[ei,No,Lv,true_and,and_true]at e;obtain⟨rfl,rfl⟩:=e;simp only[V1,yX,Qv,U3];refine brd (λh2=>?_) λh2=>?_
 .have a6:k<gs.length:=by omega
  have a5:=h.g _ (cv a6);have hw:Pl .i64 ((k:Int)+1)=((k+1:Nat):Int):=by rw[xb (by omega) (by omega)];omega
  have lp:(prR ((gs.take k).map (chA ts))).length=k:=by simp[prR];omega
  have a4:(chA ts gs[k]).1<0->[Hx (.sl []),.c (.int .i64 16)]=HY ts gs:=λhb=>by
   have:EC ts gs=false:=by rw[Bx];intro ht;have:=of_decide_eq_true (eb.1 ht _ (cv a6));omega
   unfold HY;rw[this]
  have a0:∀a b:Int,chA ts gs[k]=(a,b)->0<=a->(room ((prR ((gs.take k).map (chA ts))).length+1)/\lens 2 [[J4 .i64 a,.int .i64 b]])/\
   (∃k':Nat,k'<=gs.length/\(∀i (hi:i<gs.length),i<k'->0<=(chA ts gs[i]).1)/\[Hy (prR ((gs.take k).map (chA ts))++[[J4 .i64 a,.int .i64 b]]),.int .i64 ((k+1:Nat):Int)]=[.sl (prR ((gs.take k').map (chA ts))),.int .i64 (k':Int)])/\
   (gs.length-toI (nth .undef [Hy (prR ((gs.take k).map (chA ts))++[[J4 .i64 a,.int .i64 b]]),.int .i64 ((k+1:Nat):Int)] 1)).toNat<(gs.length-toI (nth .undef [Hy (prR ((gs.take k).map (chA ts))),.int .i64 (k:Int)] 1)).toNat:=λa b e h0=>by
   refine⟨⟨by rw[lp];unfold room;omega,by intro x hx;simp at hx;subst hx;rfl⟩,⟨k+1,by omega,λi hi hik=>?_,?_⟩,by simp only[nth,toI];omega⟩
   .rcases fx i k with q|q
    .exact a3 i hi q
    .obtain rfl:i=k:=by omega
     rw[e];exact h0
   .rw[List.take_succ_eq_append_getElem a6,List.map_append];simp[prR,e]
  rw[G0 a6,hw];have hd:=a5.f.d;refine⟨⟨by omega,by omega,rfl⟩,_,_,_,_,⟨rfl,el 4⟩,brb (λh3=>?_) λh3=>?_⟩
  .have hk3:gs[k].k=3:=by simpa using h3
   have hh:=a5.h hk3;obtain⟨x,y,hx⟩:=hh.ctr;have hm:=Pz a2 a1 (R:=gs[k].R) (d:=gs[k].d) hh.R hd.1;have ec:chA ts gs[k]=((xV ts gs[k].R gs[k].d ts.length).2,(xV ts gs[k].R gs[k].d ts.length).2):=by unfold chA;rw[h3]
   refine⟨_,_,_,_,upN hx,brb (λh=>by cases h) λ_=>?_⟩;unfold aY at hm;rcases K2 (ts:=ts) (R:=gs[k].R) (d:=gs[k].d) ts.length with⟨a,_⟩|⟨i,a,b,_⟩
   .rw[a]at hm ec;refine⟨_,_,_,upN hm,brb (λ_=>a4 (by rw[ec];omega)) λh=>by cases h⟩
   .rw[b]at hm ec;have hg:=a0 _ _ ec (by omega);cases hf:(xV ts gs[k].R gs[k].d ts.length).1 with
    |true=>rw[hf]at hm;exact⟨_,_,_,upN hm,brb (λh=>by cases h) λ_=>brd (λh=>by omega) λ_=>hg⟩
    |false=>
     rw[hf]at hm;have hm:Gives CC 29 [.c (.sl (mgD ts)),.c (.int .i64 gs[k].R),.c (.int .i64 gs[k].d)] [.c (.int .i64 (i:Int)),.c (.bool false),.c (.int .i64 0)]:=by rw[decide_eq_false (show ¬(i:Int)<0 by omega)]at hm;exact hm
     exact⟨_,_,_,upN hm,brb (λh=>by cases h) λ_=>brd (λh=>by omega) λ_=>hg⟩
  refine brb (λh4=>?_) λh4=>?_
  .obtain⟨r,r1,r2⟩:=h.n 20000000 (by omega) (by omega);have hs:=jN a2 a1 (d:=gs[k].d) r2 false;have ec:chA ts gs[k]=(zk ts gs[k].d 20000000 false ts.length,zk ts gs[k].d 20000000 false ts.length):=by unfold chA;rw[h3,h4]
   exact⟨_,upN (Mh r1),_,upN hs,brd (λh5=>a4 (by rw[ec];exact h5)) λh5=>a0 _ _ ec (by omega)⟩
  .have hk1:gs[k].k=1:=by
    rcases a5.f.k with e|⟨e,_⟩|⟨e,_⟩
    .exact e
    .rw[e]at h3;cases h3
    .rw[e]at h4;cases h4
   obtain⟨x0,y0,x1,y1,w,hh,b1,b2,b3,b4,b5⟩:=(a5.bP hk1).ex;have w1:Aa w gs[k].wx:=λn n1 n2=>by obtain⟨q,q1,q2,_⟩:=b5 n n1 n2;exact⟨q,q1,q2⟩
   have w2:Aa hh gs[k].wy:=λn n1 n2=>by obtain⟨q,q1,_,q2⟩:=b5 n n1 n2;exact⟨q,q1,q2⟩
   have ec:∀v,N8 gs[k]=v->chA ts gs[k]=(zk ts gs[k].d v true ts.length,zk ts gs[k].d v false ts.length):=λv e=>by unfold chA;rw[h3,h4,e]
   refine⟨_,_,_,_,_,upN b1,_,upN b2,_,upN b3,_,upN b4,?_⟩;rw[Mc];refine brd (λh5=>?_) λh5=>?_
   .have e:=ec gs[k].wy (by unfold N8;rw[decide_eq_true h5]);exact⟨_,upN (jN a2 a1 w2 true),_,upN (jN a2 a1 w2 false),brd (λh6=>a4 (by rw[e];exact h6)) λh6=>a0 _ _ e (by omega)⟩
   .have e:=ec gs[k].wx (by unfold N8;rw[decide_eq_false h5]);exact⟨_,upN (jN a2 a1 w1 true),_,upN (jN a2 a1 w1 false),brd (λh6=>a4 (by rw[e];exact h6)) λh6=>a0 _ _ e (by omega)⟩
 .obtain rfl:k=gs.length:=by omega
  have:EC ts gs=true:=eb.2 λg hg=>by obtain⟨i,hi,rfl⟩:=cH.1 hg;exact decide_eq_true (a3 i hi hi)
  unfold HY;rw[this,List.take_length]
end
end Eng
end
section
namespace Eng
open Go Go.Proofs
theorem dg (g:GF) (t:TL):(df g t==0)=(QO g.toFT t&&(!decide (t.f<g.d)&&!(g.k==3&&!Gz g.R t))):=by
 unfold df;cases QO g.toFT t with
 |false=>rfl
 |true=>
  cases decide (t.f<g.d)with
  |true=>rfl
  |false=>cases(g.k==3&&!Gz g.R t)<;>rfl
theorem Xc (g:GF) (t:TL):jn g t=(QO g.toFT t&&(!decide (t.f<g.d)&&(!(g.k==3&&!Gz g.R t)&&(!(g.k==1)||(decide (2*t.r<=g.wx)&&decide (2*t.r<=g.wy)))))):=by
 unfold jn;rw[dg];cases QO g.toFT t<;>cases decide (t.f<g.d)<;>cases(g.k==3&&!Gz g.R t)<;>cases g.k==1<;>simp
theorem Sb (d w:Int) (t:TL):okM d w t=(t.k==1&&(!decide (t.f<d)&&!decide (2*t.r>w))):=by
 unfold okM;cases h:t.k !=1 with
 |true=>
  have:(t.k==1)=false:=by simpa using h
  rw[this];rfl
 |false=>
  have:(t.k==1)=true:=by simpa using h
  rw[this];cases decide (t.f<d)<;>rfl
theorem Cp {g:GF} {t:TL} (hk:g.k=4) (ht:t.Ok):jn g t=okM g.d 20000000 t:=by
 have hr:=ht.r.2;rw[Xc,Sb];unfold QO;rw[hk,decide_eq_false (show ¬2*t.r>20000000 by omega)];cases t.k==1<;>cases decide (t.f<g.d)<;>rfl
theorem Cq {g:GF} {t:TL} (hk:g.k=1):jn g t=okM g.d (N8 g) t:=by
 rw[Xc,Sb];unfold QO;rw[hk];have:(decide (2*t.r<=g.wx)&&decide (2*t.r<=g.wy))=!decide (2*t.r>N8 g):=by
  unfold N8;by_cases h:g.wy<g.wx
  .rw[decide_eq_true h];by_cases h2:2*t.r<=g.wy
   .rw[decide_eq_true h2,decide_eq_true (show 2*t.r<=g.wx by omega),decide_eq_false (show ¬2*t.r>g.wy by omega)];rfl
   .rw[decide_eq_false h2,decide_eq_true (show 2*t.r>g.wy by omega)];simp
  .rw[decide_eq_false h];by_cases h2:2*t.r<=g.wx
   .rw[decide_eq_true h2,decide_eq_true (show 2*t.r<=g.wy by omega),decide_eq_false (show ¬2*t.r>g.wx by omega)];rfl
   .rw[decide_eq_false h2,decide_eq_true (show 2*t.r>g.wx by omega)];simp
 rw[this];cases t.k==1<;>cases decide (t.f<g.d)<;>cases decide (2*t.r>N8 g)<;>rfl
theorem Yl {g:GF} {t:TL} (hk:g.k=3):jn g t=Md g.R g.d t:=by
 rw[Xc];unfold Md QO Gz HX;rw[hk];have e:decide (g.R-t.r<=t.r)=decide (g.R<=2*t.r):=by
  by_cases h:g.R<=2*t.r
  .rw[decide_eq_true h,decide_eq_true (by omega)]
  .rw[decide_eq_false h,decide_eq_false (by omega)]
 rw[e];by_cases h2:t.k=2
 .rw[h2];cases decide (t.f<g.d)<;>cases t.r==g.R<;>rfl
 .have h2':(t.k==2)=false:=by simpa using h2
  rw[h2'];cases t.k==1<;>cases decide (t.f<g.d)<;>cases decide (t.r<g.R)<;>cases decide (g.R<=2*t.r)<;>rfl
theorem Ab {ts:List TL} (hto:∀t∈ts,t.Ok) {g:GF} (hk:g.k=1\/g.k=3\/g.k=4):
 ((chA ts g).1<0/\∀t∈ts,jn g t=false)\/∃a b:Nat,∃(ha:a<ts.length) (hb:b<ts.length),chA ts g=((a:Int),(b:Int))/\jn g ts[a]=true/\jn g ts[b]=true:=by
 have sk:∀d w,(∀t∈ts,jn g t=okM d w t)->∀s1 s2:Bool,chA ts g=(zk ts d w s1 ts.length,zk ts d w s2 ts.length)->
  ((chA ts g).1<0/\∀t∈ts,jn g t=false)\/∃a b:Nat,∃(ha:a<ts.length) (hb:b<ts.length),chA ts g=((a:Int),(b:Int))/\jn g ts[a]=true/\jn g ts[b]=true:=λd w hr s1 s2 e=>by
  rcases Xb (ts:=ts) (d:=d) (w:=w) (g:=s1) ts.length with⟨a,b⟩|⟨i,a,b,c⟩
  .refine .inl ⟨by rw[e];simp only;omega,λt ht=>?_⟩;obtain⟨i,hi,rfl⟩:=cH.1 ht;have:=b i hi;rw[zi hi]at this;rw[hr _ ht];exact this
  .rcases Xb (ts:=ts) (d:=d) (w:=w) (g:=s2) ts.length with⟨_,b2⟩|⟨j,a2,b3,c2⟩
   .rw[b2 i a]at c;cases c
   .rw[zi a]at c;rw[zi a2]at c2;exact .inr ⟨i,j,a,a2,by rw[e,b,b3],by rw[hr _ (cv a)];exact c,by rw[hr _ (cv a2)];exact c2⟩
 rcases hk with e|e|e
 .exact sk g.d (N8 g) (λt _=>Cq e) true false (by unfold chA;rw[e];rfl)
 .have ec:chA ts g=((xV ts g.R g.d ts.length).2,(xV ts g.R g.d ts.length).2):=by unfold chA;rw[e];rfl
  rcases K2 (ts:=ts) (R:=g.R) (d:=g.d) ts.length with⟨a,b⟩|⟨i,a,b,c⟩
  .refine .inl ⟨by rw[ec,a];simp only;omega,λt ht=>?_⟩;obtain⟨i,hi,rfl⟩:=cH.1 ht;have:=b i hi;rw[zi hi]at this;rw[Yl e];exact this
  .rw[zi a]at c;exact .inr ⟨i,i,a,a,by rw[ec,b],by rw[Yl e];exact c,by rw[Yl e];exact c⟩
 .exact sk g.d 20000000 (λt ht=>Cp e (hto _ ht)) false false (by unfold chA;rw[e];rfl)
end Eng
end
section
open Go Go.Proofs Eng
namespace Eng
section
variable (Gv:Nat->List A->List A->Prop) (I0:List D->List D->Prop) (M0:List D->Nat) (I1:List D->List D->Prop) (M1:List D->Nat) (I2:List D->List D->Prop) (M2:List D->Nat) (I3:List D->List D->Prop) (M3:List D->Nat) (Q:List A->Prop)
theorem P0 (fn:List UInt8) (fk fd:Int) (fe:List (List D)) (l0:List (List D)) (pa pb:Int):wpF CC Gv an0 Tryz.f37 [.ag [.str fn,.int .i64 fk,.int .i64 fd,.sl fe],.c (.sl l0),.ag [.int .i64 pa,.int .i64 pb]] Q=(bB (decide (pa>=0)) (bB (decide (pa<(Ts l0.length))) ((0<=pa/\pa<(Ts l0.length)/\cp (nth [] l0 (U0 pa))=8)/\∃i,cut (nth [] l0 (U0 pa)) 1 1 [dI i]/\bB (fk==1) (Q [aL [[dI (1:Int),dI (0:Int),dI pa,Hy [],dI (0:Int)],[dI (2:Int),dI (0:Int),dI pb,Hy [],dI (0:Int)]]]) (bB (fk==4) (Q [aL [[dI (5:Int),dI (0:Int),dI pa,Hy [],dI (0:Int)]]]) (bB (i==2) (Q [aL [[dI (3:Int),dI (0:Int),dI pa,Hy [],dI (0:Int)]]]) (Q [aL [[dI (1:Int),dI (0:Int),dI pa,Hy [],dI (0:Int)]]])))) (bB (fk==1) (Q [aL [[dI (1:Int),dI (0:Int),dI pa,Hy [],dI (0:Int)],[dI (2:Int),dI (0:Int),dI pb,Hy [],dI (0:Int)]]]) (bB (fk==4) (Q [aL [[dI (5:Int),dI (0:Int),dI pa,Hy [],dI (0:Int)]]]) (Q [aL [[dI (1:Int),dI (0:Int),dI pa,Hy [],dI (0:Int)]]])))) (bB (fk==1) (Q [aL [[dI (1:Int),dI (0:Int),dI pa,Hy [],dI (0:Int)],[dI (2:Int),dI (0:Int),dI pb,Hy [],dI (0:Int)]]]) (bB (fk==4) (Q [aL [[dI (5:Int),dI (0:Int),dI pa,Hy [],dI (0:Int)]]]) (Q [aL [[dI (1:Int),dI (0:Int),dI pa,Hy [],dI (0:Int)]]])))):=by kernel_rfl
theorem Mk (l0:List (List D)) (l1:List (List D)) (Q:List A->Prop):wpF CC Gv (λ_=>⟨[.own 6 40 1,.slot 14 (.int .i64 0)],[],I0,M0⟩) Tryz.f11 [.c (.sl l0),.c (.sl l1)] Q=((0<=(Ts l0.length)/\(Ts l0.length)<=(Ts l0.length)/\room (U0 (Ts l0.length)))/\I0 [] [Hy (c3 (U0 (Ts l0.length)) [dI (0:Int)]),dI (0:Int)]/\∀(es:List (List D)) (i:Int),I0 [] [Hy es,dI i]->bB (decide (i<(Ts l0.length))) ((0<=i/\i<(Ts l0.length)/\cp (nth [] l0 (U0 i))=5)/\∃i_1 i_2 i_3 e1 i_4,cut (nth [] l0 (U0 i)) 0 5 [dI i_1,dI i_2,dI i_3,Hy e1,dI i_4]/\bB (decide (i_3<0)) (Q [aL [],aI (1:Int)]) (bB (decide (i_3>=(Ts l1.length))) (Q [aL [],aI (1:Int)]) ((0<=i_3/\i_3<(Ts l1.length)/\cp (nth [] l1 (U0 i_3))=8)/\∃i_5,cut (nth [] l1 (U0 i_3)) 0 1 [dI i_5]/\(0<=i/\i<(Ts es.length))/\0<1/\I0 [] [Hy (upd es (U0 i) (upd (nth [] es (U0 i)) 0 (dI i_5))),dI (Pl .i64 (i+1))]/\M0 [Hy (upd es (U0 i) (upd (nth [] es (U0 i)) 0 (dI i_5))),dI (Pl .i64 (i+1))]<M0 [Hy es,dI i]))) (Q [aL es,aI (0:Int)])):=by kernel_rfl
theorem P2 (ok of ot:Int) (od:List (List D)) (ol:Int) (tl:List (List D)):wpF CC Gv an0 Tryz.f39 [.ag [.int .i64 ok,.int .i64 of,.int .i64 ot,.sl od,.int .i64 ol],.c (.ptr [.sl tl])] Q=(bB (decide (ot<0)) (Q [aB true]) (∃es,cut [Hy tl] 0 1 [Hy es]/\Q [aB (decide (ot>=(Ts es.length)))])):=by kernel_rfl
theorem Cr (l0:List (List D)) (tl:List (List D)) (Q:List A->Prop):wpF CC Gv (λ_=>⟨[.slot 8 (.int .i64 0)],[],I0,M0⟩) Tryz.f85 [.c (.sl l0),.c (.clo 39 [.ptr [.sl tl]])] Q=(I0 [] [dI (0:Int)]/\∀(i:Int),I0 [] [dI i]->bB (decide (i<(Ts l0.length))) ((0<=i/\i<(Ts l0.length)/\cp (nth [] l0 (U0 i))=5)/\∃i_1 i_2 i_3 es i_4,cut (nth [] l0 (U0 i)) 0 5 [dI i_1,dI i_2,dI i_3,Hy es,dI i_4]/\∃b,Gv 39 [Hv [dI i_1,dI i_2,dI i_3,Hy es,dI i_4],Hx (Ls [Hy tl])] [aB b]/\br b (Q [aI i]) (I0 [] [dI (Pl .i64 (i+1))]/\M0 [dI (Pl .i64 (i+1))]<M0 [dI i])) (Q [aI (-1:Int)])):=by kernel_rfl
theorem Cs (l0:List (List D)) (tl:List (List D)):wpF CC Gv an0 Tryz.f38 [.c (.sl l0),.c (.clo 39 [.ptr [.sl tl]])] Q=(∃i,Gv 85 [aL l0,Hx (D.clo 39 [Ls [Hy tl]])] [aI i]/\Q [aB (decide (i>=0))]):=by kernel_rfl
end
end Eng
end
section
namespace Eng
open Go
def opR (k t:Int):List D:=[.int .i64 k,.int .i64 0,.int .i64 t,.sl [],.int .i64 0]
def P3 (kh:Int) (al:List A):List A:=match al with
 |[.ag [_,.int _ k,_,_],_,.ag [.int _ a,.int _ b]]=>match k==1 with
  |true=>[.c (.sl [opR 1 a,opR 2 b])]
  |false=>match k==4 with
   |true=>[.c (.sl [opR 5 a])]
   |false=>[.c (.sl [opR kh a])]
 |_=>[]
end Eng
end
