import Derived.Test.YthpplhmhgcenkaaGreatDoorPaB
import Derived.KernelRfl
import Derived.Shelf.Lays2
import Derived.Shelf.RegionOpenPlain
import Derived.WalkKit
import Derived.Deep.LoopGhost
import Derived.Deep.RegionLaw
import Derived.Lib.Walk
import Derived.Lib.SliceRun
open Bool renaming and_eq_true->Aw
open Eng.A renaming ag->Bx, c->Dd
open Eng.D renaming int->F0, sl->Hu, bool->Hv
open Eng.D.int renaming injEq->Hx
open Eng.D.sl renaming injEq->Hy
open Eng.Limbs renaming nil->J3, cons->No
open Eng.R4 renaming m->Pl, c->Sz, l->Tk, b->Ts
open Go.IntKind renaming wrap->U3, u64->V1
open Int renaming ofNat->bF, toNat->cF, ofNat_eq_natCast->dl, toNat_natCast->dv, fdiv->ea, tdiv->eb, mul_pos->ec, ofNat_tdiv->el, natAbs_natCast->en, tmod->ep, tdiv_eq_ediv_of_nonneg->ey, ofNat_tmod->ez, not_le->eH
open List renaming length_take->eL, replicate->fe, length_replicate->fg, length->fk, getElem?_eq_getElem->ft, take_of_length_le->fx, length_append->fy, drop_eq_nil_of_le->fz, getLast?_eq_getElem?->fR, append_assoc->fS, length_drop->gb, take_append_of_le_length->gd, drop_append_of_le_length->gk, drop_zero->gm, getD->gn, length_cons->gp, nil_append->gq, append_nil->gr, map_cons->gu
open List.cons renaming injEq->gv
open Nat renaming eq_of_beq_eq_true->gx, beq->gy, mul_comm->gz, mod_eq_of_lt->g4, div_lt_iff_lt_mul->g5, mul_le_mul_left->g6, lt_of_lt_of_le->g7, pow_succ->hj, mul_lt_mul_of_pos_right->h8, mul_le_mul_right->hC, min_eq_left->hE, eq_zero_or_pos->hG, pow_le_pow_right->hK, le_trans->hM, mod_lt->hS, lt_of_le_of_lt->hW, div_eq_of_lt->hX, div_div_eq_div_mul->ia, pow_pos->ib, le_sub_one_of_lt->ie, mul_assoc->im, blt_eq->it, le_of_lt->iz, gcd->j2, zero_le->ka, mul_add->kb, div_le_self->ks, div_add_mod->ky, le_mul_of_pos_right->k3, blt->k4, add_zero->k5, mul_mod_mul_right->k6, mul_div_mul_right->k7, add_mul->k8, mul_div_cancel->kH, mul_add_mod->kO, mul_add_div->lg, mul_le_mul->lh, pow_zero->lm, lt_or_ge->ln, ble->lp, one_mul->ls, mul_pos->lx, mul_one->ly, le_refl->l8
open Option.some renaming injEq->lD, inj->lT
open Rat renaming num_divInt_den->mm, divInt->ms, divInt_add_divInt->mu, intCast_mul->mv, divInt_mul_divInt->mx, mul_le_mul_of_nonneg_left->m0, intCast_lt_intCast->m1, intCast_le_intCast->m2, neg_num->m3, sub_eq_add_neg->m4, num_intCast->na, num_eq_zero->nb, intCast_neg->nf, intCast_add->nu, den_intCast->nv, mul_comm->nx
set_option maxRecDepth 1000000
section
namespace Eng
open Go Go.Proofs
variable [Env]
omit [Env] in
theorem Z2 (l:List Nat):xl (raw l)=wB l:=by simp[xl,raw,wB,gI]
omit [Env] in
theorem Z3 (l:List Nat):xD (wB l)=raw l:=by simp[xD,raw,wB]
omit [Env] in
theorem wX:∀(l:List Nat),ym (raw l)=true
 |[]=>rfl
 |x::l=>by have:=wX l;simp only[raw,gu,ym]at this ⊢;rw[this];rfl
omit [Env] in
theorem Bo {l:List Nat} (h:l≠[]):raw l≠[]:=by
 intro e;apply h;exact List.map_eq_nil_iff.1 e
def I0v (n m V U0:Nat):List D->List D->Prop:=λ_ ds=>∃(kk:Nat) (ul ql:List Nat),ds=[.sl (raw ul),.sl (raw ql),.int .i64 ((kk:Int)-1)]/\DInv n m V U0 kk ul ql
def M0v:List D->Nat:=λds=>(toI (nth .undef ds 2)+1).toNat
def eA (es:List (List D)) (k n:Nat):Nat:=valD ((es.drop k).take (n+1))
def I1v (n v1 V:Nat):List D->List D->Prop:=λgs ds=>∃(top k:Nat) (es:List (List D)) (g r:Nat),gs=[.int .u64 (top:Int),.int .i64 (k:Int),.sl es]/\ds=[.int .u64 (g:Int),.int .u64 (r:Int)]/\top=g*v1+r/\eA es k n/V<=g/\g<=1000000001/\r<1000000000
def M1v:List D->Nat:=λds=>(toI (nth .undef ds 0)).toNat
omit [Env] in
theorem PO (ul:List Nat) (k n:Nat):eA (raw ul) k n=val ((ul.drop k).take (n+1)):=by
 unfold eA;rw[Qb,j3,Qf]
omit [Env] in
theorem PP {n m V U0 k g:Nat} {bl ul ql vl:List Nat} (hn:2<=n) (hb:bl.length=n) (hv:vl.length=n) (lv:Limbs vl) (vV:val vl=V) (hD:DInv n m V U0 (k+1) ul ql) (hm:n+m<=1000000) (hV0:0<V)
 (hq:val ((ul.drop k).take (n+1))/V<=g) (hg:g<=1000000000) (hgV:g*V<=val ((ul.drop k).take (n+1))+V):Z0 (I0v n m V U0) M0v (raw bl) (raw vl) (raw ul) (raw ql) (k:Int) (g:Int):=by
 have hk:=hD.hk;have lu:=hD.lu;have lq:=hD.lq;have a3:V<1000000000^n:=by have:=qX lv;rw[hv,vV]at this;exact this
 obtain⟨hlt,a1⟩:=hD.mid a3 hV0;have l1:(ul.take k).length=k:=by rw[eL];omega
 have l2:((ul.drop k).take (n+1)).length=n+1:=by rw[eL,gb];omega
 have Lm:Limbs ((ul.drop k).take (n+1)):=(hD.Lu.drop k).take _;have hdv:val ((ul.drop k).take (n+1))/V<1000000000:=by rw[g5 hV0,gz];exact hlt
 obtain⟨r,c,b,hs,Lr,lr,a0⟩:=LM (us:=(ul.drop k).take (n+1)) (vs:=vl) (V:=V) (g:=g) Lm lv (by omega) vV hV0
  (by rw[l2];exact hM (iz a3) (hK (by omega) (by omega))) hq hg hgV
 rw[l2]at lr;have a4:vl≠[]:=by intro e;rw[e]at hv;simp at hv;omega
 have w1:U3 .i64 (U3 .i64 ((k:Int)+(n:Int))+1)=((k+n+1:Nat):Int):=by rw[qR (n:=(k:Int)+(n:Int)),qR];omega
 have w2:U3 .i64 ((k:Int)-1)=(k:Int)-1:=qR;unfold Z0;simp only[dl,qg,hb,w1,dv];rw[show k+n+1-k=n+1 by omega,Qb,j3,Z2,Z2,hs];simp only;rw[Z3];rw[Qb,j3,<-xd,<-xd];have l3:(ul.take k++r++ul.drop (k+(n+1))).length=n+m:=by rw[fy,fy,l1,lr,gb];omega
 refine⟨⟨by omega,by omega,by omega⟩,⟨⟨Bo a4,wX _,by rw[hv];omega⟩,by omega,by omega,wX _⟩,brb (λh=>?_) (λh=>?_)⟩
 .have hcb:c≠0\/b≠0:=by rw[Bool.or_eq_true,decide_eq_true_eq,decide_eq_true_eq]at h;omega
  rcases a0 with⟨e1,e2,_,_⟩|⟨_,a2,r2,h2,Lr2,a5,vr2⟩
  .omega
  rw[l2]at a5;have e3:(ul.take k++r++ul.drop (k+(n+1))).take k=ul.take k:=by rw[fS,gd (by omega),List.take_take,Nat.min_self]
  have e4:((ul.take k++r++ul.drop (k+(n+1))).drop k).take (n+1)=r:=by rw[fS,gk (by omega),fz (by omega),gq,gd (by omega),fx (by omega)]
  have e5:(ul.take k++r++ul.drop (k+(n+1))).drop (k+(n+1))=ul.drop (k+(n+1)):=by rw[gk (by simp[l1,lr])];rw[fz (by simp[l1,lr]),gq]
  rw[Qb,j3,Z2,e4,h2,Z3,j3,e3,Qb,e5,<-xd,<-xd];have w3:U3 .u32 (U3 .u64 ((g:Int)-1))=((val ((ul.drop k).take (n+1))/V:Nat):Int):=by
   have hg1':1<=g:=by rw[a2];exact Nat.le_add_left 1 _
   have hg2:g-1=val ((ul.drop k).take (n+1))/V:=by rw[a2];exact Nat.add_sub_cancel ..
   rw[<-hg2,xI,j5];omega
  rw[w3,xT (by omega),qg,l3,w2];refine⟨⟨by omega,by omega,by omega⟩,⟨⟨Bo a4,wX _,by rw[hv];omega⟩,by omega,by omega,wX _⟩,⟨by omega,by omega⟩,by omega,⟨k,_,_,rfl,a1 r2 Lr2 a5 vr2⟩,?_⟩;simp only[M0v,nth,toI];omega
 .have hcb:c=0/\b=0:=by rw[Bool.or_eq_false_iff,decide_eq_false_iff_not,decide_eq_false_iff_not]at h;omega
  rcases a0 with⟨_,_,a2,vr⟩|⟨e1,_⟩
  .have w3:U3 .u32 (g:Int)=((val ((ul.drop k).take (n+1))/V:Nat):Int):=by rw[j5];omega
   rw[w3,xT (by omega),w2];refine⟨⟨by omega,by omega⟩,by omega,⟨k,_,_,rfl,a1 r Lr lr vr⟩,?_⟩;simp only[M0v,nth,toI];omega
  .omega
omit [Env] in
theorem LN {a b:List Nat} (ha:Limbs a) (hb:Limbs b) (h1:a.length<=536870912) (h2:b.length<=536870912) (h3:0<a.length+b.length):zy [.c (.sl (raw a)),.c (.sl (raw b))]=true:=by
 simp only[zy,QB ha,QB hb,qg,Bool.true_and,Aw,Nat.ble_eq,it];exact⟨h1,h2,h3⟩
omit [Env] in
theorem Bp (a b:List Nat):jQ [.c (.sl (raw a)),.c (.sl (raw b))]=raw (pad (a.length+b.length) (val a*val b)):=by
 simp only[jQ,qg,Qf]
omit [Env] in
theorem KJ {ul:List Nat} {k n i:Nat} (hi:i<=n):((ul.drop k).take (n+1)).getD i 0=ul.getD (k+i) 0:=by
 simp only[gn,List.getElem?_take,List.getElem?_drop];rw[if_pos (by omega)]
def At (I0:List D->List D->Prop) (M0:List D->Nat) (I1:List D->List D->Prop) (M1:List D->Nat):Nat->Ann:=
 Kt ⟨[.own 8 180 1,.own 10 181 1,.slot 11 (.int .i64 0)],[],I0,M0⟩ ⟨[.slot 13 (.int .u64 0),.slot 14 (.int .u64 0)],[.slot 12 (.int .u64 0),.slot 11 (.int .i64 0),.own 8 180 1],I1,M1⟩
theorem LO {a b al:List Nat} {d:Nat} (ta:Gives CC 274 [.c (.sl (raw a))] [.c (.sl (raw al))]) (tb:Gives CC 274 [.c (.sl (raw b))] [.c (.sl (raw [d]))]) (lA:Limbs al) (ra:al.length<=100000) (hd0:0<d) (hd1:d<1000000000):
 Gives CC 330 [.c (.sl (raw a)),.c (.sl (raw b))] [.c (.sl (raw (pad al.length (val al/d)))),.c (.sl (raw [val al%d]))]:=by
 refine qj (anns:=At (λ_ _=>True) (λ_=>0) (λ_ _=>True) (λ_=>0)) mixedT Tryz.func330 ?_;show wpF (CM zy jQ) _ _ _ _ _;unfold At;rw[Z1];refine⟨_,ta,_,tb,brb (λ_=>?_) (λh=>?_)⟩
 .exact⟨⟨by omega,by simp[raw],rfl⟩,_,qz (l:=[d]) (i:=0) (by simp),_,_,up (J8 lA hd0 hd1 (by omega)),rfl⟩
 .simp[raw]at h
theorem PQ {a b al bl:List Nat} (ta:Gives CC 274 [.c (.sl (raw a))] [.c (.sl (raw al))]) (tb:Gives CC 274 [.c (.sl (raw b))] [.c (.sl (raw bl))]) (lA:Limbs al) (lB:Limbs bl) (ra:al.length<=100000) (rb:bl.length<=100000) (hn:2<=bl.length) (hlt:val al<val bl):
 Gives CC 330 [.c (.sl (raw a)),.c (.sl (raw b))] [.c (.sl (raw [])),.c (.sl (raw al))]:=by
 refine qj (anns:=At (λ_ _=>True) (λ_=>0) (λ_ _=>True) (λ_=>0)) mixedT Tryz.func330 ?_;show wpF (CM zy jQ) _ _ _ _ _;unfold At;rw[Z1];refine⟨_,ta,_,tb,brb (λh=>?_) (λh=>?_)⟩
 .rw[qg]at h;simp only[dl,beq_iff_eq]at h;omega
 .refine⟨_,up (jO lA lB (by omega) (by omega)),brd (λh2=>?_) (λh2=>?_)⟩
  .exact⟨⟨by rw[qg];unfold room;omega,zK _⟩,rfl⟩
  .rw[Qw,if_pos hlt]at h2;omega
set_option maxHeartbeats 2000000 in
theorem LP {a b al bl:List Nat} (ta:Gives CC 274 [.c (.sl (raw a))] [.c (.sl (raw al))]) (tb:Gives CC 274 [.c (.sl (raw b))] [.c (.sl (raw bl))]) (lA:Limbs al) (lB:Limbs bl) (ra:al.length<=100000) (rb:bl.length<=100000)
 (vA:val al=val a) (vB:val bl=val b) (zB:bl.getLast?≠some 0) {p:Nat} (hn:bl.length=p+2) (hle:val bl<=val al):
 ∃q r,Gives CC 330 [.c (.sl (raw a)),.c (.sl (raw b))] [.c (.sl (raw q)),.c (.sl (raw r))]/\Limbs q/\Limbs r/\val q=val a/val b/\val r=val a%val b/\q.length<=1073741824/\r.length<=1073741824:=by
 have hBn:bl≠[]:=by intro e;rw[e]at hn;simp at hn
 have b5:p+1<bl.length:=by omega
 obtain⟨d,b7⟩:∃d,bl[p+1]=d:=⟨_,rfl⟩;have hd0:0<d:=by
  rcases hG d with h0|h0
  .exfalso;apply zB;rw[fR,hn,show p+2-1=p+1 by omega,ft b5,b7,h0]
  .exact h0
 have hd1:d<1000000000:=b7▸lB.get b5;obtain⟨s,hs⟩:∃s,s=1000000000/(d+1):=⟨_,rfl⟩;obtain⟨hs1,hs2,hs3⟩:=JA hd0 hd1 hs;have cx:s<1000000000:=by have:s*2<=s*(d+1):=g6 _ (by omega);omega
 obtain⟨B,hB⟩:∃B,val b=B:=⟨_,rfl⟩;obtain⟨A,hA⟩:∃A,val a=A:=⟨_,rfl⟩;rw[hA]at vA ⊢;rw[hB]at vB ⊢;rw[vA,vB]at hle
 --the scaled divisor
 obtain⟨V,hV⟩:∃V,V=B*s:=⟨_,rfl⟩;have bs:B=val (bl.take (p+1))+1000000000^(p+1)*d:=by rw[<-vB,<-b7,<-xt b5,<-qM,fx (by omega)]
 have hlo:val (bl.take (p+1))<1000000000^(p+1):=by have:=qX (lB.take (p+1));rw[eL,hn,hE (by omega)]at this;exact this
 obtain⟨P1,a2⟩:∃P1,1000000000^(p+1)=P1:=⟨_,rfl⟩;have b1:1000000000^(p+2)=P1*1000000000:=by rw[<-a2];exact hj ..
 rw[a2]at bs hlo;have hP0:0<P1:=by rw[<-a2];exact ib (by omega)
 have ad:V<P1*1000000000:=by
  have h1:B<P1*(d+1):=by rw[kb,ly];omega
  have h2:B*s<P1*(d+1)*s:=h8 h1 (by omega);have h3:P1*(d+1)*s=P1*(s*(d+1)):=by rw[im,gz (d+1) s]
  have h4:P1*(s*(d+1))<=P1*1000000000:=g6 _ hs3;omega
 have bm:500000000*P1<=V:=by
  have h1:P1*d*s<=B*s:=hC s (by omega);have h2:P1*d*s=d*s*P1:=by rw[im,gz]
  have h3:500000000*P1<=d*s*P1:=hC P1 hs1;omega
 have a3:0<V:=by omega
 obtain⟨vl,b8⟩:∃vl,lim V=vl:=⟨_,rfl⟩;have Lv:Limbs vl:=b8▸qc _;have vV:val vl=V:=b8▸qh _;have lv:vl.length=p+2:=by have h1:(lim V).length<=p+2:=qp (by rw[b1];exact ad);have h2:p+1<(lim V).length:=jx (by rw[a2];omega);rw[b8]at h1 h2;omega
 obtain⟨v1,ap⟩:∃v1,vl[p+1]=v1:=⟨_,rfl⟩;obtain⟨v2,c6⟩:∃v2,vl[p]=v2:=⟨_,rfl⟩;have hv1B:v1<1000000000:=ap▸Lv.get _;have hv2B:v2<1000000000:=c6▸Lv.get _;have bh:=val2 (v:=vl) (p:=p);rw[fx (by omega),xt (by omega),xt (by omega),ap,c6,vV]at bh;have cb:val (vl.take p)<1000000000^p:=by have:=qX (Lv.take p);rw[eL,lv,hE (by omega)]at this;exact this
 have hVd1:V=val (vl.take (p+1))+P1*v1:=by rw[<-a2,<-ap,<-xt,<-qM,fx (by omega),vV]
 have dc:val (vl.take (p+1))<P1:=by have:=qX (Lv.take (p+1));rw[eL,lv,hE (by omega),a2]at this;exact this
 have cm:V<(v1+1)*P1:=by rw[gz,kb];omega
 have hVb:v1*P1<=V:=by rw[gz];omega
 have c5:500000000<=v1:=by apply Nat.le_of_lt_succ;exact Nat.lt_of_mul_lt_mul_right (a:=P1) (hW bm cm)
 --the scaled dividend
 have hal:p+2<=al.length:=by apply Nat.le_of_not_lt;intro h;have:=QW lA zB hBn (by omega);omega
 obtain⟨m,hm⟩:∃m,al.length=p+m:=⟨al.length-p,by omega⟩;have bd:A*s<1000000000^(al.length+1):=by have h1:=qX lA;rw[vA]at h1;have h2:A*s<=A*1000000000:=g6 _ (by omega);have h3:A*1000000000<1000000000^al.length*1000000000:=h8 h1 (by omega);rw[hj];omega
 obtain⟨b0,a4⟩:∃b0,pad (al.length+1) (A*s)++[0]=b0:=⟨_,rfl⟩;have cc:b0.length=al.length+2:=by rw[<-a4];simp[xw]
 have a1:DInv (p+2) m V (A*s) m b0 (fe m 0):=by
  have b9:val b0=A*s:=by rw[<-a4,qU,jN,g4 bd,show val [0]=0 from rfl,Nat.mul_zero,k5]
  refine⟨l8 _,by omega,fg,?_,?_,?_,?_⟩
  .rw[<-a4];exact(xU _ _).append (No (by omega) J3)
  .intro x hx;rw[List.eq_of_mem_replicate hx];omega
  .rw[b9];have h1:P1*1000000000^m<=V*1000000000^m:=hC _ (by omega);have h2:P1*1000000000^m=1000000000^(al.length+1):=by rw[<-a2,<-Nat.pow_add,show p+1+m=al.length+1 by omega]
   omega
  .rw[fz (by simp),b9];simp[val]
 have hsc:U3 .u32 (U3 .u64 (eb 1000000000 (U3 .u64 (U3 .u64 (d:Int)+1))))=(s:Int):=by
  have e:eb 1000000000 ((d:Int)+1)=(s:Int):=by rw[hs,ey (by omega),Int.natCast_ediv];have e2:((d+1:Nat):Int)=(d:Int)+1:=Int.natCast_add d 1;rw[e2];exact congrArg (· /((d:Int)+1)) (show(1000000000:Int)=((1000000000:Nat):Int)from rfl)
  rw[xI (n:=(d:Int)),xI (n:=(d:Int)+1),e,xI,j5]
 have mkA:jQ [.c (.sl (raw al)),.c (.sl [[.int .u32 (s:Int)]])]=raw (pad (al.length+1) (A*s)):=(Bp al [s]).trans (by rw[vA];simp[val]);have mkB:jQ [.c (.sl (raw bl)),.c (.sl [[.int .u32 (s:Int)]])]=raw (pad (p+3) V):=(Bp bl [s]).trans (by rw[vB,hV,hn];simp[val]);have Ls:Limbs [s]:=No cx J3;have bb:zy [.c (.sl (raw al)),.c (.sl [[.int .u32 (s:Int)]])]=true:=LN lA Ls (by omega) (by simp) (by simp);have bc:zy [.c (.sl (raw bl)),.c (.sl [[.int .u32 (s:Int)]])]=true:=LN lB Ls (by omega) (by simp) (by simp);have tv:Gives CC 274 [.c (.sl (raw (pad (p+3) V)))] [.c (.sl (raw vl))]:=by have:=up (v6 (xU (p+3) V) (by rw[xw];omega));rw[jN,g4 (show V<1000000000^(p+3)from g7 ad (by rw[<-b1];exact hK (by omega) (by omega))),b8]at this;exact this
 have eU:raw (pad (al.length+1) (A*s))++[[F0 .u32 (0:Int)]]=raw b0:=by rw[<-a4,xd];rfl
 have b4:A*s/V=A/B:=by rw[hV];exact k7 _ _ (by omega)
 have an:A*s%V=A%B*s:=by rw[hV];exact k6 _ _ _
 refine⟨pad m (A/B),pad (lim (A%B*s)).length (A%B),qj (anns:=At (I0v (p+2) m V (A*s)) M0v (I1v (p+2) v1 V) M1v) mixedT Tryz.func330 ?_,xU _ _,xU _ _,?_,?_,by rw[xw];omega,?_⟩
 .show wpF (CM zy jQ) _ _ _ _ _;unfold At;rw[Z1];refine⟨_,ta,_,tb,?_⟩;have wn1:U3 .i64 (((p+2:Nat):Int)-1)=((p+1:Nat):Int):=by rw[qR];omega
  have wn2:U3 .i64 (((p+2:Nat):Int)-2)=(p:Int):=by rw[qR];omega
  simp only[dl,qg,hn,wn1,wn2,dv];refine brb (λh=>?_) (λ_=>⟨_,up (jO lA lB (by omega) (by omega)),brd (λh2=>?_) (λ_=>?_)⟩)
  .simp only[beq_iff_eq]at h;omega
  .rw[Qw,vA,vB,if_neg (by omega)]at h2;split at h2<;>omega
  refine⟨⟨by omega,by omega,qw b5⟩,_,qz b5,?_⟩;rw[b7];simp only[hsc,mkA,mkB,eU,qg,cc];have wm:U3 .i64 (((al.length+2:Nat):Int)-((p+2:Nat):Int))=(m:Int):=by rw[qR];omega
  have wm1:U3 .i64 ((m:Int)-1)=(m:Int)-1:=qR;simp only[wm,wm1,dv,xw];refine⟨?_,bb,⟨by unfold room;omega,zK [0]⟩,bc,_,tv,⟨by omega,by omega,by unfold room;omega⟩,⟨m,b0,fe m 0,by rw[xr],a1⟩,?_⟩
  .rw[xI (n:=(d:Int)),xI];omega
  rintro es_3 es_4 n_1 ⟨kk,ul,ql,he,hD⟩;simp only[gv,Hy,Hx,true_and,and_true]at he;obtain⟨rfl,rfl,rfl⟩:=he;have cv:=hD.lu;have hkm:=hD.hk;refine brd (λh=>?_) (λh=>?_)
  .obtain⟨k,rfl⟩:∃k,kk=k+1:=⟨kk-1,by omega⟩;rw[show((k+1:Nat):Int)-1=(k:Int)by omega];have W0:U3 .i64 ((k:Int)+((p+2:Nat):Int))=((k+p+2:Nat):Int):=by rw[qR];omega
   have W1:U3 .i64 (((k+p+2:Nat):Int)-1)=((k+p+1:Nat):Int):=by rw[qR];omega
   have W2:U3 .i64 (((k+p+2:Nat):Int)-2)=((k+p:Nat):Int):=by rw[qR];omega
   simp only[W0,W1,W2,dv,qg,cv,lv];have hVn:V<1000000000^(p+2):=by rw[b1];exact ad
   obtain⟨a7,_⟩:=hD.mid hVn a3;have hlm:((ul.drop k).take (p+2+1)).length=p+3:=by rw[eL,gb];omega
   have Lm:Limbs ((ul.drop k).take (p+2+1)):=(hD.Lu.drop k).take _;obtain⟨t3,c3⟩:∃t,ul[k+p+2]=t:=⟨_,rfl⟩;obtain⟨t2,c1⟩:∃t,ul[k+p+1]=t:=⟨_,rfl⟩;obtain⟨t0,c0⟩:∃t,ul[k+p]=t:=⟨_,rfl⟩;have ht3B:t3<1000000000:=c3▸hD.Lu.get _;have c2:t2<1000000000:=c1▸hD.Lu.get _;have ht0B:t0<1000000000:=c0▸hD.Lu.get _;obtain⟨U,hU⟩:∃U,val ((ul.drop k).take (p+2+1))=U:=⟨_,rfl⟩;rw[hU]at a7;have a6:=val3 (u:=(ul.drop k).take (p+2+1)) (p:=p);rw[fx (by omega),KJ (by omega),KJ (by omega),KJ (by omega),xt (by omega),xt (by omega),xt (by omega)]at a6;simp only[<-Nat.add_assoc,c3,c1,c0]at a6;rw[hU]at a6;have bg:val (((ul.drop k).take (p+2+1)).take p)<1000000000^p:=by have:=qX (Lm.take p);rw[eL,hlm,hE (by omega)]at this;exact this
   obtain⟨a0,c4⟩:∃a0,t3*1000000000+t2=a0:=⟨_,rfl⟩;have be:U=(t3*1000000000+t2)*P1+(t0*1000000000^p+val (((ul.drop k).take (p+2+1)).take p)):=by rw[a6,<-a2,hj];grind
   have b2:t0*1000000000^p+val (((ul.drop k).take (p+2+1)).take p)<P1:=by have:(t0+1)*1000000000^p<=1000000000*1000000000^p:=hC _ (by omega);rw[k8,ls]at this;rw[<-a2,hj];omega
   obtain⟨bv,bw,hg3⟩:=Yz cm hVb c5 be b2 c2 a7 a3;rw[c4]at bv bw a6;have cl:U3 .u64 (U3 .u64 (U3 .u64 (t3:Int)*1000000000)+U3 .u64 (t2:Int))=(a0:Int):=by rw[xI (n:=(t3:Int)),xI (n:=(t3:Int)*1000000000),xI (n:=(t2:Int)),xI];omega
   have ba:U3 .u64 (v1:Int)=(v1:Int):=xI;have wv2:U3 .u64 (v2:Int)=(v2:Int):=xI;have wt0:U3 .u64 (t0:Int)=(t0:Int):=xI;have co:=ky a0 v1;have hml:=hS a0 (show 0<v1 by omega);have a5:eb (a0:Int) (v1:Int)=((a0/v1:Nat):Int):=by rw[ey (by omega)];rfl
   have b6:ep (a0:Int) (v1:Int)=((a0%v1:Nat):Int):=by rw[Int.tmod_eq_emod_of_nonneg (by omega)];rfl
   obtain⟨g0,hg0⟩:∃g0,a0/v1=g0:=⟨_,rfl⟩;obtain⟨r0,hr0⟩:∃r0,a0%v1=r0:=⟨_,rfl⟩;rw[hg0]at bv bw co a5;rw[hr0]at co hml b6;have cg:U3 .u64 (eb (a0:Int) (v1:Int))=(g0:Int):=by rw[a5,xI]
   have bx:eA (raw ul) k (p+2)=U:=by rw[PO,hU]
   refine⟨⟨by omega,by omega⟩,_,qz (by omega),⟨by omega,by omega⟩,_,qz (by omega),⟨by omega,by omega,qw (by omega)⟩,_,qz (by omega),?_⟩;rw[c3,c1,ap];refine⟨by rw[ba];omega,⟨by omega,by omega,qw (by omega)⟩,_,qz (by omega),?_⟩;rw[ap,cl,ba,cg,b6];refine⟨by omega,⟨a0,k,raw ul,g0,r0,rfl,rfl,by rw[gz];omega,by rw[bx];exact bv,bw,by omega⟩,?_⟩;rintro n_5 n_6 ⟨cd,k',es',g,r,cq,cs,ct,cw,hgB,hrB⟩;simp only[gv,Hx,Hy,true_and,and_true]at cq cs;obtain⟨e1,e2,rfl⟩:=cq;obtain⟨rfl,rfl⟩:=cs;obtain rfl:a0=cd:=by omega
   obtain rfl:k=k':=by omega
   rw[bx]at cw;have b3:∀g' r',a0=g'*v1+r'->U/V<=g'->g'<=1000000000->g'*v2<=r'*1000000000+t0->Z0 (I0v (p+2) m V (A*s)) M0v (raw bl) (raw vl) (raw ul) (raw ql) (k:Int) (g':Int):=λg' r' h1 h2 h3 h4=>
    PP (by omega) hn lv Lv vV hD (by omega) a3 (by rw[hU];exact h2) h3 (by rw[hU];exact Uz bh a6 cb h1 h4 h3 (by omega))
   have cp:U/V<g->br (toB (Hv (decide (U3 .u64 ((r:Int)+(v1:Int))>=1000000000))))
    (Z0 (I0v (p+2) m V (A*s)) M0v (raw bl) (raw vl) (raw ul) (raw ql) (k:Int) (U3 .u64 ((g:Int)-1)))
    (I1v (p+2) v1 V [.int .u64 (a0:Int),.int .i64 (k:Int),.sl (raw ul)] [.int .u64 (U3 .u64 ((g:Int)-1)),.int .u64 (U3 .u64 ((r:Int)+(v1:Int)))]/\
     M1v [.int .u64 (U3 .u64 ((g:Int)-1)),.int .u64 (U3 .u64 ((r:Int)+(v1:Int)))]<M1v [.int .u64 (g:Int),.int .u64 (r:Int)]):=by
    intro ag;have hgp:1<=g:=hW (ka _) ag;have wg:U3 .u64 ((g:Int)-1)=((g-1:Nat):Int):=by rw[xI];omega
    have wr:U3 .u64 ((r:Int)+(v1:Int))=((r+v1:Nat):Int):=by rw[xI];omega
    have cy:a0=(g-1)*v1+(r+v1):=by
     have:g*v1=(g-1)*v1+v1:=by
      conv=>lhs;rw[show g=(g-1)+1 by omega]
      rw[k8,ls]
     omega
    rw[wg,wr];refine brd (λh3=>?_) (λh3=>?_)
    .refine b3 (g-1) (r+v1) cy (ie ag) (by omega) ?_;have h5:(g-1)*v2<=1000000000*1000000000:=lh (by omega) (by omega);have h6:1000000000*1000000000<=(r+v1)*1000000000:=hC _ (by omega);omega
    .exact⟨⟨a0,k,raw ul,g-1,r+v1,rfl,rfl,cy,by rw[bx];exact ie ag,by omega,by omega⟩,by simp only[M1v,nth,toI,dv];omega⟩
   have hqB:U/V<1000000000:=by rw[g5 a3,gz];exact a7
   refine brd (λh3=>?_) (λh3=>?_)
   .refine⟨⟨by omega,by omega,qw (by omega)⟩,_,qz (by omega),?_⟩;rw[ap,ba];exact cp (by omega)
   .refine⟨⟨by omega,by omega,qw (by omega)⟩,_,qz (by omega),⟨by omega,by omega⟩,_,qz (by omega),?_⟩;rw[c6,c0,wv2,wt0];have hgv:g*v2<=1000000000*1000000000:=lh (by omega) (by omega);have wgv:U3 .u64 ((g:Int)*(v2:Int))=((g*v2:Nat):Int):=by have e:(g:Int)*(v2:Int)=((g*v2:Nat):Int):=(Int.natCast_mul ..).symm;rw[e,xI]
    have wrt:U3 .u64 (U3 .u64 ((r:Int)*1000000000)+(t0:Int))=((r*1000000000+t0:Nat):Int):=by rw[xI (n:=(r:Int)*1000000000),xI];omega
    rw[wgv,wrt];refine brd (λh4=>?_) (λh4=>?_)
    .refine⟨⟨by omega,by omega,qw (by omega)⟩,_,qz (by omega),?_⟩;rw[ap,ba];exact cp (Uy bh a6 bg ct (by omega) a3)
    .exact b3 g r ct cw (by omega) (by omega)
  .have hk0:kk=0:=by omega
   subst hk0;have ag:=hD.hlt;have bt:=hD.heq;simp only[lm,ly,gm]at ag bt;have b9:val ul=A*s%V:=by rw[bt,gz,kO,g4 ag]
   have dd:val ql=A/B:=by rw[<-b4,bt,gz,lg a3,hX ag,k5]
   have htk:val (ul.take (p+2))=A%B*s:=by
    rw[<-an,<-b9];have h1:val ul=val (ul.take (p+2))+1000000000^(p+2)*val (ul.drop (p+2)):=by
     conv=>lhs;rw[<-List.take_append_drop (p+2) ul]
     rw[qU,eL,hE (by omega)]
    rcases hG (val (ul.drop (p+2)))with h0|h0
    .rw[h0]at h1;omega
    .exfalso;have h2:1000000000^(p+2)<=1000000000^(p+2)*val (ul.drop (p+2)):=k3 _ h0;rw[b1]at h2 h1;omega
   have hlul:(lim (A%B*s)).length<=p+2:=by rw[<-an];refine qp ?_;have:=hS (A*s) a3;rw[b1];omega
   have g1:=up (v6 (hD.Lu.take (p+2)) (by rw[eL];omega));rw[htk]at g1;have g2:=up (J8 (qc (A%B*s)) (d:=s) (by omega) cx (by omega));rw[qh,kH _ (show 0<s by omega)]at g2;simp only[gm,j3,qg,cv];refine⟨⟨by omega,by omega,by omega,zK _⟩,_,g1,_,_,g2,?_⟩;have:ql=pad m (A/B):=by refine Lt hD.Lq (xU _ _) (by rw[xw];exact hD.lq) ?_;have h1:=qX hD.Lq;rw[hD.lq,dd]at h1;rw[jN,g4 h1,dd]
   rw[this]
 .rw[jN,g4];rw[<-b4,g5 a3];have h1:=a1.hlt;have h2:=a1.heq;rw[fz (by simp)]at h2;simp only[val,Nat.zero_mul,Nat.zero_add]at h2;rw[<-h2]at h1;rw[gz (1000000000^m)];exact h1
 .rw[jN,g4];have h1:=qX (qc (A%B*s));rw[qh]at h1;have:A%B*1<=A%B*s:=g6 _ hs2;omega
 .rw[xw,<-an];have:(lim (A*s%V)).length<=p+2:=by refine qp ?_;have:=hS (A*s) a3;rw[b1];omega
  omega
theorem wY:Vi:=by
 intro a b la lb hb0 ra rb;have ta:=up (v6 la (by omega));have tb:=up (v6 lb (by omega));have nA:(lim (val a)).length<=a.length:=qp (qX la);have nB:(lim (val b)).length<=b.length:=qp (qX lb);have a0:lim (val b)≠[]:=by rw[ne_eq,yt];exact hb0
 have hpos:0<(lim (val b)).length:=List.length_pos_iff.2 a0;by_cases h1:(lim (val b)).length=1
 .obtain⟨d,hd⟩:=List.length_eq_one_iff.1 h1;have hv:val b=d:=by rw[<-qh (val b),hd];simp[val]
  rw[hd]at tb;have hd1:d<1000000000:=(qc (val b)) d (by rw[hd];simp);refine⟨_,_,LO ta tb (qc _) (by omega) (by omega) hd1,xU _ _,No ?_ J3,?_,?_,by rw[xw];omega,by simp⟩
  .have:=hS (val (lim (val a))) (show 0<d by omega);omega
  .rw[jN,qh,hv,g4];have h2:=qX (qc (val a));rw[qh]at h2;exact hW (ks _ _) h2
  .rw[qh,hv];simp[val]
 .by_cases h2:val a<val b
  .refine⟨_,_,PQ ta tb (qc _) (qc _) (by omega) (by omega) (by omega) (by rw[qh,qh];exact h2),J3,qc _,?_,?_,by simp,by omega⟩
   .rw[hX h2];rfl
   .rw[g4 h2,qh]
  .exact LP (p:=(lim (val b)).length-2) ta tb (qc _) (qc _) (by omega) (by omega) (qh _) (qh _) ((jo _).resolve_left a0) (by omega) (by rw[qh,qh];omega)
end Eng
end
section
namespace Eng
open Go Go.Proofs
variable [Env]
def tabL (_:Nat) (_:List A):Option (List A):=none
theorem tabL_ok (f:Nat) (al rs:List A) (h:tabL f al=some rs):Gives CC f al rs:=by simp[tabL]at h
def Z4:List (List D)->Bool
 |[]=>true
 |[e]=>k4 0 (Db e)
 |_::r=>Z4 r
omit [Env] in
theorem JB:∀{l:List Nat},Z4 (raw l)=true->l=[]\/l.getLast?≠some 0
 |[],_=> .inl rfl
 |[x],h=> .inr (by
  simp only[raw,gu,List.map_nil,Z4,Db,dv]at h;rw[it]at h;simp;omega)
 |x::y::l,h=> .inr (by
  have h2:Z4 (raw (y::l))=true:=h;rcases JB h2 with h3|h3
  .simp at h3
  .rw[List.getLast?_cons_cons];exact h3)
def O4 (b:Bool) (es:List (List D)):Int:=match b with|true=> -(valD es:Int)|false=>(valD es:Int)
def okZ (b:Bool) (es:List (List D)):Bool:=QY es&&(Z4 es&&(match es with|[]=>!b|_=>true))
omit [Env] in
theorem LQ {b:Bool} {es:List (List D)} (h:okZ b es=true):cI (O4 b es)=[.bool b,.sl es]:=by
 unfold okZ at h;simp only[Aw]at h;obtain⟨h1,h2,h3⟩:=h;obtain⟨e1,e2,e3⟩:=Qe h1;rw[e1]at h2;have hu:=v5 e2 (JB h2);rw[e3]at hu;have hn:(O4 b es).natAbs=valD es:=by
  unfold O4;cases b
  .simp
  .simp
 have hb:decide (O4 b es<0)=b:=by
  cases b with
  |false=>unfold O4;exact decide_eq_false (by simp)
  |true=>
   unfold O4;refine decide_eq_true ?_;have:valD es≠0:=by
    intro h0;rw[h0]at hu;have h4:Je es=[]:=by rw[<-hu];rfl
    rw[h4]at e1;rw[e1]at h3;simp[raw]at h3
   show-(valD es:Int)<0;omega
 unfold cI;rw[hn,hb,hu,<-e1]
def rdI:A->Option Int
 | .ag [.bool b,.sl es]=>match okZ b es with
  |true=>some (O4 b es)
  |false=>none
 |_=>none
omit [Env] in
theorem LR {a:A} {z:Int} (h:rdI a=some z):a=qN z:=by
 unfold rdI at h;split at h
 .split at h
  .rename_i hz;simp only[lD]at h;subst h;unfold qN;rw[LQ hz]
  .simp at h
 .simp at h
def D3 (n:Int) (d:Nat):Option Rat:=
 if hd:d≠0 then if h:j2 n.natAbs d=1 then some ⟨n,d,hd,h⟩else none else none
omit [Env] in
theorem PR {n:Int} {d:Nat} {r:Rat} (h:D3 n d=some r):r.num=n/\r.den=d:=by
 unfold D3 at h;split at h
 .split at h
  .simp only[lD]at h;subst h;exact⟨rfl,rfl⟩
  .simp at h
 .simp at h
def hN:Nat:=(1000000000^100)^4
omit [Env] in
theorem IF:hN<=Xg:=by decide
def tN:Nat:=(1000000000^100)^10
omit [Env] in
theorem IG:tN<=K3:=by decide
def Bq (z:Int):Bool:=k4 z.natAbs hN
def rdR:A->Option Rat
 | .ag [.bool b,.sl es,.bool c,.sl fs]=>match okZ b es&&(okZ c fs&&(!c&&(Bq (O4 b es)&&k4 (valD fs) hN)))with
  |true=>D3 (O4 b es) (valD fs)
  |false=>none
 |_=>none
omit [Env] in
theorem JC {a:A} {r:Rat} (h:rdR a=some r):a=xy r/\Sr r:=by
 unfold rdR at h;split at h
 .rename_i b es c fs;split at h
  .rename_i hz;simp only[Aw,Bool.not_eq_true']at hz;obtain⟨h1,h2,rfl,h3,h4⟩:=hz;obtain⟨e1,e2⟩:=PR h;have hd:O4 false fs=(r.den:Int):=by rw[e2];rfl
   refine⟨?_,?_,?_⟩
   .unfold xy cR;rw[e1,LQ h1,<-hd,LQ h2];rfl
   .rw[e1];unfold Bq at h3;rw[it]at h3;exact g7 h3 IF
   .rw[it]at h4;show((r.den:Int)).natAbs<Xg;rw[en,e2];exact g7 h4 IF
  .simp at h
 .simp at h
def GM (al:List A):Option (Int×Int):=match al with
 |[a,b]=>match rdI a,rdI b with
  |some x,some y=>match k4 x.natAbs tN&&k4 y.natAbs tN with
   |true=>some (x,y)
   |false=>none
  |_,_=>none
 |_=>none
omit [Env] in
theorem jy {al:List A} {x y:Int} (h:GM al=some (x,y)):al=[qN x,qN y]/\Sm x/\Sm y:=by
 unfold GM at h;split at h
 .split at h
  .rename_i x' y' h1 h2;split at h
   .rename_i h3;simp only[lD,Prod.mk.injEq]at h;obtain⟨rfl,rfl⟩:=h;simp only[Aw,it]at h3;rw[LR h1,LR h2];exact⟨rfl,g7 h3.1 IG,g7 h3.2 IG⟩
   .simp at h
  .simp at h
 .simp at h
def O5 (al:List A):Option (Rat×Rat):=match al with
 |[a,b]=>match rdR a,rdR b with
  |some x,some y=>some (x,y)
  |_,_=>none
 |_=>none
omit [Env] in
theorem wZ {al:List A} {x y:Rat} (h:O5 al=some (x,y)):al=[xy x,xy y]/\Sr x/\Sr y:=by
 unfold O5 at h;split at h
 .split at h
  .rename_i x' y' h1 h2;simp only[lD,Prod.mk.injEq]at h;obtain⟨rfl,rfl⟩:=h;rw[(JC h1).1,(JC h2).1];exact⟨rfl,(JC h1).2,(JC h2).2⟩
  .simp at h
 .simp at h
def Au (a b:Int):Int:=match decide (a<b)with|true=> -1|false=>match decide (b<a)with|true=>1|false=>0
omit [Env] in
theorem KK (a b:Int):Au a b=kh a b:=by
 unfold Au kh;by_cases h:a<b
 .rw[decide_eq_true h,if_pos h]
 .rw[decide_eq_false h,if_neg h];by_cases h2:b<a
  .rw[decide_eq_true h2,if_pos h2]
  .rw[decide_eq_false h2,if_neg h2]
def O6 (n d:Int):A:= .ag (cI (n/(j2 n.natAbs d.natAbs:Nat))++cI (d/(j2 n.natAbs d.natAbs:Nat)))
def gR (f:Nat) (al:List A):Option (List A):=
 match f with
 |146=>match O5 al with|some (x,y)=>some [O6 (x.num*y.num) (x.den*y.den)]|none=>none
 |100=>match O5 al with|some (x,y)=>some [O6 (x.num*y.den+y.num*x.den) (x.den*y.den)]|none=>none
 |48=>match O5 al with|some (x,y)=>some [O6 (x.num*y.den+(-y.num)*x.den) (x.den*y.den)]|none=>none
 |49=>match O5 al with|some (x,y)=>some [.c (.int .i64 (Au (x.num*y.den) (y.num*x.den)))]|none=>none
 |97=>match al with
  |[.c (.int .i64 n)]=>match decide (-9223372036854775808<=n)&&decide (n<9223372036854775808)with
   |true=>some [.ag (cI n++cI 1)]
   |false=>none
  |_=>none
 |105=>match GM al with|some (x,y)=>some [qN (x*y)]|none=>none
 |104=>match GM al with|some (x,y)=>some [.c (.int .i64 (Au x y))]|none=>none
 |188=>match GM al with|some (x,y)=>some [qN (x+y)]|none=>none
 |364=>match GM al with|some (x,y)=>some [qN (x-y)]|none=>none
 |270=>match GM al with|some (x,y)=>some [qN (j2 x.natAbs y.natAbs:Nat)]|none=>none
 |179=>match al with
  |[.c (.int .i64 n)]=>match decide (-9223372036854775808<=n)&&decide (n<9223372036854775808)with
   |true=>some [qN n]
   |false=>none
  |_=>none
 |_=>tabL f al
omit [Env] in
theorem QC {n d:Int} (hd:0<d):O6 n d=xy (ms n d):=(wb hd).symm
theorem D4 (f:Nat) (al rs:List A) (h:gR f al=some rs):Gives CC f al rs:=by
 unfold gR at h;split at h
 .split at h
  .rename_i x y h1;obtain⟨rfl,hx,hy⟩:=wZ h1;simp only[lD]at h;subst h;rw[QC (ec (den_pos x) (den_pos y))];have e:x*y=ms (x.num*y.num) (x.den*y.den):=by rw[<-mx,mm,mm]
   rw[<-e];exact Yq wY hx hy
  .simp at h
 .split at h
  .rename_i x y h1;obtain⟨rfl,hx,hy⟩:=wZ h1;simp only[lD]at h;subst h;have px:=den_pos x;have py:=den_pos y;rw[QC (ec px py)];have e:x+y=ms (x.num*y.den+y.num*x.den) (x.den*y.den):=by rw[<-mu _ _ (by omega) (by omega),mm,mm]
   rw[<-e];exact K8 wY hx hy
  .simp at h
 .split at h
  .rename_i x y h1;obtain⟨rfl,hx,hy⟩:=wZ h1;simp only[lD]at h;subst h;have px:=den_pos x;have py:=den_pos y;rw[QC (ec px py)];have e:x-y=ms (x.num*y.den+(-y.num)*x.den) (x.den*y.den):=by
    rw[m4,<-mu _ _ (by omega) (by omega),mm];have:ms (-y.num) y.den= -y:=by rw[<-m3];exact mm (-y)
    rw[this]
   rw[<-e];exact Yr wY hx hy
  .simp at h
 .split at h
  .rename_i x y h1;obtain⟨rfl,hx,hy⟩:=wZ h1;simp only[lD]at h;subst h;rw[KK,<-Zx];exact L2 hx hy
  .simp at h
 .split at h
  .split at h
   .rename_i hb;simp only[lD]at h;subst h;simp only[Aw,decide_eq_true_eq]at hb;have g:=wc hb.1 hb.2;unfold xy cR at g;rw[na,nv]at g;exact g
   .simp at h
  .simp at h
 .split at h
  .rename_i x y h1;obtain⟨rfl,hx,hy⟩:=jy h1;simp only[lD]at h;subst h;exact up (je hx hy)
  .simp at h
 .split at h
  .rename_i x y h1;obtain⟨rfl,hx,hy⟩:=jy h1;simp only[lD]at h;subst h;rw[KK];exact up (jP hx hy)
  .simp at h
 .split at h
  .rename_i x y h1;obtain⟨rfl,hx,hy⟩:=jy h1;simp only[lD]at h;subst h;exact up (QA hx hy)
  .simp at h
 .split at h
  .rename_i x y h1;obtain⟨rfl,hx,hy⟩:=jy h1;simp only[lD]at h;subst h;exact up (Ly hx hy)
  .simp at h
 .split at h
  .rename_i x y h1;obtain⟨rfl,hx,hy⟩:=jy h1;simp only[lD]at h;subst h;exact Yp wY hx hy
  .simp at h
 .split at h
  .split at h
   .rename_i hb;simp only[lD]at h;subst h;simp only[Aw,decide_eq_true_eq]at hb;exact up (xu hb.1 hb.2)
   .simp at h
  .simp at h
 .exact tabL_ok f al rs h
end Eng
end
section
open Go Go.Proofs Eng
namespace Eng
section
variable (Gv:Nat->List A->List A->Prop) (I0:List D->List D->Prop) (M0:List D->Nat) (I1:List D->List D->Prop) (M1:List D->Nat) (I2:List D->List D->Prop) (M2:List D->Nat) (I3:List D->List D->Prop) (M3:List D->Nat) (Q:List A->Prop)
theorem Vl (J4:List D->List D->Prop) (J18:List D->List D->Prop) (J20:List D->List D->Prop) (J23:List D->List D->Prop) (es fs:List (List D)):wpF CC Gv (Oz (Oz (Oz (Oz (Pn ⟨[.own 12 173 1,.slot 11 (.slice none 0 0),.slot 14 (.int .i64 0)],[],I0,M0⟩ ⟨[.slot 16 (.int .u64 0),.slot 17 (.slice none 0 0)],[.slot 11 (.slice none 0 0),.slot 14 (.int .i64 0),.own 12 173 1],I1,M1⟩ ⟨[.own 19 174 1,.slot 18 (.int .u64 0),.slot 20 (.int .i64 0)],[.slot 11 (.slice none 0 0)],I2,M2⟩) 4 ⟨[],[],J4,λ_=>0⟩) 18 ⟨[.slot 15 (.int .u64 0)],[.slot 11 (.slice none 0 0)],J18,λ_=>0⟩) 20 ⟨[.slot 15 (.int .u64 0)],[.slot 11 (.slice none 0 0)],J20,λ_=>0⟩) 23 ⟨[.slot 16 (.int .u64 0)],[.slot 11 (.slice none 0 0)],J23,λ_=>0⟩) Tryz.f292 [.c (.sl es),.c (.sl fs)] Q=(bB (decide ((bF es.length)<=2)) (bB (decide ((bF fs.length)<=2)) (∃i,Gv 293 [aL es] [Dd (F0 .u64 i)]/\∃i_1,Gv 293 [aL fs] [Dd (F0 .u64 i_1)]/\i_1≠0/\∃es,Gv 160 [Dd (F0 .u64 (U3 .u64 (eb i i_1)))] [aL es]/\i_1≠0/\∃e1,Gv 160 [Dd (F0 .u64 (ep i i_1))] [aL e1]/\Q [aL es,aL e1]) (J4 [] [])) (J4 [] [])/\(J4 [] []->(0<=U3 .i64 ((bF fs.length)-1)/\U3 .i64 ((bF fs.length)-1)<(bF fs.length)/\fk (nth [] fs (cF (U3 .i64 ((bF fs.length)-1))))=1)/\∃i,cut (nth [] fs (cF (U3 .i64 ((bF fs.length)-1)))) 0 1 [F0 .u32 i]/\U3 .u64 (U3 .u64 i+1)≠0/\∃e1,Gv 359 [aL fs,Dd (F0 .u32 (U3 .u32 (U3 .u64 (eb (1000000000:Int) (U3 .u64 (U3 .u64 i+1))))))] [aL e1]/\(0<=U3 .i64 ((bF e1.length)-1)/\U3 .i64 ((bF e1.length)-1)<(bF e1.length)/\fk (nth [] e1 (cF (U3 .i64 ((bF e1.length)-1))))=1)/\∃i_1,cut (nth [] e1 (cF (U3 .i64 ((bF e1.length)-1)))) 0 1 [F0 .u32 i_1]/\(0<=U3 .i64 ((bF es.length)+1)/\U3 .i64 ((bF es.length)+1)<=U3 .i64 ((bF es.length)+1)/\room (cF (U3 .i64 ((bF es.length)+1))))/\∃e2,Gv 359 [aL es,Dd (F0 .u32 (U3 .u32 (U3 .u64 (eb (1000000000:Int) (U3 .u64 (U3 .u64 i+1))))))] [aL e2]/\(0<=(bF e2.length)/\(bF e2.length)<=(bF (fk (fe (cF (U3 .i64 ((bF es.length)+1))) [F0 .u32 0]))))/\I0 [] [Hu (List.take (cF (bF e2.length)) (fe (cF (U3 .i64 ((bF es.length)+1))) [F0 .u32 0])),Hu [],dI (U3 .i64 ((bF e2.length)-1))]/\∀(es e3:List (List D)) (i_2:Int),I0 [] [Hu es,Hu e3,dI i_2]->bB (decide (i_2>=0)) ((0<=i_2/\i_2<(bF e2.length)/\fk (nth [] e2 (cF i_2))=1)/\∃i,cut (nth [] e2 (cF i_2)) 0 1 [F0 .u32 i]/\(room (1+e3.length)/\lens 1 e3)/\∃e4,Gv 241 [aL ([F0 .u32 i]::e3)] [aL e4]/\bB (decide ((bF e4.length)>(bF e1.length))) ((0<=(bF e1.length)/\(bF e1.length)<(bF e4.length)/\fk (nth [] e4 (cF (bF e1.length)))=1)/\∃i,cut (nth [] e4 (cF (bF e1.length))) 0 1 [F0 .u32 i]/\J18 [Hu e4] [F0 .u64 (U3 .u64 (U3 .u64 i*1000000000))]) (J18 [Hu e4] [F0 .u64 0])/\∀(i:Int),J18 [Hu e4] [F0 .u64 i]->bB (decide ((bF e4.length)>=(bF e1.length))) ((0<=U3 .i64 ((bF e1.length)-1)/\U3 .i64 ((bF e1.length)-1)<(bF e4.length)/\fk (nth [] e4 (cF (U3 .i64 ((bF e1.length)-1))))=1)/\∃i_3,cut (nth [] e4 (cF (U3 .i64 ((bF e1.length)-1)))) 0 1 [F0 .u32 i_3]/\J20 [Hu e4] [F0 .u64 (U3 .u64 (i+U3 .u64 i_3))]) (J20 [Hu e4] [F0 .u64 i])/\∀(i:Int),J20 [Hu e4] [F0 .u64 i]->U3 .u64 i_1≠0/\bB (decide (U3 .u64 (eb i (U3 .u64 i_1))>999999999)) (J23 [Hu e4] [F0 .u64 999999999]) (J23 [Hu e4] [F0 .u64 (U3 .u64 (eb i (U3 .u64 i_1)))])/\∀(i:Int),J23 [Hu e4] [F0 .u64 i]->∃e5,Gv 359 [aL e1,Dd (F0 .u32 (U3 .u32 i))] [aL e5]/\I1 [Hu e4,dI i_2,Hu es] [F0 .u64 i,Hu e5]/\∀(i:Int) (e6:List (List D)),I1 [Hu e4,dI i_2,Hu es] [F0 .u64 i,Hu e6]->∃i_3,Gv 161 [aL e6,aL e4] [aI i_3]/\bB (decide (i_3>0)) (∃e7,Gv 240 [aL e6,aL e1] [aL e7]/\I1 [Hu e4,dI i_2,Hu es] [F0 .u64 (U3 .u64 (i-1)),Hu e7]/\M1 [F0 .u64 (U3 .u64 (i-1)),Hu e7]<M1 [F0 .u64 i,Hu e6]) (∃e7,Gv 240 [aL e4,aL e6] [aL e7]/\(0<=i_2/\i_2<(bF es.length))/\0<1/\I0 [] [Hu (upd es (cF i_2) (upd (nth [] es (cF i_2)) 0 (F0 .u32 (U3 .u32 i)))),Hu e7,dI (U3 .i64 (i_2-1))]/\M0 [Hu (upd es (cF i_2) (upd (nth [] es (cF i_2)) 0 (F0 .u32 (U3 .u32 i)))),Hu e7,dI (U3 .i64 (i_2-1))]<M0 [Hu es,Hu e3,dI i_2])) ((0<=(bF e3.length)/\(bF e3.length)<=(bF e3.length)/\room (cF (bF e3.length)))/\I2 [Hu e3] [Hu (fe (cF (bF e3.length)) [F0 .u32 0]),F0 .u64 0,dI (U3 .i64 ((bF e3.length)-1))]/\∀(e4:List (List D)) (i_3 i_4:Int),I2 [Hu e3] [Hu e4,F0 .u64 i_3,dI i_4]->bB (decide (i_4>=0)) ((0<=i_4/\i_4<(bF e3.length)/\fk (nth [] e3 (cF i_4))=1)/\∃i_5,cut (nth [] e3 (cF i_4)) 0 1 [F0 .u32 i_5]/\U3 .u64 (U3 .u32 (U3 .u64 (eb (1000000000:Int) (U3 .u64 (U3 .u64 i+1)))))≠0/\(0<=i_4/\i_4<(bF e4.length))/\0<1/\U3 .u64 (U3 .u32 (U3 .u64 (eb (1000000000:Int) (U3 .u64 (U3 .u64 i+1)))))≠0/\I2 [Hu e3] [Hu (upd e4 (cF i_4) (upd (nth [] e4 (cF i_4)) 0 (F0 .u32 (U3 .u32 (U3 .u64 (eb (U3 .u64 (U3 .u64 (i_3*1000000000)+U3 .u64 i_5)) (U3 .u64 (U3 .u32 (U3 .u64 (eb (1000000000:Int) (U3 .u64 (U3 .u64 i+1)))))))))))),F0 .u64 (ep (U3 .u64 (U3 .u64 (i_3*1000000000)+U3 .u64 i_5)) (U3 .u64 (U3 .u32 (U3 .u64 (eb (1000000000:Int) (U3 .u64 (U3 .u64 i+1))))))),dI (U3 .i64 (i_4-1))]/\M2 [Hu (upd e4 (cF i_4) (upd (nth [] e4 (cF i_4)) 0 (F0 .u32 (U3 .u32 (U3 .u64 (eb (U3 .u64 (U3 .u64 (i_3*1000000000)+U3 .u64 i_5)) (U3 .u64 (U3 .u32 (U3 .u64 (eb (1000000000:Int) (U3 .u64 (U3 .u64 i+1)))))))))))),F0 .u64 (ep (U3 .u64 (U3 .u64 (i_3*1000000000)+U3 .u64 i_5)) (U3 .u64 (U3 .u32 (U3 .u64 (eb (1000000000:Int) (U3 .u64 (U3 .u64 i+1))))))),dI (U3 .i64 (i_4-1))]<M2 [Hu e4,F0 .u64 i_3,dI i_4]) (∃e5,Gv 241 [aL es] [aL e5]/\∃es,Gv 241 [aL e4] [aL es]/\Q [aL e5,aL es])))):=by kernel_rfl
end
end Eng
end
section
namespace Eng
open Go Go.Proofs
theorem Xq:∀(i n:Nat),(lim n).getD i 0=n/1000000000^i%1000000000
 |0,n=>by
  rw[lm,Nat.div_one];rcases hG n with h|h
  .rw[h];rfl
  .rw[KB h];rfl
 |i+1,n=>by
  rcases hG n with h|h
  .rw[h,K1,Nat.zero_div];rfl
  .rw[KB h,hj,gz,<-ia];exact Xq i (n/1000000000)
theorem Vm {n i:Nat} (h:(lim n).length<=i):n/1000000000^i=0:=by
 apply hX;rcases ln n (1000000000^i)with h2|h2
 .exact h2
 .have:=jx h2;omega
theorem Vn {R n:Nat}:R/1000000000^(n+1)*1000000000+R/1000000000^n%1000000000=R/1000000000^n:=by
 rw[hj,<-ia];generalize R/1000000000^n=q;omega
theorem IH {R V v1 P vl:Nat} (hV:V=v1*P+vl) (hV0:0<v1*P):R/V<=R/P/v1:=by
 rw[ia,gz P v1];exact Nat.div_le_div_left (by omega) hV0
theorem II {R V d:Nat} (hV:0<V) (h:R<V*d):R/V<d:=by
 rw[g5 hV,gz];exact h
theorem IJ {R V d:Nat} (hV:0<V) (h:V*d<=R) (h2:R/V<=d):d=R/V:=by
 have:d<=R/V:=(Nat.le_div_iff_mul_le hV).2 (by rw[gz];exact h);omega
theorem D5 {R V:Nat}:R-V*(R/V)=R%V:=by
 have:=ky R V;omega
theorem LS {V Q R c B:Nat}:(((c+B*R)/V)+B*Q)*V+(c+B*R)%V=c+B*(Q*V+R):=by
 have h:=ky (c+B*R) V;generalize (c+B*R)/V=d at *;generalize (c+B*R)%V=e at *;have e1:(d+B*Q)*V+e=(V*d+e)+B*(Q*V):=by rw[k8,gz d V,im];omega
 rw[e1,h,kb];omega
theorem GN {V R c B:Nat} (hc:c<B) (hR:R<V):c+B*R<B*V:=by
 have:B*(R+1)<=B*V:=g6 _ hR;rw[kb]at this;omega
theorem vc {V R c B:Nat} (hc:c<B) (hR:R<V):(c+B*R)/V<B:=by
 rw[g5 (by omega)];exact GN hc hR
theorem PS {u:List Nat} {k:Nat} (h:k<u.length):val (u.drop k)=u[k]+1000000000*val (u.drop (k+1)):=by
 rw[List.drop_eq_getElem_cons h];rfl
theorem Y0 {U V q r:Nat} (h:q*V+r=U) (hr:r<V):q=U/V/\r=U%V:=by
 have hV:0<V:=by omega
 subst h;constructor
 .rw[gz,lg hV,hX hr];omega
 .rw[gz,kO,g4 hr]
theorem GO {k d:Nat} {q:List Nat}:(fe (k+1) 0++q).set k d=fe k 0++d::q:=by
 rw[List.replicate_succ',fS,List.set_append];simp
end Eng
end
section
namespace Eng
open Go Go.Proofs
variable [Env]
omit [Env] in
theorem Qj {a b:Nat} (h:raw (lim a)=raw (lim b)):a=b:=by
 have:=Yn h;rw[<-qh a,<-qh b,this]
def eB (a b c j4 j18 j20 j23:Ann):Nat->Ann:=Oz (Oz (Oz (Oz (Pn a b c) 4 j4) 18 j18) 20 j20) 23 j23
omit [Env] in
theorem yv {x s:Nat} (hs:s<1000000000):(lim (x*s)).length<=(lim x).length+1:=by
 apply qp;have h:=qX (qc x);rw[qh]at h;rw[hj]
 calc x*s<=x*1000000000:=g6 _ (by omega)
  _<1000000000^(lim x).length*1000000000:=h8 h (by omega)
omit [Env] in
theorem PT {y:Nat} (hy:y≠0):∃d s:Nat,0<d/\d<1000000000/\(∀h:(lim y).length-1<(lim y).length,(lim y)[(lim y).length-1]=d)/\0<s/\s=1000000000/(d+1)/\s<1000000000:=by
 have hl:0<(lim y).length:=qC.2 (by omega);have a2:(lim y).length-1<(lim y).length:=by omega
 obtain⟨d,hd⟩:∃d,(lim y)[(lim y).length-1]=d:=⟨_,rfl⟩;have a1:d<1000000000:=hd▸(qc y).get a2;have a0:0<d:=by
  rcases hG d with h0|h0
  .exfalso;rcases jo y with h|h
   .rw[h]at hl;simp at hl
   .apply h;rw[fR,ft a2,hd,h0]
  .exact h0
 obtain⟨_,hs2,hs3⟩:=JA a0 a1 (s:=1000000000/(d+1)) rfl;refine⟨d,1000000000/(d+1),a0,a1,λ_=>hd,by omega,rfl,?_⟩;generalize 1000000000/(d+1)=s at *;have:s*2<=s*(d+1):=g6 _ (by omega);omega
omit [Env] in
theorem IK {V p:Nat} (hp:(lim V).length=p+1):∃v1:Nat,v1=V/1000000000^p/\0<v1/\v1<1000000000/\(∀h:p<(lim V).length,(lim V)[p]=v1)/\v1*1000000000^p<=V/\V<1000000000^(p+1):=by
 have hB:V<1000000000^(p+1):=by have h:=qX (qc V);rw[qh,hp]at h;exact h
 have hP:1000000000^p<=V:=by
  rcases ln V (1000000000^p)with h|h
  .have:=qp h;omega
  .exact h
 have a0:0<1000000000^p:=ib (by omega);have hv:V/1000000000^p<1000000000:=by rw[g5 a0,gz,<-hj];exact hB
 refine⟨V/1000000000^p,rfl,Nat.div_pos hP a0,hv,λh=>?_,Nat.div_mul_le_self _ _,hB⟩;have h2:=Xq p V;rw[g4 hv]at h2;rw[<-h2];simp[gn,h]
omit [Env] in
theorem D6 {T V p:Nat} (h:T<1000000000*V) (hV:V<1000000000^(p+1)):T/1000000000^(p+1)<1000000000/\T/1000000000^p<1000000000000000000:=by
 have h1:T<1000000000*1000000000^(p+1):=Nat.lt_trans h (Nat.mul_lt_mul_of_pos_left hV (by omega));constructor
 .rw[g5 (ib (by omega))];exact h1
 .rw[g5 (ib (by omega))];rw[hj]at h1
  calc T<1000000000*(1000000000^p*1000000000):=h1
   _=1000000000000000000*1000000000^p:=by rw[gz (1000000000^p),<-im]
def qr (u:List Nat) (V:Nat) (kk:Nat) (ql:List Nat) (R:Nat):Prop:=
 kk+ql.length=u.length/\Limbs ql/\R<V/\val ql*V+R=val (u.drop kk)
omit [Env] in
theorem qr.start {u:List Nat} {V:Nat} (hV:0<V):qr u V u.length [] 0:=by
 refine⟨rfl,J3,hV,?_⟩;rw[List.drop_length];simp[val]
omit [Env] in
theorem qr.next {u:List Nat} {V k R c:Nat} {ql:List Nat} (h:qr u V (k+1) ql R) (hc:c<1000000000) (hk:∀h:k<u.length,u[k]=c):qr u V k ((c+1000000000*R)/V::ql) ((c+1000000000*R)%V):=by
 obtain⟨h1,h2,h3,h4⟩:=h;have a0:k<u.length:=by omega
 refine⟨by simp only[gp];omega,h2.cons (vc hc h3),hS _ (by omega),?_⟩;rw[PS a0,<-h4,hk a0,<-LS];rfl
omit [Env] in
theorem qr.fin {u:List Nat} {V R:Nat} {ql:List Nat} (h:qr u V 0 ql R):val ql=val u/V/\R=val u%V:=by
 obtain⟨h1,h2,h3,h4⟩:=h;rw[gm]at h4;exact Y0 h4 h3
theorem Y1 {x y:Nat} (h1:(lim x).length<=2) (h2:(lim y).length<=2) (hy:y≠0) {Q:List A->Prop} (hQ:Q [.c (.sl (raw (lim (x/y)))),.c (.sl (raw (lim (x%y))))]):
 ∃n,Gives CC 293 [Dd (Hu (raw (lim x)))] [Dd (F0 V1 n)]/\
  ∃n_1,Gives CC 293 [Dd (Hu (raw (lim y)))] [Dd (F0 V1 n_1)]/\n_1≠(0:Int)/\
   ∃es,Gives CC 160 [Dd (F0 V1 (U3 V1 (eb n n_1)))] [Dd (Hu es)]/\
    n_1≠(0:Int)/\∃es_1,Gives CC 160 [Dd (F0 V1 (ep n n_1))] [Dd (Hu es_1)]/\Q [Dd (Hu es),Dd (Hu es_1)]:=by
 have hx:=Qg (qc x) h1;have a0:=Qg (qc y) h2;rw[qh]at hx a0;have bx:x<1000000000000000000:=by have h:=qX (qc x);rw[qh]at h;exact g7 h (hM (hK (by omega) h1) (by decide))
 have by_:y<1000000000000000000:=by have h:=qX (qc y);rw[qh]at h;exact g7 h (hM (hK (by omega) h2) (by decide))
 have e1:eb (x:Int) (y:Int)=((x/y:Nat):Int):=(el x y).symm;have e2:ep (x:Int) (y:Int)=((x%y:Nat):Int):=(ez x y).symm;have l1:x/y<=x:=ks _ _;have l2:x%y<y:=hS _ (by omega);refine⟨_,hx,_,a0,by omega,?_⟩;rw[e1,e2];generalize x/y=q at *;generalize x%y=r at *;rw[xI];exact⟨_,wW (by omega),by omega,_,wW (by omega),hQ⟩
theorem jg:we:=by
 intro x y hy hlx hly;by_cases hsmall:(lim x).length<=2/\(lim y).length<=2
 .refine qj (anns:=eB ⟨[.own 12 173 1,.slot 11 (.slice none 0 0),.slot 14 (.int .i64 0)],[],λ_ _=>True,λ_=>0⟩ ⟨[.slot 16 (.int .u64 0),.slot 17 (.slice none 0 0)],[.slot 11 (.slice none 0 0),.slot 14 (.int .i64 0),.own 12 173 1],λ_ _=>True,λ_=>0⟩ ⟨[.own 19 174 1,.slot 18 (.int .u64 0),.slot 20 (.int .i64 0)],[.slot 11 (.slice none 0 0)],λ_ _=>True,λ_=>0⟩
   ⟨[],[],λ_ _=>False,λ_=>0⟩ ⟨[.slot 15 (.int .u64 0)],[.slot 11 (.slice none 0 0)],λ_ _=>True,λ_=>0⟩ ⟨[.slot 15 (.int .u64 0)],[.slot 11 (.slice none 0 0)],λ_ _=>True,λ_=>0⟩ ⟨[.slot 16 (.int .u64 0)],[.slot 11 (.slice none 0 0)],λ_ _=>True,λ_=>0⟩) mixedT Tryz.func292 ?_
  unfold eB;rw[Vl];simp only[dl,qg];refine⟨brd (λ_=>brd (λ_=>Y1 (Q:=λrs=>rs=[.c (.sl (raw (lim (x/y)))),.c (.sl (raw (lim (x%y))))]) hsmall.1 hsmall.2 hy rfl) (λh=>?_)) (λh=>?_),λh=>h.elim⟩
  .exact h (by have:=hsmall.2;omega)
  .exact h (by have:=hsmall.1;omega)
 ·--the scale
  obtain⟨d,s,hd0,hd1,hdl,ap,hs,b0⟩:=PT hy;have hlyp:0<(lim y).length:=qC.2 (by omega);obtain⟨V,hV⟩:∃V,V=y*s:=⟨_,rfl⟩;obtain⟨U,hU⟩:∃U,U=x*s:=⟨_,rfl⟩;have an:0<V:=by rw[hV];exact lx (by omega) ap
  have bc:=L7 (qc y) b0 (by omega);have bb:=L7 (qc x) b0 (by omega);rw[qh,<-hV]at bc;rw[qh,<-hU]at bb;have hlV:(lim V).length<=(lim y).length+1:=by rw[hV];exact yv b0
  have hlU:(lim U).length<=(lim x).length+1:=by rw[hU];exact yv b0
  have hlVp:0<(lim V).length:=qC.2 an;obtain⟨p,hp⟩:∃p,(lim V).length=p+1:=⟨(lim V).length-1,by omega⟩;obtain⟨v1,hv1,hv0,hvB,hvl,hvP,b9⟩:=IK hp;have hwd:U3 .u32 (U3 .u64 (eb 1000000000 (U3 .u64 (U3 .u64 (d:Int)+1))))=(s:Int):=by rw[xI (n:=(d:Int)),xI (n:=(d:Int)+1)];have:eb (1000000000:Int) ((d:Int)+1)=((1000000000/(d+1):Nat):Int):=(el 1000000000 (d+1)).symm;rw[this,<-hs,xI,j5]
  have hws:U3 .u64 (s:Int)=(s:Int):=xI;have hwp:U3 .i64 (((lim V).length:Int)-1)=(p:Int):=by rw[hp,qR];omega
  have hwv:U3 .u64 (v1:Int)=(v1:Int):=xI;refine qj (anns:=eB
   ⟨[.own 12 173 1,.slot 11 (.slice none 0 0),.slot 14 (.int .i64 0)],[],λ_ ds=>∃(kk:Nat) (ql:List Nat) (R:Nat),ds=[.sl (raw (fe kk 0++ql)),.sl (raw (lim R)),.int .i64 ((kk:Int)-1)]/\qr (lim U) V kk ql R,λds=>(toI (nth .undef ds 2)+1).toNat⟩
   ⟨[.slot 16 (.int .u64 0),.slot 17 (.slice none 0 0)],[.slot 11 (.slice none 0 0),.slot 14 (.int .i64 0),.own 12 173 1],λgs ds=>∃(T g:Nat),nth .undef gs 0= .sl (raw (lim T))/\ds=[.int .u64 (g:Int),.sl (raw (lim (V*g)))]/\T/V<=g/\g<=999999999,λds=>(toI (nth .undef ds 0)).toNat⟩
   ⟨[.own 19 174 1,.slot 18 (.int .u64 0),.slot 20 (.int .i64 0)],[.slot 11 (.slice none 0 0)],λgs ds=>∃(R kk:Nat) (ql:List Nat) (t:Nat),gs=[.sl (raw (lim R))]/\ds=[.sl (raw (fe kk 0++ql)),.int .u64 (t:Int),.int .i64 ((kk:Int)-1)]/\qr (lim R) s kk ql t,λds=>(toI (nth .undef ds 2)+1).toNat⟩
   ⟨[],[],λ_ _=>True,λ_=>0⟩
   ⟨[.slot 15 (.int .u64 0)],[.slot 11 (.slice none 0 0)],λgs ds=>∃T:Nat,gs=[.sl (raw (lim T))]/\ds=[.int .u64 ((T/1000000000^(p+1)*1000000000:Nat):Int)],λ_=>0⟩
   ⟨[.slot 15 (.int .u64 0)],[.slot 11 (.slice none 0 0)],λgs ds=>∃T:Nat,gs=[.sl (raw (lim T))]/\ds=[.int .u64 ((T/1000000000^p:Nat):Int)],λ_=>0⟩
   ⟨[.slot 16 (.int .u64 0)],[.slot 11 (.slice none 0 0)],λgs ds=>∃(T g:Nat),gs=[.sl (raw (lim T))]/\ds=[.int .u64 (g:Int)]/\T/V<=g/\g<=999999999,λ_=>0⟩) mixedT Tryz.func292 ?_
  unfold eB;rw[Vl];simp only[dl,qg];refine⟨brd (λ_=>brd (λh=>?_) (λ_=>trivial)) (λ_=>trivial),λ_=>?_⟩
  .exact absurd ⟨by omega,by omega⟩ hsmall
  have hwl:U3 .i64 (((lim y).length:Int)-1)=(((lim y).length-1:Nat):Int):=by rw[qR];omega
  have hwx:U3 .i64 (((lim x).length:Int)+1)=(((lim x).length+1:Nat):Int):=by rw[qR];omega
  rw[hwl,hwx,dv,dv];have hdc:cut (nth [] (raw (lim y)) ((lim y).length-1)) 0 1 [.int .u32 (d:Int)]:=by have:=qz (l:=lim y) (i:=(lim y).length-1) (by omega);rw[hdl (by omega)]at this;exact this
  refine⟨⟨by omega,by omega,qw (by omega)⟩,_,hdc,?_⟩;rw[hwd];refine⟨?_,_,bc,?_⟩
  .rw[xI (n:=(d:Int)),xI (n:=(d:Int)+1)];omega
  have hvc:cut (nth [] (raw (lim V)) p) 0 1 [.int .u32 (v1:Int)]:=by have:=qz (l:=lim V) (i:=p) (by omega);rw[hvl (by omega)]at this;exact this
  rw[qg,hwp,dv];refine⟨⟨by omega,by omega,qw (by omega)⟩,_,hvc,⟨by omega,by omega,by unfold room;omega⟩,_,bb,?_⟩;rw[hws,hwv];simp only[qg,fg,dv];refine⟨⟨by omega,by omega⟩,⟨(lim U).length,[],0,?_,qr.start an⟩,?_⟩
  .rw[List.take_replicate,hE hlU,xr,gr,qR];rfl
  rintro es es_3 n_2 ⟨kk,ql,R,he,hq⟩;simp only[gv,Hy,Hx,true_and,and_true]at he;obtain⟨rfl,rfl,rfl⟩:=he;refine brd (λh=>?_) (λh=>?_)
  .obtain⟨k,rfl⟩:∃k,kk=k+1:=⟨kk-1,by omega⟩;have b5:((k+1:Nat):Int)-1=(k:Int):=by omega
   have a3:k<(lim U).length:=by have:=hq.1;omega
   obtain⟨c,hc⟩:∃c,(lim U)[k]=c:=⟨_,rfl⟩;have a1:c<1000000000:=hc▸(qc U).get a3;have a6:R<V:=hq.2.2.1;obtain⟨T,hT⟩:∃T,T=c+1000000000*R:=⟨_,rfl⟩;have a0:=hq.next a1 (λ_=>hc)
   rw[<-hT]at a0;have b7:T<1000000000*V:=hT▸GN a1 a6;have b8:T/V<1000000000:=hT▸vc a1 a6;have hlR:(lim R).length<=(lim V).length:=Bg (iz a6);have hlT:(lim T).length<=(lim V).length+1:=by refine hM (Bg (iz b7)) ?_;rw[gz];apply qp;rw[hp,hj];exact h8 b9 (by omega)
   have al:Gives CC 241 [.c (.sl ([F0 .u32 (c:Int)]::raw (lim R)))] [.c (.sl (raw (lim T)))]:=by have h:=j6 (l:=c::lim R) ((qc R).cons a1) (by rw[gp];omega);rw[show val (c::lim R)=T by show c+1000000000*val (lim R)=T;rw[qh,hT]]at h;exact h
   have a2:cut (nth [] (raw (lim U)) k) 0 1 [.int .u32 (c:Int)]:=by have h:=qz (l:=lim U) (i:=k) a3;rw[hc]at h;exact h
   obtain⟨hH1,hH0⟩:=D6 b7 b9;rw[b5,dv];refine⟨⟨by omega,by omega,qw a3⟩,_,a2,⟨by rw[qg];unfold room;omega,zK _⟩,_,al,?_⟩;simp only[qg];rw[hp];refine⟨brd (λh2=>?_) (λh2=>?_),?_⟩
   .have a4:p+1<(lim T).length:=by omega
    have a7:=qz (l:=lim T) (i:=p+1) a4;have hg:=Xq (p+1) T;rw[g4 hH1,gn,ft a4,Option.getD_some]at hg;rw[hg]at a7;refine⟨⟨by omega,by omega,qw a4⟩,_,a7,T,rfl,?_⟩;generalize T/1000000000^(p+1)=t at *;rw[xI (n:=(t:Int)),xI];rfl
   .have:=Vm (n:=T) (i:=p+1) (by omega);exact⟨T,rfl,by rw[this];rfl⟩
   rintro n ⟨T',h2,h3⟩;simp only[gv,Hy,Hx,true_and,and_true]at h2 h3;obtain rfl:=Qj h2;subst h3;refine⟨brd (λh2=>?_) (λh2=>?_),?_⟩
   .have a4:p<(lim T).length:=by omega
    have a7:=qz (l:=lim T) (i:=p) a4;have hg:=Xq p T;rw[gn,ft a4,Option.getD_some]at hg;rw[hg]at a7;refine⟨⟨by omega,by omega,qw a4⟩,_,a7,T,rfl,?_⟩;have b1:=Vn (R:=T) (n:=p);have hm:=hS (T/1000000000^p) (show 1000000000>0 by omega);generalize T/1000000000^(p+1)=t at *;generalize T/1000000000^p=t2 at *;generalize t2%1000000000=t3 at *;rw[xI (n:=(t3:Int)),xI,<-b1];rfl
   .have h4:=Vm (n:=T) (i:=p) (by omega);have b1:=Vn (R:=T) (n:=p);rw[h4,Nat.zero_mod,k5]at b1;exact⟨T,rfl,by rw[h4,b1]⟩
   rintro n ⟨T',h2,h3⟩;simp only[gv,Hy,Hx,true_and,and_true]at h2 h3;obtain rfl:=Qj h2;subst h3;have hup:T/V<=T/1000000000^p/v1:=IH (vl:=V-v1*1000000000^p) (Nat.add_sub_cancel' hvP).symm (lx hv0 (ib (by omega)));have htd:eb ((T/1000000000^p:Nat):Int) (v1:Int)=((T/1000000000^p/v1:Nat):Int):=(el _ _).symm;have hle:T/1000000000^p/v1<=T/1000000000^p:=ks _ _;rw[htd];generalize T/1000000000^p/v1=G at *;generalize T/1000000000^p=H at *;rw[xI (n:=(G:Int))];refine⟨by omega,brd (λh2=>?_) (λh2=>?_),?_⟩
   .exact⟨T,999999999,rfl,rfl,by generalize T/V=q at *;omega,by omega⟩
   .exact⟨T,G,rfl,rfl,hup,by omega⟩
   rintro n ⟨T',g,h2,h3,bd,hg2⟩;simp only[gv,Hy,Hx,true_and,and_true]at h2 h3;obtain rfl:=Qj h2;subst h3;have ba:=L7 (qc V) (d:=g) (by omega) (by omega);rw[qh]at ba;rw[j5 (n:=(g:Int))];refine⟨_,ba,⟨T,g,rfl,rfl,bd,hg2⟩,?_⟩;rintro n es_6 ⟨T',g',h2,h3,ad,hg2'⟩;simp only[nth,gv,Hy,Hx,true_and,and_true]at h2 h3;obtain rfl:=Qj h2;obtain⟨rfl,rfl⟩:=h3;have hlg:(lim (V*g')).length<=(lim V).length+1:=yv (by omega);refine⟨_,jR (x:=V*g') (y:=T) (by omega) (by omega),brd (λh2=>?_) (λh2=>?_)⟩
   .have hgt:T<V*g':=by
     unfold Qw at h2;split at h2
     .omega
     .split at h2
      .assumption
      .omega
    have b2:T/V<g':=II an hgt;have b3:0<g':=hW (ka _) b2;have b4:T/V<=g'-1:=ie b2;clear b2 bd ad b8;have hm:=Qi (qc (V*g')) (qc V) (by omega) (by rw[qh,qh];exact k3 _ b3);rw[qh,qh,show V*g'-V=V*(g'-1)by rw[Nat.mul_sub_one]]at hm;have hw:U3 .u64 ((g':Int)-1)=((g'-1:Nat):Int):=by rw[xI];omega
    rw[hw];exact⟨_,hm,⟨T,g'-1,rfl,rfl,b4,by omega⟩,by simp only[nth,toI];omega⟩
   .have ag:V*g'<=T:=by
     unfold Qw at h2;split at h2
     .omega
     .split at h2
      .omega
      .omega
    have be:=IJ an ag ad;have hm:=Qi (qc T) (qc (V*g')) (by omega) (by rw[qh,qh];exact ag);rw[qh,qh,be,D5]at hm;rw[be];have a5:U3 .u32 ((T/V:Nat):Int)=((T/V:Nat):Int):=by have h5:=b8;generalize T/V=q at h5;exact j5
    rw[a5,xT (by rw[fy,fg];omega),GO];have hw:U3 .i64 ((k:Int)-1)=(k:Int)-1:=qR;rw[hw];refine⟨_,hm,⟨by omega,by simp only[fy,fg];omega⟩,by omega,⟨k,_,_,rfl,a0⟩,?_⟩;simp only[nth,toI];omega
  .obtain rfl:kk=0:=by omega
   have b6:=hq.fin;rw[qh]at b6;have e1:U/V=x/y:=by rw[hU,hV];exact k7 _ _ ap
   have e2:U%V=x%y*s:=by rw[hU,hV];exact k6 _ _ _
   rw[e1,e2]at b6;obtain⟨hv,hR⟩:=b6;have a6:R<V:=hq.2.2.1;have hlR:(lim R).length<=(lim V).length:=Bg (iz a6);have hlq:ql.length=(lim U).length:=by have:=hq.1;omega
   have hLq:Limbs ql:=hq.2.1;simp only[qg];refine⟨⟨by omega,by omega,by unfold room;omega⟩,⟨R,(lim R).length,[],0,rfl,?_,qr.start ap⟩,?_⟩
   .rw[gr,xr,qR];rfl
   rintro es_4 n_3 n_4 ⟨R',kk,ll,t,h2,h3,hr⟩;simp only[gv,Hy,Hx,true_and,and_true]at h2 h3;obtain rfl:=Qj h2;obtain⟨rfl,rfl,rfl⟩:=h3;refine brd (λh4=>?_) (λh4=>?_)
   .obtain⟨k,rfl⟩:∃k,kk=k+1:=⟨kk-1,by omega⟩;have b5:((k+1:Nat):Int)-1=(k:Int):=by omega
    have a3:k<(lim R).length:=by have:=hr.1;omega
    obtain⟨c,hc⟩:∃c,(lim R)[k]=c:=⟨_,rfl⟩;have a1:c<1000000000:=hc▸(qc R).get a3;have hts:t<s:=hr.2.2.1;have a0:=hr.next a1 (λ_=>hc)
    have hq:=vc a1 hts;have a2:cut (nth [] (raw (lim R)) k) 0 1 [.int .u32 (c:Int)]:=by have h:=qz (l:=lim R) (i:=k) a3;rw[hc]at h;exact h
    have hw:U3 .u64 (U3 .u64 ((t:Int)*1000000000)+U3 .u64 (c:Int))=((c+1000000000*t:Nat):Int):=by rw[xI (n:=(c:Int)),xI (n:=(t:Int)*1000000000),xI];omega
    generalize c+1000000000*t=T at *;have hd:=(el T s).symm;have hm:=(ez T s).symm;rw[b5,dv];refine⟨⟨by omega,by omega,qw a3⟩,_,a2,?_⟩;rw[hw];rw[hd,hm];have a5:U3 .u32 (U3 .u64 ((T/s:Nat):Int))=((T/s:Nat):Int):=by have h5:=hq;generalize T/s=q at h5;rw[xI];exact j5
    rw[a5,xT (by rw[fy,fg];omega),GO];have hw:U3 .i64 ((k:Int)-1)=(k:Int)-1:=qR;rw[hw];refine⟨by omega,⟨by omega,by simp only[qg,fy,fg];omega⟩,by omega,by omega,⟨R,k,_,_,rfl,rfl,a0⟩,?_⟩;simp only[nth,toI];omega
   .obtain rfl:kk=0:=by omega
    have bg:=hr.fin;rw[qh,hR,kH _ ap]at bg;have ho:=j6 hLq (by omega);rw[hv]at ho;have hl:=j6 hr.2.1 (by have:=hr.1;omega);rw[bg.1]at hl;exact⟨_,ho,_,hl,rfl⟩
end Eng
end
section
namespace Eng
open Go Go.Proofs
variable [Env]
def eqL {α:Type} (e:α->α->Bool):List α->List α->Bool
 |[],[]=>true
 |a::xs,b::ys=>e a b&&eqL e xs ys
 |_,_=>false
omit [Env] in
theorem j0 {α:Type} {e:α->α->Bool} (h:∀a b,e a b=true->a=b):∀{xs ys:List α},eqL e xs ys=true->xs=ys
 |[],[],_=>rfl
 |a::xs,b::ys,hh=>by simp only[eqL,Aw]at hh;rw[h a b hh.1,j0 h hh.2]
 |[],_::_,hh=>by simp[eqL]at hh
 |_::_,[],hh=>by simp[eqL]at hh
def eqB:UInt8->UInt8->Bool:=λa b=>gy a.toNat b.toNat
def eC (a b:Int×List Nat):Bool:=decide (a.1=b.1)&&eqL gy a.2 b.2
omit [Env] in
theorem LT (a b:Int×List Nat) (h:eC a b=true):a=b:=by
 unfold eC at h;rw[Aw,decide_eq_true_eq]at h;exact Prod.ext h.1 (j0 (λa b hh=>gx hh) h.2)
def eqD:Nat->D->D->Bool
 |0,_,_=>false
 |_+1,.undef,.undef=>true
 |_+1,.bool a,.bool b=>a==b
 |_+1,.int k a,.int k' b=>decide (k=k')&&decide (a=b)
 |_+1,.str s,.str t=>eqL eqB s t
 |n+1,.sl es,.sl fs=>eqL (eqL (eqD n)) es fs
 |_+1,.ifc a,.ifc b=>a==b
 |_+1,.fn a,.fn b=>gy a b
 |_+1,.nilP,.nilP=>true
 |n+1,.ptr cs,.ptr ds=>eqL (eqD n) cs ds
 |n+1,.clo f ps,.clo g qs=>gy f g&&eqL (eqD n) ps qs
 |_+1,.tok p i,.tok q j=>gy i j&&eqL eC p q
 |_+1,_,_=>false
omit [Env] in
theorem IL (a b:UInt8) (h:eqB a b=true):a=b:=UInt8.toNat_inj.1 (gx h)
omit [Env] in
theorem JD (n:Nat):∀(a b:D),eqD n a b=true->a=b:=by
 induction n with
 |zero=>intro a b h;simp[eqD]at h
 |succ n ih=>
  intro a b h;cases a<;>cases b<;>simp only[eqD,Aw,decide_eq_true_eq,beq_iff_eq,Bool.false_eq_true]at h
  all_goals first
   |rfl
   |(rw[h];done)
   |(rw[h.1,h.2];done)
   |(rw[j0 IL h];done)
   |(rw[j0 ih h];done)
   |(rw[gx h.1,j0 ih h.2];done)
   |(rw[j0 (λa b hh=>j0 ih hh) h];done)
   |(rw[gx h];done)
   |rw[gx h.1,j0 LT h.2]
def eqA:A->A->Bool
 | .c a,.c b=>eqD 20 a b
 | .ag a,.ag b=>eqL (eqD 20) a b
 |_,_=>false
omit [Env] in
theorem Br (a b:A) (h:eqA a b=true):a=b:=by
 unfold eqA at h;split at h
 .rw[JD _ _ _ h]
 .rw[j0 (JD 20) h]
 .simp at h
end Eng
end
section
namespace Eng
open Go Go.Proofs
variable [Env]
def W (acc w:Nat):Nat:=acc*4722366482869645213696+w
def gS:IntKind->Nat
 | .u8=>0| .u16=>1| .u32=>2| .u64=>3| .i8=>4| .i16=>5| .i32=>6| .i64=>7
def Bs (acc:Nat):Int->Nat
 | .ofNat n=>W (W acc 0) n
 | .negSucc n=>W (W acc 1) n
def PU {α:Type} (e:Nat->α->Nat) (acc:Nat) (l:List α):Nat:=l.foldl e (W acc l.length)
def encE (acc:Nat) (l:List Nat):Nat:=PU W acc l
def encP (acc:Nat) (p:List (Int×List Nat)):Nat:=PU (λa m=>encE (Bs a m.1) m.2) acc p
def IM:Nat->Nat->D->Nat
 |0,acc,_=>W acc 99
 |_+1,acc,.undef=>W acc 0
 |_+1,acc,.bool b=>W (W acc 1) (match b with|true=>1|false=>0)
 |_+1,acc,.int k n=>Bs (W (W acc 2) (gS k)) n
 |_+1,acc,.str s=>PU (λa (b:UInt8)=>W a b.toNat) (W acc 3) s
 |n+1,acc,.sl es=>PU (PU (IM n)) (W acc 4) es
 |_+1,acc,.ifc b=>W (W acc 5) (match b with|true=>1|false=>0)
 |_+1,acc,.nilP=>W acc 6
 |_+1,acc,.fn f=>W (W acc 7) f
 |n+1,acc,.ptr cs=>PU (IM n) (W acc 8) cs
 |n+1,acc,.clo f ps=>PU (IM n) (W (W acc 9) f) ps
 |_+1,acc,.tok p i=>encP (W (W acc 10) i) p
 |_+1,acc,.map _=>W acc 11
def encA (acc:Nat):A->Nat
 | .c d=>IM 20 (W acc 0) d
 | .ag cs=>PU (IM 20) (W acc 1) cs
def keyA (al:List A):Nat:=PU encA (W 1 2) al%997
abbrev qe:=Nat×Nat×List A×List A
def Y2 (f key:Nat) (al:List A):List qe->Option (List A)
 |[]=>none
 |(f0,k0,al0,rs0)::r=>match gy f f0 with
  |true=>match gy key k0 with
   |true=>match eqL eqA al al0 with
    |true=>some rs0
    |false=>Y2 f key al r
   |false=>Y2 f key al r
  |false=>Y2 f key al r
def Wj (C:Cx):List qe->Prop
 |[]=>True
 |(f0,_,al0,rs0)::r=>Gives C f0 al0 rs0/\Wj C r
def hasF (f:Nat):List qe->Bool
 |[]=>false
 |(f0,_)::r=>match gy f f0 with
  |true=>true
  |false=>hasF f r
def Bt (ents:List qe) (tab:Nat->List A->Option (List A)) (f:Nat) (al:List A):Option (List A):=
 match hasF f ents with
 |true=>match keyA al with
  |0=>tab f al
  |k+1=>match Y2 f (k+1) al ents with
   |some rs=>some rs
   |none=>tab f al
 |false=>tab f al
theorem Xr {C:Cx} {f key:Nat} {al rs:List A}:∀{ents:List qe},Wj C ents->Y2 f key al ents=some rs->Gives C f al rs
 |[],_,h=>by simp[Y2]at h
 |(f0,k0,al0,rs0)::r,hg,h=>by
  obtain⟨h1,h2⟩:=hg;unfold Y2 at h;split at h
  .rename_i hf;split at h
   .split at h
    .rename_i ha;obtain rfl:=gx hf;obtain rfl:=j0 Br ha;simp only[lD]at h;subst h;exact h1
    .exact Xr h2 h
   .exact Xr h2 h
  .exact Xr h2 h
theorem KL {C:Cx} {ents:List qe} {tab:Nat->List A->Option (List A)} (h0:Wj C ents) (h:∀f al rs,tab f al=some rs->Gives C f al rs) (f:Nat) (al rs:List A) (hh:Bt ents tab f al=some rs):Gives C f al rs:=by
 unfold Bt at hh;split at hh
 .split at hh
  .exact h _ _ _ hh
  .split at hh
   .rename_i rs' hf;simp only[lD]at hh;subst hh;exact Xr h0 hf
   .exact h _ _ _ hh
 .exact h _ _ _ hh
end Eng
end
section
namespace Eng
open Go Go.Proofs Rl
def tk (p:Pol):List D:=[.tok p 0,.tok p 1,.tok p 2,.tok p 3]
def Qk (x:Rat):Nat->D
 |0=> .bool (decide (x.num<0))
 |1=> .sl (raw (lim x.num.natAbs))
 |2=> .bool (decide ((x.den:Int)<0))
 |_=> .sl (raw (lim (x.den:Int).natAbs))
def U1 (ρ:Nat->Rat) (bd:Pol->Nat->Int) (p:Pol) (i:Nat):D:=
 match lp 4 i with
 |false=>Qk (evP ρ p) i
 |true=>match gy i 8 with
  |true=> .bool (decide (bd p i≠0))
  |false=> .int .i64 (bd p i)
@[reducible] def envP (ρ:Nat->Rat) (bd:Pol->Nat->Int):Env:=⟨U1 ρ bd,λp i h=>by
  unfold U1;rw[h];cases gy i 8 with
  |true=>exact .inl ⟨_,rfl⟩
  |false=>exact .inr ⟨_,_,rfl⟩⟩
theorem IN (x:Rat):xy x= .ag [Qk x 0,Qk x 1,Qk x 2,Qk x 3]:=rfl
section
variable {ρ:Nat->Rat} {bd:Pol->Nat->Int}
theorem JE {w:World} {F:Nat->Prop} {p:Pol} {i:Nat} {v:Value} (hi:lp 4 i=false): @CD (envP ρ bd) w F (.tok p i) v↔ @CD (envP ρ bd) w F (Qk (evP ρ p) i) v:=by
 have e:(envP ρ bd).E p i=Qk (evP ρ p) i:=by show U1 ρ bd p i=_;unfold U1;rw[hi]
 rw[<-e];constructor
 .intro h;cases h;assumption
 .intro h;exact @CD.tok (envP ρ bd) w F p i v h
theorem Av {w:World} {F:Nat->Prop} {p:Pol} {v:Value}: @CA (envP ρ bd) w F (.ag (tk p)) v↔ @CA (envP ρ bd) w F (xy (evP ρ p)) v:=by
 rw[IN];unfold CA;constructor
 .rintro⟨vs,rfl,h⟩;refine⟨vs,rfl,?_⟩;generalize vs.toList=l at h ⊢
  match l,h with
  |[a,b,c,d],⟨h1,h2,h3,h4,_⟩=>exact⟨(JE rfl).1 h1,(JE rfl).1 h2,(JE rfl).1 h3,(JE rfl).1 h4,trivial⟩
 .rintro⟨vs,rfl,h⟩;refine⟨vs,rfl,?_⟩;generalize vs.toList=l at h ⊢
  match l,h with
  |[a,b,c,d],⟨h1,h2,h3,h4,_⟩=>exact⟨(JE rfl).2 h1,(JE rfl).2 h2,(JE rfl).2 h3,(JE rfl).2 h4,trivial⟩
end
theorem Gives.conv [Env] {C:Cx} {f:Nat} {al al' rs rs':List A} (ha:∀w F vs,All2 (CA w F) al' vs->All2 (CA w F) al vs) (hr:∀w F v,Qv w F rs v->Qv w F rs' v) (h:Gives C f al rs):Gives C f al' rs':=by
 intro w F vs hF hi hv;refine(h w F vs hF hi (ha w F vs hv)).mono λe w' he=>?_
 obtain⟨hb,v,rfl,k⟩:=he;exact⟨hb,v,rfl,hr _ _ _ k⟩
def IO:List Nat->Nat
 |[]=>0
 |e::r=>e+IO r
def Vo:Pol->Bool
 |[]=>true
 |(c,_)::r=>decide (c.natAbs<=1000000000000000000)&&Vo r
def szP:Pol->Nat
 |[]=>0
 |(_,e)::r=>18+20*IO e+1+szP r
def wC (p:Pol):Bool:=Vo p&&decide (szP p<=70000)
theorem Bu {x:Rat} (h:Hz 20 x):∀n,Hz (20*n) (KD x n)
 |0=>Hz.one
 |n+1=>h.mul (Bu h n)
theorem Bv {ρ:Nat->Rat} (h:∀i,Hz 20 (ρ i)):∀(i:Nat) (e:List Nat),Hz (20*IO e) (evE ρ i e)
 |_,[]=>Hz.one
 |i,e::r=>(Bu (h i) e).mul (Bv h (i+1) r) (by simp only[IO];omega)
theorem GP {ρ:Nat->Rat} (h:∀i,Hz 20 (ρ i)):∀p:Pol,Vo p=true->Hz (szP p) (evP ρ p)
 |[],_=>Hz.zero
 |(c,e)::r,hc=>by unfold Vo at hc;rw[Aw,decide_eq_true_eq]at hc;have h1:Hz 18 (c:Rat):=Hz.int (by rw[show(10:Nat)^18=1000000000000000000 by decide];exact hc.1);have h2:=h1.mul (Bv h 0 e) (l:=18+20*IO e);exact h2.add (GP h r hc.2) (by simp only[szP];omega)
theorem v9 {ρ:Nat->Rat} (h:∀i,Hz 20 (ρ i)) {p:Pol} (hs:wC p=true):Sr (evP ρ p):=by
 unfold wC at hs;rw[Aw,decide_eq_true_eq]at hs;exact(GP h p hs.1).sr (by omega)
def PV (p q:Pol):Bool:=eqL eC p q
theorem vd {p q:Pol} (h:PV p q=true):p=q:=j0 LT h
def unT:List D->Option Pol
 |[.tok p 0,.tok p1 1,.tok p2 2,.tok p3 3]=>match PV p p1&&(PV p p2&&PV p p3)with
  |true=>some p
  |false=>none
 |_=>none
theorem Vp {ds:List D} {p:Pol} (h:unT ds=some p):ds=tk p:=by
 unfold unT at h;split at h
 .split at h
  .rename_i hh;obtain rfl:=lT h;simp only[Aw]at hh;rw[<-vd hh.1,<-vd hh.2.1,<-vd hh.2.2];rfl
  .cases h
 .cases h
def gT:List Nat->List Nat->Option (List Nat)
 |e,[]=>some e
 |[],0::r=>gT [] r
 |[],(_+1)::_=>none
 |a::r,b::s=>match lp b a,gT r s with
  |true,some t=>match a-b,t with
   |0,[]=>some []
   |n,t=>some (n::t)
  |_,_=>none
def D7:Pol->Option Mon
 |[]=>none
 |[m]=>some m
 |_::r=>D7 r
def divF:Nat->Pol->Mon->Pol->Pol->Option Pol
 |0,_,_,_,_=>none
 |n+1,p,m,q,acc=>match D7 p with
  |none=>some acc
  |some (c,e)=>match gT e m.2 with
   |some e'=>divF n (jD p (vZ (ZO [(c/m.1,e')] q))) m q (jD [(c/m.1,e')] acc)
   |none=>none
def eD (p q:Pol):Option Pol:=
 match p with
 |[]=>some []
 |p=>match D7 q with
  |some m=>match divF 40 p m q []with
   |some r=>match PV (ZO r q) p with
    |true=>some r
    |false=>none
   |none=>none
  |none=>none
structure Ids where
 add:Nat
 sub:Nat
 mul:Nat
 neg:Nat
 sign:Nat
 cmp:Nat
 div:Nat
 int:Nat
def IP (p:Pol):Option (List A):=some [.ag (tk p)]
def pC (n:Int):Pol:=match n with
 | .ofNat 0=>[]
 |n=>[(n,[])]
def eE (k:Ids) (sg:Pol->Option Int) (f:Nat) (al:List A):Option (List A):=
 match al with
 |[.ag x]=>match unT x with
  |some p=>match wC p with
   |true=>match gy f k.neg with
    |true=>IP (vZ p)
    |false=>match gy f k.sign with
     |true=>match sg p with
      |some s=>some [.c (.int .i64 s)]
      |none=>none
     |false=>none
   |false=>none
  |none=>none
 |[.ag x,.ag y]=>match unT x,unT y with
  |some p,some q=>match wC p&&wC q with
   |true=>match gy f k.add with
    |true=>IP (jD p q)
    |false=>match gy f k.sub with
     |true=>IP (jD p (vZ q))
     |false=>match gy f k.mul with
      |true=>IP (ZO p q)
      |false=>match gy f k.cmp with
       |true=>match sg (jD p (vZ q))with
        |some s=>some [.c (.int .i64 s)]
        |none=>none
       |false=>match gy f k.div with
        |true=>match sg q,eD p q with
         |some (.ofNat (_+1)),some r=>some [.ag (tk r),.c (.int .i64 0)]
         |some (.negSucc _),some r=>some [.ag (tk r),.c (.int .i64 0)]
         |_,_=>none
        |false=>none
   |false=>none
  |_,_=>none
 |[.c (.int .i64 n)]=>match gy f k.int&&(decide (-9223372036854775808<=n)&&decide (n<9223372036854775808))with
  |true=>IP (pC n)
  |false=>none
 |_=>none
structure NumOk [Env] (k:Ids):Prop where
 add:∀x y,Sr x->Sr y->Gives CC k.add [xy x,xy y] [xy (x+y)]
 sub:∀x y,Sr x->Sr y->Gives CC k.sub [xy x,xy y] [xy (x-y)]
 mul:∀x y,Sr x->Sr y->Gives CC k.mul [xy x,xy y] [xy (x*y)]
 neg:∀x,Sr x->Gives CC k.neg [xy x] [xy (-x)]
 sign:∀x,Sr x->Gives CC k.sign [xy x] [.c (.int .i64 (sr x))]
 cmp:∀x y,Sr x->Sr y->Gives CC k.cmp [xy x,xy y] [.c (.int .i64 (sr (x-y)))]
 div:∀x y,Sr x->Sr y->y≠0->Gives CC k.div [xy x,xy y] [xy (x/y),.c (.int .i64 0)]
 int:∀n:Int, -9223372036854775808<=n->n<9223372036854775808->Gives CC k.int [.c (.int .i64 n)] [xy (n:Rat)]
section
variable {ρ:Nat->Rat} {bd:Pol->Nat->Int}
theorem Bw {w:World} {F:Nat->Prop} {p:Pol} {vs:List Value} (h:All2 (@CA (envP ρ bd) w F) [.ag (tk p)] vs):All2 (@CA (envP ρ bd) w F) [xy (evP ρ p)] vs:=by
 match vs,h with
 |[v],h=>exact⟨Av.1 h.1,trivial⟩
theorem IQ {w:World} {F:Nat->Prop} {p q:Pol} {vs:List Value} (h:All2 (@CA (envP ρ bd) w F) [.ag (tk p),.ag (tk q)] vs):All2 (@CA (envP ρ bd) w F) [xy (evP ρ p),xy (evP ρ q)] vs:=by
 match vs,h with
 |[u,v],h=>exact⟨Av.1 h.1,Av.1 h.2.1,trivial⟩
theorem Ax {w:World} {F:Nat->Prop} {p:Pol} {v:Value} (h: @Qv (envP ρ bd) w F [xy (evP ρ p)] v): @Qv (envP ρ bd) w F [.ag (tk p)] v:=Av.2 h
theorem zm (p q:Pol):evP ρ (jD p (vZ q))=evP ρ p-evP ρ q:=by rw[xM,yu];grind
theorem gU (n:Int):evP ρ (pC n)=(n:Rat):=by
 unfold pC;split
 .rfl
 .show(n:Rat)*1+0=n;grind
theorem D8 {p q r:Pol} (h:eD p q=some r) (hq:evP ρ q≠0):evP ρ r=evP ρ p/evP ρ q:=by
 unfold eD at h;split at h
 .obtain rfl:=lT h;show(0:Rat)=0/_
  grind
 .split at h
  .split at h
   .split at h
    .rename_i hh;obtain rfl:=lT h;have:=congrArg (evP ρ) (vd hh);rw[z3]at this
     grind
    .cases h
   .cases h
  .cases h
theorem LU {k:Ids} {sg:Pol->Option Int} (hk: @NumOk (envP ρ bd) k) (hz:∀i,Hz 20 (ρ i)) (hb:∀p s,sg p=some s->sr (evP ρ p)=s) (f:Nat) (al rs:List A) (h:eE k sg f al=some rs): @Gives (envP ρ bd) CC f al rs:=by
 letI:Env:=envP ρ bd
 unfold eE at h;split at h
 .rename_i x;split at h
  .rename_i p hp;obtain rfl:=Vp hp;split at h
   .rename_i hs;have a2:=v9 hz hs;split at h
    .rename_i e;obtain rfl:=gx e;obtain rfl:=lT h;have:=hk.neg _ a2;rw[<-yu]at this;exact this.conv (λ_ _ _ h=>Bw h) (λ_ _ _ h=>Ax h)
    .split at h
     .rename_i e;obtain rfl:=gx e;split at h
      .rename_i s a0;obtain rfl:=lT h;have:=hk.sign _ a2;rw[hb _ _ a0]at this;exact this.conv (λ_ _ _ h=>Bw h) (λ_ _ _ h=>h)
      .cases h
     .cases h
   .cases h
  .cases h
 .rename_i x y;split at h
  .rename_i p q hp hq;obtain rfl:=Vp hp;obtain rfl:=Vp hq;split at h
   .rename_i hs;rw[Aw]at hs;have h1:=v9 hz hs.1;have h2:=v9 hz hs.2;split at h
    .rename_i e;obtain rfl:=gx e;obtain rfl:=lT h;have:=hk.add _ _ h1 h2;rw[<-xM]at this;exact this.conv (λ_ _ _ h=>IQ h) (λ_ _ _ h=>Ax h)
    .split at h
     .rename_i e;obtain rfl:=gx e;obtain rfl:=lT h;have:=hk.sub _ _ h1 h2;rw[<-zm]at this;exact this.conv (λ_ _ _ h=>IQ h) (λ_ _ _ h=>Ax h)
     .split at h
      .rename_i e;obtain rfl:=gx e;obtain rfl:=lT h;have:=hk.mul _ _ h1 h2;rw[<-z3]at this;exact this.conv (λ_ _ _ h=>IQ h) (λ_ _ _ h=>Ax h)
      .split at h
       .rename_i e;obtain rfl:=gx e;split at h
        .rename_i s a0;obtain rfl:=lT h;have:=hk.cmp _ _ h1 h2;rw[<-zm,hb _ _ a0]at this;exact this.conv (λ_ _ _ h=>IQ h) (λ_ _ _ h=>h)
        .cases h
       .split at h
        .rename_i e;obtain rfl:=gx e;have go:∀{s:Int} {r:Pol},sg q=some s->s≠0->eD p q=some r->some [Bx (tk r),.c (.int .i64 0)]=some rs->Gives CC k.div [.ag (tk p),.ag (tk q)] rs:=by
          intro s r a0 hs0 hd he;obtain rfl:=lT he;have a1:evP ρ q≠0:=λe=>by have:=hb _ _ a0;rw[e]at this;simp[sr]at this;exact hs0 this.symm
          have:=hk.div _ _ h1 h2 a1;rw[<-D8 hd a1]at this;refine this.conv (λ_ _ _ h=>IQ h) (λ_ _ v h=>?_);obtain⟨vs,rfl,h⟩:=h;refine⟨vs,rfl,?_⟩;generalize vs.toList=l at h ⊢
          match l,h with
          |[u,v],h=>exact⟨Av.2 h.1,h.2⟩
         split at h
         .rename_i a0 hd;exact go a0 (by intro e;cases e) hd h
         .rename_i a0 hd;exact go a0 (by intro e;cases e) hd h
         .cases h
        .cases h
   .cases h
  .cases h
 .split at h
  .rename_i e;rw[Aw,Aw,decide_eq_true_eq,decide_eq_true_eq]at e;obtain rfl:=gx e.1;obtain rfl:=lT h;have:=hk.int _ e.2.1 e.2.2;rw[<-gU (ρ:=ρ)]at this;exact this.conv (λ_ _ _ h=>h) (λ_ _ _ h=>Ax h)
  .cases h
 .cases h
end
end Eng
end
section
namespace Eng
open Go Go.Proofs
variable [Env]
omit [Env] in
theorem tmul (x y:Rat):O6 (x.num*y.num) (x.den*y.den)=xy (x*y):=by
 rw[QC (ec (den_pos x) (den_pos y))];have e:x*y=ms (x.num*y.num) (x.den*y.den):=by rw[<-mx,mm,mm]
 rw[<-e]
omit [Env] in
theorem tadd (x y:Rat):O6 (x.num*y.den+y.num*x.den) (x.den*y.den)=xy (x+y):=by
 have px:=den_pos x;have py:=den_pos y;rw[QC (ec px py)];have e:x+y=ms (x.num*y.den+y.num*x.den) (x.den*y.den):=by rw[<-mu _ _ (by omega) (by omega),mm,mm]
 rw[<-e]
omit [Env] in
theorem tsub (x y:Rat):O6 (x.num*y.den+(-y.num)*x.den) (x.den*y.den)=xy (x-y):=by
 have px:=den_pos x;have py:=den_pos y;rw[QC (ec px py)];have e:x-y=ms (x.num*y.den+(-y.num)*x.den) (x.den*y.den):=by
  rw[m4,<-mu _ _ (by omega) (by omega),mm];have:ms (-y.num) y.den= -y:=by rw[<-m3];exact mm (-y)
  rw[this]
 rw[<-e]
omit [Env] in
theorem tneg (x:Rat):Bx (cI (-x.num)++cI x.den)=xy (-x):=by
 unfold xy cR;rw[m3];rfl
def sgZ (a:Int):Int:=match decide (a<0)with|true=> -1|false=>match decide (0<a)with|true=>1|false=>0
omit [Env] in
theorem LV (a:Int):sgZ a=sgn a:=by
 unfold sgZ sgn;by_cases h:a<0
 .rw[decide_eq_true h,if_pos h]
 .rw[decide_eq_false h,if_neg h];by_cases h2:0<a
  .rw[decide_eq_true h2];simp;omega
  .rw[decide_eq_false h2];simp;omega
def Ay (al:List A):Option Rat:=match al with
 |[a]=>rdR a
 |_=>none
omit [Env] in
theorem KM {al:List A} {x:Rat} (h:Ay al=some x):al=[xy x]/\Sr x:=by
 unfold Ay at h;split at h
 .rw[(JC h).1];exact⟨rfl,(JC h).2⟩
 .simp at h
def gV (al:List A):Option Int:=match al with
 |[a]=>rdI a
 |_=>none
omit [Env] in
theorem D9 {al:List A} {x:Int} (h:gV al=some x):al=[qN x]:=by
 unfold gV at h;split at h
 .rw[LR h]
 .simp at h
def U2 (f:Nat) (al:List A):Option (List A):=
 match f with
 |291=>match O5 al with|some (x,y)=>some [O6 (x.num*y.num) (x.den*y.den)]|none=>none
 |83=>match O5 al with|some (x,y)=>some [O6 (x.num*y.den+y.num*x.den) (x.den*y.den)]|none=>none
 |37=>match O5 al with|some (x,y)=>some [O6 (x.num*y.den+(-y.num)*x.den) (x.den*y.den)]|none=>none
 |39=>match O5 al with|some (x,y)=>some [.c (.int .i64 (Au (x.num*y.den) (y.num*x.den)))]|none=>none
 |84=>match Ay al with|some x=>some [.ag (cI (-x.num)++cI x.den)]|none=>none
 |101=>match Ay al with|some x=>some [.ag (cI (-x.num)++cI x.den)]|none=>none
 |140=>match Ay al with|some x=>some [.c (.int .i64 (sgZ x.num))]|none=>none
 |103=>match Ay al with|some x=>some [.c (.int .i64 (sgZ x.num))]|none=>none
 |38=>match al with
  |[.c (.int .i64 n)]=>match decide (-9223372036854775808<=n)&&decide (n<9223372036854775808)with
   |true=>some [.ag (cI n++cI 1)]
   |false=>none
  |_=>none
 |88=>match GM al with|some (x,y)=>some [qN (x*y)]|none=>none
 |157=>match GM al with|some (x,y)=>some [qN (x+y)]|none=>none
 |302=>match GM al with|some (x,y)=>some [qN (x-y)]|none=>none
 |87=>match GM al with|some (x,y)=>some [.c (.int .i64 (Au x y))]|none=>none
 |227=>match GM al with|some (x,y)=>some [qN (j2 x.natAbs y.natAbs:Nat)]|none=>none
 |238=>match GM al with
  |some (x,y)=>match decide (0<y)with
   |true=>some [qN (x/y),qN (x%y),.c (.int .i64 0)]
   |false=>none
  |none=>none
 |308=>match GM al with
  |some (x,y)=>match decide (0<y)with
   |true=>some [qN (x/y),qN (x%y),.c (.int .i64 0)]
   |false=>none
  |none=>none
 |225=>match gV al with|some x=>some [.c (.int .i64 (sgZ x))]|none=>none
 |86=>match al with|[]=>some [qN 1]|_=>none
 |85=>match al with
  |[.c (.int .i64 n)]=>match decide (-9223372036854775808<=n)&&decide (n<9223372036854775808)with
   |true=>some [qN n]
   |false=>none
  |_=>none
 |_=>gR f al
theorem yw (f:Nat) (al rs:List A) (h:U2 f al=some rs):Gives CC f al rs:=by
 unfold U2 at h;split at h
 .split at h
  .rename_i x y h1;obtain⟨rfl,hx,hy⟩:=wZ h1;simp only[lD]at h;subst h;rw[tmul];exact LC jg hx hy
  .simp at h
 .split at h
  .rename_i x y h1;obtain⟨rfl,hx,hy⟩:=wZ h1;simp only[lD]at h;subst h;rw[tadd];exact Yw jg hx hy
  .simp at h
 .split at h
  .rename_i x y h1;obtain⟨rfl,hx,hy⟩:=wZ h1;simp only[lD]at h;subst h;rw[tsub];exact LA jg hx hy
  .simp at h
 .split at h
  .rename_i x y h1;obtain⟨rfl,hx,hy⟩:=wZ h1;simp only[lD]at h;subst h;rw[KK,<-Zx];exact LB hx hy
  .simp at h
 .split at h
  .rename_i x h1;obtain⟨rfl,hx⟩:=KM h1;simp only[lD]at h;subst h;rw[tneg];exact Yv hx
  .simp at h
 .split at h
  .rename_i x h1;obtain⟨rfl,hx⟩:=KM h1;simp only[lD]at h;subst h;rw[tneg];exact K7 hx
  .simp at h
 .split at h
  .rename_i x h1;obtain⟨rfl,hx⟩:=KM h1;simp only[lD]at h;subst h;rw[LV];exact GJ x
  .simp at h
 .split at h
  .rename_i x h1;obtain⟨rfl,hx⟩:=KM h1;simp only[lD]at h;subst h;rw[LV];exact v8 x
  .simp at h
 .split at h
  .split at h
   .rename_i hb;simp only[lD]at h;subst h;simp only[Aw,decide_eq_true_eq]at hb;have g:=zN hb.1 hb.2;unfold xy cR at g;rw[na,nv]at g;exact g
   .simp at h
  .simp at h
 .split at h
  .rename_i x y h1;obtain⟨rfl,hx,hy⟩:=jy h1;simp only[lD]at h;subst h;exact jf hx hy
  .simp at h
 .split at h
  .rename_i x y h1;obtain⟨rfl,hx,hy⟩:=jy h1;simp only[lD]at h;subst h;exact Zz hx hy
  .simp at h
 .split at h
  .rename_i x y h1;obtain⟨rfl,hx,hy⟩:=jy h1;simp only[lD]at h;subst h;exact L8 hx hy
  .simp at h
 .split at h
  .rename_i x y h1;obtain⟨rfl,hx,hy⟩:=jy h1;simp only[lD]at h;subst h;rw[KK];exact KC hx hy
  .simp at h
 .split at h
  .rename_i x y h1;obtain⟨rfl,hx,hy⟩:=jy h1;simp only[lD]at h;subst h;exact Yu jg hx hy
  .simp at h
 .split at h
  .rename_i x y h1;obtain⟨rfl,hx,hy⟩:=jy h1;split at h
   .rename_i h2;simp only[lD]at h;subst h;exact jC jg hx hy (of_decide_eq_true h2)
   .simp at h
  .simp at h
 .split at h
  .rename_i x y h1;obtain⟨rfl,hx,hy⟩:=jy h1;split at h
   .rename_i h2;simp only[lD]at h;subst h;exact kx wY hx hy (of_decide_eq_true h2)
   .simp at h
  .simp at h
 .split at h
  .rename_i x h1;obtain rfl:=D9 h1;simp only[lD]at h;subst h;rw[LV];exact Qh x
  .simp at h
 .split at h
  .simp only[lD]at h;subst h;exact Xp
  .simp at h
 .split at h
  .split at h
   .rename_i hb;simp only[lD]at h;subst h;simp only[Aw,decide_eq_true_eq]at hb;exact zM hb.1 hb.2
   .simp at h
  .simp at h
 .exact D4 f al rs h
end Eng
end
section
namespace Eng
open Go Go.Proofs
variable [Env]
abbrev k9:=Option Nat->List V->List Obj->R
def IR (t:TypeId) (d:Option Nat):Bool:=I6 t d||match d with
 |some d=>((gy t 41||gy t 49)&&(gy d 28||(gy d 56||gy d 59)))||((gy t 359&&gy d 34)||((gy t 290&&gy d 46)||((gy t 30&&gy d 11)||((gy t 40&&gy d 38)||(gy t 162&&(gy d 38||(gy d 31||(gy d 61||gy d 64))))))))
 |none=>false
def U4 (f:Nat):List (Nat×k9)->Option k9
 |[]=>none
 |(g,e)::r=>match gy f g with
  |true=>some e
  |false=>U4 f r
def gW (ex:List (Nat×k9)) (f:Nat):Option k9:=
 match U4 f ex with
 |some e=>some e
 |none=>I7 zy jQ f
noncomputable def CX (ex:List (Nat×k9)):Cx:=⟨Tryz.prog,λ_=>none,λ_=>false,gW ex,IR,λ_=>false⟩
def eF (C:Cx):List (Nat×k9)->Prop
 |[]=>True
 |(f,e)::r=>EffAt C f e/\eF C r
theorem KN {C:Cx} {f:Nat} {e:k9}:∀{ex:List (Nat×k9)},eF C ex->U4 f ex=some e->EffAt C f e
 |[],_,h=>by simp[U4]at h
 |(g,e0)::r,ha,h=>by
  obtain⟨h1,h2⟩:=ha;unfold U4 at h;split at h
  .rename_i hb;obtain rfl:=gx hb;simp only[lD]at h;subst h;exact h1
  .exact KN h2 h
theorem zh {ex:List (Nat×k9)} (ha:eF (CX ex) ex) (f:Nat) (e:k9) (h:(CX ex).eff f=some e):EffAt (CX ex) f e:=by
 replace h:gW ex f=some e:=h;unfold gW at h;split at h
 .rename_i e' he;simp only[lD]at h;subst h;exact KN ha he
 unfold I7 at h;split at h
 .rename_i hb;obtain rfl:=gx hb;simp only[lD]at h;subst h;exact WP (C:=CX ex) ew
 .split at h
  .rename_i hb;obtain rfl:=gx hb;simp only[lD]at h;subst h;exact WQ (C:=CX ex) ew
  .split at h
   .rename_i hb;obtain rfl:=gx hb;simp only[lD]at h;subst h;exact v7 (C:=CX ex) Tryz.func194 (by simp[Tryz.f194]) (by decide) λal hc=>kU (C:=C0) (C':=CX ex) rfl rfl (Vh al hc)
   .simp at h
theorem upX {ex:List (Nat×k9)} {f:Nat} {al rs:List A} (h:Gives CC f al rs):Gives (CX ex) f al rs:=qL rfl rfl h
theorem PW {ex:List (Nat×k9)} (f:Nat) (al rs:List A) (h:U2 f al=some rs):Gives (CX ex) f al rs:=upX (yw f al rs h)
noncomputable def CB:Cx:=CX []
instance:EffOk CB:=qV (zh trivial)
end Eng
end
section
namespace Eng
open Go Go.Proofs Go.RowKit Go.Lib Go.Shelf
def ptZ:List Value:=[.bool false,.slice none 0 0,.bool false,.slice none 0 0,.bool false,.slice none 0 0,.bool false,.slice none 0 0,.bool false,.slice none 0 0,.bool false,.slice none 0 0,.bool false,.slice none 0 0,.bool false,.slice none 0 0,.bool false,.slice none 0 0,.bool false,.slice none 0 0]
theorem DA:zQ Tryz.prog 138=some ptZ:=by kernel_rfl
theorem GQ:Tryz.prog.underlying 162=some (.slice 138):=by kernel_rfl
set_option maxHeartbeats 4000000 in
theorem LW (c:Nat) (w:World):Calls Tryz.prog 422 #[.slice none 0 c] w λe w'=>e= .returned (.slice none 0 0)/\w'=w:=by
 have a0:Tryz.prog.follows .mixedOrders=true:=by kernel_rfl
 have tPts:=GQ;have he:∀w,(binOp .eql 162 (.slice none 0 c) (.slice none 0 0)).run Tryz.prog w= .ok (.bool true) w:=λw=>by have:=run_eql_slice_nil (P:=Tryz.prog) w 162 138 none 0 c 0 0 GQ;simpa using this
 go_enter Tryz.func422,Tryz.ntmps422
 go_wp2
 all_goals (go_ret;exact⟨rfl,rfl⟩)
set_option maxHeartbeats 4000000 in
theorem LX (a:Addr) (c:Nat) (w:World):Calls Tryz.prog 422 #[.slice (some a) 0 c] w λe w'=>∃b,e= .returned (.slice (some b) 0 0)/\w'=w.alloc (.cells #[] 138):=by
 have a0:Tryz.prog.follows .mixedOrders=true:=by kernel_rfl
 have tPts:=GQ;have he:∀w,(binOp .eql 162 (.slice (some a) 0 c) (.slice none 0 0)).run Tryz.prog w= .ok (.bool false) w:=λw=>by have:=run_eql_slice_nil (P:=Tryz.prog) w 162 138 (some a) 0 c 0 0 GQ;simpa using this
 have zPt:∀w,(Go.sizeOf 138).run Tryz.prog w= .ok 20 w:=λw=>xf DA w
 go_enter Tryz.func422,Tryz.ntmps422
 go_wp2
 go_ret
 exact⟨_,rfl,rfl⟩
variable [Env]
theorem LY:Gives CC 422 [.c (.sl [])] [.c (.sl [])]:=by
 intro w F vs _ _ ha
 match vs,ha with
 |[v],⟨h,_⟩=>
  obtain⟨ad,c,rfl,_⟩:=CD.slice_inv (show CD w F (.sl []) v from h);have hP:CC.P=Tryz.prog:=rfl;rw[hP];cases ad with
  |none=>refine(LW c w).mono ?_;rintro e w' ⟨rfl,rfl⟩;exact⟨Below.refl _ _,_,rfl,CD.nil _ _⟩
  |some a=>refine(LX a c w).mono ?_;rintro e w' ⟨b,rfl,rfl⟩;exact⟨(Below.refl _ _).alloc (l8 _) _,_,rfl,CD.nil _ _⟩
def gX (f:Nat) (al:List A):Option (List A):=
 match gy f 422 with
 |false=>U2 f al
 |true=>match al with
  |[.c (.sl [])]=>some [.c (.sl [])]
  |_=>none
theorem DB (f:Nat) (al rs:List A) (h:gX f al=some rs):Gives CC f al rs:=by
 unfold gX at h;split at h
 .exact yw f al rs h
 .rename_i hf;obtain rfl:=gx hf;split at h
  .simp only[lD]at h;subst h;exact LY
  .simp at h
end Eng
end
section
namespace Eng
open Go Go.Proofs Rl
def idG:Ids:=⟨100,48,146,101,103,49,468,97⟩
def idR:Ids:=⟨83,37,291,84,140,39,346,38⟩
def bsT:List Bool:=[false,false,true,true,false,false,true,false,true,true,true]
def lt (i:Nat):Pol:=[(1,zE i [1])]
def kP (n:Int):Pol:=[(n,[])]
def sgT:List Pol:=[lt 0,lt 1,jD (lt 9) (kP 1000),jD (lt 10) (kP 1000),lt 4,lt 5,lt 6,lt 7,lt 8,lt 9,lt 10]
def IS:List Nat->Option (List Nat)
 |[]=>some []
 |a::r=>match gy (a%2) 0,IS r with
  |true,some h=>some (a/2::h)
  |_,_=>none
def PX (sg:Pol->Option Int) (p:Pol):Option Pol:=
 match p with
 |[]=>some []
 |[(1,e)]=>match IS e with
  |some h=>match sg [(1,h)],PV (ZO [(1,h)] [(1,h)]) p with
   |some (.ofNat _),true=>some [(1,h)]
   |_,_=>none
  |none=>none
 |_=>none
def LZ:Nat->List D->Option (List Pol)
 |0,[]=>some []
 |n+1,a::b::c::d::r=>match unT [a,b,c,d],LZ n r with
  |some p,some l=>some (p::l)
  |_,_=>none
 |_,_=>none
def tkR (l:List Pol):List D:=l.flatMap tk
def lX0:Pol:=lt 0
def lY0:Pol:=lt 1
def lX1:Pol:=jD lX0 (ZO (kP 3) (lt 2))
def lY1:Pol:=jD lY0 (ZO (kP 2) (lt 3))
def lXm:Pol:=jD lX1 (kP (-3000))
def lYm:Pol:=jD lY1 (kP (-2000))
def whL:List Pol:=[lX0,lX1,lXm,lY0,lY1,lYm,lt 4,lt 5,lt 6,jD (lt 4) (lt 6),jD (lt 4) (vZ (lt 6)),jD (lt 5) (lt 6),jD (lt 5) (vZ (lt 6))]
def IT:List Pol->Pol->Bool
 |[],_=>false
 |q::r,p=>match PV q p with
  |true=>true
  |false=>IT r p
def jh (p:Pol):Bool:=match IT whL p with
 |true=>true
 |false=>IT whL (vZ p)
def tkI (p:Pol):List D:=[.tok p 0,.tok p 1]
def unI:List D->Option Pol
 |[.tok p 0,.tok q 1]=>match PV p q&&jh p with
  |true=>some p
  |false=>none
 |_=>none
def QZ (k:Nat) (p:Pol):Bool:=Vo p&&decide (szP p<=k)
def IU (sg:Pol->Option Int) (l p:List D):Option Int:=
 match LZ 3 l,LZ 5 p with
 |some [a,b,c],some [x,[],y,[],[]]=>match wC a&&(wC b&&(wC c&&(wC x&&wC y)))with
  |true=>sg (jD (jD (ZO a x) (ZO b y)) (vZ c))
  |false=>none
 |_,_=>none
def insT (sg:Pol->Option Int) (c p:List D):Option Int:=
 match LZ 3 c,LZ 5 p with
 |some [x,y,q],some [u,[],v,[],[]]=>match QZ 30000 x&&(QZ 30000 y&&(QZ 30000 q&&(QZ 30000 u&&QZ 30000 v)))with
  |true=>sg (jD (jD (ZO (jD u (vZ x)) (jD u (vZ x))) (ZO (jD v (vZ y)) (jD v (vZ y)))) (vZ q))
  |false=>none
 |_,_=>none
def t1 (sg:Pol->Option Int) (f:Nat) (x:List D):Option (List A):=
 match unT x with
 |some p=>match gy f 252||gy f 139 with
  |true=>match wC p with
   |true=>some [.c (.bool true)]
   |false=>none
  |false=>match gy f 208||gy f 93 with
   |true=>match PX sg p with
    |some r=>match QZ 600 r with
     |true=>some [.ag (tk r),.c (.bool true)]
     |false=>none
    |none=>none
   |false=>match(gy f 328||gy f 298)&&(jh p&&wC p)with
    |true=>some [.ag (tkI p)]
    |false=>none
 |none=>match unI x with
  |some p=>match wC p with
   |true=>match gy f 189||gy f 158 with
    |true=>some [.ag (tkI (vZ p))]
    |false=>match gy f 149 with
     |true=>some [.ag (tk p)]
     |false=>none
   |false=>none
  |none=>none
def i1L:List D:=[.bool false,.sl [[.int .u32 1]]]
def t2 (sg:Pol->Option Int) (f:Nat) (x y:List D):Option (List A):=
 match unI x with
 |some p=>match wC p with
  |true=>match gy f 186&&eqL (eqD 20) y i1L with
   |true=>some [.ag (tk p),.c (.int .i64 0)]
   |false=>match(gy f 104||gy f 87),unI y with
    |true,some q=>match wC q,sg (jD p (vZ q))with
     |true,some s=>some [.c (.int .i64 s)]
     |_,_=>none
    |_,_=>none
  |false=>none
 |none=>match gy f 367 with
  |true=>match IU sg x y with
   |some s=>some [.c (.int .i64 s)]
   |none=>none
  |false=>match gy f 366 with
   |true=>match insT sg x y with
    |some s=>some [.c (.int .i64 (-s))]
    |none=>none
   |false=>none
def DC (sg:Pol->Option Int) (f:Nat) (al:List A):Option (List A):=
 match al with
 |[.ag x]=>t1 sg f x
 |[.ag x,.ag y]=>t2 sg f x y
 |_=>none
def eG (sg:Pol->Option Int) (f:Nat) (al:List A):Option (List A):=
 match eE idG sg f al with
 |some r=>some r
 |none=>match eE idR sg f al with
  |some r=>some r
  |none=>match DC sg f al with
   |some r=>some r
   |none=>gX f al
def sg0:Pol->Option Int:=sgS sgT bsT
def jS:Nat->List A->Option (List A):=eG sg0
class SgOk [Env] (sg:Pol->Option Int):Prop where
 ok:∀f al rs,eG sg f al=some rs->Gives CC f al rs
abbrev xx [Env]:Prop:=SgOk sg0
theorem qq [Env] [xx] {ex:List (Nat×k9)} (f:Nat) (al rs:List A) (h:jS f al=some rs):Gives (CX ex) f al rs:=upX (SgOk.ok f al rs h)
end Eng
end
section
open Go Go.Proofs Eng
namespace Eng
section
variable (Gv:Nat->List A->List A->Prop) (I0:List D->List D->Prop) (M0:List D->Nat) (I1:List D->List D->Prop) (M1:List D->Nat) (I2:List D->List D->Prop) (M2:List D->Nat) (I3:List D->List D->Prop) (M3:List D->Nat) (Q:List A->Prop)
theorem PY (r0:R4) (r1:R4):wpF CC Gv an0 Tryz.f468 [.ag (rk r0 []),.ag (rk r1 [])] Q=(∃i,Gv 103 [aR r1] [aI i]/\bB (i==0) (Q [Bx [Hv false,Hu [],Hv false,Hu []],aI (6:Int)]) (∃b es,Gv 105 [aZ (Ts r0) (Tk r0),aZ (Sz r1) (Pl r1)] [aZ b es]/\∃b1 e1,Gv 105 [aZ (Sz r0) (Pl r0),aZ (Ts r1) (Tk r1)] [aZ b1 e1]/\∃x,Gv 187 [aZ b es,aZ b1 e1] [aR x]/\Q [aR x,aI (0:Int)])):=by kernel_rfl
theorem PZ (r0:R4):wpF CC Gv an0 Tryz.f252 [.ag (rk r0 [])] Q=(∃b,Gv 309 [aZ (Ts r0) (Tk r0)] [aB b]/\bB (!b) (Q [aB false]) (∃b,Gv 309 [aZ (Sz r0) (Pl r0)] [aB b]/\bB (!b) (Q [aB false]) (∃i,Gv 191 [aZ (Sz r0) (Pl r0)] [aI i]/\bB (decide (i<=0)) (Q [aB false]) (∃b es,Gv 270 [aZ (Ts r0) (Tk r0),aZ (Sz r0) (Pl r0)] [aZ b es]/\∃b1 e1,Gv 262 [] [aZ b1 e1]/\∃i,Gv 104 [aZ b es,aZ b1 e1] [aI i]/\Q [aB (i==0)])))):=by kernel_rfl
theorem Ra (r0:R4):wpF CC Gv an0 Tryz.f139 [.ag (rk r0 [])] Q=(∃b,Gv 224 [aZ (Ts r0) (Tk r0)] [aB b]/\bB (!b) (Q [aB false]) (∃b,Gv 224 [aZ (Sz r0) (Pl r0)] [aB b]/\bB (!b) (Q [aB false]) (∃i,Gv 225 [aZ (Sz r0) (Pl r0)] [aI i]/\bB (i !=1) (Q [aB false]) (∃b es,Gv 227 [aZ (Ts r0) (Tk r0),aZ (Sz r0) (Pl r0)] [aZ b es]/\∃b1 e1,Gv 86 [] [aZ b1 e1]/\∃b2,Gv 226 [aZ b es,aZ b1 e1] [aB b2]/\Q [aB b2])))):=by kernel_rfl
theorem IV (z0:Bool) (l0:List (List D)) (Q:List A->Prop):wpF CC Gv (λ_=>⟨[.slot 3 (.int .i64 0)],[],I0,M0⟩) Tryz.f224 [.ag [.bool z0,.sl l0]] Q=(I0 [] [dI (0:Int)]/\∀(i:Int),I0 [] [dI i]->bB (decide (i<(bF l0.length))) ((0<=i/\i<(bF l0.length)/\fk (nth [] l0 (cF i))=1)/\∃i_1,cut (nth [] l0 (cF i)) 0 1 [F0 .u32 i_1]/\bB (decide (i_1>=1000000000)) (Q [aB false]) (I0 [] [dI (U3 .i64 (i+1))]/\M0 [dI (U3 .i64 (i+1))]<M0 [dI i])) (∃es,Gv 241 [aL l0] [aL es]/\bB ((bF es.length)==(bF l0.length)) (bB (!z0) (Q [aB true]) (Q [aB (decide ((bF l0.length)>0))])) (Q [aB false]))):=by kernel_rfl
theorem IW (z0:Bool) (l0:List (List D)) (Q:List A->Prop):wpF CC Gv (λ_=>⟨[.slot 9 (.int .i64 0)],[],I0,M0⟩) Tryz.f309 [.ag [.bool z0,.sl l0]] Q=(I0 [] [dI (0:Int)]/\∀(i:Int),I0 [] [dI i]->bB (decide (i<(bF l0.length))) ((0<=i/\i<(bF l0.length)/\fk (nth [] l0 (cF i))=1)/\∃i_1,cut (nth [] l0 (cF i)) 0 1 [F0 .u32 i_1]/\bB (decide (i_1>=1000000000)) (Q [aB false]) (I0 [] [dI (U3 .i64 (i+1))]/\M0 [dI (U3 .i64 (i+1))]<M0 [dI i])) (bB (decide ((bF l0.length)>0)) ((0<=U3 .i64 ((bF l0.length)-1)/\U3 .i64 ((bF l0.length)-1)<(bF l0.length)/\fk (nth [] l0 (cF (U3 .i64 ((bF l0.length)-1))))=1)/\∃i,cut (nth [] l0 (cF (U3 .i64 ((bF l0.length)-1)))) 0 1 [F0 .u32 i]/\Q [aB (i !=0)]) (Q [aB (!z0)]))):=by kernel_rfl
theorem Rb (z0:Bool) (l0:List (List D)) (z1:Bool) (l1:List (List D)):wpF CC Gv an0 Tryz.f226 [.ag [.bool z0,.sl l0],.ag [.bool z1,.sl l1]] Q=(bB (z0==z1) (∃i,Gv 161 [aL l0,aL l1] [aI i]/\Q [aB (i==0)]) (Q [aB false])):=by kernel_rfl
end
end Eng
end
section
namespace Eng
open Go Go.Proofs Rl
section
variable [Env]
theorem wpG {f:Nat} {fn:Func} {args res:List A} (hf:Tryz.prog.funcs[f]? =some fn) (h:wpF CC (Gives CC) an0 fn args (· =res)):Gives CC f args res:=qj mixedT hf h
theorem gOk {f:Nat} {fn:Func} {args res:List A} {anns:Nat->Ann} {P:Prop} (hf:Tryz.prog.funcs[f]? =some fn) (hv:wpF CC (Gives CC) anns fn args (λr=>r=res)=P) (h:P):Gives CC f args res:=
 qj mixedT hf (hv.mpr h)
omit [Env] in
theorem Ma (r:Rat):sgn r.num=sr r:=by
 unfold sgn sr;have h1:= @Rat.num_nonneg r;have h2:= @nb r;by_cases h3:r<0
 .rw[if_pos (by rw[<-eH,h1];grind),if_neg (by grind),if_pos h3]
 .rw[if_neg (by rw[<-eH,h1];grind)];by_cases h4:r=0
  .rw[if_neg (by rw[h2.2 h4];decide),if_neg (by grind),if_neg h3]
  .have h5:0<=r.num:=h1.2 (by grind);have h6:r.num≠0:=λe=>h4 (h2.1 e)
   rw[if_pos (by omega),if_pos (by grind)]
omit [Env] in
theorem Mb (x y:Rat):Dk x y=sr (x-y):=by
 unfold Dk sr
 grind
theorem DD {x y:Rat} (hx:Sr x) (hy:Sr y) (h0:y≠0):Gives CC 468 [xy x,xy y] [xy (x/y),.c (.int .i64 0)]:=by
 show Gives CC 468 [.ag (rk (q4 x) []),.ag (rk (q4 y) [])] _;refine wpG Tryz.func468 ((PY ..).mpr ?_);have px:=den_pos x;have py:=den_pos y;have hn:y.num≠0:=λe=>h0 (nb.1 e)
 have h1:(x.den:Int)*y.num≠0:=Int.mul_ne_zero (by omega) hn;refine⟨_,v8 y,?_⟩;refine brb (λh=>?_) (λ_=>?_)
 .exfalso;have h2:sgn y.num=0:=by simpa using h
  unfold sgn at h2;split at h2
  .omega
  .split at h2<;>omega
 refine⟨_,_,up (je hx.1.sm hy.2.sm),_,_,up (je hx.2.sm hy.1.sm),q4 (ms (x.num*y.den) (x.den*y.num)),kz wY (hx.1.mul hy.2) (hx.2.mul hy.1) h1,?_⟩;have e:x/y=ms (x.num*y.den) (x.den*y.num):=by rw[Rat.div_def,<-mx,mm,<-Rat.inv_divInt,mm]
 rw[e];rfl
theorem DE {x y:Rat} (hx:Sr x) (hy:Sr y) (h0:y≠0):Gives CC 346 [xy x,xy y] [xy (x/y),.c (.int .i64 0)]:=by
 have:=Dy jg hx hy
 rwa [if_neg h0]at this
end
section
variable [Env]
theorem numK_G:NumOk idG:=⟨λ_ _ hx hy=>K8 wY hx hy,λ_ _ hx hy=>Yr wY hx hy,λ_ _ hx hy=>Yq wY hx hy,λ_ hx=>K7 hx,
 λx _=>by rw[<-Ma];exact v8 x,λx y hx hy=>by rw[<-Mb];exact L2 hx hy,λ_ _ hx hy h0=>DD hx hy h0,λ_ h1 h2=>wc h1 h2⟩
theorem GR:NumOk idR:=⟨λ_ _ hx hy=>Yw jg hx hy,λ_ _ hx hy=>LA jg hx hy,λ_ _ hx hy=>LC jg hx hy,λ_ hx=>Yv hx,
 λx _=>by rw[<-Ma];exact GJ x,λx y hx hy=>by rw[<-Mb];exact LB hx hy,λ_ _ hx hy h0=>DE hx hy h0,λ_ h1 h2=>zN h1 h2⟩
end
end Eng
end
section
namespace Eng
open Go Go.Proofs Rl
section
variable [Env]
theorem Vq {z:Int} (hz:Sm z):Gives CC 224 [qN z] [.c (.bool true)]:=by
 have a1:=qc z.natAbs;have hlen:=hz.len;have hv:=IV (Gives CC) (λ_ ds=>∃k:Nat,k<=(lim z.natAbs).length/\ds=[.int .i64 (k:Int)]) (λds=>((lim z.natAbs).length-toI (nth .undef ds 0)).toNat) (decide (z<0)) (raw (lim z.natAbs)) (· =[.c (.bool true)]);rw[qI];refine gOk Tryz.func224 hv ?_;clear hv;rw[qg];refine⟨⟨0,ka _,rfl⟩,?_⟩;rintro _ ⟨k,hk,he⟩;simp only[gv,Hx,and_true,true_and]at he;subst he;refine brd (λh=>?_) (λh=>?_)
 .have a0:k<(lim z.natAbs).length:=by simp only[dl]at h;omega
  have h9:=a1.get a0;rw[dv];refine⟨⟨by omega,by simp only[dl];omega,qw a0⟩,_,qz a0,brd (λh2=>?_) (λh2=>?_)⟩
  .omega
  .have hw:U3 .i64 ((k:Int)+1)=((k+1:Nat):Int):=by rw[qR (by omega) (by omega)];omega
   rw[hw];exact⟨⟨k+1,a0,rfl⟩,by simp only[nth,toI];omega⟩
 .have ht:=j6 a1 (by omega);rw[qh]at ht;refine⟨_,ht,?_⟩;rw[qg];refine brb (λ_=>?_) (λh2=>by simp at h2);refine brb (λ_=>rfl) (λh3=>?_);have hn:z<0:=by simpa using h3
  have:0<(lim z.natAbs).length:=qC.2 (by omega);rw[decide_eq_true (by simp only[dl];omega)]
theorem Vr {z:Int} (hz:Sm z):Gives CC 309 [qN z] [.c (.bool true)]:=by
 have hll:=qc z.natAbs;have hlen:=hz.len;have hv:=IW (Gives CC) (λ_ ds=>∃k:Nat,k<=(lim z.natAbs).length/\ds=[.int .i64 (k:Int)]) (λds=>((lim z.natAbs).length-toI (nth .undef ds 0)).toNat) (decide (z<0)) (raw (lim z.natAbs)) (· =[.c (.bool true)]);rw[qI];refine gOk Tryz.func309 hv ?_;clear hv;rw[qg];refine⟨⟨0,ka _,rfl⟩,?_⟩;rintro _ ⟨k,hk,he⟩;simp only[gv,Hx,and_true,true_and]at he;subst he;refine brd (λh=>?_) (λh=>?_)
 .have a0:k<(lim z.natAbs).length:=by simp only[dl]at h;omega
  have h9:=hll.get a0;rw[dv];refine⟨⟨by omega,by simp only[dl];omega,qw a0⟩,_,qz a0,brd (λh2=>?_) (λh2=>?_)⟩
  .omega
  .have hw:U3 .i64 ((k:Int)+1)=((k+1:Nat):Int):=by rw[qR (by omega) (by omega)];omega
   rw[hw];exact⟨⟨k+1,a0,rfl⟩,by simp only[nth,toI];omega⟩
 .refine brd (λh2=>?_) (λh2=>?_)
  .have h3:0<(lim z.natAbs).length:=by simp only[dl]at h2;omega
   have hw:U3 .i64 (bF (lim z.natAbs).length-1)=(((lim z.natAbs).length-1:Nat):Int):=by simp only[dl];rw[qR (by omega) (by omega)];omega
   rw[hw,dv];refine⟨⟨by omega,by simp only[dl];omega,qw (by omega)⟩,_,qz (by omega),?_⟩;rcases jo z.natAbs with e|e
   .rw[e]at h3;simp at h3
   .rw[fR,ft (by omega)]at e;have:(((lim z.natAbs)[(lim z.natAbs).length-1]'(by omega):Nat):Int)≠0:=λk=>e (by congr 1;omega)
    simp;omega
  .have h3:¬0<(lim z.natAbs).length:=by simp only[dl]at h2;omega
   rw[qC]at h3;rw[decide_eq_false (by omega)];rfl
theorem GS {x y:Int} (hx:Sm x) (hy:Sm y):Gives CC 226 [qN x,qN y] [.c (.bool (decide (x=y)))]:=by
 rw[qI,qI];refine wpG Tryz.func226 ((Rb ..).mpr ?_);have hc:=jR (x:=x.natAbs) (y:=y.natAbs) (hM hx.len (by omega)) (hM hy.len (by omega));refine brb (λh=>⟨_,hc,?_⟩) (λh=>?_)
 .rw[beq_iff_eq,decide_eq_decide]at h;have:(Qw x.natAbs y.natAbs==0)=decide (x=y):=by
   rw[Bool.eq_iff_iff,beq_iff_eq,decide_eq_true_eq];unfold Qw;split
   .omega
   .split<;>omega
  rw[this]
 .have:decide (x=y)=false:=by
   refine decide_eq_false λe=>?_
   subst e;simp at h
  rw[this]
theorem Mc {x:Rat} (hs:Sr x):Gives CC 139 [xy x] [.c (.bool true)]:=by
 show Gives CC 139 [.ag (rk (q4 x) [])] _;refine wpG Tryz.func139 ((Ra ..).mpr ?_);have h3:=Qh (x.den:Int);have h4:=Yu jg hs.1.sm hs.2.sm;have hg:j2 x.num.natAbs (x.den:Int).natAbs=1:=by rw[en];exact x.reduced
 have s1:Sm 1:=GC;have h6:=GS s1 s1;have hd:=x.den_pos;have h7:sgn (x.den:Int)=1:=by unfold sgn;rw[if_neg (by omega),if_pos (by omega)]
 rw[hg]at h4;rw[h7]at h3;exact⟨_,Vq hs.1.sm,brb (λh=>by cases h) (λ_=>⟨_,Vq hs.2.sm,brb (λh=>by cases h) (λ_=>⟨_,h3,brb (λh=>by cases h) (λ_=>⟨_,_,h4,_,_,Xp,_,h6,rfl⟩)⟩)⟩)⟩
theorem Md {x:Rat} (hs:Sr x):Gives CC 252 [xy x] [.c (.bool true)]:=by
 show Gives CC 252 [.ag (rk (q4 x) [])] _;refine wpG Tryz.func252 ((PZ ..).mpr ?_);have h3:=up (Xn (x.den:Int));have h4:=Yp wY hs.1.sm hs.2.sm;have hg:j2 x.num.natAbs (x.den:Int).natAbs=1:=by rw[en];exact x.reduced
 have s1:Sm 1:=GC;have h6:=up (jP s1 s1);have hd:=x.den_pos;have h7:sgn (x.den:Int)=1:=by unfold sgn;rw[if_neg (by omega),if_pos (by omega)]
 rw[hg]at h4;rw[h7]at h3;exact⟨_,Vr hs.1.sm,brb (λh=>by cases h) (λ_=>⟨_,Vr hs.2.sm,brb (λh=>by cases h) (λ_=>⟨_,h3,brb (λh=>by simp at h) (λ_=>⟨_,_,h4,_,_,Xo,_,h6,rfl⟩)⟩)⟩)⟩
end
end Eng
end
section
namespace Eng
open Rl
theorem mlQ {k c d Y L:Rat} (h3:c<=Y) (h4:Y<=d) (l1:L<=k*c) (l2:L<=k*d):L<=k*Y:=by
 by_cases h:0<=k
 .exact Rat.le_trans l1 (m0 h3 h)
 .have h5:0<= -k:=by grind
  have:=m0 h4 h5
  grind
theorem hulQ {X Y a b c d L:Rat} (h1:a<=X) (h2:X<=b) (h3:c<=Y) (h4:Y<=d) (l1:L<=a*c) (l2:L<=b*c) (l3:L<=a*d) (l4:L<=b*d):L<=X*Y:=by
 have e1:=mlQ h3 h4 l1 l3;have e2:=mlQ h3 h4 l2 l4;rw[nx]at e1 e2;have:=mlQ h1 h2 e1 e2
 rwa [nx]at this
def inQ (lo hi:Int) (x:Rat):Prop:=(lo:Rat)<=x*65536/\x*65536<=(hi:Rat)
theorem DF {a b c d:Int} {x y:Rat} (h:inQ a b x) (k:inQ c d y):inQ (a+c) (b+d) (x+y):=by
 obtain⟨h1,h2⟩:=h;obtain⟨k1,k2⟩:=k;unfold inQ;rw[nu,nu];constructor<;>grind
theorem Y3 {a b:Int} {x:Rat} (h:inQ a b x):inQ (-b) (-a) (-x):=by
 obtain⟨h1,h2⟩:=h;unfold inQ;rw[nf,nf];constructor<;>grind
theorem DG {a b c d L H:Int} {x y:Rat} (h:inQ a b x) (k:inQ c d y) (hL:∀p q,(p=a\/p=b)->(q=c\/q=d)->L*65536<=p*q) (hH:∀p q,(p=a\/p=b)->(q=c\/q=d)->p*q<=H*65536):inQ L H (x*y):=by
 obtain⟨h1,h2⟩:=h;obtain⟨k1,k2⟩:=k;have cL:∀p q,(p=a\/p=b)->(q=c\/q=d)->(L:Rat)*65536<=(p:Rat)*(q:Rat):=λp q hp hq=>by
  have:=m2.2 (hL p q hp hq)
  rwa [mv,mv]at this
 have cH:∀p q,(p=a\/p=b)->(q=c\/q=d)-> -((H:Rat)*65536)<= -((p:Rat)*(q:Rat)):=λp q hp hq=>by
  have:=m2.2 (hH p q hp hq);rw[mv,mv]at this;have e:((65536:Int):Rat)=65536:=rfl;rw[e]at this
  grind
 have e1:=hulQ h1 h2 k1 k2 (cL _ _ (.inl rfl) (.inl rfl)) (cL _ _ (.inr rfl) (.inl rfl)) (cL _ _ (.inl rfl) (.inr rfl)) (cL _ _ (.inr rfl) (.inr rfl));have n1: -(b:Rat)<= -(x*65536):=by grind
 have n2: -(x*65536)<= -(a:Rat):=by grind
 have e2:=hulQ (L:= -((H:Rat)*65536)) n1 n2 k1 k2 (by have:=cH _ _ (.inr rfl) (.inl rfl);grind) (by have:=cH _ _ (.inl rfl) (.inl rfl);grind) (by have:=cH _ _ (.inr rfl) (.inr rfl);grind) (by have:=cH _ _ (.inl rfl) (.inr rfl);grind);constructor<;>grind
theorem Me {a b:Int} {x:Rat} (h:inQ a b x):(0<a->sr x=1)/\(b<0->sr x= -1)/\(a=0->b=0->sr x=0):=by
 obtain⟨h1,h2⟩:=h;refine⟨λk=>?_,λk=>?_,λk l=>?_⟩
 .have:=m1.2 k;unfold sr;rw[if_pos (by have e:((0:Int):Rat)=0:=rfl;rw[e]at this;grind)]
 .have:=m1.2 k;have e:((0:Int):Rat)=0:=rfl;rw[e]at this;unfold sr;rw[if_neg (by grind),if_pos (by grind)]
 .subst k;subst l;have e:((0:Int):Rat)=0:=rfl;rw[e]at h1 h2;have:x=0:=by grind
  subst this;simp[sr]
end Eng
end
section
open Go Go.Proofs Eng
namespace Eng
section
variable (Gv:Nat->List A->List A->Prop) (I0:List D->List D->Prop) (M0:List D->Nat) (I1:List D->List D->Prop) (M1:List D->Nat) (I2:List D->List D->Prop) (M2:List D->Nat) (I3:List D->List D->Prop) (M3:List D->Nat) (Q:List A->Prop)
theorem jE (i0:Int) (i1:Int):wpF CC Gv an0 Tryz.f453 [.c (.int .i64 i0),.c (.int .i64 i1)] Q=(bB (decide (i0<(-2305843009213693952:Int))) (Q [Bx [dI (0:Int),dI (0:Int)],aB false]) (bB (decide (i1>2305843009213693952)) (Q [Bx [dI (0:Int),dI (0:Int)],aB false]) (Q [Bx [dI i0,dI i1],aB true]))):=by kernel_rfl
theorem ji (r0:R4):wpF CC Gv an0 Tryz.f419 [.ag (rk r0 [])] Q=(∃x,Gv 97 [aI (65536:Int)] [aR x]/\∃x1,Gv 146 [aR r0,aR x] [aR x1]/\∃b es,Gv 328 [aR x1] [aZ b es]/\∃i b1,Gv 170 [aZ b es] [aI i,aB b1]/\∃x,Gv 101 [aR x1] [aR x]/\∃b es,Gv 328 [aR x] [aZ b es]/\∃b2 e1,Gv 189 [aZ b es] [aZ b2 e1]/\∃i_1 b,Gv 170 [aZ b2 e1] [aI i_1,aB b]/\bB (!b1) (Q [Bx [dI (0:Int),dI (0:Int)],aB false]) (bB (!b) (Q [Bx [dI (0:Int),dI (0:Int)],aB false]) (∃i_2 i_3 b,Gv 453 [aI i,aI i_1] [Bx [dI i_2,dI i_3],aB b]/\Q [Bx [dI i_2,dI i_3],aB b]))):=by kernel_rfl
theorem DH (a0:Int) (b0:Int) (a1:Int) (b1:Int):wpF CC Gv an0 Tryz.f428 [.ag [.int .i64 a0,.int .i64 b0],.ag [.int .i64 a1,.int .i64 b1]] Q=(∃i i_1 b,Gv 453 [aI (U3 .i64 (a0+a1)),aI (U3 .i64 (b0+b1))] [Bx [dI i,dI i_1],aB b]/\Q [Bx [dI i,dI i_1],aB b]):=by kernel_rfl
theorem DI (a0:Int) (b0:Int):wpF CC Gv an0 Tryz.f434 [.ag [.int .i64 a0,.int .i64 b0]] Q=(Q [Bx [dI (U3 .i64 (0-b0)),dI (U3 .i64 (0-a0))]]):=by kernel_rfl
theorem DJ (i0:Int):wpF CC Gv an0 Tryz.f486 [.c (.int .i64 i0)] Q=(bB (decide (i0<0)) (Q [Dd (F0 .u64 (U3 .u64 (0-U3 .u64 i0)))]) (Q [Dd (F0 .u64 (U3 .u64 i0))])):=by kernel_rfl
theorem jF (i0:Int) (i1:Int):wpF CC Gv an0 Tryz.f462 [.c (.int .i64 i0),.c (.int .i64 i1)] Q=(∃i,Gv 486 [aI i0] [Dd (F0 .u64 i)]/\∃i_1,Gv 486 [aI i1] [Dd (F0 .u64 i_1)]/\∃i_2 i_3,Gv 485 [Dd (F0 .u64 i),Dd (F0 .u64 i_1)] [Dd (F0 .u64 i_2),Dd (F0 .u64 i_3)]/\(0:Int)<=(16:Int)/\bB (ea i_2 (65536:Int) !=(0:Int)) (Q [aI (0:Int),aI (0:Int),aB false]) ((0:Int)<=(48:Int)/\(0:Int)<=(16:Int)/\bB (decide (bits .or .u64 (U3 .u64 (i_2*281474976710656)) (ea i_3 (65536:Int))>2305843009213693952)) (Q [aI (0:Int),aI (0:Int),aB false]) (bB (bits .and .u64 (i_3) (65535:Int) !=(0:Int)) (bB (!decide (i0<0)==decide (i1<0)) (bB (decide (U3 .i64 (0-U3 .i64 (U3 .i64 (bits .or .u64 (U3 .u64 (i_2*281474976710656)) (ea i_3 (65536:Int)))+1))>=(-2305843009213693952:Int))) (Q [aI (U3 .i64 (0-U3 .i64 (U3 .i64 (bits .or .u64 (U3 .u64 (i_2*281474976710656)) (ea i_3 (65536:Int)))+1))),aI (U3 .i64 (0-U3 .i64 (bits .or .u64 (U3 .u64 (i_2*281474976710656)) (ea i_3 (65536:Int))))),aB (decide (U3 .i64 (0-U3 .i64 (bits .or .u64 (U3 .u64 (i_2*281474976710656)) (ea i_3 (65536:Int))))<=2305843009213693952))]) (Q [aI (U3 .i64 (0-U3 .i64 (U3 .i64 (bits .or .u64 (U3 .u64 (i_2*281474976710656)) (ea i_3 (65536:Int)))+1))),aI (U3 .i64 (0-U3 .i64 (bits .or .u64 (U3 .u64 (i_2*281474976710656)) (ea i_3 (65536:Int))))),aB false])) (bB (decide (U3 .i64 (bits .or .u64 (U3 .u64 (i_2*281474976710656)) (ea i_3 (65536:Int)))>=(-2305843009213693952:Int))) (Q [aI (U3 .i64 (bits .or .u64 (U3 .u64 (i_2*281474976710656)) (ea i_3 (65536:Int)))),aI (U3 .i64 (U3 .i64 (bits .or .u64 (U3 .u64 (i_2*281474976710656)) (ea i_3 (65536:Int)))+1)),aB (decide (U3 .i64 (U3 .i64 (bits .or .u64 (U3 .u64 (i_2*281474976710656)) (ea i_3 (65536:Int)))+1)<=2305843009213693952))]) (Q [aI (U3 .i64 (bits .or .u64 (U3 .u64 (i_2*281474976710656)) (ea i_3 (65536:Int)))),aI (U3 .i64 (U3 .i64 (bits .or .u64 (U3 .u64 (i_2*281474976710656)) (ea i_3 (65536:Int)))+1)),aB false]))) (bB (!decide (i0<0)==decide (i1<0)) (bB (decide (U3 .i64 (0-U3 .i64 (bits .or .u64 (U3 .u64 (i_2*281474976710656)) (ea i_3 (65536:Int))))>=(-2305843009213693952:Int))) (Q [aI (U3 .i64 (0-U3 .i64 (bits .or .u64 (U3 .u64 (i_2*281474976710656)) (ea i_3 (65536:Int))))),aI (U3 .i64 (0-U3 .i64 (bits .or .u64 (U3 .u64 (i_2*281474976710656)) (ea i_3 (65536:Int))))),aB (decide (U3 .i64 (0-U3 .i64 (bits .or .u64 (U3 .u64 (i_2*281474976710656)) (ea i_3 (65536:Int))))<=2305843009213693952))]) (Q [aI (U3 .i64 (0-U3 .i64 (bits .or .u64 (U3 .u64 (i_2*281474976710656)) (ea i_3 (65536:Int))))),aI (U3 .i64 (0-U3 .i64 (bits .or .u64 (U3 .u64 (i_2*281474976710656)) (ea i_3 (65536:Int))))),aB false])) (bB (decide (U3 .i64 (bits .or .u64 (U3 .u64 (i_2*281474976710656)) (ea i_3 (65536:Int)))>=(-2305843009213693952:Int))) (Q [aI (U3 .i64 (bits .or .u64 (U3 .u64 (i_2*281474976710656)) (ea i_3 (65536:Int)))),aI (U3 .i64 (bits .or .u64 (U3 .u64 (i_2*281474976710656)) (ea i_3 (65536:Int)))),aB (decide (U3 .i64 (bits .or .u64 (U3 .u64 (i_2*281474976710656)) (ea i_3 (65536:Int)))<=2305843009213693952))]) (Q [aI (U3 .i64 (bits .or .u64 (U3 .u64 (i_2*281474976710656)) (ea i_3 (65536:Int)))),aI (U3 .i64 (bits .or .u64 (U3 .u64 (i_2*281474976710656)) (ea i_3 (65536:Int)))),aB false])))))):=by kernel_rfl
theorem GT (r0:R4) (r1:R4) (r2:R4):wpF CC Gv an0 Tryz.f383 [.ag (rk r0 (rk r1 (rk r2 [])))] Q=(∃i i_1 b,Gv 419 [aR r0] [Bx [dI i,dI i_1],aB b]/\bB (!b) (Q [Bx [dI i,dI i_1],aB b]) (∃i_2,Gv 103 [aR r1] [aI i_2]/\bB (i_2==0) (Q [Bx [dI i,dI i_1],aB b]) (∃i_3 i_4 b,Gv 419 [aR r1] [Bx [dI i_3,dI i_4],aB b]/\∃i_5 i_6 b1,Gv 419 [aR r2] [Bx [dI i_5,dI i_6],aB b1]/\bB (!b) (Q [Bx [dI (0:Int),dI (0:Int)],aB false]) (bB (!b1) (Q [Bx [dI (0:Int),dI (0:Int)],aB false]) (∃i_7,Gv 103 [aR r2] [aI i_7]/\bB (decide (i_7<0)) (Q [Bx [dI (0:Int),dI (0:Int)],aB false]) (∃i_8 i_9 b,Gv 420 [Bx [dI i_5,dI i_6]] [Bx [dI i_8,dI i_9],aB b]/\bB (!b) (Q [Bx [dI (0:Int),dI (0:Int)],aB false]) (∃i_10 i_11 b,Gv 427 [Bx [dI i_3,dI i_4],Bx [dI i_8,dI i_9]] [Bx [dI i_10,dI i_11],aB b]/\bB (!b) (Q [Bx [dI (0:Int),dI (0:Int)],aB false]) (∃i_12 i_13 b,Gv 428 [Bx [dI i,dI i_1],Bx [dI i_10,dI i_11]] [Bx [dI i_12,dI i_13],aB b]/\Q [Bx [dI i_12,dI i_13],aB b])))))))):=by kernel_rfl
theorem Xs (a0:Int) (b0:Int):wpF CC Gv an0 Tryz.f430 [.ag [.int .i64 a0,.int .i64 b0]] Q=(bB (decide (a0>0)) (Q [aI (1:Int),aB true]) (bB (decide (b0<0)) (Q [aI (-1:Int),aB true]) (bB (a0==0) (Q [aI (0:Int),aB (b0==0)]) (Q [aI (0:Int),aB false])))):=by kernel_rfl
theorem Mf (r0:R4):wpF CC Gv an0 Tryz.f328 [.ag (rk r0 [])] Q=(∃b es b1 e1 i,Gv 308 [aZ (Ts r0) (Tk r0),aZ (Sz r0) (Pl r0)] [aZ b es,aZ b1 e1,aI i]/\Q [aZ b es]):=by kernel_rfl
theorem gY (p0:P20):wpF CC Gv an0 Tryz.f180 [.ag (pk p0 [])] Q=(∃x x1 x2,Gv 264 [aR (P20.x p0),aR (P20.u p0),aR (P20.c p0)] [aT x x1 x2]/\Q [aT x x1 x2]):=by kernel_rfl
theorem gZ (p0:P20):wpF CC Gv an0 Tryz.f181 [.ag (pk p0 [])] Q=(∃x x1 x2,Gv 264 [aR (P20.y p0),aR (P20.v p0),aR (P20.c p0)] [aT x x1 x2]/\Q [aT x x1 x2]):=by kernel_rfl
theorem Mg (r0:R4) (r1:R4) (r2:R4):wpF CC Gv an0 Tryz.f264 [.ag (rk r0 []),.ag (rk r1 []),.ag (rk r2 [])] Q=(∃i,Gv 103 [aR r1] [aI i]/\bB (i==0) (∃x,Gv 322 [] [aR x]/\Q [aT r0 r1 x]) (Q [aT r0 r1 r2])):=by kernel_rfl
theorem Z5 (r0:R4) (a0:Int) (b0:Int) (k0:Bool):wpF CC Gv an0 Tryz.f435 [.ag (rk r0 []),.ag [.int .i64 a0,.int .i64 b0],.c (.bool k0)] Q=(∃i i_1 b,Gv 419 [aR r0] [Bx [dI i,dI i_1],aB b]/\bB (!k0) (Q [Bx [dI (0:Int),dI (0:Int)],aB false]) (bB (!b) (Q [Bx [dI (0:Int),dI (0:Int)],aB false]) (∃i_2 i_3 b,Gv 427 [Bx [dI i,dI i_1],Bx [dI a0,dI b0]] [Bx [dI i_2,dI i_3],aB b]/\Q [Bx [dI i_2,dI i_3],aB b]))):=by kernel_rfl
theorem Rc (r0:R4) (r1:R4) (r2:R4) (p0:P20):wpF CC Gv an0 Tryz.f409 [.ag (rk r0 (rk r1 (rk r2 []))),.ag (pk p0 [])] Q=(∃i i_1 b,Gv 383 [aT (P20.x p0) (P20.u p0) (P20.c p0)] [Bx [dI i,dI i_1],aB b]/\∃i_2 i_3 b1,Gv 435 [aR r0,Bx [dI i,dI i_1],aB b] [Bx [dI i_2,dI i_3],aB b1]/\∃i i_4 b,Gv 383 [aT (P20.y p0) (P20.v p0) (P20.c p0)] [Bx [dI i,dI i_4],aB b]/\∃i_5 i_6 b2,Gv 435 [aR r1,Bx [dI i,dI i_4],aB b] [Bx [dI i_5,dI i_6],aB b2]/\∃i i_7 b,Gv 419 [aR r2] [Bx [dI i,dI i_7],aB b]/\bB (!b1) (Q [aI (0:Int),aB false]) (bB (!b2) (Q [aI (0:Int),aB false]) (bB (!b) (Q [aI (0:Int),aB false]) (∃i_8 i_9 b,Gv 428 [Bx [dI i_2,dI i_3],Bx [dI i_5,dI i_6]] [Bx [dI i_8,dI i_9],aB b]/\bB (!b) (Q [aI (0:Int),aB false]) (∃i_10 i_11,Gv 434 [Bx [dI i,dI i_7]] [Bx [dI i_10,dI i_11]]/\∃i i_12 b,Gv 428 [Bx [dI i_8,dI i_9],Bx [dI i_10,dI i_11]] [Bx [dI i,dI i_12],aB b]/\bB (!b) (Q [aI (0:Int),aB false]) (∃i_13 b,Gv 430 [Bx [dI i,dI i_12]] [aI i_13,aB b]/\Q [aI i_13,aB b])))))):=by kernel_rfl
theorem DK (r0:R4) (r1:R4):wpF CC Gv an0 Tryz.f407 [.ag (rk r0 []),.ag (rk r1 [])] Q=(∃x,Gv 100 [aR r0,aR r1] [aR x]/\Q [aR x]):=by kernel_rfl
theorem DL (r0:R4) (r1:R4):wpF CC Gv an0 Tryz.f406 [.ag (rk r0 []),.ag (rk r1 [])] Q=(∃x,Gv 48 [aR r0,aR r1] [aR x]/\Q [aR x]):=by kernel_rfl
theorem Rd (r0:R4) (r1:R4):wpF CC Gv an0 Tryz.f382 [.ag (rk r0 []),.ag (rk r1 [])] Q=(∃x,Gv 146 [aR r0,aR r1] [aR x]/\Q [aR x]):=by kernel_rfl
theorem Re (r0:R4) (r1:R4) (r2:R4):wpF CC Gv an0 Tryz.f408 [.ag (rk r0 []),.ag (rk r1 []),.ag (rk r2 [])] Q=(∃i,Gv 103 [aR r0] [aI i]/\∃i_1,Gv 103 [aR r1] [aI i_1]/\∃i_2,Gv 103 [aR r2] [aI i_2]/\bB (U3 .i64 (i_1*i_2)==0) (Q [aI i]) (bB (i==U3 .i64 (i_1*i_2)) (Q [aI i]) (bB (i==0) (Q [aI (U3 .i64 (i_1*i_2))]) (∃x,Gv 382 [aR r0,aR r0] [aR x]/\∃x1,Gv 382 [aR r1,aR r1] [aR x1]/\∃x2,Gv 382 [aR x1,aR r2] [aR x2]/\∃i_3,Gv 49 [aR x,aR x2] [aI i_3]/\Q [aI (U3 .i64 (i*i_3))])))):=by kernel_rfl
theorem Rf (r0:R4) (r1:R4) (r2:R4) (p0:P20):wpF CC Gv an0 Tryz.f367 [.ag (rk r0 (rk r1 (rk r2 []))),.ag (pk p0 [])] Q=(∃i b,Gv 409 [aT r0 r1 r2,aP p0] [aI i,aB b]/\br b (Q [aI i]) (∃x,Gv 382 [aR r0,aR (P20.x p0)] [aR x]/\∃x1,Gv 382 [aR r1,aR (P20.y p0)] [aR x1]/\∃x2,Gv 407 [aR x,aR x1] [aR x2]/\∃x,Gv 406 [aR x2,aR r2] [aR x]/\∃x3,Gv 382 [aR r0,aR (P20.u p0)] [aR x3]/\∃x4,Gv 382 [aR r1,aR (P20.v p0)] [aR x4]/\∃x5,Gv 407 [aR x3,aR x4] [aR x5]/\∃i,Gv 408 [aR x,aR x5,aR (P20.c p0)] [aI i]/\Q [aI i])):=by kernel_rfl
theorem Mh (z0:Bool) (l0:List (List D)):wpF CC Gv (λ_=>⟨[.slot 4 (.int .u64 0),.slot 5 (.int .i64 0)],[],I0,M0⟩) Tryz.f170 [.ag [.bool z0,.sl l0]] Q=(∃b es,Gv 179 [aI (-9223372036854775808:Int)] [aZ b es]/\∃i,Gv 104 [aZ z0 l0,aZ b es] [aI i]/\bB (decide (i<0)) (Q [aI (0:Int),aB false]) (∃b es,Gv 179 [aI (9223372036854775807:Int)] [aZ b es]/\∃i,Gv 104 [aZ z0 l0,aZ b es] [aI i]/\bB (decide (i>0)) (Q [aI (0:Int),aB false]) (I0 [] [F0 .u64 0,dI (U3 .i64 ((bF l0.length)-1))]/\∀(i i_1:Int),I0 [] [F0 .u64 i,dI i_1]->bB (decide (i_1>=0)) ((0<=i_1/\i_1<(bF l0.length)/\fk (nth [] l0 (cF i_1))=1)/\∃i_2,cut (nth [] l0 (cF i_1)) 0 1 [F0 .u32 i_2]/\I0 [] [F0 .u64 (U3 .u64 (U3 .u64 (i*1000000000)+U3 .u64 i_2)),dI (U3 .i64 (i_1-1))]/\M0 [F0 .u64 (U3 .u64 (U3 .u64 (i*1000000000)+U3 .u64 i_2)),dI (U3 .i64 (i_1-1))]<M0 [F0 .u64 i,dI i_1]) (br z0 (Q [aI (U3 .i64 (U3 .u64 (0-i))),aB true]) (Q [aI (U3 .i64 i),aB true]))))):=by kernel_rfl
theorem DM (a0:Int) (b0:Int) (a1:Int) (b1:Int):wpF CC Gv (Kt ⟨[.slot 21 (.int .i64 0),.slot 6 (.int .i64 0),.slot 7 (.int .i64 0)],[],I0,M0⟩ ⟨[.slot 31 (.int .i64 0),.slot 6 (.int .i64 0),.slot 7 (.int .i64 0)],[.slot 21 (.int .i64 0)],I1,M1⟩) Tryz.f427 [.ag [.int .i64 a0,.int .i64 b0],.ag [.int .i64 a1,.int .i64 b1]] Q=(I0 [] [dI (0:Int),dI (2305843009213693952:Int),dI (-2305843009213693952:Int)]/\∀(i i_1 i_2:Int),I0 [] [dI i,dI i_1,dI i_2]->bB (decide (i<2)) ((0<=i/\i<2)/\∃i_3,cut (nth [] [[dI a0],[dI b0]] (cF i)) 0 1 [dI i_3]/\I1 [dI i] [dI (0:Int),dI i_1,dI i_2]/\∀(i_4 i_5 i_6:Int),I1 [dI i] [dI i_4,dI i_5,dI i_6]->bB (decide (i_4<2)) ((0<=i_4/\i_4<2)/\∃i_7,cut (nth [] [[dI a1],[dI b1]] (cF i_4)) 0 1 [dI i_7]/\∃i_8 i_9 b,Gv 462 [aI i_3,aI i_7] [aI i_8,aI i_9,aB b]/\bB (!b) (Q [Bx [dI (0:Int),dI (0:Int)],aB false]) (I1 [dI i] [dI (U3 .i64 (i_4+1)),dI (match decide (i_8<i_5)with|true=>i_8|false=>i_5),dI (match decide (i_6<i_9)with|true=>i_9|false=>i_6)]/\M1 [dI (U3 .i64 (i_4+1)),dI (match decide (i_8<i_5)with|true=>i_8|false=>i_5),dI (match decide (i_6<i_9)with|true=>i_9|false=>i_6)]<M1 [dI i_4,dI i_5,dI i_6])) (I0 [] [dI (U3 .i64 (i+1)),dI i_5,dI i_6]/\M0 [dI (U3 .i64 (i+1)),dI i_5,dI i_6]<M0 [dI i,dI i_1,dI i_2])) (Q [Bx [dI i_1,dI i_2],aB true])):=by kernel_rfl
theorem Mi (x0:Int) (y0:Int):wpF CC Gv an0 Tryz.f485 [.c (.int .u64 x0),.c (.int .u64 y0)] Q=((0:Int)<=(32:Int)/\(0:Int)<=(32:Int)/\(0:Int)<=(32:Int)/\(0:Int)<=(32:Int)/\(0:Int)<=(32:Int)/\Q [Dd (F0 .u64 (U3 .u64 (U3 .u64 (U3 .u64 (ea x0 4294967296*ea y0 (4294967296:Int))+ea (U3 .u64 (U3 .u64 (ea x0 4294967296*bits .and .u64 (y0) (4294967295:Int))+ea (U3 .u64 (bits .and .u64 (x0) 4294967295*bits .and .u64 (y0) (4294967295:Int))) (4294967296:Int))) (4294967296:Int))+ea (U3 .u64 (bits .and .u64 (U3 .u64 (U3 .u64 (ea x0 4294967296*bits .and .u64 (y0) (4294967295:Int))+ea (U3 .u64 (bits .and .u64 (x0) 4294967295*bits .and .u64 (y0) (4294967295:Int))) (4294967296:Int))) 4294967295+U3 .u64 (bits .and .u64 (x0) 4294967295*ea y0 (4294967296:Int)))) (4294967296:Int)))),Dd (F0 .u64 (U3 .u64 (x0*y0)))]):=by kernel_rfl
theorem Mj (a0 a1 a2 a3:Int) (k0:Bool) (b0 b1 b2 b3:Int) (k1:Bool) (Q:List A->Prop):wpF CC Gv an0 Tryz.f379 [.ag [.int .i64 a0,.int .i64 a1,.int .i64 a2,.int .i64 a3,.bool k0],.ag [.int .i64 b0,.int .i64 b1,.int .i64 b2,.int .i64 b3,.bool k1]] Q=(br k0 (br k1 (bB (decide (a1<b0)) (Q [aB true]) (bB (decide (b1<a0)) (Q [aB true]) (bB (decide (a3<b2)) (Q [aB true]) (Q [aB (decide (b3<a2))])))) (Q [aB false])) (Q [aB false])):=by kernel_rfl
end
end Eng
end
