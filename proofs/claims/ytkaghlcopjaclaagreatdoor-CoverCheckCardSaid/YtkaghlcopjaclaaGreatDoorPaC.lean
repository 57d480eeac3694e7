import Derived.Test.YtkaghlcopjaclaaGreatDoorPaA
import Derived.Test.YtkaghlcopjaclaaGreatDoorPaB
import Derived.KernelRfl
open Eng.A renaming ag->B0, c->Dd
open Eng.D renaming int->F0, sl->F2, bool->Hu
open Eng.D.int renaming injEq->Hv
open Eng.D.sl renaming injEq->Hx
open Eng.Limbs renaming cons->Hy, nil->HZ
open Eng.P20 renaming c->J3, v->J4, u->J5, y->J7, x->J8
open Go.IntKind renaming wrap->J9, u64->Pl
open Int renaming toNat->Sz, ofNat->Ts, toNat_natCast->T1, fdiv->W3, tdiv->W4, ofNat_eq_natCast->aE, tdiv_eq_ediv_of_nonneg->dn, tmod_eq_emod_of_nonneg->dp, ofNat_tdiv->dv, tmod->dy, natCast_mul->dA
open LawfulBEq renaming eq_of_beq->ea
open List renaming take->eb, drop->ec, length_take->eg, length->el, length_append->en, length_replicate->er, take_of_length_le->et, replicate->ew, drop_eq_nil_of_le->ey, length_drop->ez, length_cons->eH, getElem?_eq_getElem->fg, take_append_drop->fl, append_assoc->ft, take_append_of_le_length->fw, eq_nil_of_length_eq_zero->fx, drop_append_of_le_length->fz, drop_eq_getElem_cons->fR, mem_of_mem_tail->fS, length_tail->ga, getD->gb, nil_append->gd, append_nil->gm, tail_cons->gn, drop_zero->gp
open List.cons renaming injEq->gq
open Nat renaming mul_comm->gr, mul_le_mul_right->gz, div_lt_iff_lt_mul->hh, mul_le_mul_left->hj, pow_succ->h7, mod_eq_of_lt->h8, mul_assoc->h9, mul_add->hC, mul_lt_mul_of_pos_right->hE, add_mul->hG, lt_of_not_le->hK, eq_zero_or_pos->hM, mod_lt->hS, min_eq_left->hX, div_add_mod->hY, le_mul_of_pos_right->ia, pow_le_pow_right->ib, one_mul->ic, div_mul_le_self->ie, add_zero->ih, lt_of_le_of_lt->im, le_of_lt_succ->it, div_eq_of_lt->ix, le_trans->iy, div_div_eq_div_mul->iz, pow_pos->j0, mul_le_mul->j1, le_sub_one_of_lt->j2, lt_of_lt_of_le->j3, mul_zero->j5, le_of_lt->j6, div_le_self->j7, lt_or_ge->ks, mul_mod_mul_right->kz, mul_div_mul_right->k0, le_div_iff_mul_le->k1, mul_one->k3, mul_div_cancel->k4, mul_add_mod->k5, mul_add_div->k6, pow_zero->k7, zero_le->k8, mul_pos->k9, le_refl->lg
open Prod renaming fst->lh, snd->lm
open Rat renaming intCast_le_intCast->lp, intCast_mul->ls, intCast_lt_intCast->lx, intCast_neg->ly, intCast_add->l0, le_total->l5
set_option maxRecDepth 1000000
section
namespace Eng
open Go
def y8 (l:List Nat):List Int:=l.map λ(x:Nat)=>(x:Int)
theorem jb(x:Nat)(l:List Nat):y8 (x::l)=(x:Int)::y8 l:=rfl
theorem aN(t:Nat):dy (t:Int) 1000000000=((t%1000000000:Nat):Int):=by rw[dp (by omega)];omega
theorem aO(t:Nat):W4 (t:Int) 1000000000=((t/1000000000:Nat):Int):=by rw[dn (by omega)];omega
theorem Ak{by_ c:Nat}(hby:by_<=1000000000)(hc:c<=1000000000){vs:List Nat}(hv:Limbs vs):∃t:Nat,ou (by_:Int) (c:Int) (y8 vs)=(t:Int)/\t<=1000000000000000000/\t+by_*(1000000000*val vs.tail)=c+by_*val vs:=by
 cases vs with
 |nil=>exact⟨c,rfl,by omega,by simp[val]⟩
 |cons y vs=>
  obtain⟨h1,h2⟩:=hv.of_cons;have hp:y*by_<=999999999*1000000000:=j1 (by omega) hby;obtain⟨p,a3⟩:∃p,p=y*by_:=⟨_,rfl⟩;rw[<-a3]at hp;have hpi:(y:Int)*(by_:Int)=(p:Int):=by rw[a3];exact(dA _ _).symm
  refine⟨c+p,?_,by omega,?_⟩
  .simp only[ou,jb];rw[xV (n:=(y:Int)),hpi,xV (n:=(p:Int)),xV];omega
  .simp only[gn,val,hC];rw[a3,gr y by_];omega
theorem Gz{by_:Nat}(hby:by_<=1000000000):∀{us vs:List Nat} {c b:Nat},Limbs us->Limbs vs->vs.length<=us.length->c<=1000000000->b<=1->
 ∃(r:List Nat) (c' b':Nat),vd (by_:Int) (y8 us) (y8 vs) (c:Int) (b:Int)=(y8 r,(c':Int),(b':Int))/\Limbs r/\r.length=us.length/\c'<=1000000000/\b'<=1/\val us+1000000000^us.length*(c'+b')=val r+by_*val vs+c+b
 |[],vs,c,b,_,_,hl,hc,hb=>by have:vs=[]:=fx (by simpa using hl);subst this;exact⟨[],c,b,rfl,HZ,rfl,hc,hb,by simp[val]⟩
 |x::us,vs,c,b,hu,hv,hl,hc,hb=>by
  obtain⟨hx,hu⟩:=hu.of_cons;obtain⟨t,ht,htb,hte⟩:=Ak hby hc hv;have hvt:Limbs vs.tail:=λy hy=>hv y (fS hy)
  have hlt:vs.tail.length<=us.length:=by rw[ga];simp at hl;omega
  have a3:(y8 vs).tail=y8 vs.tail:=by cases vs<;>rfl
  have hdm:=hY t 1000000000;have hml:=hS t (show 0<1000000000 by omega);obtain⟨q,hq⟩:∃q,q=t/1000000000:=⟨_,rfl⟩;obtain⟨m,hm⟩:∃m,m=t%1000000000:=⟨_,rfl⟩;have a4:by_*(1000000000*val vs.tail)=1000000000*(by_*val vs.tail):=by rw[Nat.mul_left_comm]
  by_cases hlt2:x<m+b
  .obtain⟨r,c',b',h1,h2,h3,h4,h5,h6⟩:=Gz hby (us:=us) (vs:=vs.tail) (c:=q) (b:=1) hu hvt hlt (by omega) (by omega);refine⟨(x+1000000000-(m+b))::r,c',b',?_,Hy (by omega) h2,by simp[h3],h4,h5,?_⟩
   .rw[jb,jb];simp only[vd];rw[ht,aN,aO,<-hq,<-hm,xV (n:=(x:Int)),xV (n:=(m:Int)+(b:Int)),xV (n:=(q:Int))];rw[decide_eq_true (show(x:Int)<(m:Int)+(b:Int)by omega)];simp only;rw[a3];have a5:vd (by_:Int) (y8 us) (y8 vs.tail) (q:Int) 1=(y8 r,(c':Int),(b':Int)):=h1;rw[a5,xV (n:=(x:Int)+1000000000),xV,kD];congr 2;omega
   .simp only[eH,val];rw[h7,gr (1000000000^us.length) 1000000000,h9];rw[a4]at hte;omega
  .obtain⟨r,c',b',h1,h2,h3,h4,h5,h6⟩:=Gz hby (us:=us) (vs:=vs.tail) (c:=q) (b:=0) hu hvt hlt (by omega) (by omega);refine⟨(x-(m+b))::r,c',b',?_,Hy (by omega) h2,by simp[h3],h4,h5,?_⟩
   .rw[jb,jb];simp only[vd];rw[ht,aN,aO,<-hq,<-hm,xV (n:=(x:Int)),xV (n:=(m:Int)+(b:Int)),xV (n:=(q:Int))];rw[decide_eq_false (show ¬(x:Int)<(m:Int)+(b:Int)by omega)];simp only;rw[a3];have a5:vd (by_:Int) (y8 us) (y8 vs.tail) (q:Int) 0=(y8 r,(c':Int),(b':Int)):=h1;rw[a5,xV,kD];congr 2;omega
   .simp only[eH,val];rw[h7,gr (1000000000^us.length) 1000000000,h9];rw[a4]at hte;omega
theorem G0:∀{us vs:List Nat} {c:Nat},Limbs us->Limbs vs->vs.length<=us.length->c<=1->
 ∃(r:List Nat) (c':Nat),Vk (y8 us) (y8 vs) (c:Int)=y8 r/\Limbs r/\r.length=us.length/\c'<=1/\val us+val vs+c=val r+1000000000^us.length*c'
 |[],vs,c,_,_,hl,hc=>by have:vs=[]:=fx (by simpa using hl);subst this;exact⟨[],c,rfl,HZ,rfl,hc,by simp[val]⟩
 |x::us,vs,c,hu,hv,hl,hc=>by
  obtain⟨hx,hu⟩:=hu.of_cons;have hvt:Limbs vs.tail:=λy hy=>hv y (fS hy)
  have hlt:vs.tail.length<=us.length:=by rw[ga];simp at hl;omega
  have a3:(y8 vs).tail=y8 vs.tail:=by cases vs<;>rfl
  obtain⟨t,ht,htb,hte⟩:∃t:Nat,dr (x:Int) (c:Int) (y8 vs)=(t:Int)/\t<=1999999999/\t+1000000000*val vs.tail=x+c+val vs:=by
   cases vs with
   |nil=>refine⟨x+c,?_,by omega,by simp[val]⟩;simp only[dr,y8,List.map_nil];rw[kD];omega
   |cons y vs=>obtain⟨h1,h2⟩:=hv.of_cons;refine⟨x+c+y,?_,by omega,by simp only[gn,val];omega⟩;simp only[dr,jb];rw[kD (n:=(x:Int)+(c:Int)),kD];omega
  by_cases h:1000000000<=t
  .obtain⟨r,c',h1,h2,h3,h4,h5⟩:=G0 (us:=us) (vs:=vs.tail) (c:=1) hu hvt hlt (by omega);refine⟨(t-1000000000)::r,c',?_,Hy (by omega) h2,by simp[h3],h4,?_⟩
   .rw[jb,jb];simp only[Vk];rw[ht,decide_eq_true (show(1000000000:Int)<=(t:Int)by omega)];simp only;rw[a3];have a4:Vk (y8 us) (y8 vs.tail) 1=y8 r:=h1;rw[a4,kD];congr 1;omega
   .simp only[eH,val];rw[h7,gr (1000000000^us.length) 1000000000,h9];omega
  .obtain⟨r,c',h1,h2,h3,h4,h5⟩:=G0 (us:=us) (vs:=vs.tail) (c:=0) hu hvt hlt (by omega);refine⟨t::r,c',?_,Hy (by omega) h2,by simp[h3],h4,?_⟩
   .rw[jb,jb];simp only[Vk];rw[ht,decide_eq_false (show ¬(1000000000:Int)<=(t:Int)by omega)];simp only;rw[a3];have a4:Vk (y8 us) (y8 vs.tail) 0=y8 r:=h1;rw[a4]
   .simp only[eH,val];rw[h7,gr (1000000000^us.length) 1000000000,h9];omega
end Eng
end
section
namespace Eng
open Go
theorem Al{P V1 vl V U3 ul U g:Nat}(hV:V=V1*P+vl)(hU:U=U3*P+ul)(hvl:vl<P)(hg:g*V1<=U3)(hgB:g<=1000000000)(hBV:1000000000*P<=V):g*V<=U+V:=by
 have h1:g*V1*P<=U3*P:=gz P hg;have h2:g*vl<=1000000000*P:=j1 hgB (by omega);have h3:g*V=g*V1*P+g*vl:=by rw[hV,hC,h9]
 omega
theorem Am{P V1 vl V U3 ul U g:Nat}(hV:V=V1*P+vl)(hU:U=U3*P+ul)(hul:ul<P)(hg:U3<g*V1):U<g*V:=by
 have h1:(U3+1)*P<=g*V1*P:=gz P hg;have h3:g*V=g*V1*P+g*vl:=by rw[hV,hC,h9]
 rw[hG,ic]at h1;omega
theorem Cf{U V g qd L r s:Nat}(hq1:qd*V<=U)(hgq:qd<=g)(_hUL:U<L)(_hrL:r<L)(he:U+L*s=r+g*V)(hs:s=0)(hlt:U<(qd+1)*V):g=qd/\r=U-qd*V:=by
 subst hs;have h1:¬qd+1<=g:=λh=>by have:=gz V h;omega
 have:g=qd:=by omega
 subst this;omega
theorem Cg{U V g qd L r s r' c:Nat}(hq1:qd*V<=U)(hg:g*V<=U+V)(_hUL:U<L)(hrL:r<L)(hVL:V<=L)(he:U+L*s=r+g*V)(hs:s≠0)(hr':r'<L)(hc:c<=1)(he2:r+V=r'+L*c)(hlt:U<(qd+1)*V)(hgq:qd<=g):g=qd+1/\r'=U-qd*V:=by
 have hL:L<=L*s:=ia L (by omega);have h1:qd+1<=g:=by apply hK;intro h;have:=gz V h;omega
 have h2:g<=qd+1:=by
  apply it;apply hK;intro h;have h3:(qd+2)*V<=g*V:=gz V h;have h4:(qd+2)*V=(qd+1)*V+V:=by rw[show qd+2=(qd+1)+1 from rfl,hG,ic]
  omega
 have:g=qd+1:=by omega
 subst this;refine⟨rfl,?_⟩;have h5:(qd+1)*V=qd*V+V:=by rw[hG,ic]
 have hs1:s=1:=by
  have:s<2:=by apply hK;intro h;have:=hj L h;omega
  omega
 subst hs1;have hc1:c=1:=by
  rcases ks c 1 with h|h
  .have:c=0:=by omega
   subst this;omega
  .omega
 subst hc1;omega
theorem Ye{b s:Nat}(hb:0<b)(hb2:b<1000000000)(hs:s=1000000000/(b+1)):500000000<=b*s/\1<=s/\s*(b+1)<=1000000000:=by
 have h1:=ie 1000000000 (b+1);have h2:=Nat.lt_div_mul_add (a:=1000000000) (b:=b+1) (by omega);rw[<-hs]at h1 h2;have h3:1<=s:=by
  apply hK;intro h;have:s=0:=by omega
  subst this;omega
 obtain⟨b',rfl⟩:∃b',b=b'+1:=⟨b-1,by omega⟩;obtain⟨s',rfl⟩:∃s',s=s'+1:=⟨s-1,by omega⟩;have h4:(b'+1)*(s'+1)=b'*s'+b'+s'+1:=by rw[hG,hC];omega
 have h5:(s'+1)*(b'+1+1)=b'*s'+b'+s'+1+(s'+1):=by rw[hC,gr (s'+1) (b'+1),h4];omega
 omega
end Eng
end
section
namespace Eng
open Go
theorem mlt{a b c:Nat}(h:a<b)(hc:0<c):a*c<b*c:=hE h hc
theorem val2{v:List Nat}{p:Nat}:val (v.take (p+2))=(v.getD (p+1) 0*1000000000+v.getD p 0)*1000000000^p+val (v.take p):=by
 rw[qJ v (p+1),qJ v p,h7]
 grind
theorem val3{u:List Nat}{p:Nat}:val (u.take (p+3))=((u.getD (p+2) 0*1000000000+u.getD (p+1) 0)*1000000000+u.getD p 0)*1000000000^p+val (u.take p):=by
 rw[qJ u (p+2),qJ u (p+1),qJ u p,h7,h7]
 grind
theorem PV{o:List Nat}(h:Limbs o){j d:Nat}(hd:d<1000000000):Limbs (o.set j d):=λy hy=>by
 rcases List.mem_or_eq_of_mem_set hy with hy|rfl
 .exact h y hy
 .exact hd
structure DInv (n m V U0 kk:Nat) (ul ql:List Nat):Prop where
 hk:kk<=m
 lu:ul.length=n+m
 lq:ql.length=m
 Lu:Limbs ul
 Lq:Limbs ql
 hlt:val ul<V*1000000000^kk
 heq:U0=val (ql.drop kk)*(V*1000000000^kk)+val ul
theorem Ch{V' V X B W lo md h qv:Nat}(hW:W=V'*B)(hV:V<V')(hlo:lo<X)(hlt:lo+X*(md+W*h)<V*(X*B))(hV0:0<V):
 h=0/\md<V*B/\lo+X*(md%V)<V*X/\qv*(V*(X*B))+(lo+X*(md+W*h))=(md/V+B*qv)*(V*X)+(lo+X*(md%V)):=by
 have h0:h=0:=by
  rcases hM h with h0|h0
  .exact h0
  .exfalso;have h1:W<=W*h:=ia W h0;have h2:X*W<=X*(md+W*h):=hj X (by omega);have h3:V*(X*B)=X*(V*B):=by grind
   have h4:X*(V*B)<=X*W:=hj X (by rw[hW];exact gz B (by omega));omega
 subst h0;rw[j5,ih]at hlt ⊢;have h3:V*(X*B)=X*(V*B):=by grind
 have hm:md<V*B:=by apply hK;intro hle;have:=hj X hle;omega
 have a3:=hS md hV0;have hdm:=hY md V;refine⟨rfl,hm,?_,?_⟩
 .have:X*(md%V+1)<=X*V:=hj X a3;rw[hC,k3]at this;rw[gr V X];omega
 .have e1:(md/V+B*qv)*(V*X)=X*(V*(md/V))+qv*(V*(X*B)):=by grind
  have e2:X*md=X*(V*(md/V))+X*(md%V):=by rw[<-hC,hdm]
  omega
theorem DInv.mid{n m V U0 k:Nat}{ul ql:List Nat}(h:DInv n m V U0 (k+1) ul ql)(hV:V<1000000000^n)(hV0:0<V):
 val ((ul.drop k).take (n+1))<V*1000000000/\∀r:List Nat,Limbs r->r.length=n+1->val r=val ((ul.drop k).take (n+1))%V->
  DInv n m V U0 k (ul.take k++r++ul.drop (k+(n+1))) (ql.set k (val ((ul.drop k).take (n+1))/V)):=by
 have hk:=h.hk;have lu:=h.lu;have lq:=h.lq;have e0:ul=ul.take k++((ul.drop k).take (n+1)++ul.drop (k+(n+1))):=by rw[<-List.drop_drop,fl,fl]
 have l1:(ul.take k).length=k:=by rw[eg];omega
 have l2:((ul.drop k).take (n+1)).length=n+1:=by rw[eg,ez];omega
 have hv:val ul=val (ul.take k)+1000000000^k*(val ((ul.drop k).take (n+1))+1000000000^(n+1)*val (ul.drop (k+(n+1)))):=by
  conv=>lhs;rw[e0]
  rw[qO,qO,l1,l2]
 have a7:=qQ (h.Lu.take k);rw[l1]at a7;have a6:=h.hlt;have a5:=h.heq;rw[hv]at a6 a5;have hp:1000000000^(k+1)=1000000000^k*1000000000:=h7 ..;rw[hp]at a6 a5;obtain⟨a1,a2,a3,a4⟩:=Ch (V':=1000000000^n) (W:=1000000000^(n+1)) (B:=1000000000) (qv:=val (ql.drop (k+1))) (h7 ..) hV a7 a6 hV0;have hq:val ((ul.drop k).take (n+1))/V<1000000000:=by rw[hh hV0,gr];exact a2
 refine⟨a2,λr Lr lr vr=>⟨by omega,?_,by rw[List.length_set];exact lq,?_,PV h.Lq hq,?_,?_⟩⟩
 .rw[en,en,l1,lr,ez];omega
 .exact((h.Lu.take k).append Lr).append (h.Lu.drop _)
 .rw[qO,qO,l1,a1,vr,j5,ih];exact a3
 .have e5:(ql.set k (val ((ul.drop k).take (n+1))/V)).drop k=(val ((ul.drop k).take (n+1))/V)::ql.drop (k+1):=by rw[List.drop_set,if_neg (Nat.lt_irrefl k),Nat.sub_self,fR (show k<ql.length by omega),List.set_cons_zero]
  rw[e5,qO,qO,l1,a1,vr,j5,ih,a5,a4];rfl
theorem LW{V P v1 t3 t2 md r0:Nat}(hV:V<(v1+1)*P)(hV2:v1*P<=V)(hv:500000000<=v1)(hmd:md=(t3*1000000000+t2)*P+r0)(hr0:r0<P)(ht2:t2<1000000000)(hlt:md<V*1000000000)(_hV0:0<V):
 md/V<=(t3*1000000000+t2)/v1/\(t3*1000000000+t2)/v1<=1000000001/\t3<=v1:=by
 have hP:0<P:=by omega
 have ht3:t3<v1+1:=by
  apply hK;intro h;have h1:(v1+1)*1000000000*P<=t3*1000000000*P:=gz P (gz _ h);have h2:t3*1000000000*P<=(t3*1000000000+t2)*P:=gz P (by omega);have h3:(v1+1)*1000000000*P=(v1+1)*P*1000000000:=by grind
  have h4:V*1000000000<(v1+1)*P*1000000000:=mlt hV (Nat.zero_lt_of_ne_zero (by decide));omega
 refine⟨?_,?_,by omega⟩
 .rw[k1 (by omega)];have h1:md/V*V<=md:=ie md V;have h2:md/V*(v1*P)<=md/V*V:=hj _ hV2;have h3:md/V*(v1*P)=md/V*v1*P:=(h9 ..).symm;apply it;apply hK;intro h;have h4:((t3*1000000000+t2)+1)*P<=md/V*v1*P:=gz P h;rw[hG,ic]at h4;omega
 .apply it;rw[hh (by omega)];omega
theorem eD{g v1 r t0 v2 B:Nat}(h:r*B+t0<g*v2):(g*v1+r)*B+t0<g*(v1*B+v2):=by
 rw[hC,<-h9,hG];omega
theorem eE{g v1 r t0 v2 B:Nat}(h:g*v2<=r*B+t0):g*(v1*B+v2)<=(g*v1+r)*B+t0:=by
 rw[hC,<-h9,hG];omega
theorem lW{g v1 r t0 v2:Nat}(h:r*1000000000+t0<g*v2):(g*v1+r)*1000000000+t0<g*(v1*1000000000+v2):=eD h
theorem lX{g v1 r t0 v2:Nat}(h:g*v2<=r*1000000000+t0):g*(v1*1000000000+v2)<=(g*v1+r)*1000000000+t0:=eE h
theorem PW{P v1 v2 vl V t0 ul U g r top:Nat}(hV:V=(v1*1000000000+v2)*P+vl)(hU:U=(top*1000000000+t0)*P+ul)(hul:ul<P)(htop:top=g*v1+r)(h:r*1000000000+t0<g*v2)(hV0:0<V):U/V<g:=by
 rw[hh hV0];refine Am (V1:=v1*1000000000+v2) (U3:=top*1000000000+t0) hV hU hul ?_;rw[htop];exact lW h
theorem PX{P v1 v2 vl V t0 ul U g r top:Nat}(hV:V=(v1*1000000000+v2)*P+vl)(hU:U=(top*1000000000+t0)*P+ul)(hvl:vl<P)(htop:top=g*v1+r)(h:g*v2<=r*1000000000+t0)(hg:g<=1000000000)(hv1:1<=v1):g*V<=U+V:=by
 refine Al (V1:=v1*1000000000+v2) (U3:=top*1000000000+t0) hV hU hvl ?_ hg ?_
 .rw[htop];exact lX h
 .rw[hV];have:1000000000*P<=(v1*1000000000+v2)*P:=gz P (by omega);exact iy this (Nat.le_add_right _ _)
theorem Cj{us vs:List Nat}{V g:Nat}(hu:Limbs us)(hv:Limbs vs)(hl:vs.length<=us.length)(hV:val vs=V)(hV0:0<V)(hVu:V<=1000000000^us.length)(hq:val us/V<=g)(hg:g<=1000000000)(hgV:g*V<=val us+V):
 ∃(r:List Nat) (c b:Nat),vd (g:Int) (y8 us) (y8 vs) 0 0=(y8 r,(c:Int),(b:Int))/\Limbs r/\r.length=us.length/\
  ((c=0/\b=0/\g=val us/V/\val r=val us%V)\/((c≠0\/b≠0)/\g=val us/V+1/\∃r2:List Nat,Vk (y8 r) (y8 vs) 0=y8 r2/\Limbs r2/\r2.length=us.length/\val r2=val us%V)):=by
 obtain⟨r,c,b,h1,h2,h3,h4,h5,h6⟩:=Gz (by_:=g) hg (us:=us) (vs:=vs) (c:=0) (b:=0) hu hv hl (by omega) (by omega);have hr:=qQ h2;have a6:=qQ hu;rw[h3]at hr;have hd:=hY (val us) V;have hm:=hS (val us) hV0;have a3:val us<(val us/V+1)*V:=by rw[hG,ic,gr];omega
 have a4:val us/V*V<=val us:=ie _ _;have he:val us-val us/V*V=val us%V:=by rw[gr];omega
 refine⟨r,c,b,h1,h2,h3,?_⟩;rw[hV]at h6;by_cases hs:c+b=0
 .obtain⟨e1,e2⟩:=Cf (V:=V) (g:=g) (s:=c+b) a4 hq a6 hr (by omega) hs a3;exact .inl ⟨by omega,by omega,e1,by rw[e2,he]⟩
 .obtain⟨r2,c2,g1,g2,g3,g4,g5⟩:=G0 (us:=r) (vs:=vs) (c:=0) h2 hv (by omega) (by omega);have a5:=qQ g2;rw[g3,h3]at a5;rw[h3,hV]at g5;obtain⟨e1,e2⟩:=Cg (V:=V) (g:=g) (s:=c+b) (r':=val r2) (c:=c2) a4 hgV a6 hr hVu (by omega) hs a5 g4 (by omega) a3 hq;exact .inr ⟨by omega,e1,r2,g1,g2,by omega,by rw[e2,he]⟩
end Eng
end
section
namespace Eng
open Go Go.Proofs
theorem JT:∀(i n:Nat),(lim n).getD i 0=n/1000000000^i%1000000000
 |0,n=>by
  rw[k7,Nat.div_one];rcases hM n with h|h
  .rw[h];rfl
  .rw[Gl h];rfl
 |i+1,n=>by
  rcases hM n with h|h
  .rw[h,Gb,Nat.zero_div];rfl
  .rw[Gl h,h7,gr,<-iz];exact JT i (n/1000000000)
theorem U8{n i:Nat}(h:(lim n).length<=i):n/1000000000^i=0:=by
 apply ix;rcases ks n (1000000000^i)with h2|h2
 .exact h2
 .have:=ko h2;omega
theorem U9{R n:Nat}:R/1000000000^(n+1)*1000000000+R/1000000000^n%1000000000=R/1000000000^n:=by
 rw[h7,<-iz];generalize R/1000000000^n=q;omega
theorem lY{R V v1 P vl:Nat}(hV:V=v1*P+vl)(hV0:0<v1*P):R/V<=R/P/v1:=by
 rw[iz,gr P v1];exact Nat.div_le_div_left (by omega) hV0
theorem lZ{R V d:Nat}(hV:0<V)(h:R<V*d):R/V<d:=by
 rw[hh hV,gr];exact h
theorem ma{R V d:Nat}(hV:0<V)(h:V*d<=R)(h2:R/V<=d):d=R/V:=by
 have:d<=R/V:=(k1 hV).2 (by rw[gr];exact h);omega
theorem eF{R V:Nat}:R-V*(R/V)=R%V:=by
 have:=hY R V;omega
theorem Ck{V Q R c B:Nat}:(((c+B*R)/V)+B*Q)*V+(c+B*R)%V=c+B*(Q*V+R):=by
 have h:=hY (c+B*R) V;generalize (c+B*R)/V=d at *;generalize (c+B*R)%V=e at *;have e1:(d+B*Q)*V+e=(V*d+e)+B*(Q*V):=by rw[hG,gr d V,h9];omega
 rw[e1,h,hC];omega
theorem NX{V R c B:Nat}(hc:c<B)(hR:R<V):c+B*R<B*V:=by
 have:B*(R+1)<=B*V:=hj _ hR;rw[hC]at this;omega
theorem yK{V R c B:Nat}(hc:c<B)(hR:R<V):(c+B*R)/V<B:=by
 rw[hh (by omega)];exact NX hc hR
theorem An{u:List Nat}{k:Nat}(h:k<u.length):val (u.drop k)=u[k]+1000000000*val (u.drop (k+1)):=by
 rw[fR h];rfl
theorem LX{U V q r:Nat}(h:q*V+r=U)(hr:r<V):q=U/V/\r=U%V:=by
 have hV:0<V:=by omega
 subst h;constructor
 .rw[gr,k6 hV,ix hr];omega
 .rw[gr,k5,h8 hr]
theorem NY{k d:Nat}{q:List Nat}:(ew (k+1) 0++q).set k d=ew k 0++d::q:=by
 rw[List.replicate_succ',ft,List.set_append];simp
end Eng
end
section
namespace Eng
open Go Go.Proofs
set_option maxRecDepth 100000
theorem Zc{a b:Nat}(h:raw (lim a)=raw (lim b)):a=b:=by
 have:=LF h;rw[<-qh a,<-qh b,this]
def oF (a b c j4 j18 j20 j23:Ann):Nat->Ann:=V7 (V7 (V7 (V7 (lz a b c) 4 j4) 18 j18) 20 j20) 23 j23
theorem QZ{x s:Nat}(hs:s<1000000000):(lim (x*s)).length<=(lim x).length+1:=by
 apply qq;have h:=qQ (qe x);rw[qh]at h
 calc x*s<=x*1000000000:=hj _ (by omega)
  _<1000000000^(lim x).length*1000000000:=hE h (by omega)
theorem Ao{y:Nat}(hy:y≠0):∃d s:Nat,0<d/\d<1000000000/\(∀h:(lim y).length-1<(lim y).length,(lim y)[(lim y).length-1]=d)/\0<s/\s=1000000000/(d+1)/\s<1000000000:=by
 have hl:0<(lim y).length:=qB.2 (by omega);have hlt:(lim y).length-1<(lim y).length:=by omega
 obtain⟨d,hd⟩:∃d,(lim y)[(lim y).length-1]=d:=⟨_,rfl⟩;have a4:d<1000000000:=hd▸(qe y).get hlt;have a3:0<d:=by
  grind [hM,jX]
 obtain⟨_,hs2,hs3⟩:=Ye a3 a4 (s:=1000000000/(d+1)) rfl;refine⟨d,1000000000/(d+1),a3,a4,λ_=>hd,by omega,rfl,?_⟩
 grind
theorem mb{V p:Nat}(hp:(lim V).length=p+1):∃v1:Nat,v1=V/1000000000^p/\0<v1/\v1<1000000000/\(∀h:p<(lim V).length,(lim V)[p]=v1)/\v1*1000000000^p<=V/\V<1000000000^(p+1):=by
 have hB:V<1000000000^(p+1):=by have h:=qQ (qe V);rw[qh,hp]at h;exact h
 have hP:1000000000^p<=V:=by
  rcases ks V (1000000000^p)with h|h
  .have:=qq h;omega
  grind
 have hpp:0<1000000000^p:=j0 (by omega);have hv:V/1000000000^p<1000000000:=by simp_all[hh,gr,h7]
 refine⟨V/1000000000^p,rfl,Nat.div_pos hP hpp,hv,λh=>?_,ie _ _,hB⟩;have h2:=JT p V
 grind
theorem eG{T V p:Nat}(h:T<1000000000*V)(hV:V<1000000000^(p+1)):T/1000000000^(p+1)<1000000000/\T/1000000000^p<1000000000000000000:=by
 have h1:T<1000000000*1000000000^(p+1):=Nat.lt_trans h (Nat.mul_lt_mul_of_pos_left hV (by omega));constructor
 .rw[hh (j0 (by omega))];exact h1
 .rw[hh (j0 (by omega))];omega
def qr (u:List Nat) (V:Nat) (kk:Nat) (ql:List Nat) (R:Nat):Prop:=
 kk+ql.length=u.length/\Limbs ql/\R<V/\val ql*V+R=val (u.drop kk)
theorem qr.start{u:List Nat}{V:Nat}(hV:0<V):qr u V u.length [] 0:=by
 refine⟨rfl,HZ,hV,?_⟩;simp[val]
theorem qr.next{u:List Nat}{V k R c:Nat}{ql:List Nat}(h:qr u V (k+1) ql R)(hc:c<1000000000)(hk:∀h:k<u.length,u[k]=c):qr u V k ((c+1000000000*R)/V::ql) ((c+1000000000*R)%V):=by
 obtain⟨h1,h2,h3,h4⟩:=h;have a3:k<u.length:=by omega
 refine⟨by grind,h2.cons (yK hc h3),hS _ (by omega),?_⟩;rw[An a3,<-h4,hk a3,<-Ck];rfl
theorem qr.fin{u:List Nat}{V R:Nat}{ql:List Nat}(h:qr u V 0 ql R):val ql=val u/V/\R=val u%V:=by
 obtain⟨h1,h2,h3,h4⟩:=h;exact LX h4 h3
theorem LY{x y:Nat}(h1:(lim x).length<=2)(h2:(lim y).length<=2)(hy:y≠0){Q:List A->Prop}(hQ:Q [.c (.sl (raw (lim (x/y)))),.c (.sl (raw (lim (x%y))))]):
 ∃n,qa CC 117 [Dd (F2 (raw (lim x)))] [Dd (F0 Pl n)]/\
  ∃n_1,qa CC 117 [Dd (F2 (raw (lim y)))] [Dd (F0 Pl n_1)]/\n_1≠(0:Int)/\
   ∃es,qa CC 102 [Dd (F0 Pl (J9 Pl (W4 n n_1)))] [Dd (F2 es)]/\
    n_1≠(0:Int)/\∃es_1,qa CC 102 [Dd (F0 Pl (dy n n_1))] [Dd (F2 es_1)]/\Q [Dd (F2 es),Dd (F2 es_1)]:=by
 have hx:=XS (qe x) h1;have a3:=XS (qe y) h2;rw[qh]at hx a3;have bx:x<1000000000000000000:=by have h:=qQ (qe x);rw[qh]at h;exact j3 h (iy (ib (by omega) h1) (by decide))
 have by_:y<1000000000000000000:=by have h:=qQ (qe y);rw[qh]at h;exact j3 h (iy (ib (by omega) h2) (by decide))
 have l1:x/y<=x:=j7 _ _;have l2:x%y<y:=hS _ (by omega);refine⟨_,hx,_,a3,by omega,?_⟩
 grind [xV,XR]
theorem jT:yd:=by
 intro x y hy hlx hly;by_cases hsmall:(lim x).length<=2/\(lim y).length<=2
 .refine qo (anns:=oF ⟨[.own 12 173 1,.slot 11 (.slice none 0 0),.slot 14 (.int .i64 0)],[],λ_ _=>True,λ_=>0⟩ ⟨[.slot 16 (.int .u64 0),.slot 17 (.slice none 0 0)],[.slot 11 (.slice none 0 0),.slot 14 (.int .i64 0),.own 12 173 1],λ_ _=>True,λ_=>0⟩ ⟨[.own 19 174 1,.slot 18 (.int .u64 0),.slot 20 (.int .i64 0)],[.slot 11 (.slice none 0 0)],λ_ _=>True,λ_=>0⟩
   ⟨[],[],λ_ _=>False,λ_=>0⟩ ⟨[.slot 15 (.int .u64 0)],[.slot 11 (.slice none 0 0)],λ_ _=>True,λ_=>0⟩ ⟨[.slot 15 (.int .u64 0)],[.slot 11 (.slice none 0 0)],λ_ _=>True,λ_=>0⟩ ⟨[.slot 16 (.int .u64 0)],[.slot 11 (.slice none 0 0)],λ_ _=>True,λ_=>0⟩) mixedT Tryz.func116 ?_
  unfold oF;rw[U7];simp only[aE,qg];refine⟨brd (λ_=>brd (λ_=>LY (Q:=λrs=>rs=[.c (.sl (raw (lim (x/y)))),.c (.sl (raw (lim (x%y))))]) hsmall.1 hsmall.2 hy rfl) (λh=>?_)) (λh=>?_),λh=>h.elim⟩
  .exact h (by have:=hsmall.2;omega)
  .exact h (by have:=hsmall.1;omega)
 ·--the scale
  obtain⟨d,s,hd0,hd1,hdl,b1,hs,b2⟩:=Ao hy;have hlyp:0<(lim y).length:=qB.2 (by omega);obtain⟨V,hV⟩:∃V,V=y*s:=⟨_,rfl⟩;obtain⟨U,hU⟩:∃U,U=x*s:=⟨_,rfl⟩;have ap:0<V:=by rw[hV];exact k9 (by omega) b1
  have be:=BI (qe y) b2 (by omega);have bd:=BI (qe x) b2 (by omega);rw[qh,<-hV]at be;rw[qh,<-hU]at bd;have hlV:(lim V).length<=(lim y).length+1:=by rw[hV];exact QZ b2
  have hlU:(lim U).length<=(lim x).length+1:=by rw[hU];exact QZ b2
  have hlVp:0<(lim V).length:=qB.2 ap;obtain⟨p,hp⟩:∃p,(lim V).length=p+1:=⟨(lim V).length-1,by omega⟩;obtain⟨v1,hv1,hv0,hvB,hvl,hvP,bb⟩:=mb hp;have hwd:J9 .u32 (J9 .u64 (W4 1000000000 (J9 .u64 (J9 .u64 (d:Int)+1))))=(s:Int):=by rw[xV (n:=(d:Int)),xV (n:=(d:Int)+1)];have:W4 (1000000000:Int) ((d:Int)+1)=((1000000000/(d+1):Nat):Int):=(dv 1000000000 (d+1)).symm;rw[this,<-hs,xV,kD]
  have hws:J9 .u64 (s:Int)=(s:Int):=xV;have hwp:J9 .i64 (((lim V).length:Int)-1)=(p:Int):=by rw[hp,xF];omega
  have hwv:J9 .u64 (v1:Int)=(v1:Int):=xV;refine qo (anns:=oF
   ⟨[.own 12 173 1,.slot 11 (.slice none 0 0),.slot 14 (.int .i64 0)],[],λ_ ds=>∃(kk:Nat) (ql:List Nat) (R:Nat),ds=[.sl (raw (ew kk 0++ql)),.sl (raw (lim R)),.int .i64 ((kk:Int)-1)]/\qr (lim U) V kk ql R,λds=>(toI (nth .undef ds 2)+1).toNat⟩
   ⟨[.slot 16 (.int .u64 0),.slot 17 (.slice none 0 0)],[.slot 11 (.slice none 0 0),.slot 14 (.int .i64 0),.own 12 173 1],λgs ds=>∃(T g:Nat),nth .undef gs 0= .sl (raw (lim T))/\ds=[.int .u64 (g:Int),.sl (raw (lim (V*g)))]/\T/V<=g/\g<=999999999,λds=>(toI (nth .undef ds 0)).toNat⟩
   ⟨[.own 19 174 1,.slot 18 (.int .u64 0),.slot 20 (.int .i64 0)],[.slot 11 (.slice none 0 0)],λgs ds=>∃(R kk:Nat) (ql:List Nat) (t:Nat),gs=[.sl (raw (lim R))]/\ds=[.sl (raw (ew kk 0++ql)),.int .u64 (t:Int),.int .i64 ((kk:Int)-1)]/\qr (lim R) s kk ql t,λds=>(toI (nth .undef ds 2)+1).toNat⟩
   ⟨[],[],λ_ _=>True,λ_=>0⟩
   ⟨[.slot 15 (.int .u64 0)],[.slot 11 (.slice none 0 0)],λgs ds=>∃T:Nat,gs=[.sl (raw (lim T))]/\ds=[.int .u64 ((T/1000000000^(p+1)*1000000000:Nat):Int)],λ_=>0⟩
   ⟨[.slot 15 (.int .u64 0)],[.slot 11 (.slice none 0 0)],λgs ds=>∃T:Nat,gs=[.sl (raw (lim T))]/\ds=[.int .u64 ((T/1000000000^p:Nat):Int)],λ_=>0⟩
   ⟨[.slot 16 (.int .u64 0)],[.slot 11 (.slice none 0 0)],λgs ds=>∃(T g:Nat),gs=[.sl (raw (lim T))]/\ds=[.int .u64 (g:Int)]/\T/V<=g/\g<=999999999,λ_=>0⟩) mixedT Tryz.func116 ?_
  unfold oF;rw[U7];simp only[aE,qg];refine⟨brd (λ_=>brd (λh=>?_) (λ_=>trivial)) (λ_=>trivial),λ_=>?_⟩
  .exact absurd ⟨by omega,by omega⟩ hsmall
  have hwl:J9 .i64 (((lim y).length:Int)-1)=(((lim y).length-1:Nat):Int):=by rw[xF];omega
  have hwx:J9 .i64 (((lim x).length:Int)+1)=(((lim x).length+1:Nat):Int):=by rw[xF];omega
  rw[hwl,hwx,T1,T1];have hdc:cut (nth [] (raw (lim y)) ((lim y).length-1)) 0 1 [.int .u32 (d:Int)]:=by have:=qy (l:=lim y) (i:=(lim y).length-1) (by omega);rw[hdl (by omega)]at this;exact this
  refine⟨⟨by omega,by omega,qx (by omega)⟩,_,hdc,?_⟩;rw[hwd];refine⟨?_,_,be,?_⟩
  .rw[xV (n:=(d:Int)),xV (n:=(d:Int)+1)];omega
  have hvc:cut (nth [] (raw (lim V)) p) 0 1 [.int .u32 (v1:Int)]:=by have:=qy (l:=lim V) (i:=p) (by omega);rw[hvl (by omega)]at this;exact this
  rw[qg,hwp,T1];refine⟨⟨by omega,by omega,qx (by omega)⟩,_,hvc,⟨by omega,by omega,by unfold room;omega⟩,_,bd,?_⟩;rw[hws,hwv];simp only[qg,er,T1];refine⟨⟨by omega,by omega⟩,⟨(lim U).length,[],0,?_,qr.start ap⟩,?_⟩
  .rw[List.take_replicate,hX hlU,xt,gm,xF];rfl
  rintro es es_3 n_2 ⟨kk,ql,R,he,hq⟩;simp only[gq,Hx,Hv,true_and,and_true]at he;obtain⟨rfl,rfl,rfl⟩:=he;refine brd (λh=>?_) (λh=>?_)
  .obtain⟨k,rfl⟩:∃k,kk=k+1:=⟨kk-1,by omega⟩;have b7:((k+1:Nat):Int)-1=(k:Int):=by omega
   have a6:k<(lim U).length:=by have:=hq.1;omega
   obtain⟨c,hc⟩:∃c,(lim U)[k]=c:=⟨_,rfl⟩;have a4:c<1000000000:=hc▸(qe U).get a6;have a9:R<V:=hq.2.2.1;obtain⟨T,hT⟩:∃T,T=c+1000000000*R:=⟨_,rfl⟩;have a3:=hq.next a4 (λ_=>hc)
   rw[<-hT]at a3;have b9:T<1000000000*V:=hT▸NX a4 a9;have ba:T/V<1000000000:=hT▸yK a4 a9;have hlR:(lim R).length<=(lim V).length:=aF (j6 a9);have hlT:(lim T).length<=(lim V).length+1:=by refine iy (aF (j6 b9)) ?_;rw[gr];apply qq;rw[hp,h7];exact hE bb (by omega)
   have an:qa CC 115 [.c (.sl ([F0 .u32 (c:Int)]::raw (lim R)))] [.c (.sl (raw (lim T)))]:=by have h:=kE (l:=c::lim R) ((qe R).cons a4) (by rw[eH];omega);rw[show val (c::lim R)=T by show c+1000000000*val (lim R)=T;rw[qh,hT]]at h;exact h
   have a5:cut (nth [] (raw (lim U)) k) 0 1 [.int .u32 (c:Int)]:=by have h:=qy (l:=lim U) (i:=k) a6;rw[hc]at h;exact h
   obtain⟨hH1,hH0⟩:=eG b9 bb;rw[b7,T1];refine⟨⟨by omega,by omega,qx a6⟩,_,a5,⟨by rw[qg];unfold room;omega,jt _⟩,_,an,?_⟩;simp only[qg];rw[hp];refine⟨brd (λh2=>?_) (λh2=>?_),?_⟩
   .have a7:p+1<(lim T).length:=by omega
    have ad:=qy (l:=lim T) (i:=p+1) a7;have hg:=JT (p+1) T;rw[h8 hH1,gb,fg a7,Option.getD_some]at hg;rw[hg]at ad;refine⟨⟨by omega,by omega,qx a7⟩,_,ad,T,rfl,?_⟩;generalize T/1000000000^(p+1)=t at *;rw[xV (n:=(t:Int)),xV];rfl
   .have:=U8 (n:=T) (i:=p+1) (by omega);exact⟨T,rfl,by rw[this];rfl⟩
   rintro n ⟨T',h2,h3⟩;simp only[gq,Hx,Hv,true_and,and_true]at h2 h3;obtain rfl:=Zc h2;subst h3;refine⟨brd (λh2=>?_) (λh2=>?_),?_⟩
   .have a7:p<(lim T).length:=by omega
    have ad:=qy (l:=lim T) (i:=p) a7;have hg:=JT p T;rw[gb,fg a7,Option.getD_some]at hg;rw[hg]at ad;refine⟨⟨by omega,by omega,qx a7⟩,_,ad,T,rfl,?_⟩;have b3:=U9 (R:=T) (n:=p);have hm:=hS (T/1000000000^p) (show 1000000000>0 by omega);generalize T/1000000000^(p+1)=t at *;generalize T/1000000000^p=t2 at *;generalize t2%1000000000=t3 at *;rw[xV (n:=(t3:Int)),xV,<-b3];rfl
   .have h4:=U8 (n:=T) (i:=p) (by omega);have b3:=U9 (R:=T) (n:=p);rw[h4,Nat.zero_mod,ih]at b3;exact⟨T,rfl,by rw[h4,b3]⟩
   rintro n ⟨T',h2,h3⟩;simp only[gq,Hx,Hv,true_and,and_true]at h2 h3;obtain rfl:=Zc h2;subst h3;have hup:T/V<=T/1000000000^p/v1:=lY (vl:=V-v1*1000000000^p) (Nat.add_sub_cancel' hvP).symm (k9 hv0 (j0 (by omega)));have htd:W4 ((T/1000000000^p:Nat):Int) (v1:Int)=((T/1000000000^p/v1:Nat):Int):=(dv _ _).symm;have hle:T/1000000000^p/v1<=T/1000000000^p:=j7 _ _;rw[htd];generalize T/1000000000^p/v1=G at *;generalize T/1000000000^p=H at *;rw[xV (n:=(G:Int))];refine⟨by omega,brd (λh2=>?_) (λh2=>?_),?_⟩
   .exact⟨T,999999999,rfl,rfl,by generalize T/V=q at *;omega,by omega⟩
   .exact⟨T,G,rfl,rfl,hup,by omega⟩
   rintro n ⟨T',g,h2,h3,bg,hg2⟩;simp only[gq,Hx,Hv,true_and,and_true]at h2 h3;obtain rfl:=Zc h2;subst h3;have bc:=BI (qe V) (d:=g) (by omega) (by omega);rw[qh]at bc;rw[kD (n:=(g:Int))];refine⟨_,bc,⟨T,g,rfl,rfl,bg,hg2⟩,?_⟩;rintro n es_6 ⟨T',g',h2,h3,ag,hg2'⟩;simp only[nth,gq,Hx,Hv,true_and,and_true]at h2 h3;obtain rfl:=Zc h2;obtain⟨rfl,rfl⟩:=h3;have hlg:(lim (V*g')).length<=(lim V).length+1:=QZ (by omega);refine⟨_,wj (x:=V*g') (y:=T) (by omega) (by omega),brd (λh2=>?_) (λh2=>?_)⟩
   .have hgt:T<V*g':=by
     unfold Zy at h2;split at h2
     .omega
     .split at h2
      .assumption
      .omega
    have b4:T/V<g':=lZ ap hgt;have b5:0<g':=im (k8 _) b4;have b6:T/V<=g'-1:=j2 b4;clear b4 bg ag ba;have hm:=XT (qe (V*g')) (qe V) (by omega) (by rw[qh,qh];exact ia _ b5);rw[qh,qh,show V*g'-V=V*(g'-1)by rw[Nat.mul_sub_one]]at hm;have hw:J9 .u64 ((g':Int)-1)=((g'-1:Nat):Int):=by rw[xV];omega
    rw[hw];exact⟨_,hm,⟨T,g'-1,rfl,rfl,b6,by omega⟩,by simp only[nth,toI];omega⟩
   .have al:V*g'<=T:=by
     unfold Zy at h2;split at h2
     .omega
     .split at h2
      .omega
      .omega
    have bh:=ma ap al ag;have hm:=XT (qe T) (qe (V*g')) (by omega) (by rw[qh,qh];exact al);rw[qh,qh,bh,eF]at hm;rw[bh];have a8:J9 .u32 ((T/V:Nat):Int)=((T/V:Nat):Int):=by have h5:=ba;generalize T/V=q at h5;exact kD
    rw[a8,zc (by rw[en,er];omega),NY];have hw:J9 .i64 ((k:Int)-1)=(k:Int)-1:=xF;rw[hw];refine⟨_,hm,⟨by omega,by simp only[en,er];omega⟩,by omega,⟨k,_,_,rfl,a3⟩,?_⟩;simp only[nth,toI];omega
  .obtain rfl:kk=0:=by omega
   have b8:=hq.fin;rw[qh]at b8;have e1:U/V=x/y:=by rw[hU,hV];exact k0 _ _ b1
   have e2:U%V=x%y*s:=by rw[hU,hV];exact kz _ _ _
   rw[e1,e2]at b8;obtain⟨hv,hR⟩:=b8;have a9:R<V:=hq.2.2.1;have hlR:(lim R).length<=(lim V).length:=aF (j6 a9);have hlq:ql.length=(lim U).length:=by have:=hq.1;omega
   have hLq:Limbs ql:=hq.2.1;simp only[qg];refine⟨⟨by omega,by omega,by unfold room;omega⟩,⟨R,(lim R).length,[],0,rfl,?_,qr.start b1⟩,?_⟩
   .rw[gm,xt,xF];rfl
   rintro es_4 n_3 n_4 ⟨R',kk,ll,t,h2,h3,hr⟩;simp only[gq,Hx,Hv,true_and,and_true]at h2 h3;obtain rfl:=Zc h2;obtain⟨rfl,rfl,rfl⟩:=h3;refine brd (λh4=>?_) (λh4=>?_)
   .obtain⟨k,rfl⟩:∃k,kk=k+1:=⟨kk-1,by omega⟩;have b7:((k+1:Nat):Int)-1=(k:Int):=by omega
    have a6:k<(lim R).length:=by have:=hr.1;omega
    obtain⟨c,hc⟩:∃c,(lim R)[k]=c:=⟨_,rfl⟩;have a4:c<1000000000:=hc▸(qe R).get a6;have hts:t<s:=hr.2.2.1;have a3:=hr.next a4 (λ_=>hc)
    have hq:=yK a4 hts;have a5:cut (nth [] (raw (lim R)) k) 0 1 [.int .u32 (c:Int)]:=by have h:=qy (l:=lim R) (i:=k) a6;rw[hc]at h;exact h
    have hw:J9 .u64 (J9 .u64 ((t:Int)*1000000000)+J9 .u64 (c:Int))=((c+1000000000*t:Nat):Int):=by rw[xV (n:=(c:Int)),xV (n:=(t:Int)*1000000000),xV];omega
    generalize c+1000000000*t=T at *;have hd:=(dv T s).symm;have hm:=(Int.ofNat_tmod T s).symm;rw[b7,T1];refine⟨⟨by omega,by omega,qx a6⟩,_,a5,?_⟩;rw[hw];rw[hd,hm];have a8:J9 .u32 (J9 .u64 ((T/s:Nat):Int))=((T/s:Nat):Int):=by have h5:=hq;generalize T/s=q at h5;rw[xV];exact kD
    rw[a8,zc (by rw[en,er];omega),NY];have hw:J9 .i64 ((k:Int)-1)=(k:Int)-1:=xF;rw[hw];refine⟨by omega,⟨by omega,by simp only[qg,en,er];omega⟩,by omega,by omega,⟨R,k,_,_,rfl,rfl,a3⟩,?_⟩;simp only[nth,toI];omega
   .obtain rfl:kk=0:=by omega
    have bk:=hr.fin;rw[qh,hR,k4 _ b1]at bk;have ho:=kE hLq (by omega);rw[hv]at ho;have hl:=kE hr.2.1 (by have:=hr.1;omega);rw[bk.1]at hl;exact⟨_,ho,_,hl,rfl⟩
end Eng
end
section
open Go Go.Proofs Eng
namespace Eng
section
variable (Gv:Nat->List A->List A->Prop)(I0:List D->List D->Prop)(M0:List D->Nat)(I1:List D->List D->Prop)(M1:List D->Nat)(I2:List D->List D->Prop)(M2:List D->Nat)(I3:List D->List D->Prop)(M3:List D->Nat)(Q:List A->Prop)
theorem Cm:wpF CC Gv an0 Tryz.f303 [] Q=(∃x,Gv 17 [aI (0:Int)] [aR x]/\Q [aR x]):=by kernel_rfl
theorem Ap:wpF CC Gv an0 Tryz.f338 [] Q=(∃x,Gv 17 [aI (1:Int)] [aR x]/\Q [aR x]):=by kernel_rfl
theorem UA(r0:R4):wpF CC Gv an0 Tryz.f265 [.ag (rk r0 [])] Q=(∃x,Gv 303 [] [aR x]/\∃x1,Gv 303 [] [aR x1]/\Q [aT r0 x x1]):=by kernel_rfl
theorem Aq(r0:R4)(r1:R4)(r2:R4):wpF CC Gv an0 Tryz.f332 [.ag (rk r0 []),.ag (rk r1 []),.ag (rk r2 [])] Q=(∃i,Gv 36 [aR r1] [aI i]/\bB (i==0) (∃x x1 x2,Gv 265 [aR r0] [aT x x1 x2]/\Q [aT x x1 x2]) (∃i,Gv 36 [aR r2] [aI i]/\bB (i==0) (∃x x1 x2,Gv 265 [aR r0] [aT x x1 x2]/\Q [aT x x1 x2]) (Q [aT r0 r1 r2]))):=by kernel_rfl
theorem Cn(r0:R4)(r1:R4)(r2:R4):wpF CC Gv an0 Tryz.f305 [.ag (rk r0 []),.ag (rk r1 []),.ag (rk r2 [])] Q=(∃i,Gv 36 [aR r2] [aI i]/\bB (decide (i<0)) (Q [B0 [Hu false,F2 [],Hu false,F2 [],Hu false,F2 [],Hu false,F2 [],Hu false,F2 [],Hu false,F2 []],aI (7:Int)]) (∃x b,Gv 218 [aR r2] [aR x,aB b]/\br b (∃x1,Gv 114 [aR r1,aR x] [aR x1]/\∃x,Gv 8 [aR r0,aR x1] [aR x]/\∃x2 x3 x4,Gv 265 [aR x] [aT x2 x3 x4]/\Q [aT x2 x3 x4,aI (0:Int)]) (∃x x1 x2,Gv 332 [aR r0,aR r1,aR r2] [aT x x1 x2]/\Q [aT x x1 x2,aI (0:Int)]))):=by kernel_rfl
theorem eJ(r0:R4):wpF CC Gv an0 Tryz.f331 [.ag (rk r0 [])] Q=(∃x,Gv 114 [aR r0,aR r0] [aR x]/\Q [aR x]):=by kernel_rfl
theorem Co(r0:R4)(r1:R4)(r2:R4):wpF CC Gv an0 Tryz.f304 [.ag (rk r0 (rk r1 (rk r2 [])))] Q=(∃x,Gv 331 [aR r0] [aR x]/\∃x1,Gv 331 [aR r1] [aR x1]/\∃x2,Gv 114 [aR x1,aR r2] [aR x2]/\∃x3,Gv 55 [aR x,aR x2] [aR x3]/\Q [aR x3]):=by kernel_rfl
theorem Cp(r0:R4)(r1:R4)(r2:R4):wpF CC Gv an0 Tryz.f267 [.ag (rk r0 (rk r1 (rk r2 [])))] Q=(∃i,Gv 36 [aR r0] [aI i]/\∃i_1,Gv 36 [aR r1] [aI i_1]/\bB (i==i_1) (Q [aI i]) (bB (i_1==0) (Q [aI i]) (bB (i==0) (Q [aI i_1]) (∃x,Gv 304 [aT r0 r1 r2] [aR x]/\∃i_2,Gv 36 [aR x] [aI i_2]/\bB (decide (i_2>0)) (Q [aI i]) (Q [aI i_1]))))):=by kernel_rfl
theorem LZ(r0:R4)(r1:R4)(r2:R4)(r3:R4):wpF CC Gv an0 Tryz.f269 [.ag (rk r0 (rk r1 (rk r2 []))),.ag (rk r3 [])] Q=(∃x,Gv 8 [aR r0,aR r3] [aR x]/\Q [aT x r1 r2]):=by kernel_rfl
theorem Ma(r0:R4)(r1:R4)(r2:R4)(r3:R4):wpF CC Gv an0 Tryz.f215 [.ag (rk r0 (rk r1 (rk r2 []))),.ag (rk r3 [])] Q=(∃x,Gv 9 [aR r3] [aR x]/\∃x1 x2 x3,Gv 269 [aT r0 r1 r2,aR x] [aT x1 x2 x3]/\∃i,Gv 267 [aT x1 x2 x3] [aI i]/\Q [aI i]):=by kernel_rfl
theorem Mb(r0:R4)(r1:R4)(r2:R4)(r3:R4)(r4:R4)(r5:R4):wpF CC Gv an0 Tryz.f339 [.ag (rk r0 (rk r1 (rk r2 []))),.ag (rk r3 (rk r4 (rk r5 [])))] Q=(∃i,Gv 36 [aR r1] [aI i]/\bB (i==0) (Q [aR r5,aB true]) (∃i,Gv 36 [aR r4] [aI i]/\bB (i==0) (Q [aR r2,aB true]) (∃i,Gv 85 [aR r2,aR r5] [aI i]/\Q [aR r2,aB (i==0)]))):=by kernel_rfl
theorem Ar(r0:R4)(r1:R4)(r2:R4)(r3:R4)(r4:R4)(r5:R4):wpF CC Gv an0 Tryz.f312 [.ag (rk r0 (rk r1 (rk r2 []))),.ag (rk r3 (rk r4 (rk r5 [])))] Q=(∃x b,Gv 339 [aT r0 r1 r2,aT r3 r4 r5] [aR x,aB b]/\bB (!b) (Q [B0 [Hu false,F2 [],Hu false,F2 [],Hu false,F2 [],Hu false,F2 [],Hu false,F2 [],Hu false,F2 []],aI (1:Int)]) (∃x1,Gv 114 [aR r0,aR r3] [aR x1]/\∃x2,Gv 114 [aR r1,aR r4] [aR x2]/\∃x3,Gv 114 [aR x2,aR x] [aR x3]/\∃x4,Gv 8 [aR x1,aR x3] [aR x4]/\∃x5,Gv 114 [aR r0,aR r4] [aR x5]/\∃x6,Gv 114 [aR r1,aR r3] [aR x6]/\∃x7,Gv 8 [aR x5,aR x6] [aR x7]/\∃x8 x9 x10,Gv 332 [aR x4,aR x7,aR x] [aT x8 x9 x10]/\Q [aT x8 x9 x10,aI (0:Int)])):=by kernel_rfl
theorem As(r0:R4)(r1:R4)(r2:R4):wpF CC Gv an0 Tryz.f311 [.ag (rk r0 (rk r1 (rk r2 [])))] Q=(∃i,Gv 267 [aT r0 r1 r2] [aI i]/\bB (i==0) (Q [B0 [Hu false,F2 [],Hu false,F2 [],Hu false,F2 [],Hu false,F2 [],Hu false,F2 [],Hu false,F2 []],aI (6:Int)]) (∃x,Gv 338 [] [aR x]/\∃x1,Gv 304 [aT r0 r1 r2] [aR x1]/\∃x2 i,Gv 310 [aR x,aR x1] [aR x2,aI i]/\∃x,Gv 114 [aR r0,aR x2] [aR x]/\∃x3,Gv 114 [aR r1,aR x2] [aR x3]/\∃x4,Gv 9 [aR x3] [aR x4]/\∃x5 x6 x7,Gv 332 [aR x,aR x4,aR r2] [aT x5 x6 x7]/\Q [aT x5 x6 x7,aI (0:Int)])):=by kernel_rfl
theorem At(r0:R4)(r1:R4)(r2:R4):wpF CC Gv an0 Tryz.f313 [.ag (rk r0 (rk r1 (rk r2 [])))] Q=(∃x,Gv 9 [aR r0] [aR x]/\∃x1,Gv 9 [aR r1] [aR x1]/\Q [aT x x1 r2]):=by kernel_rfl
theorem Au(r0:R4)(r1:R4)(r2:R4)(r3:R4)(r4:R4)(r5:R4):wpF CC Gv an0 Tryz.f335 [.ag (rk r0 (rk r1 (rk r2 []))),.ag (rk r3 (rk r4 (rk r5 [])))] Q=(∃x b,Gv 339 [aT r0 r1 r2,aT r3 r4 r5] [aR x,aB b]/\bB (!b) (Q [B0 [Hu false,F2 [],Hu false,F2 [],Hu false,F2 [],Hu false,F2 [],Hu false,F2 [],Hu false,F2 []],aI (1:Int)]) (∃x1,Gv 8 [aR r0,aR r3] [aR x1]/\∃x2,Gv 8 [aR r1,aR r4] [aR x2]/\∃x3 x4 x5,Gv 332 [aR x1,aR x2,aR x] [aT x3 x4 x5]/\Q [aT x3 x4 x5,aI (0:Int)])):=by kernel_rfl
theorem Mc(r0:R4)(r1:R4)(r2:R4):wpF CC Gv an0 Tryz.f336 [.ag (rk r0 (rk r1 (rk r2 [])))] Q=(∃x x1 x2 i,Gv 312 [aT r0 r1 r2,aT r0 r1 r2] [aT x x1 x2,aI i]/\Q [aT x x1 x2]):=by kernel_rfl
theorem Av(r0:R4)(r1:R4)(r2:R4):wpF CC Gv an0 Tryz.f266 [.ag (rk r0 []),.ag (rk r1 []),.ag (rk r2 [])] Q=(∃i,Gv 36 [aR r0] [aI i]/\∃i_1,Gv 36 [aR r1] [aI i_1]/\∃i_2,Gv 36 [aR r2] [aI i_2]/\bB (i==0) (bB (i==0) (Q [aI (J9 .i64 (i_1*i_2))]) (Q [aI i])) (bB (J9 .i64 (i_1*i_2)==0) (bB (i==0) (Q [aI (J9 .i64 (i_1*i_2))]) (Q [aI i])) (bB (i==J9 .i64 (i_1*i_2)) (bB (i==0) (Q [aI (J9 .i64 (i_1*i_2))]) (Q [aI i])) (∃x,Gv 114 [aR r0,aR r0] [aR x]/\∃x1,Gv 114 [aR r1,aR r1] [aR x1]/\∃x2,Gv 114 [aR x1,aR r2] [aR x2]/\∃i_3,Gv 85 [aR x,aR x2] [aI i_3]/\Q [aI (J9 .i64 (i*i_3))])))):=by kernel_rfl
theorem Cq(r0:R4)(r1:R4)(r2:R4)(r3:R4)(r4:R4)(r5:R4):wpF CC Gv an0 Tryz.f210 [.ag (rk r0 (rk r1 (rk r2 (rk r3 (rk r4 (rk r5 []))))))] Q=(∃i,Gv 36 [aR r4] [aI i]/\bB (decide (i<0)) (Q [aI (0:Int)]) (∃i,Gv 36 [aR r5] [aI i]/\bB (decide (i<0)) (Q [aI (0:Int)]) (∃i,Gv 266 [aR r0,aR r1,aR r4] [aI i]/\∃i_1,Gv 266 [aR r2,aR r3,aR r4] [aI i_1]/\∃i_2,Gv 36 [aR r5] [aI i_2]/\bB (i==0) (bB (i==0) (Q [aI (J9 .i64 (i_1*i_2))]) (Q [aI i])) (bB (J9 .i64 (i_1*i_2)==0) (bB (i==0) (Q [aI (J9 .i64 (i_1*i_2))]) (Q [aI i])) (bB (i==J9 .i64 (i_1*i_2)) (bB (i==0) (Q [aI (J9 .i64 (i_1*i_2))]) (Q [aI i])) (∃x,Gv 114 [aR r2,aR r2] [aR x]/\∃x1,Gv 114 [aR r3,aR r3] [aR x1]/\∃x2,Gv 114 [aR x1,aR r4] [aR x2]/\∃x3,Gv 8 [aR x,aR x2] [aR x3]/\∃x,Gv 114 [aR r5,aR x3] [aR x]/\∃x4,Gv 114 [aR r0,aR r0] [aR x4]/\∃x5,Gv 114 [aR r1,aR r1] [aR x5]/\∃x6,Gv 114 [aR x5,aR r4] [aR x6]/\∃x7,Gv 8 [aR x4,aR x6] [aR x7]/\∃x8,Gv 55 [aR x7,aR x] [aR x8]/\∃x,Gv 114 [aR r0,aR r1] [aR x]/\∃x9,Gv 114 [aR r2,aR r3] [aR x9]/\∃x10,Gv 114 [aR r5,aR x9] [aR x10]/\∃x11,Gv 55 [aR x,aR x10] [aR x11]/\∃x,Gv 8 [aR x11,aR x11] [aR x]/\∃i_3,Gv 266 [aR x8,aR x,aR r4] [aI i_3]/\Q [aI (J9 .i64 (i*i_3))])))))):=by kernel_rfl
theorem Aw(r0:R4)(r1:R4)(r2:R4)(r3:R4)(r4:R4)(r5:R4):wpF CC Gv an0 Tryz.f211 [.ag (rk r0 (rk r1 (rk r2 []))),.ag (rk r3 (rk r4 (rk r5 [])))] Q=(∃x,Gv 55 [aR r0,aR r3] [aR x]/\∃x1,Gv 9 [aR r4] [aR x1]/\∃x2,Gv 17 [aI (0:Int)] [aR x2]/\Q [B0 (rk x (rk r1 (rk x1 (rk x2 (rk r2 (rk r5 []))))))]):=by kernel_rfl
theorem Ax(r0:R4)(r1:R4)(r2:R4)(r3:R4)(r4:R4)(r5:R4):wpF CC Gv an0 Tryz.f147 [.ag (rk r0 (rk r1 (rk r2 []))),.ag (rk r3 (rk r4 (rk r5 [])))] Q=(∃x x1,Gv 211 [aT r0 r1 r2,aT r3 r4 r5] [B0 (pk x (rk x1 []))]/\∃i,Gv 210 [B0 (pk x (rk x1 []))] [aI i]/\Q [aI i]):=by kernel_rfl
theorem eK(r0:R4)(r1:R4)(r2:R4)(r3:R4)(r4:R4)(r5:R4):wpF CC Gv an0 Tryz.f209 [.ag (rk r0 (rk r1 (rk r2 []))),.ag (rk r3 (rk r4 (rk r5 [])))] Q=(∃i,Gv 147 [aT r0 r1 r2,aT r3 r4 r5] [aI i]/\Q [aB (i==0)]):=by kernel_rfl
theorem Md(r0:R4)(r1:R4)(r2:R4)(r3:R4):wpF CC Gv an0 Tryz.f344 [.ag (rk r0 (rk r1 (rk r2 []))),.ag (rk r3 [])] Q=(∃x,Gv 55 [aR r0,aR r3] [aR x]/\∃i,Gv 266 [aR x,aR r1,aR r2] [aI i]/\Q [aI i]):=by kernel_rfl
theorem Cr:wpF CC Gv an0 Tryz.f149 [] Q=(∃x,Gv 17 [aI (0:Int)] [aR x]/\Q [aR x]):=by kernel_rfl
theorem eM(r0:R4)(r1:R4):wpF CC Gv an0 Tryz.f91 [.ag (rk r0 (rk r1 []))] Q=(∃x,Gv 149 [] [aR x]/\∃x1,Gv 149 [] [aR x1]/\∃x2,Gv 149 [] [aR x2]/\Q [B0 (rk r0 (rk x (rk r1 (rk x1 (rk x2 [])))))]):=by kernel_rfl
theorem PY(r0:R4)(r1:R4)(r2:R4):wpF CC Gv an0 Tryz.f208 [.ag (rk r0 []),.ag (rk r1 []),.ag (rk r2 [])] Q=(∃i,Gv 36 [aR r1] [aI i]/\bB (i==0) (∃x x1 x2,Gv 265 [aR r0] [aT x x1 x2]/\Q [aT x x1 x2]) (Q [aT r0 r1 r2])):=by kernel_rfl
theorem mc(p0:P20):wpF CC Gv an0 Tryz.f145 [.ag (pk p0 [])] Q=(∃x x1 x2,Gv 208 [aR (J8 p0),aR (J5 p0),aR (J3 p0)] [aT x x1 x2]/\Q [aT x x1 x2]):=by kernel_rfl
theorem me(p0:P20):wpF CC Gv an0 Tryz.f213 [.ag (pk p0 [])] Q=(∃x x1 x2,Gv 208 [aR (J7 p0),aR (J4 p0),aR (J3 p0)] [aT x x1 x2]/\Q [aT x x1 x2]):=by kernel_rfl
theorem PZ(p0:P20):wpF CC Gv an0 Tryz.f152 [.ag (pk p0 [])] Q=(∃b,Gv 38 [aR (J8 p0)] [aB b]/\bB (!b) (Q [aB false]) (∃b,Gv 38 [aR (J7 p0)] [aB b]/\bB (!b) (Q [aB false]) (∃b,Gv 38 [aR (J5 p0)] [aB b]/\bB (!b) (Q [aB false]) (∃b,Gv 38 [aR (J4 p0)] [aB b]/\bB (!b) (Q [aB false]) (∃b,Gv 38 [aR (J3 p0)] [aB b]/\bB (!b) (Q [aB false]) (∃i,Gv 36 [aR (J5 p0)] [aI i]/\bB (i==0) (∃i,Gv 36 [aR (J4 p0)] [aI i]/\bB (i==0) (∃i,Gv 36 [aR (J3 p0)] [aI i]/\Q [aB (i==0)]) (∃x b,Gv 218 [aR (J3 p0)] [aR x,aB b]/\∃i,Gv 36 [aR (J3 p0)] [aI i]/\bB (decide (i>0)) (Q [aB (!b)]) (Q [aB false]))) (∃x b,Gv 218 [aR (J3 p0)] [aR x,aB b]/\∃i,Gv 36 [aR (J3 p0)] [aI i]/\bB (decide (i>0)) (Q [aB (!b)]) (Q [aB false])))))))):=by kernel_rfl
theorem Ay(p0:P20)(p1:P20):wpF CC Gv an0 Tryz.f219 [.ag (pk p0 []),.ag (pk p1 [])] Q=(∃x x1 x2,Gv 145 [aP p0] [aT x x1 x2]/\∃x3 x4 x5,Gv 145 [aP p1] [aT x3 x4 x5]/\∃i,Gv 147 [aT x x1 x2,aT x3 x4 x5] [aI i]/\bB (i !=0) (Q [aI i]) (∃x x6 x7,Gv 213 [aP p0] [aT x x6 x7]/\∃x8 x9 x10,Gv 213 [aP p1] [aT x8 x9 x10]/\∃i,Gv 147 [aT x x6 x7,aT x8 x9 x10] [aI i]/\Q [aI i])):=by kernel_rfl
theorem eN(p0:P20)(p1:P20):wpF CC Gv an0 Tryz.f156 [.ag (pk p0 []),.ag (pk p1 [])] Q=(∃i,Gv 219 [aP p0,aP p1] [aI i]/\Q [aB (i==0)]):=by kernel_rfl
theorem Ra(p0:P20)(r0:R4)(r1:R4):wpF CC Gv an0 Tryz.f333 [.ag (pk p0 []),.ag (rk r0 (rk r1 []))] Q=(∃x,Gv 8 [aR (J8 p0),aR r0] [aR x]/\∃x1,Gv 8 [aR (J7 p0),aR r1] [aR x1]/\Q [B0 (rk x (rk (J5 p0) (rk x1 (rk (J4 p0) (rk (J3 p0) [])))))]):=by kernel_rfl
theorem Ct(r0:R4)(r1:R4):wpF CC Gv an0 Tryz.f334 [.ag (rk r0 (rk r1 []))] Q=(∃x,Gv 9 [aR r0] [aR x]/\∃x1,Gv 9 [aR r1] [aR x1]/\Q [aV x x1]):=by kernel_rfl
theorem Me(p0:P20)(r0:R4)(r1:R4):wpF CC Gv an0 Tryz.f306 [.ag (pk p0 []),.ag (rk r0 (rk r1 []))] Q=(∃x x1,Gv 334 [aV r0 r1] [aV x x1]/\∃x2,Gv 333 [aP p0,aV x x1] [aP x2]/\∃x x3 x4,Gv 145 [aP x2] [aT x x3 x4]/\∃x5 x6 x7,Gv 336 [aT x x3 x4] [aT x5 x6 x7]/\∃x x8 x9,Gv 213 [aP x2] [aT x x8 x9]/\∃x10 x11 x12,Gv 336 [aT x x8 x9] [aT x10 x11 x12]/\∃x x13 x14 i,Gv 335 [aT x5 x6 x7,aT x10 x11 x12] [aT x x13 x14,aI i]/\Q [aT x x13 x14]):=by kernel_rfl
end
end Eng
end
section
namespace Eng
open Go Go.Proofs Rl
set_option maxRecDepth 100000
theorem wpG{f:Nat}{fn:Func}{args res:List A}(hf:Tryz.prog.funcs[f]? =some fn)(h:wpF CC (qa CC) an0 fn args (· =res)):qa CC f args res:=qo mixedT hf h
def kT (r:Rt) (t:List D):List D:=rk (q4 r.a) (rk (q4 r.b) (rk (q4 r.c) t))
def kP (p:P5):P20:=⟨q4 p.x,q4 p.u,q4 p.y,q4 p.v,q4 p.c⟩
def kV (v:Vc):List D:=rk (q4 v.x) (rk (q4 v.y) [])
def kL (l:Ln) (t:List D):List D:=rk (q4 l.a) (rk (q4 l.b) (rk (q4 l.c) t))
def kC (c:Ci) (t:List D):List D:=rk (q4 c.x) (rk (q4 c.y) (rk (q4 c.q) t))
def eT (r:Rt):A:= .ag (kT r [])
def eI (n:Int):A:= .c (.int .i64 n)
def z4A:R4:=⟨false,[],false,[]⟩
theorem aQ(r:Rat):sgn r.num=sr r:=by
 unfold sgn sr;have h1:= @Rat.num_nonneg r;have h2:= @Rat.num_eq_zero r
 grind
theorem Cv(x y:Rat):dP x y=sr (x-y):=by
 unfold dP sr
 grind
theorem j9{a b:Int}(ha: -1<=a/\a<=1)(hb: -1<=b/\b<=1):J9 .i64 (a*b)=a*b:=by
 have h1:a= -1\/a=0\/a=1:=by omega
 have h2:b= -1\/b=0\/b=1:=by omega
 rcases h1 with rfl|rfl|rfl<;>rcases h2 with rfl|rfl|rfl<;>rfl
theorem ml_w{a b:Int}(ha: -1<=a/\a<=1)(hb: -1<=b/\b<=1): -1<=a*b/\a*b<=1:=by
 have h1:a= -1\/a=0\/a=1:=by omega
 grind
theorem z8(x:Rat):qa CC 36 [.ag (rk (q4 x) [])] [.c (.int .i64 (sr x))]:=by
 rw[<-aQ];exact NL x
theorem TS{x:Rat}{k:Nat}(hx:Hz k x)(h:k<360000:=by omega):qa CC 9 [.ag (rk (q4 x) [])] [.ag (rk (q4 (-x)) [])]:=LO (hx.sr h)
theorem V2{x y:Rat}{j k:Nat}(hx:Hz j x)(hy:Hz k y)(h:j<360000/\k<360000:=by omega):qa CC 8 [.ag (rk (q4 x) []),.ag (rk (q4 y) [])] [.ag (rk (q4 (x+y)) [])]:=LP jT (hx.sr h.1) (hy.sr h.2)
theorem Sn{x y:Rat}{j k:Nat}(hx:Hz j x)(hy:Hz k y)(h:j<360000/\k<360000:=by omega):qa CC 55 [.ag (rk (q4 x) []),.ag (rk (q4 y) [])] [.ag (rk (q4 (x-y)) [])]:=BK jT (hx.sr h.1) (hy.sr h.2)
theorem Zd{x y:Rat}{j k:Nat}(hx:Hz j x)(hy:Hz k y)(h:j<360000/\k<360000:=by omega):qa CC 114 [.ag (rk (q4 x) []),.ag (rk (q4 y) [])] [.ag (rk (q4 (x*y)) [])]:=BM jT (hx.sr h.1) (hy.sr h.2)
theorem JA{x y:Rat}{j k:Nat}(hx:Hz j x)(hy:Hz k y)(h:j<360000/\k<360000:=by omega):qa CC 85 [.ag (rk (q4 x) []),.ag (rk (q4 y) [])] [.c (.int .i64 (sr (x-y)))]:=by
 rw[<-Cv];exact BL (hx.sr h.1) (hy.sr h.2)
theorem pJ{x y:Rat}{j k:Nat}(hx:Hz j x)(hy:Hz k y)(h0:y≠0)(h:j<360000/\k<360000:=by omega):qa CC 310 [.ag (rk (q4 x) []),.ag (rk (q4 y) [])] [.ag (rk (q4 (x/y)) []),.c (.int .i64 0)]:=by
 have:=eh jT (hx.sr h.1) (hy.sr h.2);rw[if_neg h0]at this;exact this
theorem ET{n:Int}(h1: -9223372036854775808<=n)(h2:n<9223372036854775808):qa CC 17 [.c (.int .i64 n)] [.ag (rk (q4 (n:Rat)) [])]:=XU h1 h2
theorem a0:qa CC 17 [.c (.int .i64 0)] [.ag (rk (q4 0) [])]:=ET (n:=0) (by omega) (by omega)
theorem a1:qa CC 17 [.c (.int .i64 1)] [.ag (rk (q4 1) [])]:=ET (n:=1) (by omega) (by omega)
theorem a2:qa CC 17 [.c (.int .i64 2)] [.ag (rk (q4 2) [])]:=ET (n:=2) (by omega) (by omega)
def HT (j k l:Nat) (r:Rt):Prop:=Hz j r.a/\Hz k r.b/\Hz l r.c
theorem UB:qa CC 303 [] [.ag (rk (q4 0) [])]:=by
 grind [wpG,Tryz.func303,Cm,a0]
theorem Az:qa CC 338 [] [.ag (rk (q4 1) [])]:=by
 grind [wpG,Tryz.func338,Ap,a1]
theorem kh(x:Rat):qa CC 265 [.ag (rk (q4 x) [])] [.ag (kT (rtQ x) [])]:=by
 refine wpG Tryz.func265 ((UA ..).mpr ?_);exact⟨_,UB,_,UB,rfl⟩
theorem JU(a b c:Rat):qa CC 332 [.ag (rk (q4 a) []),.ag (rk (q4 b) []),.ag (rk (q4 c) [])] [.ag (kT (JQ a b c) [])]:=by
 refine wpG Tryz.func332 ((Aq ..).mpr ?_);refine⟨_,z8 b,?_⟩;rw[Xp];refine brd (λh=>?_) (λh=>?_)
 .rw[JQ,if_pos (.inl h)];exact⟨_,_,_,kh a,rfl⟩
 .refine⟨_,z8 c,?_⟩;rw[Xp];refine brd (λh2=>?_) (λh2=>?_)
  .rw[JQ,if_pos (.inr h2)];exact⟨_,_,_,kh a,rfl⟩
  .rw[JQ,if_neg (by grind)];rfl
theorem Cw{x:Rat}{k:Nat}(hx:Hz k x)(h:k<360000):qa CC 331 [.ag (rk (q4 x) [])] [.ag (rk (q4 (x*x)) [])]:=by
 grind [wpG,Tryz.func331,eJ,Zd]
theorem UC{r:Rt}{j k l:Nat}(hr:HT j k l r)(h:2*j+(2*k+l)<359990):qa CC 304 [.ag (kT r [])] [.ag (rk (q4 (wT r)) [])]:=by
 refine wpG Tryz.func304 ((Co ..).mpr ?_);obtain⟨ha,hb,hc⟩:=hr;have h1:=ha.mul ha (l:=2*j);have h2:=hb.mul hb (l:=2*k);have h3:=h2.mul hc (l:=2*k+l);exact⟨_,Cw ha (by omega),_,Cw hb (by omega),_,Zd h2 hc,_,Sn h1 h3,rfl⟩
theorem NZ{r:Rt}{j k l m:Nat}(hr:HT j k l r)(h:2*j+(2*k+l)+1<=m):Hz m (wT r):=
 (hr.1.mul hr.1 (l:=2*j)).sub ((hr.2.1.mul hr.2.1 (l:=2*k)).mul hr.2.2 (l:=2*k+l)) (by omega)
theorem yL{r:Rt}{j k l:Nat}(hr:HT j k l r)(ho:okT r)(h:2*j+(2*k+l)<359990:=by omega):qa CC 267 [.ag (kT r [])] [.c (.int .i64 (sg (rv r)))]:=by
 refine wpG Tryz.func267 ((Cp ..).mpr ?_);rw[pI ho];refine⟨_,z8 r.a,_,z8 r.b,?_⟩;refine brb (λh1=>?_) (λh1=>?_)
 .rw[if_pos (ea h1)]
 rw[if_neg (by simpa using h1)];refine brb (λh2=>?_) (λh2=>?_)
 .rw[if_pos (ea h2)]
 rw[if_neg (by simpa using h2)];refine brb (λh3=>?_) (λh3=>?_)
 .rw[if_pos (ea h3)]
 rw[if_neg (by simpa using h3)];refine⟨_,UC hr h,_,z8 _,?_⟩;refine brd (λh4=>?_) (λh4=>?_)
 .rw[if_pos (by omega)]
 grind
theorem HT.add{r:Rt}{j k l m i:Nat}{x:Rat}(hr:HT j k l r)(hx:Hz i x)(h:j+i+1<=m):HT m k l (BX r x):=⟨hr.1.add hx h,hr.2⟩
theorem okT.add{r:Rt}(h:okT r)(x:Rat):okT (BX r x):=h
theorem aS(r:Rt)(x:Rat):rv (BX r x)=rv r+ofR x:=by
 show ofR (r.a+x)+ofR r.b*jw r.c=ofR r.a+ofR r.b*jw r.c+ofR x;rw[ze,ada,ada,adc (ofR x)]
theorem yg{r:Rt}{j k l i:Nat}{x:Rat}(hr:HT j k l r)(hx:Hz i x)(h:j+i<359990:=by omega):qa CC 269 [.ag (kT r []),.ag (rk (q4 x) [])] [.ag (kT (BX r x) [])]:=by
 refine wpG Tryz.func269 ((LZ ..).mpr ?_);exact⟨_,V2 hr.1 hx,rfl⟩
theorem eO(x y:Rl):x-y=x+ -y:=rfl
theorem Mf{r:Rt}{j k l i:Nat}{x:Rat}(hr:HT j k l r)(ho:okT r)(hx:Hz i x)(h:2*(j+i)+(2*k+l)<359900:=by omega):
 qa CC 215 [.ag (kT r []),.ag (rk (q4 x) [])] [.c (.int .i64 (sg (rv r-ofR x)))]:=by
 refine wpG Tryz.func215 ((Ma ..).mpr ?_);refine⟨_,TS hx (by omega),_,_,_,yg hr hx.neg (by omega),_,yL (hr.add hx.neg (lg _)) (ho.add _) (by omega),?_⟩;rw[aS,wl,<-eO]
theorem HT.neg{r:Rt}{j k l:Nat}(hr:HT j k l r):HT j k l (lS r):=⟨hr.1.neg,hr.2.1.neg,hr.2.2⟩
theorem okT.neg{r:Rt}(h:okT r):okT (lS r):=by
 rcases h with⟨h1,h2⟩|⟨h1,h2⟩
 .exact .inl ⟨by show-r.b=0;grind,h2⟩
 .exact .inr ⟨by show-r.b≠0;grind,h2⟩
theorem A0{r:Rt}{j k l:Nat}(hr:HT j k l r)(h:j<360000/\k<360000:=by omega):qa CC 313 [.ag (kT r [])] [.ag (kT (lS r) [])]:=by
 refine wpG Tryz.func313 ((At ..).mpr ?_);exact⟨_,TS hr.1 h.1,_,TS hr.2.1 h.2,rfl⟩
theorem Cy{x y:Rat}:x-y=0↔x=y:=by grind
theorem Wp{r s:Rt}{l m:Nat}(hr:Hz l r.c)(hs:Hz m s.c)(hc:Aa r s)(h:l+m<359990:=by omega):qa CC 339 [.ag (kT r []),.ag (kT s [])] [.ag (rk (q4 (Zz r s)) []),.c (.bool true)]:=by
 refine wpG Tryz.func339 ((Mb ..).mpr ?_);refine⟨_,z8 r.b,?_⟩;rw[Xp];unfold Zz;refine brd (λh1=>?_) (λh1=>?_)
 .grind
 rw[if_neg h1];refine⟨_,z8 s.b,?_⟩;rw[Xp];refine brd (λh2=>?_) (λh2=>?_)
 .rfl
 refine⟨_,JA hr hs (by omega),?_⟩;have:r.c=s.c:=(hc.resolve_left h1).resolve_left h2;rw[Xp,decide_eq_true (Cy.2 this)]
theorem Oa{r s:Rt}{j k l i m n:Nat}(hr:HT j k l r)(hs:HT i m n s)(hc:Aa r s)(h:j+k+i+m+l+n<170000:=by omega):
 qa CC 312 [.ag (kT r []),.ag (kT s [])] [.ag (kT (ZH r s) []),.c (.int .i64 0)]:=by
 refine wpG Tryz.func312 ((Ar ..).mpr ?_);have a3:Hz (l+n) (Zz r s):=by
  unfold Zz;split
  .exact hs.2.2.mono (by omega)
  .exact hr.2.2.mono (by omega)
 have h1:=hr.1.mul hs.1 (l:=j+i);have h2:=hr.2.1.mul hs.2.1 (l:=k+m);have h3:=h2.mul a3 (l:=k+m+(l+n));have h4:=hr.1.mul hs.2.1 (l:=j+m);have h5:=hr.2.1.mul hs.1 (l:=k+i);refine⟨_,_,Wp hr.2.2 hs.2.2 hc (by omega),?_⟩;refine brb (λh=>absurd h (by decide)) (λ_=>?_);exact⟨_,Zd hr.1 hs.1,_,Zd hr.2.1 hs.2.1,_,Zd h2 a3,_,V2 h1 h3,_,Zd hr.1 hs.2.1,_,Zd hr.2.1 hs.1,_,V2 h4 h5,_,_,_,JU _ _ _,rfl⟩
theorem A1{r:Rt}{j k l:Nat}(hr:HT j k l r)(ho:okT r)(h0:rv r≠0)(h:4*j+(4*k+2*l)<170000:=by omega):
 qa CC 311 [.ag (kT r [])] [.ag (kT (ir r) []),.c (.int .i64 0)]:=by
 refine wpG Tryz.func311 ((As ..).mpr ?_);have hn:=NZ (m:=2*j+(2*k+l)+1) hr (by omega);have a3:wT r≠0:=ho.norm λk=>h0 (ho.zero.2 k)
 have h1:=(Hz.one (k:=0)).div hn a3 (l:=2*j+(2*k+l)+1) (by omega);have h2:=hr.2.1.mul h1 (l:=k+(2*j+(2*k+l)+1)) (by omega);refine⟨_,yL hr ho (by omega),?_⟩;refine brb (λh=>absurd (qY.1 (ea h)) h0) (λ_=>?_);exact⟨_,Az,_,UC hr (by omega),_,_,pJ (Hz.one (k:=0)) hn a3 (by omega),_,Zd hr.1 h1 (by omega),_,Zd hr.2.1 h1 (by omega),_,TS h2 (by omega),_,_,_,JU _ _ _,rfl⟩
theorem iv(a b m:Rat): -1<=tw a b m/\tw a b m<=1:=by
 unfold tw;split
 .exact Wm a
 split
 .exact ml_w (Wm b) (Wm m)
 .exact ml_w (Wm a) (Wm _)
theorem JV{a b m:Rat}{i j k:Nat}(ha:Hz i a)(hb:Hz j b)(hm:Hz k m)(h:2*i<360000/\2*j+k<360000:=by omega):
 qa CC 266 [.ag (rk (q4 a) []),.ag (rk (q4 b) []),.ag (rk (q4 m) [])] [.c (.int .i64 (tw a b m))]:=by
 refine wpG Tryz.func266 ((Av ..).mpr ?_);have h2:=hb.mul hb (l:=2*j);refine⟨_,z8 a,_,z8 b,_,z8 m,?_⟩;rw[j9 (Wm b) (Wm m)];unfold tw;refine brb (λh1=>?_) (λh1=>?_)
 .have e:=ea h1;refine brb (λ_=>?_) (λh=>absurd h (by rw[h1];simp));rw[e];by_cases h3:sr b*sr m=0
  .rw[if_pos (.inl h3),h3]
  .rw[if_neg (by simp[h3,Ne.symm h3]),if_pos rfl]
 have n1:sr a≠0:=by simpa using h1
 refine brb (λh3=>?_) (λh3=>?_)
 .have e:=ea h3;refine brb (λh=>absurd h (by rw[h1];simp)) (λ_=>?_);rw[if_pos (.inl e)]
 have n3:sr b*sr m≠0:=by simpa using h3
 refine brb (λh4=>?_) (λh4=>?_)
 .have e:=ea h4;refine brb (λh=>absurd h (by rw[h1];simp)) (λ_=>?_);rw[if_pos (.inr e)]
 have n4:sr a≠sr b*sr m:=by simpa using h4
 rw[if_neg (by simp[n3,n4]),if_neg n1];refine⟨_,Zd ha ha,_,Zd hb hb,_,Zd h2 hm,_,JA (ha.mul ha (l:=2*i)) (h2.mul hm (l:=2*j+k)),?_⟩;rw[j9 (Wm a) (Wm _)]
theorem Ob(x:Rat):x+x=2*x:=by grind
theorem Cz{a b c d m n:Rat}{i j k:Nat}(ha:Hz i a)(hb:Hz j b)(hc:Hz j c)(hd:Hz 0 d)(hm:Hz k m)(hn:Hz k n)(hm0:0<=m)(hn0:0<=n)(h:4*i+(8*j+6*k)<359000:=by omega):
 qa CC 210 [.ag (rk (q4 a) (rk (q4 b) (rk (q4 c) (rk (q4 d) (rk (q4 m) (rk (q4 n) []))))))] [.c (.int .i64 (qs a b c d m n))]:=by
 refine wpG Tryz.func210 ((Cq ..).mpr ?_);have a9:=hc.mul hc (l:=2*j);have ag:=hd.mul hd (l:=0);have a4:=ag.mul hm (l:=k);have hs:=a9.add a4 (l:=2*j+k+1);have al:=hn.mul hs (l:=2*j+2*k+1);have a6:=ha.mul ha (l:=2*i);have a8:=hb.mul hb (l:=2*j);have a3:=a8.mul hm (l:=2*j+k);have an:=a6.add a3 (l:=2*i+2*j+k+1);have hA:=an.sub al (l:=2*i+4*j+3*k+3);have a7:=ha.mul hb (l:=i+j);have ad:=hc.mul hd (l:=j);have a5:=hn.mul ad (l:=k+j);have hB:=a7.sub a5 (l:=i+2*j+k+1);have hBB:=hB.add hB (l:=2*i+4*j+2*k+3);refine⟨_,z8 m,?_⟩;refine brd (λh=>absurd (kv.1 h) (by grind)) (λ_=>?_);refine⟨_,z8 n,?_⟩;refine brd (λh=>absurd (kv.1 h) (by grind)) (λ_=>?_);refine⟨_,JV ha hb hm (by omega),_,JV hc hd hm (by omega),_,z8 n,?_⟩;rw[j9 (iv _ _ _) (Wm n)];unfold qs;refine brb (λh1=>?_) (λh1=>?_)
 .have e:=ea h1;refine brb (λ_=>?_) (λh=>absurd h (by rw[h1];simp));rw[e];by_cases h3:tw c d m*sr n=0
  .rw[if_pos (.inl h3),h3]
  .rw[if_neg (by simp[h3,Ne.symm h3]),if_pos rfl]
 have n1:tw a b m≠0:=by simpa using h1
 refine brb (λh3=>?_) (λh3=>?_)
 .have e:=ea h3;refine brb (λh=>absurd h (by rw[h1];simp)) (λ_=>?_);rw[if_pos (.inl e)]
 have n3:tw c d m*sr n≠0:=by simpa using h3
 refine brb (λh4=>?_) (λh4=>?_)
 .have e:=ea h4;refine brb (λh=>absurd h (by rw[h1];simp)) (λ_=>?_);rw[if_pos (.inr e)]
 have n4:tw a b m≠tw c d m*sr n:=by simpa using h4
 rw[if_neg (by simp[n3,n4]),if_neg n1];refine⟨_,Zd hc hc,_,Zd hd hd,_,Zd ag hm,_,V2 a9 a4,_,Zd hn hs,_,Zd ha ha,_,Zd hb hb,_,Zd a8 hm,_,V2 a6 a3,_,Sn an al,
  _,Zd ha hb,_,Zd hc hd,_,Zd hn ad,_,Sn a7 a5,_,V2 hB hB,_,JV hA hBB hm (by omega),?_⟩
 rw[j9 (iv _ _ _) (iv _ _ _),Ob]
theorem aU(r s:Rt):qv (r.a-s.a) r.b (-s.b) 0 r.c s.c=rv r-rv s:=by
 have e:∀x y:Rl,(ofR (r.a-s.a)+ofR r.b*x)+(ofR (-s.b)+ofR 0*x)*y=(ofR r.a+ofR r.b*x)-(ofR s.a+ofR s.b*y):=by intro x y;obtain⟨x,rfl⟩:=x.rep;obtain⟨y,rfl⟩:=y.rep;exact xz λn=>by simp only[xZ,zK,ke,kf];grind
 exact e _ _
theorem wE{r s:Rt}{i j k:Nat}(hr:HT i j k r)(hs:HT i j k s)(ho:okT r)(hp:okT s)(h:8*i+(8*j+6*k)<358900:=by omega):
 qa CC 147 [.ag (kT r []),.ag (kT s [])] [.c (.int .i64 (sg (rv r-rv s)))]:=by
 have h1:qa CC 211 [.ag (kT r []),.ag (kT s [])] [.ag (rk (q4 (r.a-s.a)) (rk (q4 r.b) (rk (q4 (-s.b)) (rk (q4 0) (rk (q4 r.c) (rk (q4 s.c) []))))))]:=by refine wpG Tryz.func211 ((Aw ..).mpr ?_);exact⟨_,Sn hr.1 hs.1,_,TS hs.2.1,_,a0,rfl⟩
 refine wpG Tryz.func147 ((Ax ..).mpr ?_);refine⟨⟨_,_,_,_,_⟩,_,h1,_,Cz (i:=2*i+1) (j:=j) (k:=k) (hr.1.sub hs.1 (by omega)) hr.2.1 hs.2.1.neg Hz.zero hr.2.2 hs.2.2 ho.nn hp.nn (by omega),?_⟩;rw[eu _ _ _ _ ho.nn hp.nn,aU]
theorem eP{r s:Rt}{i j k:Nat}(hr:HT i j k r)(hs:HT i j k s)(ho:okT r)(hp:okT s)(h:8*i+(8*j+6*k)<358900:=by omega):
 qa CC 209 [.ag (kT r []),.ag (kT s [])] [.c (.bool (sg (rv r-rv s)==0))]:=by
 refine wpG Tryz.func209 ((eK ..).mpr ?_);exact⟨_,wE hr hs ho hp h,rfl⟩
theorem Wq{r:Rt}{i j k l:Nat}{x:Rat}(hr:HT i j k r)(ho:okT r)(hx:Hz l x)(h:2*(i+l+1)+(2*j+k)<359990:=by omega):
 qa CC 344 [.ag (kT r []),.ag (rk (q4 x) [])] [.c (.int .i64 (sg (rv r-ofR x)))]:=by
 refine wpG Tryz.func344 ((Md ..).mpr ?_);refine⟨_,Sn hr.1 hx (by omega),_,JV (hr.1.sub hx (l:=i+l+1)) hr.2.1 hr.2.2 (by omega),?_⟩;rw[U4 _ _ ho.nn];have e:rv r-ofR x=ofR (r.a-x)+ofR r.b*jw r.c:=by
  have e':∀y:Rl,(ofR r.a+ofR r.b*y)-ofR x=ofR (r.a-x)+ofR r.b*y:=by intro y;obtain⟨y,rfl⟩:=y.rep;exact xz λn=>by simp only[xZ,zK,ke,kf];grind
  exact e' _
 rw[e]
def HP (k:Nat) (p:P5):Prop:=Hz k p.x/\Hz k p.u/\Hz k p.y/\Hz k p.v/\Hz k p.c
theorem Oc{a b c:Rat}{k:Nat}(ha:Hz k a)(hb:Hz k b)(hc:Hz k c):HT k k k (wq a b c):=by
 unfold wq;split
 .exact⟨ha,Hz.zero,Hz.zero⟩
 .exact⟨ha,hb,hc⟩
theorem HP.tx{k:Nat}{p:P5}(h:HP k p):HT k k k (xP p):=Oc h.1 h.2.1 h.2.2.2.2
theorem HP.ty{k:Nat}{p:P5}(h:HP k p):HT k k k (yP p):=Oc h.2.2.1 h.2.2.2.1 h.2.2.2.2
theorem Wr:qa CC 149 [] [.ag (rk (q4 0) [])]:=by
 grind [wpG,Tryz.func149,Cr,a0]
theorem ZK(v:Vc):qa CC 91 [.ag (kV v)] [.ag (pk (kP (atV v)) [])]:=by
 refine wpG Tryz.func91 ((eM ..).mpr ?_);exact⟨_,Wr,_,Wr,_,Wr,rfl⟩
theorem Yf(a b c:Rat):qa CC 208 [.ag (rk (q4 a) []),.ag (rk (q4 b) []),.ag (rk (q4 c) [])] [.ag (kT (wq a b c) [])]:=by
 refine wpG Tryz.func208 ((PY ..).mpr ?_);refine⟨_,z8 b,?_⟩;rw[Xp];unfold wq;refine brd (λh=>?_) (λh=>?_)
 .rw[if_pos h];exact⟨_,_,_,kh a,rfl⟩
 .rw[if_neg h];rfl
theorem wu(p:P5):qa CC 145 [.ag (pk (kP p) [])] [.ag (kT (xP p) [])]:=by
 refine wpG Tryz.func145 ((mc ..).mpr ?_);exact⟨_,_,_,Yf _ _ _,rfl⟩
theorem QE(p:P5):qa CC 213 [.ag (pk (kP p) [])] [.ag (kT (yP p) [])]:=by
 refine wpG Tryz.func213 ((me ..).mpr ?_);exact⟨_,_,_,Yf _ _ _,rfl⟩
theorem G1{p q:P5}{k:Nat}(hp:HP k p)(hq:HP k q)(ho:okP p)(hr:okP q)(h:k<=15000:=by omega):
 qa CC 219 [.ag (pk (kP p) []),.ag (pk (kP q) [])] [.c (.int .i64 (zW p q))]:=by
 refine wpG Tryz.func219 ((Ay ..).mpr ?_);have h1:=wE hp.tx hq.tx (QD ho) (QD hr);have h2:=wE hp.ty hq.ty (Za ho) (Za hr);rw[Zb,Zb]at h1;rw[Wn,Wn]at h2;refine⟨_,_,_,wu p,_,_,_,wu q,_,h1,?_⟩;unfold zW;refine brb (λh=>?_) (λh=>?_)
 .grind
 .rw[if_pos (by simpa using h)];exact⟨_,_,_,QE p,_,_,_,QE q,_,h2,rfl⟩
theorem eQ{p q:P5}{k:Nat}(hp:HP k p)(hq:HP k q)(ho:okP p)(hr:okP q)(h:k<=15000:=by omega):
 qa CC 156 [.ag (pk (kP p) []),.ag (pk (kP q) [])] [.c (.bool (wU p q))]:=by
 refine wpG Tryz.func156 ((eN ..).mpr ?_);exact⟨_,G1 hp hq ho hr h,rfl⟩
end Eng
end
section
open Go Go.Proofs Eng
namespace Eng
def Ws (I0:List D->List D->Prop) (M0:List D->Nat) (es e2 e3 e4:List (List D)) (n1 g:Int):Prop:=((0<=n1/\n1<=J9 .i64 (J9 .i64 (n1+(Ts es.length))+1)/\J9 .i64 (J9 .i64 (n1+(Ts es.length))+1)<=(Ts e3.length))/\((e2≠[]/\QT e2=true/\e2.length<=1073741824)/\0<(Sz (J9 .i64 (J9 .i64 (n1+(Ts es.length))+1))-Sz n1)/\Sz n1+(Sz (J9 .i64 (J9 .i64 (n1+(Ts es.length))+1))-Sz n1)<=e3.length/\QT (eb (Sz (J9 .i64 (J9 .i64 (n1+(Ts es.length))+1))-Sz n1) (ec (Sz n1) e3))=true)/\br (toB (Hu (decide (0<lm (lm (vd g (xj (eb (Sz (J9 .i64 (J9 .i64 (n1+(Ts es.length))+1))-Sz n1) (ec (Sz n1) e3))) (xj e2) (0:Int) (0:Int))))||decide (0<lh (lm (vd g (xj (eb (Sz (J9 .i64 (J9 .i64 (n1+(Ts es.length))+1))-Sz n1) (ec (Sz n1) e3))) (xj e2) (0:Int) (0:Int))))))) ((0<=n1/\n1<=J9 .i64 (J9 .i64 (n1+(Ts es.length))+1)/\J9 .i64 (J9 .i64 (n1+(Ts es.length))+1)<=(Ts (el (eb (Sz n1) e3++xQ (lh (vd g (xj (eb (Sz (J9 .i64 (J9 .i64 (n1+(Ts es.length))+1))-Sz n1) (ec (Sz n1) e3))) (xj e2) (0:Int) (0:Int)))++ec (Sz n1+(Sz (J9 .i64 (J9 .i64 (n1+(Ts es.length))+1))-Sz n1)) e3))))/\((e2≠[]/\QT e2=true/\e2.length<=1073741824)/\0<(Sz (J9 .i64 (J9 .i64 (n1+(Ts es.length))+1))-Sz n1)/\Sz n1+(Sz (J9 .i64 (J9 .i64 (n1+(Ts es.length))+1))-Sz n1)<=el (eb (Sz n1) e3++xQ (lh (vd g (xj (eb (Sz (J9 .i64 (J9 .i64 (n1+(Ts es.length))+1))-Sz n1) (ec (Sz n1) e3))) (xj e2) (0:Int) (0:Int)))++ec (Sz n1+(Sz (J9 .i64 (J9 .i64 (n1+(Ts es.length))+1))-Sz n1)) e3)/\QT (eb (Sz (J9 .i64 (J9 .i64 (n1+(Ts es.length))+1))-Sz n1) (ec (Sz n1) (eb (Sz n1) e3++xQ (lh (vd g (xj (eb (Sz (J9 .i64 (J9 .i64 (n1+(Ts es.length))+1))-Sz n1) (ec (Sz n1) e3))) (xj e2) (0:Int) (0:Int)))++ec (Sz n1+(Sz (J9 .i64 (J9 .i64 (n1+(Ts es.length))+1))-Sz n1)) e3)))=true)/\(0<=n1/\n1<(Ts e4.length))/\0<1/\I0 [] [F2 (eb (Sz n1) (eb (Sz n1) e3++xQ (lh (vd g (xj (eb (Sz (J9 .i64 (J9 .i64 (n1+(Ts es.length))+1))-Sz n1) (ec (Sz n1) e3))) (xj e2) (0:Int) (0:Int)))++ec (Sz n1+(Sz (J9 .i64 (J9 .i64 (n1+(Ts es.length))+1))-Sz n1)) e3)++xQ (Vk (xj (eb (Sz (J9 .i64 (J9 .i64 (n1+(Ts es.length))+1))-Sz n1) (ec (Sz n1) (eb (Sz n1) e3++xQ (lh (vd g (xj (eb (Sz (J9 .i64 (J9 .i64 (n1+(Ts es.length))+1))-Sz n1) (ec (Sz n1) e3))) (xj e2) (0:Int) (0:Int)))++ec (Sz n1+(Sz (J9 .i64 (J9 .i64 (n1+(Ts es.length))+1))-Sz n1)) e3)))) (xj e2) (0:Int))++ec (Sz n1+(Sz (J9 .i64 (J9 .i64 (n1+(Ts es.length))+1))-Sz n1)) (eb (Sz n1) e3++xQ (lh (vd g (xj (eb (Sz (J9 .i64 (J9 .i64 (n1+(Ts es.length))+1))-Sz n1) (ec (Sz n1) e3))) (xj e2) (0:Int) (0:Int)))++ec (Sz n1+(Sz (J9 .i64 (J9 .i64 (n1+(Ts es.length))+1))-Sz n1)) e3)),F2 (upd e4 (Sz n1) (upd (nth [] e4 (Sz n1)) 0 (F0 .u32 (J9 .u32 (J9 .u64 (g-1)))))),F0 .i64 (J9 .i64 (n1-1))]/\M0 [F2 (eb (Sz n1) (eb (Sz n1) e3++xQ (lh (vd g (xj (eb (Sz (J9 .i64 (J9 .i64 (n1+(Ts es.length))+1))-Sz n1) (ec (Sz n1) e3))) (xj e2) (0:Int) (0:Int)))++ec (Sz n1+(Sz (J9 .i64 (J9 .i64 (n1+(Ts es.length))+1))-Sz n1)) e3)++xQ (Vk (xj (eb (Sz (J9 .i64 (J9 .i64 (n1+(Ts es.length))+1))-Sz n1) (ec (Sz n1) (eb (Sz n1) e3++xQ (lh (vd g (xj (eb (Sz (J9 .i64 (J9 .i64 (n1+(Ts es.length))+1))-Sz n1) (ec (Sz n1) e3))) (xj e2) (0:Int) (0:Int)))++ec (Sz n1+(Sz (J9 .i64 (J9 .i64 (n1+(Ts es.length))+1))-Sz n1)) e3)))) (xj e2) (0:Int))++ec (Sz n1+(Sz (J9 .i64 (J9 .i64 (n1+(Ts es.length))+1))-Sz n1)) (eb (Sz n1) e3++xQ (lh (vd g (xj (eb (Sz (J9 .i64 (J9 .i64 (n1+(Ts es.length))+1))-Sz n1) (ec (Sz n1) e3))) (xj e2) (0:Int) (0:Int)))++ec (Sz n1+(Sz (J9 .i64 (J9 .i64 (n1+(Ts es.length))+1))-Sz n1)) e3)),F2 (upd e4 (Sz n1) (upd (nth [] e4 (Sz n1)) 0 (F0 .u32 (J9 .u32 (J9 .u64 (g-1)))))),F0 .i64 (J9 .i64 (n1-1))]<M0 [F2 e3,F2 e4,F0 .i64 n1]) ((0<=n1/\n1<(Ts e4.length))/\0<1/\I0 [] [F2 (eb (Sz n1) e3++xQ (lh (vd g (xj (eb (Sz (J9 .i64 (J9 .i64 (n1+(Ts es.length))+1))-Sz n1) (ec (Sz n1) e3))) (xj e2) (0:Int) (0:Int)))++ec (Sz n1+(Sz (J9 .i64 (J9 .i64 (n1+(Ts es.length))+1))-Sz n1)) e3),F2 (upd e4 (Sz n1) (upd (nth [] e4 (Sz n1)) 0 (F0 .u32 (J9 .u32 g)))),F0 .i64 (J9 .i64 (n1-1))]/\M0 [F2 (eb (Sz n1) e3++xQ (lh (vd g (xj (eb (Sz (J9 .i64 (J9 .i64 (n1+(Ts es.length))+1))-Sz n1) (ec (Sz n1) e3))) (xj e2) (0:Int) (0:Int)))++ec (Sz n1+(Sz (J9 .i64 (J9 .i64 (n1+(Ts es.length))+1))-Sz n1)) e3),F2 (upd e4 (Sz n1) (upd (nth [] e4 (Sz n1)) 0 (F0 .u32 (J9 .u32 g)))),F0 .i64 (J9 .i64 (n1-1))]<M0 [F2 e3,F2 e4,F0 .i64 n1]))
section
variable (Gv:Nat->List A->List A->Prop)(I0:List D->List D->Prop)(M0:List D->Nat)(I1:List D->List D->Prop)(M1:List D->Nat)(I2:List D->List D->Prop)(M2:List D->Nat)(I3:List D->List D->Prop)(M3:List D->Nat)(Q:List A->Prop)
theorem Wt(chk:List A->Bool)(mk:List A->List (List D))(es fs:List (List D)):wpF (CM chk mk) Gv (Vl ⟨[.own 8 180 1,.own 10 181 1,.slot 11 (.int .i64 0)],[],I0,M0⟩ ⟨[.slot 13 (.int .u64 0),.slot 14 (.int .u64 0)],[.slot 12 (.int .u64 0),.slot 11 (.int .i64 0),.own 8 180 1],I1,M1⟩) Tryz.f168 [.c (.sl es),.c (.sl fs)] Q=(∃e1,Gv 229 [Dd (F2 es)] [Dd (F2 e1)]/\∃es,Gv 229 [Dd (F2 fs)] [Dd (F2 es)]/\br (toB (Hu ((Ts es.length)==1))) (((0:Int)<=(0:Int)/\0<(Ts es.length)/\el (nth [] es 0)=1)/\∃n,cut (nth [] es 0) 0 1 [F0 .u32 n]/\∃es e2,Gv 230 [Dd (F2 e1),Dd (F0 .u32 n)] [Dd (F2 es),Dd (F2 e2)]/\Q [Dd (F2 es),Dd (F2 e2)]) (∃n,Gv 164 [Dd (F2 e1),Dd (F2 es)] [Dd (F0 .i64 n)]/\br (toB (Hu (decide (n<0)))) ((room e1.length/\lens 1 e1)/\Q [Dd (F2 []),Dd (F2 e1)]) ((0<=J9 .i64 ((Ts es.length)-1)/\J9 .i64 ((Ts es.length)-1)<(Ts es.length)/\el (nth [] es (Sz (J9 .i64 ((Ts es.length)-1))))=1)/\∃n,cut (nth [] es (Sz (J9 .i64 ((Ts es.length)-1)))) 0 1 [F0 .u32 n]/\J9 .u64 (J9 .u64 n+1)≠0/\chk [Dd (F2 e1),Dd (F2 [[F0 .u32 (J9 .u32 (J9 .u64 (W4 (1000000000:Int) (J9 .u64 (J9 .u64 n+1)))))]])]=true/\(room (el (mk [Dd (F2 e1),Dd (F2 [[F0 .u32 (J9 .u32 (J9 .u64 (W4 (1000000000:Int) (J9 .u64 (J9 .u64 n+1)))))]])])+1)/\lens 1 [[F0 .u32 0]])/\chk [Dd (F2 es),Dd (F2 [[F0 .u32 (J9 .u32 (J9 .u64 (W4 (1000000000:Int) (J9 .u64 (J9 .u64 n+1)))))]])]=true/\∃e2,Gv 229 [Dd (F2 (mk [Dd (F2 es),Dd (F2 [[F0 .u32 (J9 .u32 (J9 .u64 (W4 (1000000000:Int) (J9 .u64 (J9 .u64 n+1)))))]])]))] [Dd (F2 e2)]/\(0<=J9 .i64 ((Ts (el (mk [Dd (F2 e1),Dd (F2 [[F0 .u32 (J9 .u32 (J9 .u64 (W4 (1000000000:Int) (J9 .u64 (J9 .u64 n+1)))))]])]++[[F0 .u32 0]])))-(Ts es.length))/\J9 .i64 ((Ts (el (mk [Dd (F2 e1),Dd (F2 [[F0 .u32 (J9 .u32 (J9 .u64 (W4 (1000000000:Int) (J9 .u64 (J9 .u64 n+1)))))]])]++[[F0 .u32 0]])))-(Ts es.length))<=J9 .i64 ((Ts (el (mk [Dd (F2 e1),Dd (F2 [[F0 .u32 (J9 .u32 (J9 .u64 (W4 (1000000000:Int) (J9 .u64 (J9 .u64 n+1)))))]])]++[[F0 .u32 0]])))-(Ts es.length))/\room (Sz (J9 .i64 ((Ts (el (mk [Dd (F2 e1),Dd (F2 [[F0 .u32 (J9 .u32 (J9 .u64 (W4 (1000000000:Int) (J9 .u64 (J9 .u64 n+1)))))]])]++[[F0 .u32 0]])))-(Ts es.length)))))/\I0 [] [F2 (mk [Dd (F2 e1),Dd (F2 [[F0 .u32 (J9 .u32 (J9 .u64 (W4 (1000000000:Int) (J9 .u64 (J9 .u64 n+1)))))]])]++[[F0 .u32 0]]),F2 (ew (Sz (J9 .i64 ((Ts (el (mk [Dd (F2 e1),Dd (F2 [[F0 .u32 (J9 .u32 (J9 .u64 (W4 (1000000000:Int) (J9 .u64 (J9 .u64 n+1)))))]])]++[[F0 .u32 0]])))-(Ts es.length)))) [F0 .u32 0]),F0 .i64 (J9 .i64 (J9 .i64 ((Ts (el (mk [Dd (F2 e1),Dd (F2 [[F0 .u32 (J9 .u32 (J9 .u64 (W4 (1000000000:Int) (J9 .u64 (J9 .u64 n+1)))))]])]++[[F0 .u32 0]])))-(Ts es.length))-1))]/\∀(e3 e4:List (List D)) (n1:Int),I0 [] [F2 e3,F2 e4,F0 .i64 n1]->br (toB (Hu (decide (n1>=0)))) ((0<=J9 .i64 (n1+(Ts es.length))/\J9 .i64 (n1+(Ts es.length))<(Ts e3.length))/\∃n,cut (nth [] e3 (Sz (J9 .i64 (n1+(Ts es.length))))) 0 1 [F0 .u32 n]/\(0<=J9 .i64 (J9 .i64 (n1+(Ts es.length))-1)/\J9 .i64 (J9 .i64 (n1+(Ts es.length))-1)<(Ts e3.length))/\∃n2,cut (nth [] e3 (Sz (J9 .i64 (J9 .i64 (n1+(Ts es.length))-1)))) 0 1 [F0 .u32 n2]/\(0<=J9 .i64 ((Ts es.length)-1)/\J9 .i64 ((Ts es.length)-1)<(Ts e2.length)/\el (nth [] e2 (Sz (J9 .i64 ((Ts es.length)-1))))=1)/\∃n3,cut (nth [] e2 (Sz (J9 .i64 ((Ts es.length)-1)))) 0 1 [F0 .u32 n3]/\J9 .u64 n3≠0/\(0<=J9 .i64 ((Ts es.length)-1)/\J9 .i64 ((Ts es.length)-1)<(Ts e2.length)/\el (nth [] e2 (Sz (J9 .i64 ((Ts es.length)-1))))=1)/\∃n4,cut (nth [] e2 (Sz (J9 .i64 ((Ts es.length)-1)))) 0 1 [F0 .u32 n4]/\J9 .u64 n4≠0/\I1 [F0 .u64 (J9 .u64 (J9 .u64 (J9 .u64 n*1000000000)+J9 .u64 n2)),F0 .i64 n1,F2 e3] [F0 .u64 (J9 .u64 (W4 (J9 .u64 (J9 .u64 (J9 .u64 n*1000000000)+J9 .u64 n2)) (J9 .u64 n3))),F0 .u64 (dy (J9 .u64 (J9 .u64 (J9 .u64 n*1000000000)+J9 .u64 n2)) (J9 .u64 n4))]/\∀(n5 n6:Int),I1 [F0 .u64 (J9 .u64 (J9 .u64 (J9 .u64 n*1000000000)+J9 .u64 n2)),F0 .i64 n1,F2 e3] [F0 .u64 n5,F0 .u64 n6]->br (toB (Hu (decide (n5>=1000000000)))) ((0<=J9 .i64 ((Ts es.length)-1)/\J9 .i64 ((Ts es.length)-1)<(Ts e2.length)/\el (nth [] e2 (Sz (J9 .i64 ((Ts es.length)-1))))=1)/\∃n7,cut (nth [] e2 (Sz (J9 .i64 ((Ts es.length)-1)))) 0 1 [F0 .u32 n7]/\br (toB (Hu (decide (J9 .u64 (n6+J9 .u64 n7)>=1000000000)))) (Ws I0 M0 es e2 e3 e4 n1 (J9 .u64 (n5-1))) (I1 [F0 .u64 (J9 .u64 (J9 .u64 (J9 .u64 n*1000000000)+J9 .u64 n2)),F0 .i64 n1,F2 e3] [F0 .u64 (J9 .u64 (n5-1)),F0 .u64 (J9 .u64 (n6+J9 .u64 n7))]/\M1 [F0 .u64 (J9 .u64 (n5-1)),F0 .u64 (J9 .u64 (n6+J9 .u64 n7))]<M1 [F0 .u64 n5,F0 .u64 n6])) ((0<=J9 .i64 ((Ts es.length)-2)/\J9 .i64 ((Ts es.length)-2)<(Ts e2.length)/\el (nth [] e2 (Sz (J9 .i64 ((Ts es.length)-2))))=1)/\∃n7,cut (nth [] e2 (Sz (J9 .i64 ((Ts es.length)-2)))) 0 1 [F0 .u32 n7]/\(0<=J9 .i64 (J9 .i64 (n1+(Ts es.length))-2)/\J9 .i64 (J9 .i64 (n1+(Ts es.length))-2)<(Ts e3.length))/\∃n8,cut (nth [] e3 (Sz (J9 .i64 (J9 .i64 (n1+(Ts es.length))-2)))) 0 1 [F0 .u32 n8]/\br (toB (Hu (decide (J9 .u64 (n5*J9 .u64 n7)>J9 .u64 (J9 .u64 (n6*1000000000)+J9 .u64 n8))))) ((0<=J9 .i64 ((Ts es.length)-1)/\J9 .i64 ((Ts es.length)-1)<(Ts e2.length)/\el (nth [] e2 (Sz (J9 .i64 ((Ts es.length)-1))))=1)/\∃n9,cut (nth [] e2 (Sz (J9 .i64 ((Ts es.length)-1)))) 0 1 [F0 .u32 n9]/\br (toB (Hu (decide (J9 .u64 (n6+J9 .u64 n9)>=1000000000)))) (Ws I0 M0 es e2 e3 e4 n1 (J9 .u64 (n5-1))) (I1 [F0 .u64 (J9 .u64 (J9 .u64 (J9 .u64 n*1000000000)+J9 .u64 n2)),F0 .i64 n1,F2 e3] [F0 .u64 (J9 .u64 (n5-1)),F0 .u64 (J9 .u64 (n6+J9 .u64 n9))]/\M1 [F0 .u64 (J9 .u64 (n5-1)),F0 .u64 (J9 .u64 (n6+J9 .u64 n9))]<M1 [F0 .u64 n5,F0 .u64 n6])) (Ws I0 M0 es e2 e3 e4 n1 n5))) (((0:Int)<=(0:Int)/\0<=(Ts es.length)/\(Ts es.length)<=(Ts e3.length)/\lens 1 e3)/\∃e5,Gv 229 [Dd (F2 (ec 0 (eb (Sz (Ts es.length)) e3)))] [Dd (F2 e5)]/\∃es e6,Gv 230 [Dd (F2 e5),Dd (F0 .u32 (J9 .u32 (J9 .u64 (W4 (1000000000:Int) (J9 .u64 (J9 .u64 n+1))))))] [Dd (F2 es),Dd (F2 e6)]/\Q [Dd (F2 e4),Dd (F2 es)])))):=by kernel_rfl
end
end Eng
end
section
namespace Eng
open Go Go.Proofs
set_option maxRecDepth 100000
theorem Wu(l:List Nat):xj (raw l)=y8 l:=by simp[xj,raw,y8,pB]
theorem Wv(l:List Nat):xQ (y8 l)=raw l:=by simp[xQ,raw,y8]
theorem yM:∀(l:List Nat),QT (raw l)=true
 |[]=>rfl
 |x::l=>by have:=yM l;simp only[raw,List.map_cons,QT]at this ⊢;rw[this];rfl
theorem aW{l:List Nat}(h:l≠[]):raw l≠[]:=by
 intro e;apply h;exact List.map_eq_nil_iff.1 e
def I0v (n m V U0:Nat):List D->List D->Prop:=λ_ ds=>∃(kk:Nat) (ul ql:List Nat),ds=[.sl (raw ul),.sl (raw ql),.int .i64 ((kk:Int)-1)]/\DInv n m V U0 kk ul ql
def M0v:List D->Nat:=λds=>(toI (nth .undef ds 2)+1).toNat
def oG (es:List (List D)) (k n:Nat):Nat:=Vy ((es.drop k).take (n+1))
def I1v (n v1 V:Nat):List D->List D->Prop:=λgs ds=>∃(top k:Nat) (es:List (List D)) (g r:Nat),gs=[.int .u64 (top:Int),.int .i64 (k:Int),.sl es]/\ds=[.int .u64 (g:Int),.int .u64 (r:Int)]/\top=g*v1+r/\oG es k n/V<=g/\g<=1000000001/\r<1000000000
def M1v:List D->Nat:=λds=>(toI (nth .undef ds 0)).toNat
theorem A2(ul:List Nat)(k n:Nat):oG (raw ul) k n=val ((ul.drop k).take (n+1)):=by
 unfold oG;rw[XK,kA,XP]
theorem A3{n m V U0 k g:Nat}{bl ul ql vl:List Nat}(hn:2<=n)(hb:bl.length=n)(hv:vl.length=n)(lv:Limbs vl)(vV:val vl=V)(hD:DInv n m V U0 (k+1) ul ql)(hm:n+m<=1000000)(hV0:0<V)(hq:val ((ul.drop k).take (n+1))/V<=g)(hg:g<=1000000000)(hgV:g*V<=val ((ul.drop k).take (n+1))+V):Ws (I0v n m V U0) M0v (raw bl) (raw vl) (raw ul) (raw ql) (k:Int) (g:Int):=by
 have hk:=hD.hk;have lu:=hD.lu;have lq:=hD.lq;have a6:V<1000000000^n:=by have:=qQ lv;rw[hv,vV]at this;exact this
 obtain⟨hlt,a4⟩:=hD.mid a6 hV0;have l1:(ul.take k).length=k:=by rw[eg];omega
 have l2:((ul.drop k).take (n+1)).length=n+1:=by rw[eg,ez];omega
 have Lm:Limbs ((ul.drop k).take (n+1)):=(hD.Lu.drop k).take _;have hdv:val ((ul.drop k).take (n+1))/V<1000000000:=by rw[hh hV0,gr];exact hlt
 obtain⟨r,c,b,hs,Lr,lr,a3⟩:=Cj (us:=(ul.drop k).take (n+1)) (vs:=vl) (V:=V) (g:=g) Lm lv (by omega) vV hV0
  (by rw[l2];exact iy (j6 a6) (ib (by omega) (by omega))) hq hg hgV
 rw[l2]at lr;have a7:vl≠[]:=by intro e;rw[e]at hv;simp at hv;omega
 have w1:J9 .i64 (J9 .i64 ((k:Int)+(n:Int))+1)=((k+n+1:Nat):Int):=by rw[xF (n:=(k:Int)+(n:Int)),xF];omega
 have w2:J9 .i64 ((k:Int)-1)=(k:Int)-1:=xF;unfold Ws;simp only[aE,qg,hb,w1,T1];rw[show k+n+1-k=n+1 by omega,XK,kA,Wu,Wu,hs];simp only;rw[Wv];rw[XK,kA,<-qW,<-qW];have l3:(ul.take k++r++ul.drop (k+(n+1))).length=n+m:=by rw[en,en,l1,lr,ez];omega
 refine⟨⟨by omega,by omega,by omega⟩,⟨⟨aW a7,yM _,by rw[hv];omega⟩,by omega,by omega,yM _⟩,brb (λh=>?_) (λh=>?_)⟩
 .have hcb:c≠0\/b≠0:=by rw[Bool.or_eq_true,decide_eq_true_eq,decide_eq_true_eq]at h;omega
  rcases a3 with⟨e1,e2,_,_⟩|⟨_,a5,r2,h2,Lr2,a8,vr2⟩
  .omega
  rw[l2]at a8;have e3:(ul.take k++r++ul.drop (k+(n+1))).take k=ul.take k:=by rw[ft,fw (by omega),List.take_take,Nat.min_self]
  have e4:((ul.take k++r++ul.drop (k+(n+1))).drop k).take (n+1)=r:=by rw[ft,fz (by omega),ey (by omega),gd,fw (by omega),et (by omega)]
  have e5:(ul.take k++r++ul.drop (k+(n+1))).drop (k+(n+1))=ul.drop (k+(n+1)):=by rw[fz (by simp[l1,lr])];rw[ey (by simp[l1,lr]),gd]
  rw[XK,kA,Wu,e4,h2,Wv,kA,e3,XK,e5,<-qW,<-qW];have w3:J9 .u32 (J9 .u64 ((g:Int)-1))=((val ((ul.drop k).take (n+1))/V:Nat):Int):=by
   have hg1':1<=g:=by rw[a5];exact Nat.le_add_left 1 _
   have hg2:g-1=val ((ul.drop k).take (n+1))/V:=by rw[a5];exact Nat.add_sub_cancel ..
   rw[<-hg2,xV,kD];omega
  rw[w3,zc (by omega),qg,l3,w2];refine⟨⟨by omega,by omega,by omega⟩,⟨⟨aW a7,yM _,by rw[hv];omega⟩,by omega,by omega,yM _⟩,⟨by omega,by omega⟩,by omega,⟨k,_,_,rfl,a4 r2 Lr2 a8 vr2⟩,?_⟩;simp only[M0v,nth,toI];omega
 .have hcb:c=0/\b=0:=by rw[Bool.or_eq_false_iff,decide_eq_false_iff_not,decide_eq_false_iff_not]at h;omega
  rcases a3 with⟨_,_,a5,vr⟩|⟨e1,_⟩
  .have w3:J9 .u32 (g:Int)=((val ((ul.drop k).take (n+1))/V:Nat):Int):=by rw[kD];omega
   rw[w3,zc (by omega),w2];refine⟨⟨by omega,by omega⟩,by omega,⟨k,_,_,rfl,a4 r Lr lr vr⟩,?_⟩;simp only[M0v,nth,toI];omega
  .omega
theorem C1{a b:List Nat}(ha:Limbs a)(hb:Limbs b)(h1:a.length<=536870912)(h2:b.length<=536870912)(h3:0<a.length+b.length):jc [.c (.sl (raw a)),.c (.sl (raw b))]=true:=by
 simp only[jc,ZC ha,ZC hb,qg,Bool.true_and,Bool.and_eq_true,Nat.ble_eq,Nat.blt_eq];exact⟨h1,h2,h3⟩
theorem aX(a b:List Nat):wi [.c (.sl (raw a)),.c (.sl (raw b))]=raw (pad (a.length+b.length) (val a*val b)):=by
 simp only[wi,qg,XP]
theorem G2{ul:List Nat}{k n i:Nat}(hi:i<=n):((ul.drop k).take (n+1)).getD i 0=ul.getD (k+i) 0:=by
 simp only[gb,List.getElem?_take,List.getElem?_drop];rw[if_pos (by omega)]
def iw (I0:List D->List D->Prop) (M0:List D->Nat) (I1:List D->List D->Prop) (M1:List D->Nat):Nat->Ann:=
 Vl ⟨[.own 8 180 1,.own 10 181 1,.slot 11 (.int .i64 0)],[],I0,M0⟩ ⟨[.slot 13 (.int .u64 0),.slot 14 (.int .u64 0)],[.slot 12 (.int .u64 0),.slot 11 (.int .i64 0),.own 8 180 1],I1,M1⟩
theorem C2{a b al:List Nat}{d:Nat}(ta:qa CC 229 [.c (.sl (raw a))] [.c (.sl (raw al))])(tb:qa CC 229 [.c (.sl (raw b))] [.c (.sl (raw [d]))])(lA:Limbs al)(ra:al.length<=100000)(hd0:0<d)(hd1:d<1000000000):
 qa CC 168 [.c (.sl (raw a)),.c (.sl (raw b))] [.c (.sl (raw (pad al.length (val al/d)))),.c (.sl (raw [val al%d]))]:=by
 refine qo (anns:=iw (λ_ _=>True) (λ_=>0) (λ_ _=>True) (λ_=>0)) mixedT Tryz.func168 ?_;show wpF (CM jc wi) _ _ _ _ _;unfold iw;rw[Wt];refine⟨_,ta,_,tb,brb (λ_=>?_) (λh=>?_)⟩
 .exact⟨⟨by omega,by simp[raw],rfl⟩,_,qy (l:=[d]) (i:=0) (by simp),_,_,up (VW lA hd0 hd1 (by omega)),rfl⟩
 .simp[raw]at h
theorem A4{a b al bl:List Nat}(ta:qa CC 229 [.c (.sl (raw a))] [.c (.sl (raw al))])(tb:qa CC 229 [.c (.sl (raw b))] [.c (.sl (raw bl))])(lA:Limbs al)(lB:Limbs bl)(ra:al.length<=100000)(rb:bl.length<=100000)(hn:2<=bl.length)(hlt:val al<val bl):
 qa CC 168 [.c (.sl (raw a)),.c (.sl (raw b))] [.c (.sl (raw [])),.c (.sl (raw al))]:=by
 refine qo (anns:=iw (λ_ _=>True) (λ_=>0) (λ_ _=>True) (λ_=>0)) mixedT Tryz.func168 ?_;show wpF (CM jc wi) _ _ _ _ _;unfold iw;rw[Wt];refine⟨_,ta,_,tb,brb (λh=>?_) (λh=>?_)⟩
 .rw[qg]at h;simp only[aE,beq_iff_eq]at h;omega
 .refine⟨_,up (wh lA lB (by omega) (by omega)),brd (λh2=>?_) (λh2=>?_)⟩
  .exact⟨⟨by rw[qg];unfold room;omega,jt _⟩,rfl⟩
  .rw[Zy,if_pos hlt]at h2;omega
set_option maxHeartbeats 2000000 in
theorem C3{a b al bl:List Nat}(ta:qa CC 229 [.c (.sl (raw a))] [.c (.sl (raw al))])(tb:qa CC 229 [.c (.sl (raw b))] [.c (.sl (raw bl))])(lA:Limbs al)(lB:Limbs bl)(ra:al.length<=100000)(rb:bl.length<=100000)(vA:val al=val a)(vB:val bl=val b)(zB:bl.getLast?≠some 0){p:Nat}(hn:bl.length=p+2)(hle:val bl<=val al):
 ∃q r,qa CC 168 [.c (.sl (raw a)),.c (.sl (raw b))] [.c (.sl (raw q)),.c (.sl (raw r))]/\Limbs q/\Limbs r/\val q=val a/val b/\val r=val a%val b/\q.length<=1073741824/\r.length<=1073741824:=by
 have hBn:bl≠[]:=by intro e;rw[e]at hn;simp at hn
 have b7:p+1<bl.length:=by omega
 obtain⟨d,b9⟩:∃d,bl[p+1]=d:=⟨_,rfl⟩;have hd0:0<d:=by
  rcases hM d with h0|h0
  .exfalso;apply zB;rw[List.getLast?_eq_getElem?,hn,show p+2-1=p+1 by omega,fg b7,b9,h0]
  .exact h0
 have hd1:d<1000000000:=b9▸lB.get b7;obtain⟨s,hs⟩:∃s,s=1000000000/(d+1):=⟨_,rfl⟩;obtain⟨hs1,hs2,hs3⟩:=Ye hd0 hd1 hs;have cy:s<1000000000:=by have:s*2<=s*(d+1):=hj _ (by omega);omega
 obtain⟨B,hB⟩:∃B,val b=B:=⟨_,rfl⟩;obtain⟨A,hA⟩:∃A,val a=A:=⟨_,rfl⟩;rw[hA]at vA ⊢;rw[hB]at vB ⊢;rw[vA,vB]at hle
 --the scaled divisor
 obtain⟨V,hV⟩:∃V,V=B*s:=⟨_,rfl⟩;have bt:B=val (bl.take (p+1))+1000000000^(p+1)*d:=by rw[<-vB,<-b9,<-xu b7,<-qJ,et (by omega)]
 have hlo:val (bl.take (p+1))<1000000000^(p+1):=by have:=qQ (lB.take (p+1));rw[eg,hn,hX (by omega)]at this;exact this
 obtain⟨P1,a5⟩:∃P1,1000000000^(p+1)=P1:=⟨_,rfl⟩;have b3:1000000000^(p+2)=P1*1000000000:=by rw[<-a5];exact h7 ..
 rw[a5]at bt hlo;have hP0:0<P1:=by rw[<-a5];exact j0 (by omega)
 have ag:V<P1*1000000000:=by
  have h1:B<P1*(d+1):=by rw[hC,k3];omega
  have h2:B*s<P1*(d+1)*s:=hE h1 (by omega);have h3:P1*(d+1)*s=P1*(s*(d+1)):=by rw[h9,gr (d+1) s]
  have h4:P1*(s*(d+1))<=P1*1000000000:=hj _ hs3;omega
 have bs:500000000*P1<=V:=by
  have h1:P1*d*s<=B*s:=gz s (by omega);have h2:P1*d*s=d*s*P1:=by rw[h9,gr]
  have h3:500000000*P1<=d*s*P1:=gz P1 hs1;omega
 have a6:0<V:=by omega
 obtain⟨vl,ba⟩:∃vl,lim V=vl:=⟨_,rfl⟩;have Lv:Limbs vl:=ba▸qe _;have vV:val vl=V:=ba▸qh _;have lv:vl.length=p+2:=by have h1:(lim V).length<=p+2:=qq (by rw[b3];exact ag);have h2:p+1<(lim V).length:=ko (by rw[a5];omega);rw[ba]at h1 h2;omega
 obtain⟨v1,b1⟩:∃v1,vl[p+1]=v1:=⟨_,rfl⟩;obtain⟨v2,cc⟩:∃v2,vl[p]=v2:=⟨_,rfl⟩;have hv1B:v1<1000000000:=b1▸Lv.get _;have hv2B:v2<1000000000:=cc▸Lv.get _;have bm:=val2 (v:=vl) (p:=p);rw[et (by omega),xu (by omega),xu (by omega),b1,cc,vV]at bm;have cd:val (vl.take p)<1000000000^p:=by have:=qQ (Lv.take p);rw[eg,lv,hX (by omega)]at this;exact this
 have hVd1:V=val (vl.take (p+1))+P1*v1:=by rw[<-a5,<-b1,<-xu,<-qJ,et (by omega),vV]
 have dd:val (vl.take (p+1))<P1:=by have:=qQ (Lv.take (p+1));rw[eg,lv,hX (by omega),a5]at this;exact this
 have cl:V<(v1+1)*P1:=by rw[gr,hC];omega
 have hVb:v1*P1<=V:=by rw[gr];omega
 have cb:500000000<=v1:=by apply it;exact Nat.lt_of_mul_lt_mul_right (a:=P1) (im bs cl)
 --the scaled dividend
 have hal:p+2<=al.length:=by apply Nat.le_of_not_lt;intro h;have:=Jr lA zB hBn (by omega);omega
 obtain⟨m,hm⟩:∃m,al.length=p+m:=⟨al.length-p,by omega⟩;have bg:A*s<1000000000^(al.length+1):=by have h1:=qQ lA;rw[vA]at h1;have h2:A*s<=A*1000000000:=hj _ (by omega);have h3:A*1000000000<1000000000^al.length*1000000000:=hE h1 (by omega);rw[h7];omega
 obtain⟨b2,a7⟩:∃b2,pad (al.length+1) (A*s)++[0]=b2:=⟨_,rfl⟩;have cf:b2.length=al.length+2:=by rw[<-a7];simp[xy]
 have a4:DInv (p+2) m V (A*s) m b2 (ew m 0):=by
  have bb:val b2=A*s:=by rw[<-a7,qO,we,h8 bg,show val [0]=0 from rfl,j5,ih]
  refine⟨lg _,by omega,er,?_,?_,?_,?_⟩
  .rw[<-a7];exact(zm _ _).append (Hy (by omega) HZ)
  .intro x hx;rw[List.eq_of_mem_replicate hx];omega
  .rw[bb];have h1:P1*1000000000^m<=V*1000000000^m:=gz _ (by omega);have h2:P1*1000000000^m=1000000000^(al.length+1):=by rw[<-a5,<-Nat.pow_add,show p+1+m=al.length+1 by omega]
   omega
  .rw[ey (by simp),bb];simp[val]
 have hsc:J9 .u32 (J9 .u64 (W4 1000000000 (J9 .u64 (J9 .u64 (d:Int)+1))))=(s:Int):=by
  have e:W4 1000000000 ((d:Int)+1)=(s:Int):=by rw[hs,dn (by omega),Int.natCast_ediv];have e2:((d+1:Nat):Int)=(d:Int)+1:=Int.natCast_add d 1;rw[e2];exact congrArg (· /((d:Int)+1)) (show(1000000000:Int)=((1000000000:Nat):Int)from rfl)
  rw[xV (n:=(d:Int)),xV (n:=(d:Int)+1),e,xV,kD]
 have mkA:wi [.c (.sl (raw al)),.c (.sl [[.int .u32 (s:Int)]])]=raw (pad (al.length+1) (A*s)):=(aX al [s]).trans (by rw[vA];simp[val]);have mkB:wi [.c (.sl (raw bl)),.c (.sl [[.int .u32 (s:Int)]])]=raw (pad (p+3) V):=(aX bl [s]).trans (by rw[vB,hV,hn];simp[val]);have Ls:Limbs [s]:=Hy cy HZ;have bd:jc [.c (.sl (raw al)),.c (.sl [[.int .u32 (s:Int)]])]=true:=C1 lA Ls (by omega) (by simp) (by simp);have be:jc [.c (.sl (raw bl)),.c (.sl [[.int .u32 (s:Int)]])]=true:=C1 lB Ls (by omega) (by simp) (by simp);have tv:qa CC 229 [.c (.sl (raw (pad (p+3) V)))] [.c (.sl (raw vl))]:=by have:=up (Qk (zm (p+3) V) (by rw[xy];omega));rw[we,h8 (show V<1000000000^(p+3)from j3 ag (by rw[<-b3];exact ib (by omega) (by omega))),ba]at this;exact this
 have eU:raw (pad (al.length+1) (A*s))++[[F0 .u32 (0:Int)]]=raw b2:=by rw[<-a7,qW];rfl
 have b6:A*s/V=A/B:=by rw[hV];exact k0 _ _ (by omega)
 have ap:A*s%V=A%B*s:=by rw[hV];exact kz _ _ _
 refine⟨pad m (A/B),pad (lim (A%B*s)).length (A%B),qo (anns:=iw (I0v (p+2) m V (A*s)) M0v (I1v (p+2) v1 V) M1v) mixedT Tryz.func168 ?_,zm _ _,zm _ _,?_,?_,by rw[xy];omega,?_⟩
 .show wpF (CM jc wi) _ _ _ _ _;unfold iw;rw[Wt];refine⟨_,ta,_,tb,?_⟩;have wn1:J9 .i64 (((p+2:Nat):Int)-1)=((p+1:Nat):Int):=by rw[xF];omega
  have wn2:J9 .i64 (((p+2:Nat):Int)-2)=(p:Int):=by rw[xF];omega
  simp only[aE,qg,hn,wn1,wn2,T1];refine brb (λh=>?_) (λ_=>⟨_,up (wh lA lB (by omega) (by omega)),brd (λh2=>?_) (λ_=>?_)⟩)
  .simp only[beq_iff_eq]at h;omega
  .rw[Zy,vA,vB,if_neg (by omega)]at h2;split at h2<;>omega
  refine⟨⟨by omega,by omega,qx b7⟩,_,qy b7,?_⟩;rw[b9];simp only[hsc,mkA,mkB,eU,qg,cf];have wm:J9 .i64 (((al.length+2:Nat):Int)-((p+2:Nat):Int))=(m:Int):=by rw[xF];omega
  have wm1:J9 .i64 ((m:Int)-1)=(m:Int)-1:=xF;simp only[wm,wm1,T1,xy];refine⟨?_,bd,⟨by unfold room;omega,jt [0]⟩,be,_,tv,⟨by omega,by omega,by unfold room;omega⟩,⟨m,b2,ew m 0,by rw[xt],a4⟩,?_⟩
  .rw[xV (n:=(d:Int)),xV];omega
  rintro es_3 es_4 n_1 ⟨kk,ul,ql,he,hD⟩;simp only[gq,Hx,Hv,true_and,and_true]at he;obtain⟨rfl,rfl,rfl⟩:=he;have cv:=hD.lu;have hkm:=hD.hk;refine brd (λh=>?_) (λh=>?_)
  .obtain⟨k,rfl⟩:∃k,kk=k+1:=⟨kk-1,by omega⟩;rw[show((k+1:Nat):Int)-1=(k:Int)by omega];have W0:J9 .i64 ((k:Int)+((p+2:Nat):Int))=((k+p+2:Nat):Int):=by rw[xF];omega
   have W1:J9 .i64 (((k+p+2:Nat):Int)-1)=((k+p+1:Nat):Int):=by rw[xF];omega
   have W2:J9 .i64 (((k+p+2:Nat):Int)-2)=((k+p:Nat):Int):=by rw[xF];omega
   simp only[W0,W1,W2,T1,qg,cv,lv];have hVn:V<1000000000^(p+2):=by rw[b3];exact ag
   obtain⟨ad,_⟩:=hD.mid hVn a6;have hlm:((ul.drop k).take (p+2+1)).length=p+3:=by rw[eg,ez];omega
   have Lm:Limbs ((ul.drop k).take (p+2+1)):=(hD.Lu.drop k).take _;obtain⟨t3,c4⟩:∃t,ul[k+p+2]=t:=⟨_,rfl⟩;obtain⟨t2,c2⟩:∃t,ul[k+p+1]=t:=⟨_,rfl⟩;obtain⟨t0,c1⟩:∃t,ul[k+p]=t:=⟨_,rfl⟩;have ht3B:t3<1000000000:=c4▸hD.Lu.get _;have c3:t2<1000000000:=c2▸hD.Lu.get _;have ht0B:t0<1000000000:=c1▸hD.Lu.get _;obtain⟨U,hU⟩:∃U,val ((ul.drop k).take (p+2+1))=U:=⟨_,rfl⟩;rw[hU]at ad;have a9:=val3 (u:=(ul.drop k).take (p+2+1)) (p:=p);rw[et (by omega),G2 (by omega),G2 (by omega),G2 (by omega),xu (by omega),xu (by omega),xu (by omega)]at a9;simp only[<-Nat.add_assoc,c4,c2,c1]at a9;rw[hU]at a9;have bk:val (((ul.drop k).take (p+2+1)).take p)<1000000000^p:=by have:=qQ (Lm.take p);rw[eg,hlm,hX (by omega)]at this;exact this
   obtain⟨a3,c7⟩:∃a3,t3*1000000000+t2=a3:=⟨_,rfl⟩;have bh:U=(t3*1000000000+t2)*P1+(t0*1000000000^p+val (((ul.drop k).take (p+2+1)).take p)):=by rw[a9,<-a5,h7];grind
   have b4:t0*1000000000^p+val (((ul.drop k).take (p+2+1)).take p)<P1:=by have:(t0+1)*1000000000^p<=1000000000*1000000000^p:=gz _ (by omega);rw[hG,ic]at this;rw[<-a5,h7];omega
   obtain⟨bw,bx,hg3⟩:=LW cl hVb cb bh b4 c3 ad a6;rw[c7]at bw bx a9;have ci:J9 .u64 (J9 .u64 (J9 .u64 (t3:Int)*1000000000)+J9 .u64 (t2:Int))=(a3:Int):=by rw[xV (n:=(t3:Int)),xV (n:=(t3:Int)*1000000000),xV (n:=(t2:Int)),xV];omega
   have bc:J9 .u64 (v1:Int)=(v1:Int):=xV;have wv2:J9 .u64 (v2:Int)=(v2:Int):=xV;have wt0:J9 .u64 (t0:Int)=(t0:Int):=xV;have cp:=hY a3 v1;have hml:=hS a3 (show 0<v1 by omega);have a8:W4 (a3:Int) (v1:Int)=((a3/v1:Nat):Int):=by rw[dn (by omega)];rfl
   have b8:dy (a3:Int) (v1:Int)=((a3%v1:Nat):Int):=by rw[dp (by omega)];rfl
   obtain⟨g0,hg0⟩:∃g0,a3/v1=g0:=⟨_,rfl⟩;obtain⟨r0,hr0⟩:∃r0,a3%v1=r0:=⟨_,rfl⟩;rw[hg0]at bw bx cp a8;rw[hr0]at cp hml b8;have ch:J9 .u64 (W4 (a3:Int) (v1:Int))=(g0:Int):=by rw[a8,xV]
   have c0:oG (raw ul) k (p+2)=U:=by rw[A2,hU]
   refine⟨⟨by omega,by omega⟩,_,qy (by omega),⟨by omega,by omega⟩,_,qy (by omega),⟨by omega,by omega,qx (by omega)⟩,_,qy (by omega),?_⟩;rw[c4,c2,b1];refine⟨by rw[bc];omega,⟨by omega,by omega,qx (by omega)⟩,_,qy (by omega),?_⟩;rw[b1,ci,bc,ch,b8];refine⟨by omega,⟨a3,k,raw ul,g0,r0,rfl,rfl,by rw[gr];omega,by rw[c0];exact bw,bx,by omega⟩,?_⟩;rintro n_5 n_6 ⟨cg,k',es',g,r,cr,cs,ct,cw,hgB,hrB⟩;simp only[gq,Hv,Hx,true_and,and_true]at cr cs;obtain⟨e1,e2,rfl⟩:=cr;obtain⟨rfl,rfl⟩:=cs;obtain rfl:a3=cg:=by omega
   obtain rfl:k=k':=by omega
   rw[c0]at cw;have b5:∀g' r',a3=g'*v1+r'->U/V<=g'->g'<=1000000000->g'*v2<=r'*1000000000+t0->Ws (I0v (p+2) m V (A*s)) M0v (raw bl) (raw vl) (raw ul) (raw ql) (k:Int) (g':Int):=λg' r' h1 h2 h3 h4=>
    A3 (by omega) hn lv Lv vV hD (by omega) a6 (by rw[hU];exact h2) h3 (by rw[hU];exact PX bm a9 cd h1 h4 h3 (by omega))
   have cq:U/V<g->br (toB (Hu (decide (J9 .u64 ((r:Int)+(v1:Int))>=1000000000))))
    (Ws (I0v (p+2) m V (A*s)) M0v (raw bl) (raw vl) (raw ul) (raw ql) (k:Int) (J9 .u64 ((g:Int)-1)))
    (I1v (p+2) v1 V [.int .u64 (a3:Int),.int .i64 (k:Int),.sl (raw ul)] [.int .u64 (J9 .u64 ((g:Int)-1)),.int .u64 (J9 .u64 ((r:Int)+(v1:Int)))]/\
     M1v [.int .u64 (J9 .u64 ((g:Int)-1)),.int .u64 (J9 .u64 ((r:Int)+(v1:Int)))]<M1v [.int .u64 (g:Int),.int .u64 (r:Int)]):=by
    intro an;have hgp:1<=g:=im (k8 _) an;have wg:J9 .u64 ((g:Int)-1)=((g-1:Nat):Int):=by rw[xV];omega
    have wr:J9 .u64 ((r:Int)+(v1:Int))=((r+v1:Nat):Int):=by rw[xV];omega
    have dc:a3=(g-1)*v1+(r+v1):=by
     have:g*v1=(g-1)*v1+v1:=by
      conv=>lhs;rw[show g=(g-1)+1 by omega]
      rw[hG,ic]
     omega
    rw[wg,wr];refine brd (λh3=>?_) (λh3=>?_)
    .refine b5 (g-1) (r+v1) dc (j2 an) (by omega) ?_;have h5:(g-1)*v2<=1000000000*1000000000:=j1 (by omega) (by omega);have h6:1000000000*1000000000<=(r+v1)*1000000000:=gz _ (by omega);omega
    .exact⟨⟨a3,k,raw ul,g-1,r+v1,rfl,rfl,dc,by rw[c0];exact j2 an,by omega,by omega⟩,by simp only[M1v,nth,toI,T1];omega⟩
   have hqB:U/V<1000000000:=by rw[hh a6,gr];exact ad
   refine brd (λh3=>?_) (λh3=>?_)
   .refine⟨⟨by omega,by omega,qx (by omega)⟩,_,qy (by omega),?_⟩;rw[b1,bc];exact cq (by omega)
   .refine⟨⟨by omega,by omega,qx (by omega)⟩,_,qy (by omega),⟨by omega,by omega⟩,_,qy (by omega),?_⟩;rw[cc,c1,wv2,wt0];have hgv:g*v2<=1000000000*1000000000:=j1 (by omega) (by omega);have wgv:J9 .u64 ((g:Int)*(v2:Int))=((g*v2:Nat):Int):=by have e:(g:Int)*(v2:Int)=((g*v2:Nat):Int):=(dA ..).symm;rw[e,xV]
    have wrt:J9 .u64 (J9 .u64 ((r:Int)*1000000000)+(t0:Int))=((r*1000000000+t0:Nat):Int):=by rw[xV (n:=(r:Int)*1000000000),xV];omega
    rw[wgv,wrt];refine brd (λh4=>?_) (λh4=>?_)
    .refine⟨⟨by omega,by omega,qx (by omega)⟩,_,qy (by omega),?_⟩;rw[b1,bc];exact cq (PW bm a9 bk ct (by omega) a6)
    .exact b5 g r ct cw (by omega) (by omega)
  .have hk0:kk=0:=by omega
   subst hk0;have an:=hD.hlt;have bv:=hD.heq;simp only[k7,k3,gp]at an bv;have bb:val ul=A*s%V:=by rw[bv,gr,k5,h8 an]
   have dk:val ql=A/B:=by rw[<-b6,bv,gr,k6 a6,ix an,ih]
   have htk:val (ul.take (p+2))=A%B*s:=by
    rw[<-ap,<-bb];have h1:val ul=val (ul.take (p+2))+1000000000^(p+2)*val (ul.drop (p+2)):=by
     conv=>lhs;rw[<-fl (p+2) ul]
     rw[qO,eg,hX (by omega)]
    rcases hM (val (ul.drop (p+2)))with h0|h0
    .rw[h0]at h1;omega
    .exfalso;have h2:1000000000^(p+2)<=1000000000^(p+2)*val (ul.drop (p+2)):=ia _ h0;rw[b3]at h2 h1;omega
   have hlul:(lim (A%B*s)).length<=p+2:=by rw[<-ap];refine qq ?_;have:=hS (A*s) a6;rw[b3];omega
   have g1:=up (Qk (hD.Lu.take (p+2)) (by rw[eg];omega));rw[htk]at g1;have g2:=up (VW (qe (A%B*s)) (d:=s) (by omega) cy (by omega));rw[qh,k4 _ (show 0<s by omega)]at g2;simp only[gp,kA,qg,cv];refine⟨⟨by omega,by omega,by omega,jt _⟩,_,g1,_,_,g2,?_⟩;have:ql=pad m (A/B):=by refine B3 hD.Lq (zm _ _) (by rw[xy];exact hD.lq) ?_;have h1:=qQ hD.Lq;rw[hD.lq,dk]at h1;rw[we,h8 h1,dk]
   rw[this]
 .rw[we,h8];rw[<-b6,hh a6];have h1:=a4.hlt;have h2:=a4.heq;rw[ey (by simp)]at h2;simp only[val,Nat.zero_mul,Nat.zero_add]at h2;rw[<-h2]at h1;rw[gr (1000000000^m)];exact h1
 .rw[we,h8];have h1:=qQ (qe (A%B*s));rw[qh]at h1;have:A%B*1<=A%B*s:=hj _ hs2;omega
 .rw[xy,<-ap];have:(lim (A*s%V)).length<=p+2:=by refine qq ?_;have:=hS (A*s) a6;rw[b3];omega
  omega
theorem JB:Uu:=by
 intro a b la lb hb0 ra rb;have ta:=up (Qk la (by omega));have tb:=up (Qk lb (by omega));have nA:(lim (val a)).length<=a.length:=qq (qQ la);have nB:(lim (val b)).length<=b.length:=qq (qQ lb);have a3:lim (val b)≠[]:=by rw[ne_eq,vX];exact hb0
 have hpos:0<(lim (val b)).length:=List.length_pos_iff.2 a3;by_cases h1:(lim (val b)).length=1
 .obtain⟨d,hd⟩:=List.length_eq_one_iff.1 h1;have hv:val b=d:=by rw[<-qh (val b),hd];simp[val]
  rw[hd]at tb;have hd1:d<1000000000:=(qe (val b)) d (by rw[hd];simp);refine⟨_,_,C2 ta tb (qe _) (by omega) (by omega) hd1,zm _ _,Hy ?_ HZ,?_,?_,by rw[xy];omega,by simp⟩
  .have:=hS (val (lim (val a))) (show 0<d by omega);omega
  .rw[we,qh,hv,h8];have h2:=qQ (qe (val a));rw[qh]at h2;exact im (j7 _ _) h2
  .rw[qh,hv];simp[val]
 .by_cases h2:val a<val b
  .refine⟨_,_,A4 ta tb (qe _) (qe _) (by omega) (by omega) (by omega) (by rw[qh,qh];exact h2),HZ,qe _,?_,?_,by simp,by omega⟩
   .rw[ix h2];rfl
   .rw[h8 h2,qh]
  .exact C3 (p:=(lim (val b)).length-2) ta tb (qe _) (qe _) (by omega) (by omega) (qh _) (qh _) ((jX _).resolve_left a3) (by omega) (by rw[qh,qh];omega)
end Eng
end
section
open Go Go.Proofs Eng
namespace Eng
section
variable (Gv:Nat->List A->List A->Prop)(I0:List D->List D->Prop)(M0:List D->Nat)(I1:List D->List D->Prop)(M1:List D->Nat)(I2:List D->List D->Prop)(M2:List D->Nat)(I3:List D->List D->Prop)(M3:List D->Nat)(Q:List A->Prop)
theorem ZL(i0:Int)(i1:Int):wpF CC Gv an0 Tryz.f296 [.c (.int .i64 i0),.c (.int .i64 i1)] Q=(bB (decide (i0<(-2305843009213693952:Int))) (Q [B0 [dI (0:Int),dI (0:Int)],aB false]) (bB (decide (i1>2305843009213693952)) (Q [B0 [dI (0:Int),dI (0:Int)],aB false]) (Q [B0 [dI i0,dI i1],aB true]))):=by kernel_rfl
theorem Xa(r0:R4):wpF CC Gv an0 Tryz.f244 [.ag (rk r0 [])] Q=(∃x,Gv 130 [aI (65536:Int)] [aR x]/\∃x1,Gv 121 [aR r0,aR x] [aR x1]/\∃b es,Gv 295 [aR x1] [aZ b es]/\∃i b1,Gv 294 [aZ b es] [aI i,aB b1]/\∃x,Gv 139 [aR x1] [aR x]/\∃b es,Gv 295 [aR x] [aZ b es]/\∃b2 e1,Gv 203 [aZ b es] [aZ b2 e1]/\∃i_1 b,Gv 294 [aZ b2 e1] [aI i_1,aB b]/\bB (!b1) (Q [B0 [dI (0:Int),dI (0:Int)],aB false]) (bB (!b) (Q [B0 [dI (0:Int),dI (0:Int)],aB false]) (∃i_2 i_3 b,Gv 296 [aI i,aI i_1] [B0 [dI i_2,dI i_3],aB b]/\Q [B0 [dI i_2,dI i_3],aB b]))):=by kernel_rfl
theorem eR(a0:Int)(b0:Int)(a1:Int)(b1:Int):wpF CC Gv an0 Tryz.f245 [.ag [.int .i64 a0,.int .i64 b0],.ag [.int .i64 a1,.int .i64 b1]] Q=(∃i i_1 b,Gv 296 [aI (J9 .i64 (a0+a1)),aI (J9 .i64 (b0+b1))] [B0 [dI i,dI i_1],aB b]/\Q [B0 [dI i,dI i_1],aB b]):=by kernel_rfl
theorem eS(a0:Int)(b0:Int):wpF CC Gv an0 Tryz.f246 [.ag [.int .i64 a0,.int .i64 b0]] Q=(Q [B0 [dI (J9 .i64 (0-b0)),dI (J9 .i64 (0-a0))]]):=by kernel_rfl
theorem eV(i0:Int):wpF CC Gv an0 Tryz.f329 [.c (.int .i64 i0)] Q=(bB (decide (i0<0)) (Q [Dd (F0 .u64 (J9 .u64 (0-J9 .u64 i0)))]) (Q [Dd (F0 .u64 (J9 .u64 i0))])):=by kernel_rfl
theorem kN(i0:Int)(i1:Int):wpF CC Gv an0 Tryz.f297 [.c (.int .i64 i0),.c (.int .i64 i1)] Q=(∃i,Gv 329 [aI i0] [Dd (F0 .u64 i)]/\∃i_1,Gv 329 [aI i1] [Dd (F0 .u64 i_1)]/\∃i_2 i_3,Gv 290 [Dd (F0 .u64 i),Dd (F0 .u64 i_1)] [Dd (F0 .u64 i_2),Dd (F0 .u64 i_3)]/\(0:Int)<=(16:Int)/\bB (W3 i_2 (65536:Int) !=(0:Int)) (Q [aI (0:Int),aI (0:Int),aB false]) ((0:Int)<=(48:Int)/\(0:Int)<=(16:Int)/\bB (decide (bits .or .u64 (J9 .u64 (i_2*281474976710656)) (W3 i_3 (65536:Int))>2305843009213693952)) (Q [aI (0:Int),aI (0:Int),aB false]) (bB (bits .and .u64 (i_3) (65535:Int) !=(0:Int)) (bB (!decide (i0<0)==decide (i1<0)) (bB (decide (J9 .i64 (0-J9 .i64 (J9 .i64 (bits .or .u64 (J9 .u64 (i_2*281474976710656)) (W3 i_3 (65536:Int)))+1))>=(-2305843009213693952:Int))) (Q [aI (J9 .i64 (0-J9 .i64 (J9 .i64 (bits .or .u64 (J9 .u64 (i_2*281474976710656)) (W3 i_3 (65536:Int)))+1))),aI (J9 .i64 (0-J9 .i64 (bits .or .u64 (J9 .u64 (i_2*281474976710656)) (W3 i_3 (65536:Int))))),aB (decide (J9 .i64 (0-J9 .i64 (bits .or .u64 (J9 .u64 (i_2*281474976710656)) (W3 i_3 (65536:Int))))<=2305843009213693952))]) (Q [aI (J9 .i64 (0-J9 .i64 (J9 .i64 (bits .or .u64 (J9 .u64 (i_2*281474976710656)) (W3 i_3 (65536:Int)))+1))),aI (J9 .i64 (0-J9 .i64 (bits .or .u64 (J9 .u64 (i_2*281474976710656)) (W3 i_3 (65536:Int))))),aB false])) (bB (decide (J9 .i64 (bits .or .u64 (J9 .u64 (i_2*281474976710656)) (W3 i_3 (65536:Int)))>=(-2305843009213693952:Int))) (Q [aI (J9 .i64 (bits .or .u64 (J9 .u64 (i_2*281474976710656)) (W3 i_3 (65536:Int)))),aI (J9 .i64 (J9 .i64 (bits .or .u64 (J9 .u64 (i_2*281474976710656)) (W3 i_3 (65536:Int)))+1)),aB (decide (J9 .i64 (J9 .i64 (bits .or .u64 (J9 .u64 (i_2*281474976710656)) (W3 i_3 (65536:Int)))+1)<=2305843009213693952))]) (Q [aI (J9 .i64 (bits .or .u64 (J9 .u64 (i_2*281474976710656)) (W3 i_3 (65536:Int)))),aI (J9 .i64 (J9 .i64 (bits .or .u64 (J9 .u64 (i_2*281474976710656)) (W3 i_3 (65536:Int)))+1)),aB false]))) (bB (!decide (i0<0)==decide (i1<0)) (bB (decide (J9 .i64 (0-J9 .i64 (bits .or .u64 (J9 .u64 (i_2*281474976710656)) (W3 i_3 (65536:Int))))>=(-2305843009213693952:Int))) (Q [aI (J9 .i64 (0-J9 .i64 (bits .or .u64 (J9 .u64 (i_2*281474976710656)) (W3 i_3 (65536:Int))))),aI (J9 .i64 (0-J9 .i64 (bits .or .u64 (J9 .u64 (i_2*281474976710656)) (W3 i_3 (65536:Int))))),aB (decide (J9 .i64 (0-J9 .i64 (bits .or .u64 (J9 .u64 (i_2*281474976710656)) (W3 i_3 (65536:Int))))<=2305843009213693952))]) (Q [aI (J9 .i64 (0-J9 .i64 (bits .or .u64 (J9 .u64 (i_2*281474976710656)) (W3 i_3 (65536:Int))))),aI (J9 .i64 (0-J9 .i64 (bits .or .u64 (J9 .u64 (i_2*281474976710656)) (W3 i_3 (65536:Int))))),aB false])) (bB (decide (J9 .i64 (bits .or .u64 (J9 .u64 (i_2*281474976710656)) (W3 i_3 (65536:Int)))>=(-2305843009213693952:Int))) (Q [aI (J9 .i64 (bits .or .u64 (J9 .u64 (i_2*281474976710656)) (W3 i_3 (65536:Int)))),aI (J9 .i64 (bits .or .u64 (J9 .u64 (i_2*281474976710656)) (W3 i_3 (65536:Int)))),aB (decide (J9 .i64 (bits .or .u64 (J9 .u64 (i_2*281474976710656)) (W3 i_3 (65536:Int)))<=2305843009213693952))]) (Q [aI (J9 .i64 (bits .or .u64 (J9 .u64 (i_2*281474976710656)) (W3 i_3 (65536:Int)))),aI (J9 .i64 (bits .or .u64 (J9 .u64 (i_2*281474976710656)) (W3 i_3 (65536:Int)))),aB false])))))):=by kernel_rfl
theorem C4(i0:Int):wpF CC Gv an0 Tryz.f328 [.c (.int .i64 i0)] Q=(∃b es,Gv 169 [aI i0] [aZ b es]/\∃b1 e1,Gv 169 [aI (65536:Int)] [aZ b1 e1]/\∃b2 e2,Gv 120 [aZ b es,aZ b1 e1] [aZ b2 e2]/\∃b es i,Gv 343 [aZ b2 e2] [aZ b es,aI i]/\∃i b3,Gv 294 [aZ b es] [aI i,aB b3]/\∃b4 e3,Gv 120 [aZ b es,aZ b es] [aZ b4 e3]/\∃i_1,Gv 106 [aZ b4 e3,aZ b2 e2] [aI i_1]/\Q [aI i,aB (i_1==0)]):=by kernel_rfl
theorem G3(a0:Int)(b0:Int):wpF CC Gv an0 Tryz.f292 [.ag [.int .i64 a0,.int .i64 b0]] Q=(bB (decide (b0<0)) (Q [B0 [dI (0:Int),dI (0:Int)],aB false]) (∃i b,Gv 328 [aI (match decide (a0<0)with|true=>(0:Int)|false=>a0)] [aI i,aB b]/\∃i_1 b,Gv 328 [aI b0] [aI i_1,aB b]/\bB (!b) (∃i_2 i_3 b,Gv 296 [aI i,aI (J9 .i64 (i_1+1))] [B0 [dI i_2,dI i_3],aB b]/\Q [B0 [dI i_2,dI i_3],aB b]) (∃i_2 i_3 b,Gv 296 [aI i,aI i_1] [B0 [dI i_2,dI i_3],aB b]/\Q [B0 [dI i_2,dI i_3],aB b]))):=by kernel_rfl
theorem yh(r0:R4)(r1:R4)(r2:R4):wpF CC Gv an0 Tryz.f239 [.ag (rk r0 (rk r1 (rk r2 [])))] Q=(∃i i_1 b,Gv 244 [aR r0] [B0 [dI i,dI i_1],aB b]/\bB (!b) (Q [B0 [dI i,dI i_1],aB b]) (∃i_2,Gv 27 [aR r1] [aI i_2]/\bB (i_2==0) (Q [B0 [dI i,dI i_1],aB b]) (∃i_3 i_4 b,Gv 244 [aR r1] [B0 [dI i_3,dI i_4],aB b]/\∃i_5 i_6 b1,Gv 244 [aR r2] [B0 [dI i_5,dI i_6],aB b1]/\bB (!b) (Q [B0 [dI (0:Int),dI (0:Int)],aB false]) (bB (!b1) (Q [B0 [dI (0:Int),dI (0:Int)],aB false]) (∃i_7,Gv 27 [aR r2] [aI i_7]/\bB (decide (i_7<0)) (Q [B0 [dI (0:Int),dI (0:Int)],aB false]) (∃i_8 i_9 b,Gv 292 [B0 [dI i_5,dI i_6]] [B0 [dI i_8,dI i_9],aB b]/\bB (!b) (Q [B0 [dI (0:Int),dI (0:Int)],aB false]) (∃i_10 i_11 b,Gv 250 [B0 [dI i_3,dI i_4],B0 [dI i_8,dI i_9]] [B0 [dI i_10,dI i_11],aB b]/\bB (!b) (Q [B0 [dI (0:Int),dI (0:Int)],aB false]) (∃i_12 i_13 b,Gv 245 [B0 [dI i,dI i_1],B0 [dI i_10,dI i_11]] [B0 [dI i_12,dI i_13],aB b]/\Q [B0 [dI i_12,dI i_13],aB b])))))))):=by kernel_rfl
theorem JW(a0:Int)(b0:Int):wpF CC Gv an0 Tryz.f247 [.ag [.int .i64 a0,.int .i64 b0]] Q=(bB (decide (a0>0)) (Q [aI (1:Int),aB true]) (bB (decide (b0<0)) (Q [aI (-1:Int),aB true]) (bB (a0==0) (Q [aI (0:Int),aB (b0==0)]) (Q [aI (0:Int),aB false])))):=by kernel_rfl
theorem C5(r0:R4)(r1:R4)(r2:R4):wpF CC Gv an0 Tryz.f181 [.ag (rk r0 []),.ag (rk r1 []),.ag (rk r2 [])] Q=(∃i,Gv 27 [aR r0] [aI i]/\∃i_1,Gv 27 [aR r1] [aI i_1]/\∃i_2,Gv 27 [aR r2] [aI i_2]/\bB (J9 .i64 (i_1*i_2)==0) (Q [aI i]) (bB (i==J9 .i64 (i_1*i_2)) (Q [aI i]) (bB (i==0) (Q [aI (J9 .i64 (i_1*i_2))]) (∃x,Gv 121 [aR r0,aR r0] [aR x]/\∃x1,Gv 121 [aR r1,aR r1] [aR x1]/\∃x2,Gv 121 [aR x1,aR r2] [aR x2]/\∃i_3,Gv 65 [aR x,aR x2] [aI i_3]/\Q [aI (J9 .i64 (i*i_3))])))):=by kernel_rfl
theorem yN(r0:R4)(r1:R4)(r2:R4)(r3:R4)(r4:R4)(r5:R4):wpF CC Gv an0 Tryz.f180 [.ag (rk r0 (rk r1 (rk r2 []))),.ag (rk r3 (rk r4 (rk r5 [])))] Q=(∃i i_1 b,Gv 239 [aT r0 r1 r2] [B0 [dI i,dI i_1],aB b]/\∃i_2 i_3 b1,Gv 239 [aT r3 r4 r5] [B0 [dI i_2,dI i_3],aB b1]/\bB (!b) (Q [aI (0:Int),aB false]) (bB (!b1) (Q [aI (0:Int),aB false]) (bB (decide (i_1<i_2)) (Q [aI (-1:Int),aB true]) (bB (decide (i>i_3)) (Q [aI (1:Int),aB true]) (Q [aI (0:Int),aB false]))))):=by kernel_rfl
theorem A5(r0:R4)(r1:R4)(r2:R4)(r3:R4)(r4:R4)(r5:R4):wpF CC Gv an0 Tryz.f182 [.ag (rk r0 (rk r1 (rk r2 (rk r3 (rk r4 (rk r5 []))))))] Q=(∃i,Gv 27 [aR r4] [aI i]/\bB (decide (i<0)) (Q [aI (0:Int)]) (∃i,Gv 27 [aR r5] [aI i]/\bB (decide (i<0)) (Q [aI (0:Int)]) (∃i b,Gv 240 [B0 (rk r0 (rk r1 (rk r2 (rk r3 (rk r4 (rk r5 []))))))] [aI i,aB b]/\br b (Q [aI i]) (∃i,Gv 181 [aR r0,aR r1,aR r4] [aI i]/\∃i_1,Gv 181 [aR r2,aR r3,aR r4] [aI i_1]/\∃i_2,Gv 27 [aR r5] [aI i_2]/\bB (J9 .i64 (i_1*i_2)==0) (Q [aI i]) (bB (i==J9 .i64 (i_1*i_2)) (Q [aI i]) (bB (i==0) (Q [aI (J9 .i64 (i_1*i_2))]) (∃x,Gv 121 [aR r0,aR r0] [aR x]/\∃x1,Gv 121 [aR r1,aR r1] [aR x1]/\∃x2,Gv 121 [aR r4,aR x1] [aR x2]/\∃x3,Gv 241 [aR x,aR x2] [aR x3]/\∃x,Gv 121 [aR r2,aR r2] [aR x]/\∃x4,Gv 121 [aR r3,aR r3] [aR x4]/\∃x5,Gv 121 [aR r4,aR x4] [aR x5]/\∃x6,Gv 241 [aR x,aR x5] [aR x6]/\∃x,Gv 121 [aR r5,aR x6] [aR x]/\∃x7,Gv 80 [aR x3,aR x] [aR x7]/\∃x,Gv 121 [aR r0,aR r1] [aR x]/\∃x8,Gv 121 [aR r2,aR r3] [aR x8]/\∃x9,Gv 121 [aR r5,aR x8] [aR x9]/\∃x10,Gv 80 [aR x,aR x9] [aR x10]/\∃x,Gv 241 [aR x10,aR x10] [aR x]/\∃i_3,Gv 181 [aR x7,aR x,aR r4] [aI i_3]/\Q [aI (J9 .i64 (i*i_3))]))))))):=by kernel_rfl
theorem eW(r0:R4)(r1:R4):wpF CC Gv an0 Tryz.f241 [.ag (rk r0 []),.ag (rk r1 [])] Q=(∃x,Gv 81 [aR r0,aR r1] [aR x]/\Q [aR x]):=by kernel_rfl
theorem eX(r0:R4)(r1:R4)(r2:R4)(r3:R4)(r4:R4)(r5:R4):wpF CC Gv an0 Tryz.f183 [.ag (rk r0 (rk r1 (rk r2 []))),.ag (rk r3 (rk r4 (rk r5 [])))] Q=(∃x,Gv 80 [aR r0,aR r3] [aR x]/\∃x1,Gv 242 [aR r1] [aR x1]/\∃x2,Gv 139 [aR r4] [aR x2]/\∃x3,Gv 130 [aI (0:Int)] [aR x3]/\∃x4,Gv 242 [aR r2] [aR x4]/\∃x5,Gv 242 [aR r5] [aR x5]/\Q [B0 (rk x (rk x1 (rk x2 (rk x3 (rk x4 (rk x5 []))))))]):=by kernel_rfl
theorem Rb(r0:R4):wpF CC Gv an0 Tryz.f242 [.ag (rk r0 [])] Q=(∃x,Gv 139 [aR r0] [aR x]/\∃x1,Gv 139 [aR x] [aR x1]/\Q [aR x1]):=by kernel_rfl
theorem eY(r0:R4)(r1:R4)(r2:R4)(r3:R4)(r4:R4)(r5:R4):wpF CC Gv an0 Tryz.f125 [.ag (rk r0 (rk r1 (rk r2 []))),.ag (rk r3 (rk r4 (rk r5 [])))] Q=(∃i,Gv 27 [aR r1] [aI i]/\bB (i==0) (∃i,Gv 27 [aR r4] [aI i]/\bB (i==0) (∃i,Gv 65 [aR r0,aR r3] [aI i]/\Q [aI i]) (∃i b,Gv 180 [aT r0 r1 r2,aT r3 r4 r5] [aI i,aB b]/\br b (Q [aI i]) (∃i,Gv 65 [aR r2,aR r5] [aI i]/\bB (i==0) (∃x,Gv 80 [aR r0,aR r3] [aR x]/\∃x1,Gv 80 [aR r1,aR r4] [aR x1]/\∃i,Gv 181 [aR x,aR x1,aR r2] [aI i]/\Q [aI i]) (∃x x1,Gv 183 [aT r0 r1 r2,aT r3 r4 r5] [B0 (pk x (rk x1 []))]/\∃i,Gv 182 [B0 (pk x (rk x1 []))] [aI i]/\Q [aI i])))) (∃i b,Gv 180 [aT r0 r1 r2,aT r3 r4 r5] [aI i,aB b]/\br b (Q [aI i]) (∃i,Gv 65 [aR r2,aR r5] [aI i]/\bB (i==0) (∃x,Gv 80 [aR r0,aR r3] [aR x]/\∃x1,Gv 80 [aR r1,aR r4] [aR x1]/\∃i,Gv 181 [aR x,aR x1,aR r2] [aI i]/\Q [aI i]) (∃x x1,Gv 183 [aT r0 r1 r2,aT r3 r4 r5] [B0 (pk x (rk x1 []))]/\∃i,Gv 182 [B0 (pk x (rk x1 []))] [aI i]/\Q [aI i])))):=by kernel_rfl
theorem mf(r0:R4)(r1:R4)(r2:R4)(r3:R4)(r4:R4)(r5:R4):wpF CC Gv an0 Tryz.f179 [.ag (rk r0 (rk r1 (rk r2 []))),.ag (rk r3 (rk r4 (rk r5 [])))] Q=(∃i,Gv 125 [aT r0 r1 r2,aT r3 r4 r5] [aI i]/\Q [aB (i==0)]):=by kernel_rfl
theorem C6(r0:R4)(r1:R4)(r2:R4):wpF CC Gv an0 Tryz.f122 [.ag (rk r0 []),.ag (rk r1 []),.ag (rk r2 [])] Q=(∃i,Gv 27 [aR r1] [aI i]/\bB (i==0) (∃x,Gv 72 [] [aR x]/\Q [aT r0 r1 x]) (Q [aT r0 r1 r2])):=by kernel_rfl
theorem pK(p0:P20):wpF CC Gv an0 Tryz.f69 [.ag (pk p0 [])] Q=(∃x x1 x2,Gv 122 [aR (J8 p0),aR (J5 p0),aR (J3 p0)] [aT x x1 x2]/\Q [aT x x1 x2]):=by kernel_rfl
theorem pL(p0:P20):wpF CC Gv an0 Tryz.f126 [.ag (pk p0 [])] Q=(∃x x1 x2,Gv 122 [aR (J7 p0),aR (J4 p0),aR (J3 p0)] [aT x x1 x2]/\Q [aT x x1 x2]):=by kernel_rfl
theorem A6:wpF CC Gv an0 Tryz.f72 [] Q=(∃x,Gv 130 [aI (0:Int)] [aR x]/\Q [aR x]):=by kernel_rfl
theorem A7(r0:R4)(r1:R4):wpF CC Gv an0 Tryz.f188 [.ag (rk r0 []),.ag (rk r1 [])] Q=(∃x,Gv 121 [aR r0,aR r1] [aR x]/\Q [aR x]):=by kernel_rfl
theorem C7(r0:R4):wpF CC Gv an0 Tryz.f295 [.ag (rk r0 [])] Q=(∃b es b1 e1 i,Gv 264 [aZ (R4.b r0) (R4.l r0),aZ (R4.c r0) (R4.m r0)] [aZ b es,aZ b1 e1,aI i]/\Q [aZ b es]):=by kernel_rfl
end
end Eng
end
section
namespace Eng
namespace Rl
theorem A8{x y:Rl}:0<=y-x↔x<=y:=not_congr NR
theorem mg(x y z:Rl):x*(y-z)=x*y-x*z:=by
 obtain⟨x,rfl⟩:=x.rep;obtain⟨y,rfl⟩:=y.rep;obtain⟨z,rfl⟩:=z.rep;exact xz λn=>by simp only[xZ,zK,ke];grind
theorem pM(x y z:Rl): -x*(z-y)=x*(y-z):=by
 obtain⟨x,rfl⟩:=x.rep;obtain⟨y,rfl⟩:=y.rep;obtain⟨z,rfl⟩:=z.rep;exact xz λn=>by simp only[xZ,zK,ke];grind
theorem Rc{x y z:Rl}(hx:0<=x)(h:y<=z):x*y<=x*z:=by
 rw[<-A8,<-mg];exact aH hx (A8.2 h)
theorem Od{x y z:Rl}(hx:x<=0)(h:y<=z):x*z<=x*y:=by
 rw[<-A8,<-mg,<-pM];exact aH (λk=>hx (jS.1 k)) (A8.2 h)
theorem mh{x y z w:Rl}(h:x<=y)(k:z<=w):x+z<=y+w:=by
 refine le_trans ((BT z).2 h) ?_;rw[adc y,adc y];exact(BT y).2 k
theorem mi{x y:Rl}(h:x<=y): -y<= -x:=λk=>h (BU.1 k)
theorem mj{x:Rl}{a b c L:Rat}(h1:ofR a<=x)(h2:x<=ofR b)(l1:L<=a*c)(l2:L<=b*c):ofR L<=x*ofR c:=by
 rcases l5 (a:=0) (b:=c)with h|h
 .refine le_trans (kg.2 l1) ?_;rw[qL,mlc (ofR a),mlc x];exact Rc (kg.2 h) h1
 .refine le_trans (kg.2 l2) ?_;rw[qL,mlc (ofR b),mlc x];exact Od (kg.2 h) h2
theorem mp{x:Rl}{a b c H:Rat}(h1:ofR a<=x)(h2:x<=ofR b)(l1:a*c<=H)(l2:b*c<=H):x*ofR c<=ofR H:=by
 rcases l5 (a:=0) (b:=c)with h|h
 .refine le_trans ?_ (kg.2 l2);rw[qL,mlc (ofR b),mlc x];exact Rc (kg.2 h) h2
 .refine le_trans ?_ (kg.2 l1);rw[qL,mlc (ofR a),mlc x];exact Od (kg.2 h) h1
theorem pN{x y:Rl}{a b c d L:Rat}(h1:ofR a<=x)(h2:x<=ofR b)(h3:ofR c<=y)(h4:y<=ofR d)(l1:L<=a*c)(l2:L<=b*c)(l3:L<=a*d)(l4:L<=b*d):ofR L<=x*y:=by
 rcases le_total 0 x with h|h
 .exact le_trans (mj h1 h2 l1 l2) (Rc h h3)
 .exact le_trans (mj h1 h2 l3 l4) (Od h h4)
theorem pO{x y:Rl}{a b c d H:Rat}(h1:ofR a<=x)(h2:x<=ofR b)(h3:ofR c<=y)(h4:y<=ofR d)(l1:a*c<=H)(l2:b*c<=H)(l3:a*d<=H)(l4:b*d<=H):x*y<=ofR H:=by
 rcases le_total 0 x with h|h
 .exact le_trans (Rc h h4) (mp h1 h2 l3 l4)
 .exact le_trans (Od h h3) (mp h1 h2 l1 l2)
theorem mq{x y:Rl}(hy:0<=y)(h:x*x<=y*y)(hx:0<=x):x<=y:=by
 rcases le_total x y with k|k
 .exact k
 .have h1:=Rc hx k;have h2:=Rc hy k;rw[mlc y x]at h2;have h3:x*x=y*y:=xA h (le_trans h2 h1);rw[NT hx hy h3];exact ji
end Rl
open Rl
def inI (lo hi:Int) (x:Rl):Prop:=ofR ((lo:Rat)/65536)<=x/\x<=ofR ((hi:Rat)/65536)
theorem eZ{a b c d:Int}{x y:Rl}(h:inI a b x)(k:inI c d y):inI (a+c) (b+d) (x+y):=by
 refine⟨?_,?_⟩
 .have:=mh h.1 k.1;rw[<-ze]at this;have e:((a+c:Int):Rat)/65536=(a:Rat)/65536+(c:Rat)/65536:=by rw[l0];grind
  rw[e];exact this
 .have:=mh h.2 k.2;rw[<-ze]at this;have e:((b+d:Int):Rat)/65536=(b:Rat)/65536+(d:Rat)/65536:=by rw[l0];grind
  rw[e];exact this
theorem Mg{a b:Int}{x:Rl}(h:inI a b x):inI (-b) (-a) (-x):=by
 refine⟨?_,?_⟩
 .have:=mi h.2;rw[<-wl]at this;have e:((-b:Int):Rat)/65536= -((b:Rat)/65536):=by rw[ly];grind
  rw[e];exact this
 .have:=mi h.1;rw[<-wl]at this;have e:((-a:Int):Rat)/65536= -((a:Rat)/65536):=by rw[ly];grind
  rw[e];exact this
theorem fa{lo hi:Int}{x:Rat}(h1:(lo:Rat)<=x*65536)(h2:x*65536<=(hi:Rat)):inI lo hi (ofR x):=by
 refine⟨kg.2 ?_,kg.2 ?_⟩<;>grind
theorem fb{a b c d L H:Int}{x y:Rl}(h:inI a b x)(k:inI c d y)(hL:∀p q,(p=a\/p=b)->(q=c\/q=d)->L*65536<=p*q)(hH:∀p q,(p=a\/p=b)->(q=c\/q=d)->p*q<=H*65536):inI L H (x*y):=by
 have cL:∀p q:Int,L*65536<=p*q->(L:Rat)/65536<=(p:Rat)/65536*((q:Rat)/65536):=λp q h=>by
  have h1:=lp.2 h;rw[ls,ls]at h1
  grind
 have cH:∀p q:Int,p*q<=H*65536->(p:Rat)/65536*((q:Rat)/65536)<=(H:Rat)/65536:=λp q h=>by
  have h1:=lp.2 h;rw[ls,ls]at h1
  grind
 exact⟨pN h.1 h.2 k.1 k.2 (cL _ _ (hL _ _ (.inl rfl) (.inl rfl))) (cL _ _ (hL _ _ (.inr rfl) (.inl rfl))) (cL _ _ (hL _ _ (.inl rfl) (.inr rfl))) (cL _ _ (hL _ _ (.inr rfl) (.inr rfl))),
  pO h.1 h.2 k.1 k.2 (cH _ _ (hH _ _ (.inl rfl) (.inl rfl))) (cH _ _ (hH _ _ (.inr rfl) (.inl rfl))) (cH _ _ (hH _ _ (.inl rfl) (.inr rfl))) (cH _ _ (hH _ _ (.inr rfl) (.inr rfl)))⟩
theorem Oe{a b L H:Int}{c:Rat}(hc:0<=c)(h:inI a b (ofR c))(hL0:0<=L)(hH0:0<=H)(hL:L*L<=max a 0*65536)(hH:b*65536<=H*H):inI L H (jw c):=by
 have h1:=kg.1 h.1;have h2:=kg.1 h.2;have e:=wo hc;refine⟨mq (ZG c) ?_ (kg.2 ?_),mq (kg.2 ?_) ?_ (ZG c)⟩
 .rw[e,<-qL];refine kg.2 ?_;have k:=lp.2 hL;rw[ls,ls]at k;have k2:((max a 0:Int):Rat)<=c*65536:=by
   rcases Int.le_total a 0 with h|h
   .rw[Int.max_eq_right h];grind
   .rw[Int.max_eq_left h];grind
  grind
 .have:=lp.2 hL0
  grind
 .have:=lp.2 hH0
  grind
 .rw[e,<-qL];refine kg.2 ?_;have k:=lp.2 hH;rw[ls,ls]at k
  grind
theorem fc{a b:Int}{x:Rl}(h:inI a b x)(k:0<a):0<x:=by
 refine lt_of_lt_of_le (QC.2 ?_) h.1;have:=lx.2 k
 grind
theorem A9{a b:Int}{x:Rl}(h:inI a b x)(k:b<0):x<0:=by
 refine lt_of_le_of_lt h.2 (QC.2 ?_);have:=lx.2 k
 grind
theorem AA{x:Rl}(h:inI 0 0 x):x=0:=by
 have h1:=h.1;have h2:=h.2;have e:((0:Int):Rat)/65536=0:=by grind
 rw[e]at h1 h2;exact xA h2 h1
theorem aY{a b c d:Int}{x y:Rl}(h:inI a b x)(k:inI c d y)(l:b<c):x<y:=by
 refine lt_of_le_of_lt h.2 (lt_of_lt_of_le (QC.2 ?_) k.1);have:=lx.2 l
 grind
end Eng
end
section
namespace Eng
open Go Go.Proofs Rl
set_option maxRecDepth 100000
theorem kq(x:Rat):qa CC 27 [.ag (rk (q4 x) [])] [.c (.int .i64 (sr x))]:=by
 rw[<-aQ];exact JO x
theorem oH{x:Rat}{k:Nat}(hx:Hz k x)(h:k<360000:=by omega):qa CC 139 [.ag (rk (q4 x) [])] [.ag (rk (q4 (-x)) [])]:=LI (hx.sr h)
theorem mr{x y:Rat}{j k:Nat}(hx:Hz j x)(hy:Hz k y)(h:j<360000/\k<360000:=by omega):qa CC 81 [.ag (rk (q4 x) []),.ag (rk (q4 y) [])] [.ag (rk (q4 (x+y)) [])]:=LJ JB (hx.sr h.1) (hy.sr h.2)
theorem EU{x y:Rat}{j k:Nat}(hx:Hz j x)(hy:Hz k y)(h:j<360000/\k<360000:=by omega):qa CC 80 [.ag (rk (q4 x) []),.ag (rk (q4 y) [])] [.ag (rk (q4 (x-y)) [])]:=BC JB (hx.sr h.1) (hy.sr h.2)
theorem TT{x y:Rat}{j k:Nat}(hx:Hz j x)(hy:Hz k y)(h:j<360000/\k<360000:=by omega):qa CC 121 [.ag (rk (q4 x) []),.ag (rk (q4 y) [])] [.ag (rk (q4 (x*y)) [])]:=BB JB (hx.sr h.1) (hy.sr h.2)
theorem Rd{x y:Rat}{j k:Nat}(hx:Hz j x)(hy:Hz k y)(h:j<360000/\k<360000:=by omega):qa CC 65 [.ag (rk (q4 x) []),.ag (rk (q4 y) [])] [.c (.int .i64 (sr (x-y)))]:=by
 rw[<-Cv];exact BA (hx.sr h.1) (hy.sr h.2)
theorem bInt{n:Int}(h1: -9223372036854775808<=n)(h2:n<9223372036854775808):qa CC 130 [.c (.int .i64 n)] [.ag (rk (q4 (n:Rat)) [])]:=XQ h1 h2
theorem b0:qa CC 130 [.c (.int .i64 0)] [.ag (rk (q4 0) [])]:=bInt (n:=0) (by omega) (by omega)
theorem bf{x:Rat}{k:Nat}(hx:Hz k x)(h:k<360000:=by omega):qa CC 295 [.ag (rk (q4 x) [])] [qM x.floor]:=by
 refine wpG Tryz.func295 ((C7 ..).mpr ?_);have hp:=x.den_pos;have hs:=hx.sr h;have h:=vo JB hs.1.sm hs.2.sm (by omega);have e:x.num/(x.den:Int)=x.floor:=by rw[Rat.floor_def]
 rw[e]at h;exact⟨_,_,_,_,_,h,rfl⟩
def FB (x:Int):Prop:= -2305843009213693952<=x/\x<=2305843009213693952
def eIv (a b:Int):A:= .ag [.int .i64 a,.int .i64 b]
def eOk (b:Bool):A:= .c (.bool b)
theorem fe{a b:Int}:∃c d ok,qa CC 296 [.c (.int .i64 a),.c (.int .i64 b)] [eIv c d,eOk ok]/\(ok=true->c=a/\d=b/\ -2305843009213693952<=c/\d<=2305843009213693952)/\(ok=false->c=0/\d=0):=by
 by_cases h:a< -2305843009213693952
 .refine⟨0,0,false,?_,by simp,by simp⟩;refine wpG Tryz.func296 ((ZL ..).mpr ?_);exact brd (λ_=>rfl) (λk=>absurd h k)
 by_cases h2:b>2305843009213693952
 .refine⟨0,0,false,?_,by simp,by simp⟩;refine wpG Tryz.func296 ((ZL ..).mpr ?_);exact brd (λk=>absurd k h) (λ_=>brd (λ_=>rfl) (λk=>absurd h2 k))
 .refine⟨a,b,true,?_,λ_=>⟨rfl,rfl,by omega,by omega⟩,by simp⟩;refine wpG Tryz.func296 ((ZL ..).mpr ?_);exact brd (λk=>absurd k h) (λ_=>brd (λk=>absurd k h2) (λ_=>rfl))
end Eng
end
section
namespace Eng
open Rl
theorem bi{r s:Rt}(_:okT r)(_:okT s)(hc:Aa r s):rv r=ofR r.a+ofR r.b*jw (Zz r s)/\rv s=ofR s.a+ofR s.b*jw (Zz r s):=by
 unfold Zz;by_cases h:r.b=0
 .rw[if_pos h];refine⟨?_,rfl⟩;unfold rv;rw[h,xS,zml,zml]
 .rw[if_neg h];refine⟨rfl,?_⟩;rcases hc with h1|h1|h1
  .exact absurd h1 h
  .unfold rv;rw[h1,xS,zml,zml]
  .unfold rv;rw[h1]
theorem Mh{r s:Rt}(hr:okT r)(hs:okT s):Zz r s=0\/(0<Zz r s/\sqQ (Zz r s)=none):=by
 unfold Zz;split
 .rcases hs with h|h
  .exact .inl h.2
  .exact .inr h.2
 .rcases hr with h|h
  .exact .inl h.2
  .exact .inr h.2
theorem ff{r s:Rt}(hr:okT r)(hs:okT s):0<=Zz r s:=by
 rcases Mh hr hs with h|h<;>grind
theorem Ww{r s:Rt}(hr:okT r)(hs:okT s):okT (ZH r s):=Gx (Mh hr hs)
theorem AB{r s:Rt}(hr:okT r)(hs:okT s):okT (iq r s):=Gx (Mh hr hs)
theorem bj{r s:Rt}(hr:okT r)(hs:okT s)(hc:Aa r s):rv (ZH r s)=rv r*rv s:=by
 obtain⟨h1,h2⟩:=bi hr hs hc;have h3:=wo (ff hr hs);unfold ZH mulC;rw[Cd,h1,h2];generalize jw (Zz r s)=t at *;rw[ze,qL,qL,qL,ze,qL,qL,<-h3];obtain⟨t,rfl⟩:=t.rep;exact xz λn=>by simp only[xZ,ke,kf];grind
theorem fh{r s:Rt}(hr:okT r)(hs:okT s)(hc:Aa r s):rv (iq r s)=rv r+rv s:=by
 obtain⟨h1,h2⟩:=bi hr hs hc;unfold iq;rw[Cd,h1,h2];generalize jw (Zz r s)=t at *;rw[ze,ze];obtain⟨t,rfl⟩:=t.rep;exact xz λn=>by simp only[xZ,ke,kf];grind
theorem bn(a b c:Rat):(JQ a b c).b=0\/(JQ a b c).c=c:=by
 unfold JQ;split
 .exact .inl rfl
 .exact .inr rfl
theorem Of(a b c:Rat):(wq a b c).b=0\/(wq a b c).c=c:=by
 unfold wq;split
 .exact .inl rfl
 .exact .inr rfl
theorem Og{r s:Rt}{c:Rat}(_:okT r)(_:okT s)(h1:r.b=0\/r.c=c)(h2:s.b=0\/s.c=c):(ZH r s).b=0\/(ZH r s).c=c:=by
 rcases bn (r.a*s.a+r.b*s.b*Zz r s) (r.a*s.b+r.b*s.a) (Zz r s)with h|h
 .exact .inl h
 .by_cases hb:r.b=0
  .rcases h2 with h2|h2
   .left;show(JQ (r.a*s.a+r.b*s.b*Zz r s) (r.a*s.b+r.b*s.a) (Zz r s)).b=0;unfold JQ;rw[if_pos (.inl (by rw[hb,h2];grind))];rfl
   .right;show(JQ (r.a*s.a+r.b*s.b*Zz r s) (r.a*s.b+r.b*s.a) (Zz r s)).c=c;rw[h];unfold Zz;rw[if_pos hb];exact h2
  .right;show(JQ (r.a*s.a+r.b*s.b*Zz r s) (r.a*s.b+r.b*s.a) (Zz r s)).c=c;rw[h];unfold Zz;rw[if_neg hb];exact h1.resolve_left hb
theorem Mi{r s:Rt}{c:Rat}(h1:r.b=0\/r.c=c)(h2:s.b=0\/s.c=c):Aa r s:=by
 rcases h1 with h1|h1
 .exact .inl h1
 .rcases h2 with h2|h2
  .exact .inr (.inl h2)
  .exact .inr (.inr (h1.trans h2.symm))
theorem fi{r:Rt}(hr:okT r):okT (ir r):=Gx (by rcases hr with h|h;exact .inl h.2;exact .inr h.2)
theorem mu{r:Rt}{c:Rat}(h:r.b=0\/r.c=c):(ir r).b=0\/(ir r).c=c:=by
 rcases bn (r.a*(1/wT r)) (-(r.b*(1/wT r))) r.c with k|k
 .exact .inl k
 .rcases h with h|h
  .left;show(JQ (r.a*(1/wT r)) (-(r.b*(1/wT r))) r.c).b=0;unfold JQ;rw[if_pos (.inl (by rw[h];grind))];rfl
  .right;show(JQ (r.a*(1/wT r)) (-(r.b*(1/wT r))) r.c).c=c;rw[k];exact h
theorem mw(l:Ln)(p:P5):lnv l p=ofR (l.a*p.x+l.b*p.y-l.c)+ofR (l.a*p.u+l.b*p.v)*jw p.c:=by
 unfold lnv px py;generalize jw p.c=t;rw[wS,ze,qL,qL,ze,qL,qL];obtain⟨t,rfl⟩:=t.rep;exact xz λn=>by simp only[xZ,zK,ke,kf];grind
def trP (p:P5) (v:Vc):P5:=⟨p.x+v.x,p.u,p.y+v.y,p.v,p.c⟩
theorem Yg{p:P5}(h:okP p)(v:Vc):okP (trP p v):=h
theorem pP(p:P5)(v:Vc):px (trP p v)=px p+ofR v.x:=by
 show ofR (p.x+v.x)+ofR p.u*jw p.c=ofR p.x+ofR p.u*jw p.c+ofR v.x;rw[ze,ada,ada,adc (ofR v.x)]
theorem pQ(p:P5)(v:Vc):py (trP p v)=py p+ofR v.y:=by
 show ofR (p.y+v.y)+ofR p.v*jw p.c=ofR p.y+ofR p.v*jw p.c+ofR v.y;rw[ze,ada,ada,adc (ofR v.y)]
def sqP (p:P5) (v:Vc):Rt:=iq (ZH (xP (trP p ⟨-v.x, -v.y⟩)) (xP (trP p ⟨-v.x, -v.y⟩))) (ZH (yP (trP p ⟨-v.x, -v.y⟩)) (yP (trP p ⟨-v.x, -v.y⟩)))
theorem G4(r:Rt):Aa r r:= .inr (.inr rfl)
theorem mz(p:P5):(xP p).b=0\/(xP p).c=p.c:=Of _ _ _
theorem m5(p:P5):(yP p).b=0\/(yP p).c=p.c:=Of _ _ _
theorem bo{p:P5}(h:okP p)(v:Vc):okT (sqP p v)/\rv (sqP p v)=(px p-ofR v.x)*(px p-ofR v.x)+(py p-ofR v.y)*(py p-ofR v.y):=by
 have hx:=QD (Yg h ⟨-v.x, -v.y⟩);have hy:=Za (Yg h ⟨-v.x, -v.y⟩);have cx:=Og hx hx (mz _) (mz _);have cy:=Og hy hy (m5 _) (m5 _);refine⟨AB (Ww hx hx) (Ww hy hy),?_⟩;unfold sqP;rw[fh (Ww hx hx) (Ww hy hy) (Mi cx cy),bj hx hx (G4 _),bj hy hy (G4 _),Zb,Wn,pP,pQ,wl,wl];rfl
theorem fj{p:P5}(h:okP p)(v:Vc):Aa (ZH (xP (trP p ⟨-v.x, -v.y⟩)) (xP (trP p ⟨-v.x, -v.y⟩))) (ZH (yP (trP p ⟨-v.x, -v.y⟩)) (yP (trP p ⟨-v.x, -v.y⟩))):=
 Mi (Og (QD (Yg h _)) (QD (Yg h _)) (mz _) (mz _)) (Og (Za (Yg h _)) (Za (Yg h _)) (m5 _) (m5 _))
theorem m6{p:P5}(h:okP p)(c:Ci):civ c p=rv (BX (sqP p ⟨c.x,c.y⟩) (-c.q)):=by
 have e:rv (BX (sqP p ⟨c.x,c.y⟩) (-c.q))=rv (sqP p ⟨c.x,c.y⟩)+ofR (-c.q):=by show ofR ((sqP p ⟨c.x,c.y⟩).a+ -c.q)+ofR (sqP p ⟨c.x,c.y⟩).b*jw (sqP p ⟨c.x,c.y⟩).c=ofR (sqP p ⟨c.x,c.y⟩).a+ofR (sqP p ⟨c.x,c.y⟩).b*jw (sqP p ⟨c.x,c.y⟩).c+ofR (-c.q);rw[ze,ada,ada,adc (ofR (-c.q))]
 rw[e,(bo h ⟨c.x,c.y⟩).2,wl];rfl
theorem G5{x u y v c:Rat}(hc:0<c)(h:¬(u=0/\v=0)):okP (zr x u y v c):=by
 unfold zr;split
 .exact NW _
 .rename_i hs;exact .inr ⟨h,hc,hs⟩
end Eng
end
