/- One round of the long division, as numbers. No program is named here. -/
import Derived.Test.YtfipmjpmflmbbaaGreatDPaB
import Derived.Test.YtfipmjpmflmbbaaGreatDPaA
import Derived.KernelRfl
open Bool renaming true_and→Aw, eq_iff_iff→Bx
open Eng.A renaming ag→Dd, c→F0
open Eng.C66 renaming fr→F2, arc→Hu, tt→Hv, cq→Hx, lb→Hy, la→J3, cy→J4, lc→J7, cx→J8, cw→J9
open Eng.D renaming bool→Lm, sl→Ls, int→Lv
open Eng.D.int renaming injEq→Pl
open Eng.D.sl renaming injEq→P1
open Eng.Hz renaming zero→Ts, one→T1
open Eng.P20 renaming c→W0, v→W1, u→W2, y→bs, x→bv
open Go.IntKind renaming wrap→bw, u64→ca, u32→cb
open Int renaming toNat_natCast→cc, tdiv→cg, ofNat_eq_natCast→cp, ofNat→cr, ofNat_tdiv→cv, natAbs_natCast→cH, toNat→cL, natCast_mul→dc, ofNat_tmod→dl, natAbs_mul→dn, not_le→ea, tmod→eb
open LawfulBEq renaming eq_of_beq→ed
open List renaming replicate→el, length_replicate→en, length_append→er, getElem?_eq_getElem→ey, drop_eq_getElem_cons→ez, take_append_drop→e7, length_take→e8, length_drop→eH, length_cons→fg, getD→fl, append_nil→fs
open List.cons renaming injEq→ft
open Nat renaming div_lt_iff_lt_mul→fw, mul_comm→fx, pow_lt_pow_right→fz, mul_le_mul_left→fR, pow_succ→fS, eq_zero_or_pos→ga, mul_le_mul_right→gb, le_trans→gm, le_mul_of_pos_right→gp, le_refl→gq, lt_trans→gr, pow_le_pow_right→gz, mul_lt_mul_of_pos_right→g0, lt_of_le_of_lt→g7, mul_add→g8, mul_assoc→hh, div_div_eq_div_mul→hi, div_add_mod→hj, pow_pos→h8, add_mul→h9, div_mul_le_self→hC, mod_lt→hE, lt_of_lt_of_le→hG, lt_or_ge→hH, add_zero→hK, mod_eq_of_lt→hM, lt_of_not_le→hS, mul_self_le_mul_self_iff→ia, div_le_self→ib, mul_zero→ic, le_of_lt→ie, le_div_iff_mul_le→ih, le_of_lt_succ→ik, div_eq_of_lt→im, zero_le→it, one_mul→ix, mul_pos→iy
open Rat renaming num_nonneg→iz, le_of_lt→j0, mul_eq_zero→j1, mul_nonneg→j2
set_option maxRecDepth 1000000
section
namespace Eng
open Go
theorem mlt {a b c:Nat} (h:a<b) (hc:0<c):a*c<b*c:=g0 h hc
theorem val2 {v:List Nat} {p:Nat}:val (v.take (p+2))=(v.getD (p+1) 0*1000000000+v.getD p 0)*1000000000^p+val (v.take p):=by
 rw[qQ v (p+1),qQ v p,fS]
 grind
theorem val3 {u:List Nat} {p:Nat}:val (u.take (p+3))=((u.getD (p+2) 0*1000000000+u.getD (p+1) 0)*1000000000+u.getD p 0)*1000000000^p+val (u.take p):=by
 rw[qQ u (p+2),qQ u (p+1),qQ u p,fS,fS]
 grind
theorem P4 {o:List Nat} (h:Limbs o) {j d:Nat} (hd:d<1000000000):Limbs (o.set j d):=fun y hy=>by
 rcases List.mem_or_eq_of_mem_set hy with hy|rfl
 ·exact h y hy
 ·exact hd
structure DInv (n m V U0 kk:Nat) (ul ql:List Nat):Prop where
 hk:kk≤m
 lu:ul.length=n+m
 lq:ql.length=m
 Lu:Limbs ul
 Lq:Limbs ql
 hlt:val ul<V*1000000000^kk
 heq:U0=val (ql.drop kk)*(V*1000000000^kk)+val ul
theorem B0 {V' V X B W lo md h qv:Nat} (hW:W=V'*B) (hV:V<V') (hlo:lo<X) (hlt:lo+X*(md+W*h)<V*(X*B)) (hV0:0<V):
 h=0∧md<V*B∧lo+X*(md%V)<V*X∧qv*(V*(X*B))+(lo+X*(md+W*h))=(md/V+B*qv)*(V*X)+(lo+X*(md%V)):=by
 have h0:h=0:=by
  rcases ga h with h0|h0
  ·exact h0
  ·exfalso;have h1:W≤W*h:=gp W h0;have h2:X*W≤X*(md+W*h):=fR X (by omega);have h3:V*(X*B)=X*(V*B):=by grind
   have h4:X*(V*B)≤X*W:=fR X (by rw[hW];exact gb B (by omega));omega
 subst h0;rw[ic,hK]at hlt ⊢;have h3:V*(X*B)=X*(V*B):=by grind
 have hm:md<V*B:=by apply hS;intro hle;have:=fR X hle;omega
 have a3:=hE md hV0;have hdm:=hj md V;refine⟨rfl,hm,?_,?_⟩
 ·have:X*(md%V+1)≤X*V:=fR X a3;rw[g8,Nat.mul_one]at this;rw[fx V X];omega
 ·have e1:(md/V+B*qv)*(V*X)=X*(V*(md/V))+qv*(V*(X*B)):=by grind
  have e2:X*md=X*(V*(md/V))+X*(md%V):=by rw[←g8,hdm]
  omega
theorem DInv.mid {n m V U0 k:Nat} {ul ql:List Nat} (h:DInv n m V U0 (k+1) ul ql) (hV:V<1000000000^n) (hV0:0<V):
 val ((ul.drop k).take (n+1))<V*1000000000∧∀r:List Nat,Limbs r→r.length=n+1→val r=val ((ul.drop k).take (n+1))%V→
  DInv n m V U0 k (ul.take k++r++ul.drop (k+(n+1))) (ql.set k (val ((ul.drop k).take (n+1))/V)):=by
 have hk:=h.hk;have lu:=h.lu;have lq:=h.lq;have e0:ul=ul.take k++((ul.drop k).take (n+1)++ul.drop (k+(n+1))):=by rw[←List.drop_drop,e7,e7]
 have l1:(ul.take k).length=k:=by rw[e8];omega
 have l2:((ul.drop k).take (n+1)).length=n+1:=by rw[e8,eH];omega
 have hv:val ul=val (ul.take k)+1000000000^k*(val ((ul.drop k).take (n+1))+1000000000^(n+1)*val (ul.drop (k+(n+1)))):=by
  conv=>lhs;rw[e0]
  rw[qU,qU,l1,l2]
 have a7:=qX (h.Lu.take k);rw[l1]at a7;have a6:=h.hlt;have a5:=h.heq;rw[hv]at a6 a5;have hp:1000000000^(k+1)=1000000000^k*1000000000:=fS ..;rw[hp]at a6 a5;obtain⟨a1,a2,a3,a4⟩:=B0 (V':=1000000000^n) (W:=1000000000^(n+1)) (B:=1000000000) (qv:=val (ql.drop (k+1))) (fS ..) hV a7 a6 hV0;have hq:val ((ul.drop k).take (n+1))/V<1000000000:=by rw[fw hV0,fx];exact a2
 refine⟨a2,fun r Lr lr vr=>⟨by omega,?_,by rw[List.length_set];exact lq,?_,P4 h.Lq hq,?_,?_⟩⟩
 ·rw[er,er,l1,lr,eH];omega
 ·exact((h.Lu.take k).append Lr).append (h.Lu.drop _)
 ·rw[qU,qU,l1,a1,vr,ic,hK];exact a3
 ·have e5:(ql.set k (val ((ul.drop k).take (n+1))/V)).drop k=(val ((ul.drop k).take (n+1))/V)::ql.drop (k+1):=by rw[List.drop_set,if_neg (Nat.lt_irrefl k),Nat.sub_self,ez (show k<ql.length by omega),List.set_cons_zero]
  rw[e5,qU,qU,l1,a1,vr,ic,hK,a5,a4];rfl
theorem Lh {V P v1 t3 t2 md r0:Nat} (hV:V<(v1+1)*P) (hV2:v1*P≤V) (hv:500000000≤v1) (hmd:md=(t3*1000000000+t2)*P+r0) (hr0:r0<P) (ht2:t2<1000000000) (hlt:md<V*1000000000) (_hV0:0<V):
 md/V≤(t3*1000000000+t2)/v1∧(t3*1000000000+t2)/v1≤1000000001∧t3≤v1:=by
 have hP:0<P:=by omega
 have ht3:t3<v1+1:=by
  apply hS;intro h;have h1:(v1+1)*1000000000*P≤t3*1000000000*P:=gb P (gb _ h);have h2:t3*1000000000*P≤(t3*1000000000+t2)*P:=gb P (by omega);have h3:(v1+1)*1000000000*P=(v1+1)*P*1000000000:=by grind
  have h4:V*1000000000<(v1+1)*P*1000000000:=mlt hV (Nat.zero_lt_of_ne_zero (by decide));omega
 refine⟨?_,?_,by omega⟩
 ·rw[ih (by omega)];have h1:md/V*V≤md:=hC md V;have h2:md/V*(v1*P)≤md/V*V:=fR _ hV2;have h3:md/V*(v1*P)=md/V*v1*P:=(hh ..).symm;apply ik;apply hS;intro h;have h4:((t3*1000000000+t2)+1)*P≤md/V*v1*P:=gb P h;rw[h9,ix]at h4;omega
 ·apply ik;rw[fw (by omega)];omega
theorem c6 {g v1 r t0 v2 B:Nat} (h:r*B+t0<g*v2):(g*v1+r)*B+t0<g*(v1*B+v2):=by
 rw[g8,←hh,h9];omega
theorem c7 {g v1 r t0 v2 B:Nat} (h:g*v2≤r*B+t0):g*(v1*B+v2)≤(g*v1+r)*B+t0:=by
 rw[g8,←hh,h9];omega
theorem ld {g v1 r t0 v2:Nat} (h:r*1000000000+t0<g*v2):(g*v1+r)*1000000000+t0<g*(v1*1000000000+v2):=c6 h
theorem lf {g v1 r t0 v2:Nat} (h:g*v2≤r*1000000000+t0):g*(v1*1000000000+v2)≤(g*v1+r)*1000000000+t0:=c7 h
theorem P6 {P v1 v2 vl V t0 ul U g r top:Nat} (hV:V=(v1*1000000000+v2)*P+vl) (hU:U=(top*1000000000+t0)*P+ul) (hul:ul<P) (htop:top=g*v1+r) (h:r*1000000000+t0<g*v2) (hV0:0<V):U/V<g:=by
 rw[fw hV0];refine Fr (V1:=v1*1000000000+v2) (U3:=top*1000000000+t0) hV hU hul ?_;rw[htop];exact ld h
theorem P7 {P v1 v2 vl V t0 ul U g r top:Nat} (hV:V=(v1*1000000000+v2)*P+vl) (hU:U=(top*1000000000+t0)*P+ul) (hvl:vl<P) (htop:top=g*v1+r) (h:g*v2≤r*1000000000+t0) (hg:g≤1000000000) (hv1:1≤v1):g*V≤U+V:=by
 refine Fq (V1:=v1*1000000000+v2) (U3:=top*1000000000+t0) hV hU hvl ?_ hg ?_
 ·rw[htop];exact lf h
 ·rw[hV];have:1000000000*P≤(v1*1000000000+v2)*P:=gb P (by omega);exact gm this (Nat.le_add_right _ _)
theorem B1 {us vs:List Nat} {V g:Nat} (hu:Limbs us) (hv:Limbs vs) (hl:vs.length≤us.length) (hV:val vs=V) (hV0:0<V) (hVu:V≤1000000000^us.length) (hq:val us/V≤g) (hg:g≤1000000000) (hgV:g*V≤val us+V):
 ∃(r:List Nat) (c b:Nat),wB (g:Int) (yc us) (yc vs) 0 0=(yc r,(c:Int),(b:Int))∧Limbs r∧r.length=us.length∧
  ((c=0∧b=0∧g=val us/V∧val r=val us%V)∨((c≠0∨b≠0)∧g=val us/V+1∧∃r2:List Nat,Wz (yc r) (yc vs) 0=yc r2∧Limbs r2∧r2.length=us.length∧val r2=val us%V)):=by
 obtain⟨r,c,b,h1,h2,h3,h4,h5,h6⟩:=YI (by_:=g) hg (us:=us) (vs:=vs) (c:=0) (b:=0) hu hv hl (by omega) (by omega);have hr:=qX h2;have a6:=qX hu;rw[h3]at hr;have hd:=hj (val us) V;have hm:=hE (val us) hV0;have a3:val us<(val us/V+1)*V:=by rw[h9,ix,fx];omega
 have a4:val us/V*V≤val us:=hC _ _;have he:val us-val us/V*V=val us%V:=by rw[fx];omega
 refine⟨r,c,b,h1,h2,h3,?_⟩;rw[hV]at h6;by_cases hs:c+b=0
 ·obtain⟨e1,e2⟩:=By (V:=V) (g:=g) (s:=c+b) a4 hq a6 hr (by omega) hs a3;exact .inl ⟨by omega,by omega,e1,by rw[e2,he]⟩
 ·obtain⟨r2,c2,g1,g2,g3,g4,g5⟩:=YJ (us:=r) (vs:=vs) (c:=0) h2 hv (by omega) (by omega);have a5:=qX g2;rw[g3,h3]at a5;rw[h3,hV]at g5;obtain⟨e1,e2⟩:=Bz (V:=V) (g:=g) (s:=c+b) (r':=val r2) (c:=c2) a4 hgV a6 hr hVu (by omega) hs a5 g4 (by omega) a3 hq;exact .inr ⟨by omega,e1,r2,g1,g2,by omega,by rw[e2,he]⟩
end Eng
end
section
namespace Eng
open Go Go.Proofs
theorem Jm:∀(i n:Nat),(lim n).getD i 0=n/1000000000^i%1000000000
 |0,n=>by
  rw[Nat.pow_zero,Nat.div_one];rcases ga n with h|h
  ·rw[h];rfl
  ·rw[Y8 h];rfl
 |i+1,n=>by
  rcases ga n with h|h
  ·rw[h,Yz,Nat.zero_div];rfl
  ·rw[Y8 h,fS,fx,←hi];exact Jm i (n/1000000000)
theorem HX {n i:Nat} (h:(lim n).length≤i):n/1000000000^i=0:=by
 apply im;rcases hH n (1000000000^i)with h2|h2
 ·exact h2
 ·have:=jV h2;omega
theorem HY {R n:Nat}:R/1000000000^(n+1)*1000000000+R/1000000000^n%1000000000=R/1000000000^n:=by
 rw[fS,←hi];generalize R/1000000000^n=q;omega
theorem li {R V v1 P vl:Nat} (hV:V=v1*P+vl) (hV0:0<v1*P):R/V≤R/P/v1:=by
 rw[hi,fx P v1];exact Nat.div_le_div_left (by omega) hV0
theorem lj {R V d:Nat} (hV:0<V) (h:R<V*d):R/V<d:=by
 rw[fw hV,fx];exact h
theorem lk {R V d:Nat} (hV:0<V) (h:V*d≤R) (h2:R/V≤d):d=R/V:=by
 have:d≤R/V:=(ih hV).2 (by rw[fx];exact h);omega
theorem c8 {R V:Nat}:R-V*(R/V)=R%V:=by
 have:=hj R V;omega
theorem B2 {V Q R c B:Nat}:(((c+B*R)/V)+B*Q)*V+(c+B*R)%V=c+B*(Q*V+R):=by
 have h:=hj (c+B*R) V;generalize (c+B*R)/V=d at *;generalize (c+B*R)%V=e at *;have e1:(d+B*Q)*V+e=(V*d+e)+B*(Q*V):=by rw[h9,fx d V,hh];omega
 rw[e1,h,g8];omega
theorem NA {V R c B:Nat} (hc:c<B) (hR:R<V):c+B*R<B*V:=by
 have:B*(R+1)≤B*V:=fR _ hR;rw[g8]at this;omega
theorem yy {V R c B:Nat} (hc:c<B) (hR:R<V):(c+B*R)/V<B:=by
 rw[fw (by omega)];exact NA hc hR
theorem Fs {u:List Nat} {k:Nat} (h:k<u.length):val (u.drop k)=u[k]+1000000000*val (u.drop (k+1)):=by
 rw[ez h];rfl
theorem Lj {U V q r:Nat} (h:q*V+r=U) (hr:r<V):q=U/V∧r=U%V:=by
 have hV:0<V:=by omega
 subst h;constructor
 ·rw[fx,Nat.mul_add_div hV,im hr];omega
 ·rw[fx,Nat.mul_add_mod,hM hr]
theorem NB {k d:Nat} {q:List Nat}:(el (k+1) 0++q).set k d=el k 0++d::q:=by
 rw[List.replicate_succ',List.append_assoc,List.set_append];simp
end Eng
end
section
namespace Eng
open Go Go.Proofs
set_option maxRecDepth 100000
theorem X3 {a b:Nat} (h:raw (lim a)=raw (lim b)):a=b:=by
 have:=TQ h;rw[←qj a,←qj b,this]
def ou (a b c j4 j18 j20 j23:Ann):Nat→Ann:=Tf (Tf (Tf (Tf (eO a b c) 4 j4) 18 j18) 20 j20) 23 j23
theorem Q8 {x s:Nat} (hs:s<1000000000):(lim (x*s)).length≤(lim x).length+1:=by
 apply qx;have h:=qX (qh x);rw[qj]at h;rw[fS]
 calc x*s≤x*1000000000:=fR _ (by omega)
  _<1000000000^(lim x).length*1000000000:=g0 h (by omega)
theorem Fu {y:Nat} (hy:y≠0):∃d s:Nat,0<d∧d<1000000000∧(∀h:(lim y).length-1<(lim y).length,(lim y)[(lim y).length-1]=d)∧0<s∧s=1000000000/(d+1)∧s<1000000000:=by
 have hl:0<(lim y).length:=qK.2 (by omega);have a5:(lim y).length-1<(lim y).length:=by omega
 obtain⟨d,hd⟩:∃d,(lim y)[(lim y).length-1]=d:=⟨_,rfl⟩;have a4:d<1000000000:=hd▸(qh y).get a5;have a3:0<d:=by
  rcases ga d with h0|h0
  ·exfalso;rcases kc y with h|h
   ·rw[h]at hl;simp at hl
   ·apply h;rw[List.getLast?_eq_getElem?,ey a5,hd,h0]
  ·exact h0
 obtain⟨_,hs2,hs3⟩:=Vw a3 a4 (s:=1000000000/(d+1)) rfl;refine⟨d,1000000000/(d+1),a3,a4,fun _=>hd,by omega,rfl,?_⟩;generalize 1000000000/(d+1)=s at *;have:s*2≤s*(d+1):=fR _ (by omega);omega
theorem lw {V p:Nat} (hp:(lim V).length=p+1):∃v1:Nat,v1=V/1000000000^p∧0<v1∧v1<1000000000∧(∀h:p<(lim V).length,(lim V)[p]=v1)∧v1*1000000000^p≤V∧V<1000000000^(p+1):=by
 have hB:V<1000000000^(p+1):=by have h:=qX (qh V);rw[qj,hp]at h;exact h
 have hP:1000000000^p≤V:=by
  rcases hH V (1000000000^p)with h|h
  ·have:=qx h;omega
  ·exact h
 have a3:0<1000000000^p:=h8 (by omega);have hv:V/1000000000^p<1000000000:=by rw[fw a3,fx,←fS];exact hB
 refine⟨V/1000000000^p,rfl,Nat.div_pos hP a3,hv,fun h=>?_,hC _ _,hB⟩;have h2:=Jm p V;rw[hM hv]at h2;rw[←h2];simp[fl,h]
theorem c9 {T V p:Nat} (h:T<1000000000*V) (hV:V<1000000000^(p+1)):T/1000000000^(p+1)<1000000000∧T/1000000000^p<1000000000000000000:=by
 have h1:T<1000000000*1000000000^(p+1):=gr h (Nat.mul_lt_mul_of_pos_left hV (by omega));constructor
 ·rw[fw (h8 (by omega))];exact h1
 ·rw[fw (h8 (by omega))];rw[fS]at h1
  calc T<1000000000*(1000000000^p*1000000000):=h1
   _=1000000000000000000*1000000000^p:=by rw[fx (1000000000^p),←hh]
def qr (u:List Nat) (V:Nat) (kk:Nat) (ql:List Nat) (R:Nat):Prop:=
 kk+ql.length=u.length∧Limbs ql∧R<V∧val ql*V+R=val (u.drop kk)
theorem qr.start {u:List Nat} {V:Nat} (hV:0<V):qr u V u.length [] 0:=by
 refine⟨rfl,Limbs.nil,hV,?_⟩;rw[List.drop_length];simp[val]
theorem qr.next {u:List Nat} {V k R c:Nat} {ql:List Nat} (h:qr u V (k+1) ql R) (hc:c<1000000000) (hk:∀h:k<u.length,u[k]=c):qr u V k ((c+1000000000*R)/V::ql) ((c+1000000000*R)%V):=by
 obtain⟨h1,h2,h3,h4⟩:=h;have a3:k<u.length:=by omega
 refine⟨by simp only[fg];omega,h2.cons (yy hc h3),hE _ (by omega),?_⟩;rw[Fs a3,←h4,hk a3,←B2];rfl
theorem qr.fin {u:List Nat} {V R:Nat} {ql:List Nat} (h:qr u V 0 ql R):val ql=val u/V∧R=val u%V:=by
 obtain⟨h1,h2,h3,h4⟩:=h;rw[List.drop_zero]at h4;exact Lj h4 h3
theorem Lk {x y:Nat} (h1:(lim x).length≤2) (h2:(lim y).length≤2) (hy:y≠0) {Q:List A→Prop} (hQ:Q [.c (.sl (raw (lim (x/y)))),.c (.sl (raw (lim (x%y))))]):
 ∃n,qc CC 166 [F0 (Ls (raw (lim x)))] [F0 (Lv ca n)]∧
  ∃n_1,qc CC 166 [F0 (Ls (raw (lim y)))] [F0 (Lv ca n_1)]∧n_1≠(0:Int)∧
   ∃es,qc CC 81 [F0 (Lv ca (bw ca (cg n n_1)))] [F0 (Ls es)]∧
    n_1≠(0:Int)∧∃es_1,qc CC 81 [F0 (Lv ca (eb n n_1))] [F0 (Ls es_1)]∧Q [F0 (Ls es),F0 (Ls es_1)]:=by
 have hx:=Xr (qh x) h1;have a3:=Xr (qh y) h2;rw[qj]at hx a3;have bx:x<1000000000000000000:=by have h:=qX (qh x);rw[qj]at h;exact hG h (gm (gz (by omega) h1) (by decide))
 have by_:y<1000000000000000000:=by have h:=qX (qh y);rw[qj]at h;exact hG h (gm (gz (by omega) h2) (by decide))
 have e1:cg (x:Int) (y:Int)=((x/y:Nat):Int):=(cv x y).symm;have e2:eb (x:Int) (y:Int)=((x%y:Nat):Int):=(dl x y).symm;have l1:x/y≤x:=ib _ _;have l2:x%y<y:=hE _ (by omega);refine⟨_,hx,_,a3,by omega,?_⟩;rw[e1,e2];generalize x/y=q at *;generalize x%y=r at *;rw[xS];exact⟨_,yt (by omega),by omega,_,yt (by omega),hQ⟩
theorem jF:vE:=by
 intro x y hy hlx hly;by_cases hsmall:(lim x).length≤2∧(lim y).length≤2
 ·refine qu (anns:=ou ⟨[.own 12 173 1,.slot 11 (.slice none 0 0),.slot 14 (.int .i64 0)],[],fun _ _=>True,fun _=>0⟩ ⟨[.slot 16 (.int .u64 0),.slot 17 (.slice none 0 0)],[.slot 11 (.slice none 0 0),.slot 14 (.int .i64 0),.own 12 173 1],fun _ _=>True,fun _=>0⟩ ⟨[.own 19 174 1,.slot 18 (.int .u64 0),.slot 20 (.int .i64 0)],[.slot 11 (.slice none 0 0)],fun _ _=>True,fun _=>0⟩
   ⟨[],[],fun _ _=>False,fun _=>0⟩ ⟨[.slot 15 (.int .u64 0)],[.slot 11 (.slice none 0 0)],fun _ _=>True,fun _=>0⟩ ⟨[.slot 15 (.int .u64 0)],[.slot 11 (.slice none 0 0)],fun _ _=>True,fun _=>0⟩ ⟨[.slot 16 (.int .u64 0)],[.slot 11 (.slice none 0 0)],fun _ _=>True,fun _=>0⟩) mixedT Tryz.func165 ?_
  unfold ou;rw[HW];simp only[cp,qi];refine⟨brd (fun _=>brd (fun _=>Lk (Q:=fun rs=>rs=[.c (.sl (raw (lim (x/y)))),.c (.sl (raw (lim (x%y))))]) hsmall.1 hsmall.2 hy rfl) (fun h=>?_)) (fun h=>?_),fun h=>h.elim⟩
  ·exact h (by have:=hsmall.2;omega)
  ·exact h (by have:=hsmall.1;omega)
 ·--the scale
  obtain⟨d,s,hd0,hd1,hdl,b2,hs,b3⟩:=Fu hy;have hlyp:0<(lim y).length:=qK.2 (by omega);obtain⟨V,hV⟩:∃V,V=y*s:=⟨_,rfl⟩;obtain⟨U,hU⟩:∃U,U=x*s:=⟨_,rfl⟩;have b1:0<V:=by rw[hV];exact iy (by omega) b2
  have bg:=Ba (qh y) b3 (by omega);have be:=Ba (qh x) b3 (by omega);rw[qj,←hV]at bg;rw[qj,←hU]at be;have hlV:(lim V).length≤(lim y).length+1:=by rw[hV];exact Q8 b3
  have hlU:(lim U).length≤(lim x).length+1:=by rw[hU];exact Q8 b3
  have hlVp:0<(lim V).length:=qK.2 b1;obtain⟨p,hp⟩:∃p,(lim V).length=p+1:=⟨(lim V).length-1,by omega⟩;obtain⟨v1,hv1,hv0,hvB,hvl,hvP,bc⟩:=lw hp;have hwd:bw .u32 (bw .u64 (cg 1000000000 (bw .u64 (bw .u64 (d:Int)+1))))=(s:Int):=by rw[xS (n:=(d:Int)),xS (n:=(d:Int)+1)];have:cg (1000000000:Int) ((d:Int)+1)=((1000000000/(d+1):Nat):Int):=(cv 1000000000 (d+1)).symm;rw[this,←hs,xS,kf]
  have hws:bw .u64 (s:Int)=(s:Int):=xS;have hwp:bw .i64 (((lim V).length:Int)-1)=(p:Int):=by rw[hp,zr];omega
  have hwv:bw .u64 (v1:Int)=(v1:Int):=xS;refine qu (anns:=ou
   ⟨[.own 12 173 1,.slot 11 (.slice none 0 0),.slot 14 (.int .i64 0)],[],fun _ ds=>∃(kk:Nat) (ql:List Nat) (R:Nat),ds=[.sl (raw (el kk 0++ql)),.sl (raw (lim R)),.int .i64 ((kk:Int)-1)]∧qr (lim U) V kk ql R,fun ds=>(toI (nth .undef ds 2)+1).toNat⟩
   ⟨[.slot 16 (.int .u64 0),.slot 17 (.slice none 0 0)],[.slot 11 (.slice none 0 0),.slot 14 (.int .i64 0),.own 12 173 1],fun gs ds=>∃(T g:Nat),nth .undef gs 0= .sl (raw (lim T))∧ds=[.int .u64 (g:Int),.sl (raw (lim (V*g)))]∧T/V≤g∧g≤999999999,fun ds=>(toI (nth .undef ds 0)).toNat⟩
   ⟨[.own 19 174 1,.slot 18 (.int .u64 0),.slot 20 (.int .i64 0)],[.slot 11 (.slice none 0 0)],fun gs ds=>∃(R kk:Nat) (ql:List Nat) (t:Nat),gs=[.sl (raw (lim R))]∧ds=[.sl (raw (el kk 0++ql)),.int .u64 (t:Int),.int .i64 ((kk:Int)-1)]∧qr (lim R) s kk ql t,fun ds=>(toI (nth .undef ds 2)+1).toNat⟩
   ⟨[],[],fun _ _=>True,fun _=>0⟩
   ⟨[.slot 15 (.int .u64 0)],[.slot 11 (.slice none 0 0)],fun gs ds=>∃T:Nat,gs=[.sl (raw (lim T))]∧ds=[.int .u64 ((T/1000000000^(p+1)*1000000000:Nat):Int)],fun _=>0⟩
   ⟨[.slot 15 (.int .u64 0)],[.slot 11 (.slice none 0 0)],fun gs ds=>∃T:Nat,gs=[.sl (raw (lim T))]∧ds=[.int .u64 ((T/1000000000^p:Nat):Int)],fun _=>0⟩
   ⟨[.slot 16 (.int .u64 0)],[.slot 11 (.slice none 0 0)],fun gs ds=>∃(T g:Nat),gs=[.sl (raw (lim T))]∧ds=[.int .u64 (g:Int)]∧T/V≤g∧g≤999999999,fun _=>0⟩) mixedT Tryz.func165 ?_
  unfold ou;rw[HW];simp only[cp,qi];refine⟨brd (fun _=>brd (fun h=>?_) (fun _=>trivial)) (fun _=>trivial),fun _=>?_⟩
  ·exact absurd ⟨by omega,by omega⟩ hsmall
  have hwl:bw .i64 (((lim y).length:Int)-1)=(((lim y).length-1:Nat):Int):=by rw[zr];omega
  have hwx:bw .i64 (((lim x).length:Int)+1)=(((lim x).length+1:Nat):Int):=by rw[zr];omega
  rw[hwl,hwx,cc,cc];have hdc:cut (nth [] (raw (lim y)) ((lim y).length-1)) 0 1 [.int .u32 (d:Int)]:=by have:=qF (l:=lim y) (i:=(lim y).length-1) (by omega);rw[hdl (by omega)]at this;exact this
  refine⟨⟨by omega,by omega,qC (by omega)⟩,_,hdc,?_⟩;rw[hwd];refine⟨?_,_,bg,?_⟩
  ·rw[xS (n:=(d:Int)),xS (n:=(d:Int)+1)];omega
  have hvc:cut (nth [] (raw (lim V)) p) 0 1 [.int .u32 (v1:Int)]:=by have:=qF (l:=lim V) (i:=p) (by omega);rw[hvl (by omega)]at this;exact this
  rw[qi,hwp,cc];refine⟨⟨by omega,by omega,qC (by omega)⟩,_,hvc,⟨by omega,by omega,by unfold room;omega⟩,_,be,?_⟩;rw[hws,hwv];simp only[qi,en,cc];refine⟨⟨by omega,by omega⟩,⟨(lim U).length,[],0,?_,qr.start b1⟩,?_⟩
  ·rw[List.take_replicate,Nat.min_eq_left hlU,xy,fs,zr];rfl
  rintro es es_3 n_2 ⟨kk,ql,R,he,hq⟩;simp only[ft,P1,Pl,true_and,and_true]at he;obtain⟨rfl,rfl,rfl⟩:=he;refine brd (fun h=>?_) (fun h=>?_)
  ·obtain⟨k,rfl⟩:∃k,kk=k+1:=⟨kk-1,by omega⟩;have b8:((k+1:Nat):Int)-1=(k:Int):=by omega
   have a6:k<(lim U).length:=by have:=hq.1;omega
   obtain⟨c,hc⟩:∃c,(lim U)[k]=c:=⟨_,rfl⟩;have a4:c<1000000000:=hc▸(qh U).get a6;have ad:R<V:=hq.2.2.1;obtain⟨T,hT⟩:∃T,T=c+1000000000*R:=⟨_,rfl⟩;have a3:=hq.next a4 (fun _=>hc)
   rw[←hT]at a3;have ba:T<1000000000*V:=hT▸NA a4 ad;have bb:T/V<1000000000:=hT▸yy a4 ad;have hlR:(lim R).length≤(lim V).length:=In (ie ad);have hlT:(lim T).length≤(lim V).length+1:=by refine gm (In (ie ba)) ?_;rw[fx];apply qx;rw[hp,fS];exact g0 bc (by omega)
   have ap:qc CC 142 [.c (.sl ([Lv .u32 (c:Int)]::raw (lim R)))] [.c (.sl (raw (lim T)))]:=by have h:=kg (l:=c::lim R) ((qh R).cons a4) (by rw[fg];omega);rw[show val (c::lim R)=T by show c+1000000000*val (lim R)=T;rw[qj,hT]]at h;exact h
   have a5:cut (nth [] (raw (lim U)) k) 0 1 [.int .u32 (c:Int)]:=by have h:=qF (l:=lim U) (i:=k) a6;rw[hc]at h;exact h
   obtain⟨hH1,hH0⟩:=c9 ba bc;rw[b8,cc];refine⟨⟨by omega,by omega,qC a6⟩,_,a5,⟨by rw[qi];unfold room;omega,je _⟩,_,ap,?_⟩;simp only[qi];rw[hp];refine⟨brd (fun h2=>?_) (fun h2=>?_),?_⟩
   ·have a7:p+1<(lim T).length:=by omega
    have ag:=qF (l:=lim T) (i:=p+1) a7;have hg:=Jm (p+1) T;rw[hM hH1,fl,ey a7,Option.getD_some]at hg;rw[hg]at ag;refine⟨⟨by omega,by omega,qC a7⟩,_,ag,T,rfl,?_⟩;generalize T/1000000000^(p+1)=t at *;rw[xS (n:=(t:Int)),xS];rfl
   ·have:=HX (n:=T) (i:=p+1) (by omega);exact⟨T,rfl,by rw[this];rfl⟩
   rintro n ⟨T',h2,h3⟩;simp only[ft,P1,Pl,true_and,and_true]at h2 h3;obtain rfl:=X3 h2;subst h3;refine⟨brd (fun h2=>?_) (fun h2=>?_),?_⟩
   ·have a7:p<(lim T).length:=by omega
    have ag:=qF (l:=lim T) (i:=p) a7;have hg:=Jm p T;rw[fl,ey a7,Option.getD_some]at hg;rw[hg]at ag;refine⟨⟨by omega,by omega,qC a7⟩,_,ag,T,rfl,?_⟩;have b4:=HY (R:=T) (n:=p);have hm:=hE (T/1000000000^p) (show 1000000000>0 by omega);generalize T/1000000000^(p+1)=t at *;generalize T/1000000000^p=t2 at *;generalize t2%1000000000=t3 at *;rw[xS (n:=(t3:Int)),xS,←b4];rfl
   ·have h4:=HX (n:=T) (i:=p) (by omega);have b4:=HY (R:=T) (n:=p);rw[h4,Nat.zero_mod,hK]at b4;exact⟨T,rfl,by rw[h4,b4]⟩
   rintro n ⟨T',h2,h3⟩;simp only[ft,P1,Pl,true_and,and_true]at h2 h3;obtain rfl:=X3 h2;subst h3;have hup:T/V≤T/1000000000^p/v1:=li (vl:=V-v1*1000000000^p) (Nat.add_sub_cancel' hvP).symm (iy hv0 (h8 (by omega)));have htd:cg ((T/1000000000^p:Nat):Int) (v1:Int)=((T/1000000000^p/v1:Nat):Int):=(cv _ _).symm;have hle:T/1000000000^p/v1≤T/1000000000^p:=ib _ _;rw[htd];generalize T/1000000000^p/v1=G at *;generalize T/1000000000^p=H at *;rw[xS (n:=(G:Int))];refine⟨by omega,brd (fun h2=>?_) (fun h2=>?_),?_⟩
   ·exact⟨T,999999999,rfl,rfl,by generalize T/V=q at *;omega,by omega⟩
   ·exact⟨T,G,rfl,rfl,hup,by omega⟩
   rintro n ⟨T',g,h2,h3,bh,hg2⟩;simp only[ft,P1,Pl,true_and,and_true]at h2 h3;obtain rfl:=X3 h2;subst h3;have bd:=Ba (qh V) (d:=g) (by omega) (by omega);rw[qj]at bd;rw[kf (n:=(g:Int))];refine⟨_,bd,⟨T,g,rfl,rfl,bh,hg2⟩,?_⟩;rintro n es_6 ⟨T',g',h2,h3,al,hg2'⟩;simp only[nth,ft,P1,Pl,true_and,and_true]at h2 h3;obtain rfl:=X3 h2;obtain⟨rfl,rfl⟩:=h3;have hlg:(lim (V*g')).length≤(lim V).length+1:=Q8 (by omega);refine⟨_,kF (x:=V*g') (y:=T) (by omega) (by omega),brd (fun h2=>?_) (fun h2=>?_)⟩
   ·have hgt:T<V*g':=by
     unfold XP at h2;split at h2
     ·omega
     ·split at h2
      ·assumption
      ·omega
    have b5:T/V<g':=lj b1 hgt;have b6:0<g':=g7 (it _) b5;have b7:T/V≤g'-1:=Nat.le_sub_one_of_lt b5;clear b5 bh al bb;have hm:=Xt (qh (V*g')) (qh V) (by omega) (by rw[qj,qj];exact gp _ b6);rw[qj,qj,show V*g'-V=V*(g'-1)by rw[Nat.mul_sub_one]]at hm;have hw:bw .u64 ((g':Int)-1)=((g'-1:Nat):Int):=by rw[xS];omega
    rw[hw];exact⟨_,hm,⟨T,g'-1,rfl,rfl,b7,by omega⟩,by simp only[nth,toI];omega⟩
   ·have an:V*g'≤T:=by
     unfold XP at h2;split at h2
     ·omega
     ·split at h2
      ·omega
      ·omega
    have bl:=lk b1 an al;have hm:=Xt (qh T) (qh (V*g')) (by omega) (by rw[qj,qj];exact an);rw[qj,qj,bl,c8]at hm;rw[bl];have a8:bw .u32 ((T/V:Nat):Int)=((T/V:Nat):Int):=by have h5:=bb;generalize T/V=q at h5;exact kf
    rw[a8,zf (by rw[er,en];omega),NB];have hw:bw .i64 ((k:Int)-1)=(k:Int)-1:=zr;rw[hw];refine⟨_,hm,⟨by omega,by simp only[er,en];omega⟩,by omega,⟨k,_,_,rfl,a3⟩,?_⟩;simp only[nth,toI];omega
  ·obtain rfl:kk=0:=by omega
   have b9:=hq.fin;rw[qj]at b9;have e1:U/V=x/y:=by rw[hU,hV];exact Nat.mul_div_mul_right _ _ b2
   have e2:U%V=x%y*s:=by rw[hU,hV];exact Nat.mul_mod_mul_right _ _ _
   rw[e1,e2]at b9;obtain⟨hv,hR⟩:=b9;have ad:R<V:=hq.2.2.1;have hlR:(lim R).length≤(lim V).length:=In (ie ad);have hlq:ql.length=(lim U).length:=by have:=hq.1;omega
   have hLq:Limbs ql:=hq.2.1;simp only[qi];refine⟨⟨by omega,by omega,by unfold room;omega⟩,⟨R,(lim R).length,[],0,rfl,?_,qr.start b2⟩,?_⟩
   ·rw[fs,xy,zr];rfl
   rintro es_4 n_3 n_4 ⟨R',kk,ll,t,h2,h3,hr⟩;simp only[ft,P1,Pl,true_and,and_true]at h2 h3;obtain rfl:=X3 h2;obtain⟨rfl,rfl,rfl⟩:=h3;refine brd (fun h4=>?_) (fun h4=>?_)
   ·obtain⟨k,rfl⟩:∃k,kk=k+1:=⟨kk-1,by omega⟩;have b8:((k+1:Nat):Int)-1=(k:Int):=by omega
    have a6:k<(lim R).length:=by have:=hr.1;omega
    obtain⟨c,hc⟩:∃c,(lim R)[k]=c:=⟨_,rfl⟩;have a4:c<1000000000:=hc▸(qh R).get a6;have hts:t<s:=hr.2.2.1;have a3:=hr.next a4 (fun _=>hc)
    have hq:=yy a4 hts;have a5:cut (nth [] (raw (lim R)) k) 0 1 [.int .u32 (c:Int)]:=by have h:=qF (l:=lim R) (i:=k) a6;rw[hc]at h;exact h
    have hw:bw .u64 (bw .u64 ((t:Int)*1000000000)+bw .u64 (c:Int))=((c+1000000000*t:Nat):Int):=by rw[xS (n:=(c:Int)),xS (n:=(t:Int)*1000000000),xS];omega
    generalize c+1000000000*t=T at *;have hd:=(cv T s).symm;have hm:=(dl T s).symm;rw[b8,cc];refine⟨⟨by omega,by omega,qC a6⟩,_,a5,?_⟩;rw[hw];rw[hd,hm];have a8:bw .u32 (bw .u64 ((T/s:Nat):Int))=((T/s:Nat):Int):=by have h5:=hq;generalize T/s=q at h5;rw[xS];exact kf
    rw[a8,zf (by rw[er,en];omega),NB];have hw:bw .i64 ((k:Int)-1)=(k:Int)-1:=zr;rw[hw];refine⟨by omega,⟨by omega,by simp only[qi,er,en];omega⟩,by omega,by omega,⟨R,k,_,_,rfl,rfl,a3⟩,?_⟩;simp only[nth,toI];omega
   ·obtain rfl:kk=0:=by omega
    have bm:=hr.fin;rw[qj,hR,Nat.mul_div_cancel _ b2]at bm;have ho:=kg hLq (by omega);rw[hv]at ho;have hl:=kg hr.2.1 (by have:=hr.1;omega);rw[bm.1]at hl;exact⟨_,ho,_,hl,rfl⟩
end Eng
end
section
open Go Go.Proofs Eng
namespace Eng
section
variable (Gv:Nat→List A→List A→Prop) (I0:List D→List D→Prop) (M0:List D→Nat) (I1:List D→List D→Prop) (M1:List D→Nat) (I2:List D→List D→Prop) (M2:List D→Nat) (I3:List D→List D→Prop) (M3:List D→Nat) (Q:List A→Prop)
theorem B3:wpF CC Gv an0 Tryz.f249 [] Q=(∃x,Gv 21 [aI (0:Int)] [aR x]∧Q [aR x]):=by kernel_rfl
theorem Fv:wpF CC Gv an0 Tryz.f335 [] Q=(∃x,Gv 21 [aI (1:Int)] [aR x]∧Q [aR x]):=by kernel_rfl
theorem HZ (r0:R4):wpF CC Gv an0 Tryz.f187 [.ag (rk r0 [])] Q=(∃x,Gv 249 [] [aR x]∧∃x1,Gv 249 [] [aR x1]∧Q [aT r0 x x1]):=by kernel_rfl
theorem Fw (r0:R4) (r1:R4) (r2:R4):wpF CC Gv an0 Tryz.f286 [.ag (rk r0 []),.ag (rk r1 []),.ag (rk r2 [])] Q=(∃i,Gv 72 [aR r1] [aI i]∧bB (i==0) (∃x x1 x2,Gv 187 [aR r0] [aT x x1 x2]∧Q [aT x x1 x2]) (∃i,Gv 72 [aR r2] [aI i]∧bB (i==0) (∃x x1 x2,Gv 187 [aR r0] [aT x x1 x2]∧Q [aT x x1 x2]) (Q [aT r0 r1 r2]))):=by kernel_rfl
theorem B5 (r0:R4) (r1:R4) (r2:R4):wpF CC Gv an0 Tryz.f253 [.ag (rk r0 []),.ag (rk r1 []),.ag (rk r2 [])] Q=(∃i,Gv 72 [aR r2] [aI i]∧bB (decide (i<0)) (Q [Dd [Lm false,Ls [],Lm false,Ls [],Lm false,Ls [],Lm false,Ls [],Lm false,Ls [],Lm false,Ls []],aI (7:Int)]) (∃x b,Gv 198 [aR r2] [aR x,aB b]∧br b (∃x1,Gv 189 [aR r1,aR x] [aR x1]∧∃x,Gv 190 [aR r0,aR x1] [aR x]∧∃x2 x3 x4,Gv 187 [aR x] [aT x2 x3 x4]∧Q [aT x2 x3 x4,aI (0:Int)]) (∃x x1 x2,Gv 286 [aR r0,aR r1,aR r2] [aT x x1 x2]∧Q [aT x x1 x2,aI (0:Int)]))):=by kernel_rfl
theorem cA (r0:R4):wpF CC Gv an0 Tryz.f285 [.ag (rk r0 [])] Q=(∃x,Gv 189 [aR r0,aR r0] [aR x]∧Q [aR x]):=by kernel_rfl
theorem B6 (r0:R4) (r1:R4) (r2:R4):wpF CC Gv an0 Tryz.f250 [.ag (rk r0 (rk r1 (rk r2 [])))] Q=(∃x,Gv 285 [aR r0] [aR x]∧∃x1,Gv 285 [aR r1] [aR x1]∧∃x2,Gv 189 [aR x1,aR r2] [aR x2]∧∃x3,Gv 191 [aR x,aR x2] [aR x3]∧Q [aR x3]):=by kernel_rfl
theorem B7 (r0:R4) (r1:R4) (r2:R4):wpF CC Gv an0 Tryz.f193 [.ag (rk r0 (rk r1 (rk r2 [])))] Q=(∃i,Gv 72 [aR r0] [aI i]∧∃i_1,Gv 72 [aR r1] [aI i_1]∧bB (i==i_1) (Q [aI i]) (bB (i_1==0) (Q [aI i]) (bB (i==0) (Q [aI i_1]) (∃x,Gv 250 [aT r0 r1 r2] [aR x]∧∃i_2,Gv 72 [aR x] [aI i_2]∧bB (decide (i_2>0)) (Q [aI i]) (Q [aI i_1]))))):=by kernel_rfl
theorem Ll (r0:R4) (r1:R4) (r2:R4) (r3:R4):wpF CC Gv an0 Tryz.f195 [.ag (rk r0 (rk r1 (rk r2 []))),.ag (rk r3 [])] Q=(∃x,Gv 190 [aR r0,aR r3] [aR x]∧Q [aT x r1 r2]):=by kernel_rfl
theorem Lo (r0:R4) (r1:R4) (r2:R4) (r3:R4):wpF CC Gv an0 Tryz.f129 [.ag (rk r0 (rk r1 (rk r2 []))),.ag (rk r3 [])] Q=(∃x,Gv 192 [aR r3] [aR x]∧∃x1 x2 x3,Gv 195 [aT r0 r1 r2,aR x] [aT x1 x2 x3]∧∃i,Gv 193 [aT x1 x2 x3] [aI i]∧Q [aI i]):=by kernel_rfl
theorem Lp (r0:R4) (r1:R4) (r2:R4) (r3:R4) (r4:R4) (r5:R4):wpF CC Gv an0 Tryz.f333 [.ag (rk r0 (rk r1 (rk r2 []))),.ag (rk r3 (rk r4 (rk r5 [])))] Q=(∃i,Gv 72 [aR r1] [aI i]∧bB (i==0) (Q [aR r5,aB true]) (∃i,Gv 72 [aR r4] [aI i]∧bB (i==0) (Q [aR r2,aB true]) (∃i,Gv 83 [aR r2,aR r5] [aI i]∧Q [aR r2,aB (i==0)]))):=by kernel_rfl
theorem Fx (r0:R4) (r1:R4) (r2:R4) (r3:R4) (r4:R4) (r5:R4):wpF CC Gv an0 Tryz.f294 [.ag (rk r0 (rk r1 (rk r2 []))),.ag (rk r3 (rk r4 (rk r5 [])))] Q=(∃x b,Gv 333 [aT r0 r1 r2,aT r3 r4 r5] [aR x,aB b]∧bB (!b) (Q [Dd [Lm false,Ls [],Lm false,Ls [],Lm false,Ls [],Lm false,Ls [],Lm false,Ls [],Lm false,Ls []],aI (1:Int)]) (∃x1,Gv 189 [aR r0,aR r3] [aR x1]∧∃x2,Gv 189 [aR r1,aR r4] [aR x2]∧∃x3,Gv 189 [aR x2,aR x] [aR x3]∧∃x4,Gv 190 [aR x1,aR x3] [aR x4]∧∃x5,Gv 189 [aR r0,aR r4] [aR x5]∧∃x6,Gv 189 [aR r1,aR r3] [aR x6]∧∃x7,Gv 190 [aR x5,aR x6] [aR x7]∧∃x8 x9 x10,Gv 286 [aR x4,aR x7,aR x] [aT x8 x9 x10]∧Q [aT x8 x9 x10,aI (0:Int)])):=by kernel_rfl
theorem Fy (r0:R4) (r1:R4) (r2:R4):wpF CC Gv an0 Tryz.f293 [.ag (rk r0 (rk r1 (rk r2 [])))] Q=(∃i,Gv 193 [aT r0 r1 r2] [aI i]∧bB (i==0) (Q [Dd [Lm false,Ls [],Lm false,Ls [],Lm false,Ls [],Lm false,Ls [],Lm false,Ls [],Lm false,Ls []],aI (6:Int)]) (∃x,Gv 335 [] [aR x]∧∃x1,Gv 250 [aT r0 r1 r2] [aR x1]∧∃x2 i,Gv 292 [aR x,aR x1] [aR x2,aI i]∧∃x,Gv 189 [aR r0,aR x2] [aR x]∧∃x3,Gv 189 [aR r1,aR x2] [aR x3]∧∃x4,Gv 192 [aR x3] [aR x4]∧∃x5 x6 x7,Gv 286 [aR x,aR x4,aR r2] [aT x5 x6 x7]∧Q [aT x5 x6 x7,aI (0:Int)])):=by kernel_rfl
theorem Fz (r0:R4) (r1:R4) (r2:R4):wpF CC Gv an0 Tryz.f295 [.ag (rk r0 (rk r1 (rk r2 [])))] Q=(∃x,Gv 192 [aR r0] [aR x]∧∃x1,Gv 192 [aR r1] [aR x1]∧Q [aT x x1 r2]):=by kernel_rfl
theorem F1 (r0:R4) (r1:R4) (r2:R4) (r3:R4) (r4:R4) (r5:R4):wpF CC Gv an0 Tryz.f289 [.ag (rk r0 (rk r1 (rk r2 []))),.ag (rk r3 (rk r4 (rk r5 [])))] Q=(∃x b,Gv 333 [aT r0 r1 r2,aT r3 r4 r5] [aR x,aB b]∧bB (!b) (Q [Dd [Lm false,Ls [],Lm false,Ls [],Lm false,Ls [],Lm false,Ls [],Lm false,Ls [],Lm false,Ls []],aI (1:Int)]) (∃x1,Gv 190 [aR r0,aR r3] [aR x1]∧∃x2,Gv 190 [aR r1,aR r4] [aR x2]∧∃x3 x4 x5,Gv 286 [aR x1,aR x2,aR x] [aT x3 x4 x5]∧Q [aT x3 x4 x5,aI (0:Int)])):=by kernel_rfl
theorem Lt (r0:R4) (r1:R4) (r2:R4):wpF CC Gv an0 Tryz.f290 [.ag (rk r0 (rk r1 (rk r2 [])))] Q=(∃x x1 x2 i,Gv 294 [aT r0 r1 r2,aT r0 r1 r2] [aT x x1 x2,aI i]∧Q [aT x x1 x2]):=by kernel_rfl
theorem F3 (r0:R4) (r1:R4) (r2:R4):wpF CC Gv an0 Tryz.f188 [.ag (rk r0 []),.ag (rk r1 []),.ag (rk r2 [])] Q=(∃i,Gv 72 [aR r0] [aI i]∧∃i_1,Gv 72 [aR r1] [aI i_1]∧∃i_2,Gv 72 [aR r2] [aI i_2]∧bB (i==0) (bB (i==0) (Q [aI (bw .i64 (i_1*i_2))]) (Q [aI i])) (bB (bw .i64 (i_1*i_2)==0) (bB (i==0) (Q [aI (bw .i64 (i_1*i_2))]) (Q [aI i])) (bB (i==bw .i64 (i_1*i_2)) (bB (i==0) (Q [aI (bw .i64 (i_1*i_2))]) (Q [aI i])) (∃x,Gv 189 [aR r0,aR r0] [aR x]∧∃x1,Gv 189 [aR r1,aR r1] [aR x1]∧∃x2,Gv 189 [aR x1,aR r2] [aR x2]∧∃i_3,Gv 83 [aR x,aR x2] [aI i_3]∧Q [aI (bw .i64 (i*i_3))])))):=by kernel_rfl
theorem B8 (r0:R4) (r1:R4) (r2:R4) (r3:R4) (r4:R4) (r5:R4):wpF CC Gv an0 Tryz.f124 [.ag (rk r0 (rk r1 (rk r2 (rk r3 (rk r4 (rk r5 []))))))] Q=(∃i,Gv 72 [aR r4] [aI i]∧bB (decide (i<0)) (Q [aI (0:Int)]) (∃i,Gv 72 [aR r5] [aI i]∧bB (decide (i<0)) (Q [aI (0:Int)]) (∃i,Gv 188 [aR r0,aR r1,aR r4] [aI i]∧∃i_1,Gv 188 [aR r2,aR r3,aR r4] [aI i_1]∧∃i_2,Gv 72 [aR r5] [aI i_2]∧bB (i==0) (bB (i==0) (Q [aI (bw .i64 (i_1*i_2))]) (Q [aI i])) (bB (bw .i64 (i_1*i_2)==0) (bB (i==0) (Q [aI (bw .i64 (i_1*i_2))]) (Q [aI i])) (bB (i==bw .i64 (i_1*i_2)) (bB (i==0) (Q [aI (bw .i64 (i_1*i_2))]) (Q [aI i])) (∃x,Gv 189 [aR r2,aR r2] [aR x]∧∃x1,Gv 189 [aR r3,aR r3] [aR x1]∧∃x2,Gv 189 [aR x1,aR r4] [aR x2]∧∃x3,Gv 190 [aR x,aR x2] [aR x3]∧∃x,Gv 189 [aR r5,aR x3] [aR x]∧∃x4,Gv 189 [aR r0,aR r0] [aR x4]∧∃x5,Gv 189 [aR r1,aR r1] [aR x5]∧∃x6,Gv 189 [aR x5,aR r4] [aR x6]∧∃x7,Gv 190 [aR x4,aR x6] [aR x7]∧∃x8,Gv 191 [aR x7,aR x] [aR x8]∧∃x,Gv 189 [aR r0,aR r1] [aR x]∧∃x9,Gv 189 [aR r2,aR r3] [aR x9]∧∃x10,Gv 189 [aR r5,aR x9] [aR x10]∧∃x11,Gv 191 [aR x,aR x10] [aR x11]∧∃x,Gv 190 [aR x11,aR x11] [aR x]∧∃i_3,Gv 188 [aR x8,aR x,aR r4] [aI i_3]∧Q [aI (bw .i64 (i*i_3))])))))):=by kernel_rfl
theorem F4 (r0:R4) (r1:R4) (r2:R4) (r3:R4) (r4:R4) (r5:R4):wpF CC Gv an0 Tryz.f125 [.ag (rk r0 (rk r1 (rk r2 []))),.ag (rk r3 (rk r4 (rk r5 [])))] Q=(∃x,Gv 191 [aR r0,aR r3] [aR x]∧∃x1,Gv 192 [aR r4] [aR x1]∧∃x2,Gv 21 [aI (0:Int)] [aR x2]∧Q [Dd (rk x (rk r1 (rk x1 (rk x2 (rk r2 (rk r5 []))))))]):=by kernel_rfl
theorem F5 (r0:R4) (r1:R4) (r2:R4) (r3:R4) (r4:R4) (r5:R4):wpF CC Gv an0 Tryz.f68 [.ag (rk r0 (rk r1 (rk r2 []))),.ag (rk r3 (rk r4 (rk r5 [])))] Q=(∃x x1,Gv 125 [aT r0 r1 r2,aT r3 r4 r5] [Dd (pk x (rk x1 []))]∧∃i,Gv 124 [Dd (pk x (rk x1 []))] [aI i]∧Q [aI i]):=by kernel_rfl
theorem cB (r0:R4) (r1:R4) (r2:R4) (r3:R4) (r4:R4) (r5:R4):wpF CC Gv an0 Tryz.f123 [.ag (rk r0 (rk r1 (rk r2 []))),.ag (rk r3 (rk r4 (rk r5 [])))] Q=(∃i,Gv 68 [aT r0 r1 r2,aT r3 r4 r5] [aI i]∧Q [aB (i==0)]):=by kernel_rfl
theorem Lw (r0:R4) (r1:R4) (r2:R4) (r3:R4):wpF CC Gv an0 Tryz.f357 [.ag (rk r0 (rk r1 (rk r2 []))),.ag (rk r3 [])] Q=(∃x,Gv 191 [aR r0,aR r3] [aR x]∧∃i,Gv 188 [aR x,aR r1,aR r2] [aI i]∧Q [aI i]):=by kernel_rfl
theorem B9:wpF CC Gv an0 Tryz.f70 [] Q=(∃x,Gv 21 [aI (0:Int)] [aR x]∧Q [aR x]):=by kernel_rfl
theorem cC (r0:R4) (r1:R4):wpF CC Gv an0 Tryz.f39 [.ag (rk r0 (rk r1 []))] Q=(∃x,Gv 70 [] [aR x]∧∃x1,Gv 70 [] [aR x1]∧∃x2,Gv 70 [] [aR x2]∧Q [Dd (rk r0 (rk x (rk r1 (rk x1 (rk x2 [])))))]):=by kernel_rfl
theorem P8 (r0:R4) (r1:R4) (r2:R4):wpF CC Gv an0 Tryz.f122 [.ag (rk r0 []),.ag (rk r1 []),.ag (rk r2 [])] Q=(∃i,Gv 72 [aR r1] [aI i]∧bB (i==0) (∃x x1 x2,Gv 187 [aR r0] [aT x x1 x2]∧Q [aT x x1 x2]) (Q [aT r0 r1 r2])):=by kernel_rfl
theorem lz (p0:P20):wpF CC Gv an0 Tryz.f66 [.ag (pk p0 [])] Q=(∃x x1 x2,Gv 122 [aR (bv p0),aR (W2 p0),aR (W0 p0)] [aT x x1 x2]∧Q [aT x x1 x2]):=by kernel_rfl
theorem l6 (p0:P20):wpF CC Gv an0 Tryz.f127 [.ag (pk p0 [])] Q=(∃x x1 x2,Gv 122 [aR (bs p0),aR (W1 p0),aR (W0 p0)] [aT x x1 x2]∧Q [aT x x1 x2]):=by kernel_rfl
theorem P9 (p0:P20):wpF CC Gv an0 Tryz.f133 [.ag (pk p0 [])] Q=(∃b,Gv 71 [aR (bv p0)] [aB b]∧bB (!b) (Q [aB false]) (∃b,Gv 71 [aR (bs p0)] [aB b]∧bB (!b) (Q [aB false]) (∃b,Gv 71 [aR (W2 p0)] [aB b]∧bB (!b) (Q [aB false]) (∃b,Gv 71 [aR (W1 p0)] [aB b]∧bB (!b) (Q [aB false]) (∃b,Gv 71 [aR (W0 p0)] [aB b]∧bB (!b) (Q [aB false]) (∃i,Gv 72 [aR (W2 p0)] [aI i]∧bB (i==0) (∃i,Gv 72 [aR (W1 p0)] [aI i]∧bB (i==0) (∃i,Gv 72 [aR (W0 p0)] [aI i]∧Q [aB (i==0)]) (∃x b,Gv 198 [aR (W0 p0)] [aR x,aB b]∧∃i,Gv 72 [aR (W0 p0)] [aI i]∧bB (decide (i>0)) (Q [aB (!b)]) (Q [aB false]))) (∃x b,Gv 198 [aR (W0 p0)] [aR x,aB b]∧∃i,Gv 72 [aR (W0 p0)] [aI i]∧bB (decide (i>0)) (Q [aB (!b)]) (Q [aB false])))))))):=by kernel_rfl
theorem F6 (p0:P20) (p1:P20):wpF CC Gv an0 Tryz.f164 [.ag (pk p0 []),.ag (pk p1 [])] Q=(∃x x1 x2,Gv 66 [aP p0] [aT x x1 x2]∧∃x3 x4 x5,Gv 66 [aP p1] [aT x3 x4 x5]∧∃i,Gv 68 [aT x x1 x2,aT x3 x4 x5] [aI i]∧bB (i !=0) (Q [aI i]) (∃x x6 x7,Gv 127 [aP p0] [aT x x6 x7]∧∃x8 x9 x10,Gv 127 [aP p1] [aT x8 x9 x10]∧∃i,Gv 68 [aT x x6 x7,aT x8 x9 x10] [aI i]∧Q [aI i])):=by kernel_rfl
theorem cD (p0:P20) (p1:P20):wpF CC Gv an0 Tryz.f106 [.ag (pk p0 []),.ag (pk p1 [])] Q=(∃i,Gv 164 [aP p0,aP p1] [aI i]∧Q [aB (i==0)]):=by kernel_rfl
theorem PA (p0:P20) (r0:R4) (r1:R4):wpF CC Gv an0 Tryz.f287 [.ag (pk p0 []),.ag (rk r0 (rk r1 []))] Q=(∃x,Gv 190 [aR (bv p0),aR r0] [aR x]∧∃x1,Gv 190 [aR (bs p0),aR r1] [aR x1]∧Q [Dd (rk x (rk (W2 p0) (rk x1 (rk (W1 p0) (rk (W0 p0) [])))))]):=by kernel_rfl
theorem BA (r0:R4) (r1:R4):wpF CC Gv an0 Tryz.f288 [.ag (rk r0 (rk r1 []))] Q=(∃x,Gv 192 [aR r0] [aR x]∧∃x1,Gv 192 [aR r1] [aR x1]∧Q [aV x x1]):=by kernel_rfl
theorem Lx (p0:P20) (r0:R4) (r1:R4):wpF CC Gv an0 Tryz.f254 [.ag (pk p0 []),.ag (rk r0 (rk r1 []))] Q=(∃x x1,Gv 288 [aV r0 r1] [aV x x1]∧∃x2,Gv 287 [aP p0,aV x x1] [aP x2]∧∃x x3 x4,Gv 66 [aP x2] [aT x x3 x4]∧∃x5 x6 x7,Gv 290 [aT x x3 x4] [aT x5 x6 x7]∧∃x x8 x9,Gv 127 [aP x2] [aT x x8 x9]∧∃x10 x11 x12,Gv 290 [aT x x8 x9] [aT x10 x11 x12]∧∃x x13 x14 i,Gv 289 [aT x5 x6 x7,aT x10 x11 x12] [aT x x13 x14,aI i]∧Q [aT x x13 x14]):=by kernel_rfl
end
end Eng
end
section
namespace Eng
open Go Go.Proofs Rl
set_option maxRecDepth 100000
theorem wpG {f:Nat} {fn:Func} {args res:List A} (hf:Tryz.prog.funcs[f]? =some fn) (h:wpF CC (qc CC) an0 fn args (· =res)):qc CC f args res:=qu mixedT hf h
def kT (r:Rt) (t:List D):List D:=rk (q4 r.a) (rk (q4 r.b) (rk (q4 r.c) t))
def kP (p:P5):P20:=⟨q4 p.x,q4 p.u,q4 p.y,q4 p.v,q4 p.c⟩
def kV (v:Vc):List D:=rk (q4 v.x) (rk (q4 v.y) [])
def kL (l:Ln) (t:List D):List D:=rk (q4 l.a) (rk (q4 l.b) (rk (q4 l.c) t))
def kC (c:Ci) (t:List D):List D:=rk (q4 c.x) (rk (q4 c.y) (rk (q4 c.q) t))
def eT (r:Rt):A:= .ag (kT r [])
def eI (n:Int):A:=aI n
def z4A:R4:=⟨false,[],false,[]⟩
theorem Iw (r:Rat):sgn r.num=sr r:=by
 unfold sgn sr;have h1:= @iz r;have h2:= @Rat.num_eq_zero r;by_cases h3:r<0
 ·rw[if_pos (by rw[←ea,h1];grind),if_neg (by grind),if_pos h3]
 ·rw[if_neg (by rw[←ea,h1];grind)];by_cases h4:r=0
  ·rw[if_neg (by rw[h2.2 h4];decide),if_neg (by grind),if_neg h3]
  ·have h5:0≤r.num:=h1.2 (by grind);have h6:r.num≠0:=fun e=>h4 (h2.1 e)
   rw[if_pos (by omega),if_pos (by grind)]
theorem BB (x y:Rat):bM x y=sr (x-y):=by
 unfold bM sr
 grind
theorem jm {a b:Int} (ha: -1≤a∧a≤1) (hb: -1≤b∧b≤1):bw .i64 (a*b)=a*b:=by
 have h1:a= -1∨a=0∨a=1:=by omega
 have h2:b= -1∨b=0∨b=1:=by omega
 rcases h1 with rfl|rfl|rfl<;>rcases h2 with rfl|rfl|rfl<;>rfl
theorem ml_w {a b:Int} (ha: -1≤a∧a≤1) (hb: -1≤b∧b≤1): -1≤a*b∧a*b≤1:=by
 have h1:a= -1∨a=0∨a=1:=by omega
 have h2:b= -1∨b=0∨b=1:=by omega
 rcases h1 with rfl|rfl|rfl<;>rcases h2 with rfl|rfl|rfl<;>decide
theorem zM (x:Rat):qc CC 72 [aR (q4 x)] [aI (sr x)]:=by
 rw[←Iw];exact Nw x
theorem Lz {x:Rat} {k:Nat} (hx:Hz k x) (h:k<360000:=by omega):qc CC 192 [aR (q4 x)] [aR (q4 (-x))]:=TY (hx.sr h)
theorem PB {x y:Rat} {j k:Nat} (hx:Hz j x) (hy:Hz k y) (h:j<360000∧k<360000:=by omega):qc CC 190 [aR (q4 x),aR (q4 y)] [aR (q4 (x+y))]:=TZ jF (hx.sr h.1) (hy.sr h.2)
theorem cE {x y:Rat} {j k:Nat} (hx:Hz j x) (hy:Hz k y) (h:j<360000∧k<360000:=by omega):qc CC 191 [aR (q4 x),aR (q4 y)] [aR (q4 (x-y))]:=Bc jF (hx.sr h.1) (hy.sr h.2)
theorem Ja {x y:Rat} {j k:Nat} (hx:Hz j x) (hy:Hz k y) (h:j<360000∧k<360000:=by omega):qc CC 189 [aR (q4 x),aR (q4 y)] [aR (q4 (x*y))]:=Bf jF (hx.sr h.1) (hy.sr h.2)
theorem PC {x y:Rat} {j k:Nat} (hx:Hz j x) (hy:Hz k y) (h:j<360000∧k<360000:=by omega):qc CC 83 [aR (q4 x),aR (q4 y)] [aI (sr (x-y))]:=by
 rw[←BB];exact Be (hx.sr h.1) (hy.sr h.2)
theorem tJ {x y:Rat} {j k:Nat} (hx:Hz j x) (hy:Hz k y) (h0:y≠0) (h:j<360000∧k<360000:=by omega):qc CC 292 [aR (q4 x),aR (q4 y)] [aR (q4 (x/y)),aI 0]:=by
 have:=ce jF (hx.sr h.1) (hy.sr h.2);rw[if_neg h0]at this;exact this
theorem eW {n:Int} (h1: -9223372036854775808≤n) (h2:n<9223372036854775808):qc CC 21 [aI n] [aR (q4 (n:Rat))]:=Xu h1 h2
theorem a0:qc CC 21 [aI 0] [aR (q4 0)]:=eW (n:=0) (by omega) (by omega)
theorem a1:qc CC 21 [aI 1] [aR (q4 1)]:=eW (n:=1) (by omega) (by omega)
theorem a2:qc CC 21 [aI 2] [aR (q4 2)]:=eW (n:=2) (by omega) (by omega)
def HT (j k l:Nat) (r:Rt):Prop:=Hz j r.a∧Hz k r.b∧Hz l r.c
theorem Ua:qc CC 249 [] [aR (q4 0)]:=by
 refine wpG Tryz.func249 ((B3 ..).mpr ?_);exact⟨_,a0,rfl⟩
theorem F7:qc CC 335 [] [aR (q4 1)]:=by
 refine wpG Tryz.func335 ((Fv ..).mpr ?_);exact⟨_,a1,rfl⟩
theorem jQ (x:Rat):qc CC 187 [aR (q4 x)] [.ag (kT (rtQ x) [])]:=by
 refine wpG Tryz.func187 ((HZ ..).mpr ?_);exact⟨_,Ua,_,Ua,rfl⟩
theorem Jn (a b c:Rat):qc CC 286 [aR (q4 a),aR (q4 b),aR (q4 c)] [.ag (kT (Jj a b c) [])]:=by
 refine wpG Tryz.func286 ((Fw ..).mpr ?_);refine⟨_,zM b,?_⟩;rw[X0];refine brd (fun h=>?_) (fun h=>?_)
 ·rw[Jj,if_pos (.inl h)];exact⟨_,_,_,jQ a,rfl⟩
 ·refine⟨_,zM c,?_⟩;rw[X0];refine brd (fun h2=>?_) (fun h2=>?_)
  ·rw[Jj,if_pos (.inr h2)];exact⟨_,_,_,jQ a,rfl⟩
  ·rw[Jj,if_neg (by simp[h,h2])];rfl
theorem BC {x:Rat} {k:Nat} (hx:Hz k x) (h:k<360000):qc CC 285 [aR (q4 x)] [aR (q4 (x*x))]:=by
 refine wpG Tryz.func285 ((cA ..).mpr ?_);exact⟨_,Ja hx hx,rfl⟩
theorem Ub {r:Rt} {j k l:Nat} (hr:HT j k l r) (h:2*j+(2*k+l)<359990):qc CC 250 [.ag (kT r [])] [aR (q4 (w5 r))]:=by
 refine wpG Tryz.func250 ((B6 ..).mpr ?_);obtain⟨ha,hb,hc⟩:=hr;have h1:=ha.mul ha (l:=2*j);have h2:=hb.mul hb (l:=2*k);have h3:=h2.mul hc (l:=2*k+l);exact⟨_,BC ha (by omega),_,BC hb (by omega),_,Ja h2 hc,_,cE h1 h3,rfl⟩
theorem NC {r:Rt} {j k l m:Nat} (hr:HT j k l r) (h:2*j+(2*k+l)+1≤m):Hz m (w5 r):=
 (hr.1.mul hr.1 (l:=2*j)).sub ((hr.2.1.mul hr.2.1 (l:=2*k)).mul hr.2.2 (l:=2*k+l)) (by omega)
theorem yz {r:Rt} {j k l:Nat} (hr:HT j k l r) (ho:okT r) (h:2*j+(2*k+l)<359990:=by omega):qc CC 193 [.ag (kT r [])] [aI (sg (rv r))]:=by
 refine wpG Tryz.func193 ((B7 ..).mpr ?_);rw[tG ho];refine⟨_,zM r.a,_,zM r.b,?_⟩;refine brb (fun h1=>?_) (fun h1=>?_)
 ·rw[if_pos (ed h1)]
 rw[if_neg (by simpa using h1)];refine brb (fun h2=>?_) (fun h2=>?_)
 ·rw[if_pos (ed h2)]
 rw[if_neg (by simpa using h2)];refine brb (fun h3=>?_) (fun h3=>?_)
 ·rw[if_pos (ed h3)]
 rw[if_neg (by simpa using h3)];refine⟨_,Ub hr h,_,zM _,?_⟩;refine brd (fun h4=>?_) (fun h4=>?_)
 ·rw[if_pos (by omega)]
 ·rw[if_neg (by omega)]
theorem HT.add {r:Rt} {j k l m i:Nat} {x:Rat} (hr:HT j k l r) (hx:Hz i x) (h:j+i+1≤m):HT m k l (Bq r x):=⟨hr.1.add hx h,hr.2⟩
theorem okT.add {r:Rt} (h:okT r) (x:Rat):okT (Bq r x):=h
theorem Ix (r:Rt) (x:Rat):rv (Bq r x)=rv r+ofR x:=by
 show ofR (r.a+x)+ofR r.b*jh r.c=ofR r.a+ofR r.b*jh r.c+ofR x;rw[zn,ada,ada,adc (ofR x)]
theorem vH {r:Rt} {j k l i:Nat} {x:Rat} (hr:HT j k l r) (hx:Hz i x) (h:j+i<359990:=by omega):qc CC 195 [.ag (kT r []),aR (q4 x)] [.ag (kT (Bq r x) [])]:=by
 refine wpG Tryz.func195 ((Ll ..).mpr ?_);exact⟨_,PB hr.1 hx,rfl⟩
theorem cF (x y:Rl):x-y=x+ -y:=rfl
theorem L0 {r:Rt} {j k l i:Nat} {x:Rat} (hr:HT j k l r) (ho:okT r) (hx:Hz i x) (h:2*(j+i)+(2*k+l)<359900:=by omega):
 qc CC 129 [.ag (kT r []),aR (q4 x)] [aI (sg (rv r-ofR x))]:=by
 refine wpG Tryz.func129 ((Lo ..).mpr ?_);refine⟨_,Lz hx (by omega),_,_,_,vH hr hx.neg (by omega),_,yz (hr.add hx.neg (gq _)) (ho.add _) (by omega),?_⟩;rw[Ix,jW,←cF]
theorem HT.neg {r:Rt} {j k l:Nat} (hr:HT j k l r):HT j k l (iX r):=⟨hr.1.neg,hr.2.1.neg,hr.2.2⟩
theorem okT.neg {r:Rt} (h:okT r):okT (iX r):=by
 rcases h with⟨h1,h2⟩|⟨h1,h2⟩
 ·exact .inl ⟨by show-r.b=0;grind,h2⟩
 ·exact .inr ⟨by show-r.b≠0;grind,h2⟩
theorem F8 {r:Rt} {j k l:Nat} (hr:HT j k l r) (h:j<360000∧k<360000:=by omega):qc CC 295 [.ag (kT r [])] [.ag (kT (iX r) [])]:=by
 refine wpG Tryz.func295 ((Fz ..).mpr ?_);exact⟨_,Lz hr.1 h.1,_,Lz hr.2.1 h.2,rfl⟩
theorem BD {x y:Rat}:x-y=0↔x=y:=by constructor<;>intro h<;>grind
theorem KE {r s:Rt} {l m:Nat} (hr:Hz l r.c) (hs:Hz m s.c) (hc:Ff r s) (h:l+m<359990:=by omega):qc CC 333 [.ag (kT r []),.ag (kT s [])] [aR (q4 (XQ r s)),aB true]:=by
 refine wpG Tryz.func333 ((Lp ..).mpr ?_);refine⟨_,zM r.b,?_⟩;rw[X0];unfold XQ;refine brd (fun h1=>?_) (fun h1=>?_)
 ·rw[if_pos h1]
 rw[if_neg h1];refine⟨_,zM s.b,?_⟩;rw[X0];refine brd (fun h2=>?_) (fun h2=>?_)
 ·rfl
 refine⟨_,PC hr hs (by omega),?_⟩;have:r.c=s.c:=(hc.resolve_left h1).resolve_left h2;rw[X0,decide_eq_true (BD.2 this)]
theorem ND {r s:Rt} {j k l i m n:Nat} (hr:HT j k l r) (hs:HT i m n s) (hc:Ff r s) (h:j+k+i+m+l+n<170000:=by omega):
 qc CC 294 [.ag (kT r []),.ag (kT s [])] [.ag (kT (Zj r s) []),aI 0]:=by
 refine wpG Tryz.func294 ((Fx ..).mpr ?_);have a3:Hz (l+n) (XQ r s):=by
  unfold XQ;split
  ·exact hs.2.2.mono (by omega)
  ·exact hr.2.2.mono (by omega)
 have h1:=hr.1.mul hs.1 (l:=j+i);have h2:=hr.2.1.mul hs.2.1 (l:=k+m);have h3:=h2.mul a3 (l:=k+m+(l+n));have h4:=hr.1.mul hs.2.1 (l:=j+m);have h5:=hr.2.1.mul hs.1 (l:=k+i);refine⟨_,_,KE hr.2.2 hs.2.2 hc (by omega),?_⟩;refine brb (fun h=>absurd h (by decide)) (fun _=>?_);exact⟨_,Ja hr.1 hs.1,_,Ja hr.2.1 hs.2.1,_,Ja h2 a3,_,PB h1 h3,_,Ja hr.1 hs.2.1,_,Ja hr.2.1 hs.1,_,PB h4 h5,_,_,_,Jn _ _ _,rfl⟩
theorem F9 {r:Rt} {j k l:Nat} (hr:HT j k l r) (ho:okT r) (h0:rv r≠0) (h:4*j+(4*k+2*l)<170000:=by omega):
 qc CC 293 [.ag (kT r [])] [.ag (kT (eS r) []),aI 0]:=by
 refine wpG Tryz.func293 ((Fy ..).mpr ?_);have hn:=NC (m:=2*j+(2*k+l)+1) hr (by omega);have a3:w5 r≠0:=ho.norm fun k=>h0 (ho.zero.2 k)
 have h1:=(T1 (k:=0)).div hn a3 (l:=2*j+(2*k+l)+1) (by omega);have h2:=hr.2.1.mul h1 (l:=k+(2*j+(2*k+l)+1)) (by omega);refine⟨_,yz hr ho (by omega),?_⟩;refine brb (fun h=>absurd (xe.1 (ed h)) h0) (fun _=>?_);exact⟨_,F7,_,Ub hr (by omega),_,_,tJ (T1 (k:=0)) hn a3 (by omega),_,Ja hr.1 h1 (by omega),_,Ja hr.2.1 h1 (by omega),_,Lz h2 (by omega),_,_,_,Jn _ _ _,rfl⟩
theorem eX (a b m:Rat): -1≤tw a b m∧tw a b m≤1:=by
 unfold tw;split
 ·exact KB a
 split
 ·exact ml_w (KB b) (KB m)
 ·exact ml_w (KB a) (KB _)
theorem Jo {a b m:Rat} {i j k:Nat} (ha:Hz i a) (hb:Hz j b) (hm:Hz k m) (h:2*i<360000∧2*j+k<360000:=by omega):
 qc CC 188 [aR (q4 a),aR (q4 b),aR (q4 m)] [aI (tw a b m)]:=by
 refine wpG Tryz.func188 ((F3 ..).mpr ?_);have h2:=hb.mul hb (l:=2*j);refine⟨_,zM a,_,zM b,_,zM m,?_⟩;rw[jm (KB b) (KB m)];unfold tw;refine brb (fun h1=>?_) (fun h1=>?_)
 ·have e:=ed h1;refine brb (fun _=>?_) (fun h=>absurd h (by rw[h1];simp));rw[e];by_cases h3:sr b*sr m=0
  ·rw[if_pos (.inl h3),h3]
  ·rw[if_neg (by simp[h3,Ne.symm h3]),if_pos rfl]
 have n1:sr a≠0:=by simpa using h1
 refine brb (fun h3=>?_) (fun h3=>?_)
 ·have e:=ed h3;refine brb (fun h=>absurd h (by rw[h1];simp)) (fun _=>?_);rw[if_pos (.inl e)]
 have n3:sr b*sr m≠0:=by simpa using h3
 refine brb (fun h4=>?_) (fun h4=>?_)
 ·have e:=ed h4;refine brb (fun h=>absurd h (by rw[h1];simp)) (fun _=>?_);rw[if_pos (.inr e)]
 have n4:sr a≠sr b*sr m:=by simpa using h4
 rw[if_neg (by simp[n3,n4]),if_neg n1];refine⟨_,Ja ha ha,_,Ja hb hb,_,Ja h2 hm,_,PC (ha.mul ha (l:=2*i)) (h2.mul hm (l:=2*j+k)),?_⟩;rw[jm (KB a) (KB _)]
theorem NE (x:Rat):x+x=2*x:=by grind
theorem BE {a b c d m n:Rat} {i j k:Nat} (ha:Hz i a) (hb:Hz j b) (hc:Hz j c) (hd:Hz 0 d) (hm:Hz k m) (hn:Hz k n) (hm0:0≤m) (hn0:0≤n) (h:4*i+(8*j+6*k)<359000:=by omega):
 qc CC 124 [.ag (rk (q4 a) (rk (q4 b) (rk (q4 c) (rk (q4 d) (rk (q4 m) (rk (q4 n) []))))))] [aI (qs a b c d m n)]:=by
 refine wpG Tryz.func124 ((B8 ..).mpr ?_);have ad:=hc.mul hc (l:=2*j);have al:=hd.mul hd (l:=0);have a4:=al.mul hm (l:=k);have hs:=ad.add a4 (l:=2*j+k+1);have an:=hn.mul hs (l:=2*j+2*k+1);have a6:=ha.mul ha (l:=2*i);have a8:=hb.mul hb (l:=2*j);have a3:=a8.mul hm (l:=2*j+k);have ap:=a6.add a3 (l:=2*i+2*j+k+1);have hA:=ap.sub an (l:=2*i+4*j+3*k+3);have a7:=ha.mul hb (l:=i+j);have ag:=hc.mul hd (l:=j);have a5:=hn.mul ag (l:=k+j);have hB:=a7.sub a5 (l:=i+2*j+k+1);have hBB:=hB.add hB (l:=2*i+4*j+2*k+3);refine⟨_,zM m,?_⟩;refine brd (fun h=>absurd (ZR.1 h) (by grind)) (fun _=>?_);refine⟨_,zM n,?_⟩;refine brd (fun h=>absurd (ZR.1 h) (by grind)) (fun _=>?_);refine⟨_,Jo ha hb hm (by omega),_,Jo hc hd hm (by omega),_,zM n,?_⟩;rw[jm (eX _ _ _) (KB n)];unfold qs;refine brb (fun h1=>?_) (fun h1=>?_)
 ·have e:=ed h1;refine brb (fun _=>?_) (fun h=>absurd h (by rw[h1];simp));rw[e];by_cases h3:tw c d m*sr n=0
  ·rw[if_pos (.inl h3),h3]
  ·rw[if_neg (by simp[h3,Ne.symm h3]),if_pos rfl]
 have n1:tw a b m≠0:=by simpa using h1
 refine brb (fun h3=>?_) (fun h3=>?_)
 ·have e:=ed h3;refine brb (fun h=>absurd h (by rw[h1];simp)) (fun _=>?_);rw[if_pos (.inl e)]
 have n3:tw c d m*sr n≠0:=by simpa using h3
 refine brb (fun h4=>?_) (fun h4=>?_)
 ·have e:=ed h4;refine brb (fun h=>absurd h (by rw[h1];simp)) (fun _=>?_);rw[if_pos (.inr e)]
 have n4:tw a b m≠tw c d m*sr n:=by simpa using h4
 rw[if_neg (by simp[n3,n4]),if_neg n1];refine⟨_,Ja hc hc,_,Ja hd hd,_,Ja al hm,_,PB ad a4,_,Ja hn hs,_,Ja ha ha,_,Ja hb hb,_,Ja a8 hm,_,PB a6 a3,_,cE ap an,
  _,Ja ha hb,_,Ja hc hd,_,Ja hn ag,_,cE a7 a5,_,PB hB hB,_,Jo hA hBB hm (by omega),?_⟩
 rw[jm (eX _ _ _) (eX _ _ _),NE]
theorem Iy (r s:Rt):qv (r.a-s.a) r.b (-s.b) 0 r.c s.c=rv r-rv s:=by
 have e:∀x y:Rl,(ofR (r.a-s.a)+ofR r.b*x)+(ofR (-s.b)+ofR 0*x)*y=(ofR r.a+ofR r.b*x)-(ofR s.a+ofR s.b*y):=by intro x y;rw[kG,jW,xH,zml,ad0];obtain⟨x,rfl⟩:=x.rep;obtain⟨y,rfl⟩:=y.rep;exact xC fun n=>by simp only[xZ,z8,jN,jO];grind
 exact e _ _
theorem wq {r s:Rt} {i j k:Nat} (hr:HT i j k r) (hs:HT i j k s) (ho:okT r) (hp:okT s) (h:8*i+(8*j+6*k)<358900:=by omega):
 qc CC 68 [.ag (kT r []),.ag (kT s [])] [aI (sg (rv r-rv s))]:=by
 have h1:qc CC 125 [.ag (kT r []),.ag (kT s [])] [.ag (rk (q4 (r.a-s.a)) (rk (q4 r.b) (rk (q4 (-s.b)) (rk (q4 0) (rk (q4 r.c) (rk (q4 s.c) []))))))]:=by refine wpG Tryz.func125 ((F4 ..).mpr ?_);exact⟨_,cE hr.1 hs.1,_,Lz hs.2.1,_,a0,rfl⟩
 refine wpG Tryz.func68 ((F5 ..).mpr ?_);refine⟨⟨_,_,_,_,_⟩,_,h1,_,BE (i:=2*i+1) (j:=j) (k:=k) (hr.1.sub hs.1 (by omega)) hr.2.1 hs.2.1.neg Ts hr.2.2 hs.2.2 ho.nn hp.nn (by omega),?_⟩;rw[co _ _ _ _ ho.nn hp.nn,Iy]
theorem cG {r s:Rt} {i j k:Nat} (hr:HT i j k r) (hs:HT i j k s) (ho:okT r) (hp:okT s) (h:8*i+(8*j+6*k)<358900:=by omega):
 qc CC 123 [.ag (kT r []),.ag (kT s [])] [aB (sg (rv r-rv s)==0)]:=by
 refine wpG Tryz.func123 ((cB ..).mpr ?_);exact⟨_,wq hr hs ho hp h,rfl⟩
theorem KF {r:Rt} {i j k l:Nat} {x:Rat} (hr:HT i j k r) (ho:okT r) (hx:Hz l x) (h:2*(i+l+1)+(2*j+k)<359990:=by omega):
 qc CC 357 [.ag (kT r []),aR (q4 x)] [aI (sg (rv r-ofR x))]:=by
 refine wpG Tryz.func357 ((Lw ..).mpr ?_);refine⟨_,cE hr.1 hx (by omega),_,Jo (hr.1.sub hx (l:=i+l+1)) hr.2.1 hr.2.2 (by omega),?_⟩;rw[HR _ _ ho.nn];have e:rv r-ofR x=ofR (r.a-x)+ofR r.b*jh r.c:=by
  have e':∀y:Rl,(ofR r.a+ofR r.b*y)-ofR x=ofR (r.a-x)+ofR r.b*y:=by intro y;rw[kG];obtain⟨y,rfl⟩:=y.rep;exact xC fun n=>by simp only[xZ,z8,jN,jO];grind
  exact e' _
 rw[e]
def HP (k:Nat) (p:P5):Prop:=Hz k p.x∧Hz k p.u∧Hz k p.y∧Hz k p.v∧Hz k p.c
theorem NF {a b c:Rat} {k:Nat} (ha:Hz k a) (hb:Hz k b) (hc:Hz k c):HT k k k (kI a b c):=by
 unfold kI;split
 ·exact⟨ha,Ts,Ts⟩
 ·exact⟨ha,hb,hc⟩
theorem HP.tx {k:Nat} {p:P5} (h:HP k p):HT k k k (xP p):=NF h.1 h.2.1 h.2.2.2.2
theorem HP.ty {k:Nat} {p:P5} (h:HP k p):HT k k k (yP p):=NF h.2.2.1 h.2.2.2.1 h.2.2.2.2
theorem KG:qc CC 70 [] [aR (q4 0)]:=by
 refine wpG Tryz.func70 ((B9 ..).mpr ?_);exact⟨_,a0,rfl⟩
theorem Zn (v:Vc):qc CC 39 [.ag (kV v)] [aP (kP (atV v))]:=by
 refine wpG Tryz.func39 ((cC ..).mpr ?_);exact⟨_,KG,_,KG,_,KG,rfl⟩
theorem Vx (a b c:Rat):qc CC 122 [aR (q4 a),aR (q4 b),aR (q4 c)] [.ag (kT (kI a b c) [])]:=by
 refine wpG Tryz.func122 ((P8 ..).mpr ?_);refine⟨_,zM b,?_⟩;rw[X0];unfold kI;refine brd (fun h=>?_) (fun h=>?_)
 ·rw[if_pos h];exact⟨_,_,_,jQ a,rfl⟩
 ·rw[if_neg h];rfl
theorem kM (p:P5):qc CC 66 [aP (kP p)] [.ag (kT (xP p) [])]:=by
 refine wpG Tryz.func66 ((lz ..).mpr ?_);exact⟨_,_,_,Vx _ _ _,rfl⟩
theorem Qo (p:P5):qc CC 127 [aP (kP p)] [.ag (kT (yP p) [])]:=by
 refine wpG Tryz.func127 ((l6 ..).mpr ?_);exact⟨_,_,_,Vx _ _ _,rfl⟩
theorem YK {p q:P5} {k:Nat} (hp:HP k p) (hq:HP k q) (ho:okP p) (hr:okP q) (h:k≤15000:=by omega):
 qc CC 164 [aP (kP p),aP (kP q)] [aI (jb p q)]:=by
 refine wpG Tryz.func164 ((F6 ..).mpr ?_);have h1:=wq hp.tx hq.tx (Qn ho) (Qn hr);have h2:=wq hp.ty hq.ty (X1 ho) (X1 hr);rw[X2,X2]at h1;rw[KC,KC]at h2;refine⟨_,_,_,kM p,_,_,_,kM q,_,h1,?_⟩;unfold jb;refine brb (fun h=>?_) (fun h=>?_)
 ·rw[if_neg (by simpa using h)]
 ·rw[if_pos (by simpa using h)];exact⟨_,_,_,Qo p,_,_,_,Qo q,_,h2,rfl⟩
theorem cJ {p q:P5} {k:Nat} (hp:HP k p) (hq:HP k q) (ho:okP p) (hr:okP q) (h:k≤15000:=by omega):
 qc CC 106 [aP (kP p),aP (kP q)] [aB (wC p q)]:=by
 refine wpG Tryz.func106 ((cD ..).mpr ?_);exact⟨_,YK hp hq ho hr h,rfl⟩
end Eng
end
section
namespace Eng
open Rl
theorem Iz {r s:Rt} (_:okT r) (_:okT s) (hc:Ff r s):rv r=ofR r.a+ofR r.b*jh (XQ r s)∧rv s=ofR s.a+ofR s.b*jh (XQ r s):=by
 unfold XQ;by_cases h:r.b=0
 ·rw[if_pos h];refine⟨?_,rfl⟩;unfold rv;rw[h,xH,zml,zml]
 ·rw[if_neg h];refine⟨rfl,?_⟩;rcases hc with h1|h1|h1
  ·exact absurd h1 h
  ·unfold rv;rw[h1,xH,zml,zml]
  ·unfold rv;rw[h1]
theorem L1 {r s:Rt} (hr:okT r) (hs:okT s):XQ r s=0∨(0<XQ r s∧sqQ (XQ r s)=none):=by
 unfold XQ;split
 ·rcases hs with h|h
  ·exact .inl h.2
  ·exact .inr h.2
 ·rcases hr with h|h
  ·exact .inl h.2
  ·exact .inr h.2
theorem cK {r s:Rt} (hr:okT r) (hs:okT s):0≤XQ r s:=by
 rcases L1 hr hs with h|h<;>grind
theorem KH {r s:Rt} (hr:okT r) (hs:okT s):okT (Zj r s):=YG (L1 hr hs)
theorem FA {r s:Rt} (hr:okT r) (hs:okT s):okT (eR r s):=YG (L1 hr hs)
theorem I4 {r s:Rt} (hr:okT r) (hs:okT s) (hc:Ff r s):rv (Zj r s)=rv r*rv s:=by
 obtain⟨h1,h2⟩:=Iz hr hs hc;have h3:=kH (cK hr hs);unfold Zj mulC;rw[Bv,h1,h2];generalize jh (XQ r s)=t at *;rw[zn,qV,qV,qV,zn,qV,qV,←h3];obtain⟨t,rfl⟩:=t.rep;exact xC fun n=>by simp only[xZ,jN,jO];grind
theorem cM {r s:Rt} (hr:okT r) (hs:okT s) (hc:Ff r s):rv (eR r s)=rv r+rv s:=by
 obtain⟨h1,h2⟩:=Iz hr hs hc;unfold eR;rw[Bv,h1,h2];generalize jh (XQ r s)=t at *;rw[zn,zn];obtain⟨t,rfl⟩:=t.rep;exact xC fun n=>by simp only[xZ,jN,jO];grind
theorem I5 (a b c:Rat):(Jj a b c).b=0∨(Jj a b c).c=c:=by
 unfold Jj;split
 ·exact .inl rfl
 ·exact .inr rfl
theorem NG (a b c:Rat):(kI a b c).b=0∨(kI a b c).c=c:=by
 unfold kI;split
 ·exact .inl rfl
 ·exact .inr rfl
theorem NH {r s:Rt} {c:Rat} (_:okT r) (_:okT s) (h1:r.b=0∨r.c=c) (h2:s.b=0∨s.c=c):(Zj r s).b=0∨(Zj r s).c=c:=by
 rcases I5 (r.a*s.a+r.b*s.b*XQ r s) (r.a*s.b+r.b*s.a) (XQ r s)with h|h
 ·exact .inl h
 ·by_cases hb:r.b=0
  ·rcases h2 with h2|h2
   ·left;show(Jj (r.a*s.a+r.b*s.b*XQ r s) (r.a*s.b+r.b*s.a) (XQ r s)).b=0;unfold Jj;rw[if_pos (.inl (by rw[hb,h2];grind))];rfl
   ·right;show(Jj (r.a*s.a+r.b*s.b*XQ r s) (r.a*s.b+r.b*s.a) (XQ r s)).c=c;rw[h];unfold XQ;rw[if_pos hb];exact h2
  ·right;show(Jj (r.a*s.a+r.b*s.b*XQ r s) (r.a*s.b+r.b*s.a) (XQ r s)).c=c;rw[h];unfold XQ;rw[if_neg hb];exact h1.resolve_left hb
theorem L2 {r s:Rt} {c:Rat} (h1:r.b=0∨r.c=c) (h2:s.b=0∨s.c=c):Ff r s:=by
 rcases h1 with h1|h1
 ·exact .inl h1
 ·rcases h2 with h2|h2
  ·exact .inr (.inl h2)
  ·exact .inr (.inr (h1.trans h2.symm))
theorem cN {r:Rt} (hr:okT r):okT (eS r):=YG (by rcases hr with h|h;exact .inl h.2;exact .inr h.2)
theorem l7 {r:Rt} {c:Rat} (h:r.b=0∨r.c=c):(eS r).b=0∨(eS r).c=c:=by
 rcases I5 (r.a*(1/w5 r)) (-(r.b*(1/w5 r))) r.c with k|k
 ·exact .inl k
 ·rcases h with h|h
  ·left;show(Jj (r.a*(1/w5 r)) (-(r.b*(1/w5 r))) r.c).b=0;unfold Jj;rw[if_pos (.inl (by rw[h];grind))];rfl
  ·right;show(Jj (r.a*(1/w5 r)) (-(r.b*(1/w5 r))) r.c).c=c;rw[k];exact h
theorem l8 (l:Ln) (p:P5):lnv l p=ofR (l.a*p.x+l.b*p.y-l.c)+ofR (l.a*p.u+l.b*p.v)*jh p.c:=by
 unfold lnv px py;generalize jh p.c=t;rw[kG,zn,qV,qV,zn,qV,qV];obtain⟨t,rfl⟩:=t.rep;exact xC fun n=>by simp only[xZ,z8,jN,jO];grind
def trP (p:P5) (v:Vc):P5:=⟨p.x+v.x,p.u,p.y+v.y,p.v,p.c⟩
theorem Vy {p:P5} (h:okP p) (v:Vc):okP (trP p v):=h
theorem tK (p:P5) (v:Vc):px (trP p v)=px p+ofR v.x:=by
 show ofR (p.x+v.x)+ofR p.u*jh p.c=ofR p.x+ofR p.u*jh p.c+ofR v.x;rw[zn,ada,ada,adc (ofR v.x)]
theorem tL (p:P5) (v:Vc):py (trP p v)=py p+ofR v.y:=by
 show ofR (p.y+v.y)+ofR p.v*jh p.c=ofR p.y+ofR p.v*jh p.c+ofR v.y;rw[zn,ada,ada,adc (ofR v.y)]
def sqP (p:P5) (v:Vc):Rt:=eR (Zj (xP (trP p ⟨-v.x, -v.y⟩)) (xP (trP p ⟨-v.x, -v.y⟩))) (Zj (yP (trP p ⟨-v.x, -v.y⟩)) (yP (trP p ⟨-v.x, -v.y⟩)))
theorem YL (r:Rt):Ff r r:= .inr (.inr rfl)
theorem l9 (p:P5):(xP p).b=0∨(xP p).c=p.c:=NG _ _ _
theorem lC (p:P5):(yP p).b=0∨(yP p).c=p.c:=NG _ _ _
theorem I6 {p:P5} (h:okP p) (v:Vc):okT (sqP p v)∧rv (sqP p v)=(px p-ofR v.x)*(px p-ofR v.x)+(py p-ofR v.y)*(py p-ofR v.y):=by
 have hx:=Qn (Vy h ⟨-v.x, -v.y⟩);have hy:=X1 (Vy h ⟨-v.x, -v.y⟩);have cx:=NH hx hx (l9 _) (l9 _);have cy:=NH hy hy (lC _) (lC _);refine⟨FA (KH hx hx) (KH hy hy),?_⟩;unfold sqP;rw[cM (KH hx hx) (KH hy hy) (L2 cx cy),I4 hx hx (YL _),I4 hy hy (YL _),X2,KC,tK,tL,jW,jW];rfl
theorem cO {p:P5} (h:okP p) (v:Vc):Ff (Zj (xP (trP p ⟨-v.x, -v.y⟩)) (xP (trP p ⟨-v.x, -v.y⟩))) (Zj (yP (trP p ⟨-v.x, -v.y⟩)) (yP (trP p ⟨-v.x, -v.y⟩))):=
 L2 (NH (Qn (Vy h _)) (Qn (Vy h _)) (l9 _) (l9 _)) (NH (X1 (Vy h _)) (X1 (Vy h _)) (lC _) (lC _))
theorem lD {p:P5} (h:okP p) (c:Ci):civ c p=rv (Bq (sqP p ⟨c.x,c.y⟩) (-c.q)):=by
 have e:rv (Bq (sqP p ⟨c.x,c.y⟩) (-c.q))=rv (sqP p ⟨c.x,c.y⟩)+ofR (-c.q):=by show ofR ((sqP p ⟨c.x,c.y⟩).a+ -c.q)+ofR (sqP p ⟨c.x,c.y⟩).b*jh (sqP p ⟨c.x,c.y⟩).c=ofR (sqP p ⟨c.x,c.y⟩).a+ofR (sqP p ⟨c.x,c.y⟩).b*jh (sqP p ⟨c.x,c.y⟩).c+ofR (-c.q);rw[zn,ada,ada,adc (ofR (-c.q))]
 rw[e,(I6 h ⟨c.x,c.y⟩).2,jW];rfl
theorem YM {x u y v c:Rat} (hc:0<c) (h:¬(u=0∧v=0)):okP (zt x u y v c):=by
 unfold zt;split
 ·exact N9 _
 ·rename_i hs;exact .inr ⟨h,hc,hs⟩
end Eng
end
section
open Go Go.Proofs Eng
namespace Eng
section
variable (Gv:Nat→List A→List A→Prop) (I0:List D→List D→Prop) (M0:List D→Nat) (I1:List D→List D→Prop) (M1:List D→Nat) (I2:List D→List D→Prop) (M2:List D→Nat) (I3:List D→List D→Prop) (M3:List D→Nat) (Q:List A→Prop)
theorem FC (r0:R4) (r1:R4):wpF CC Gv an0 Tryz.f252 [.ag (rk r0 []),.ag (rk r1 [])] Q=(∃x,Gv 190 [aR r0,aR r1] [aR x]∧Q [aR x]):=by kernel_rfl
theorem FD (r0:R4) (r1:R4):wpF CC Gv an0 Tryz.f251 [.ag (rk r0 []),.ag (rk r1 [])] Q=(∃x,Gv 191 [aR r0,aR r1] [aR x]∧Q [aR x]):=by kernel_rfl
theorem FE (r0:R4) (r1:R4):wpF CC Gv an0 Tryz.f221 [.ag (rk r0 []),.ag (rk r1 [])] Q=(∃x,Gv 189 [aR r0,aR r1] [aR x]∧Q [aR x]):=by kernel_rfl
theorem ZS (r0:R4) (r1:R4) (r2:R4) (r3:R4):wpF CC Gv an0 Tryz.f207 [.ag (rk r0 (rk r1 [])),.ag (rk r2 (rk r3 []))] Q=(∃x,Gv 251 [aR r1,aR r3] [aR x]∧∃x1,Gv 251 [aR r2,aR r0] [aR x1]∧∃i,Gv 72 [aR x] [aI i]∧bB (i==0) (∃i,Gv 72 [aR x1] [aI i]∧bB (i==0) (Q [Dd [Lm false,Ls [],Lm false,Ls [],Lm false,Ls [],Lm false,Ls [],Lm false,Ls [],Lm false,Ls []],aI (6:Int)]) (∃x2,Gv 221 [aR x,aR r0] [aR x2]∧∃x3,Gv 221 [aR x1,aR r1] [aR x3]∧∃x4,Gv 252 [aR x2,aR x3] [aR x4]∧Q [aT x x1 x4,aI (0:Int)])) (∃x2,Gv 221 [aR x,aR r0] [aR x2]∧∃x3,Gv 221 [aR x1,aR r1] [aR x3]∧∃x4,Gv 252 [aR x2,aR x3] [aR x4]∧Q [aT x x1 x4,aI (0:Int)])):=by kernel_rfl
theorem PD (r0:R4) (r1:R4) (r2:R4):wpF CC Gv an0 Tryz.f134 [.ag (rk r0 (rk r1 (rk r2 [])))] Q=(∃b,Gv 71 [aR r0] [aB b]∧br b (∃b,Gv 71 [aR r1] [aB b]∧br b (∃b,Gv 71 [aR r2] [aB b]∧br b (∃i,Gv 72 [aR r0] [aI i]∧bB (i !=0) (Q [aB true]) (∃i,Gv 72 [aR r1] [aI i]∧Q [aB (i !=0)])) (Q [aB false])) (Q [aB false])) (Q [aB false])):=by kernel_rfl
theorem Uc (r0:R4) (r1:R4) (r2:R4):wpF CC Gv an0 Tryz.f40 [.ag (rk r0 (rk r1 (rk r2 [])))] Q=(∃b,Gv 71 [aR r0] [aB b]∧br b (∃b,Gv 71 [aR r1] [aB b]∧br b (∃b,Gv 71 [aR r2] [aB b]∧br b (∃i,Gv 72 [aR r2] [aI i]∧Q [aB (decide (i>0))]) (Q [aB false])) (Q [aB false])) (Q [aB false])):=by kernel_rfl
theorem YN (r0:R4) (r1:R4) (r2:R4) (r3:R4) (r4:R4) (r5:R4):wpF CC Gv an0 Tryz.f163 [.ag (rk r0 (rk r1 (rk r2 []))),.ag (rk r3 (rk r4 (rk r5 [])))] Q=(∃x,Gv 221 [aR r0,aR r4] [aR x]∧∃x1,Gv 221 [aR r1,aR r3] [aR x1]∧∃i,Gv 83 [aR x,aR x1] [aI i]∧bB (i==0) (∃x,Gv 221 [aR r0,aR r5] [aR x]∧∃x2,Gv 221 [aR r2,aR r3] [aR x2]∧∃i,Gv 83 [aR x,aR x2] [aI i]∧bB (i==0) (∃x,Gv 221 [aR r1,aR r5] [aR x]∧∃x3,Gv 221 [aR r2,aR r4] [aR x3]∧∃i,Gv 83 [aR x,aR x3] [aI i]∧Q [aB (i==0)]) (Q [aB false])) (Q [aB false])):=by kernel_rfl
theorem KI (r0:R4) (r1:R4) (r2:R4) (r3:R4) (r4:R4) (r5:R4):wpF CC Gv an0 Tryz.f91 [.ag (rk r0 (rk r1 (rk r2 []))),.ag (rk r3 (rk r4 (rk r5 [])))] Q=(∃i,Gv 83 [aR r0,aR r3] [aI i]∧bB (i==0) (∃i,Gv 83 [aR r1,aR r4] [aI i]∧bB (i==0) (∃i,Gv 83 [aR r2,aR r5] [aI i]∧Q [aB (i==0)]) (Q [aB false])) (Q [aB false])):=by kernel_rfl
theorem PE (r0:R4) (r1:R4) (r2:R4) (p0:P20):wpF CC Gv an0 Tryz.f194 [.ag (rk r0 (rk r1 (rk r2 []))),.ag (pk p0 [])] Q=(∃x,Gv 221 [aR r0,aR (bv p0)] [aR x]∧∃x1,Gv 221 [aR r1,aR (bs p0)] [aR x1]∧∃x2,Gv 252 [aR x,aR x1] [aR x2]∧∃x,Gv 251 [aR x2,aR r2] [aR x]∧∃x3,Gv 221 [aR r0,aR (W2 p0)] [aR x3]∧∃x4,Gv 221 [aR r1,aR (W1 p0)] [aR x4]∧∃x5,Gv 252 [aR x3,aR x4] [aR x5]∧∃x6 x7 x8 i,Gv 253 [aR x,aR x5,aR (W0 p0)] [aT x6 x7 x8,aI i]∧Q [aT x6 x7 x8]):=by kernel_rfl
theorem BF (r0:R4) (r1:R4) (r2:R4) (p0:P20):wpF CC Gv an0 Tryz.f128 [.ag (rk r0 (rk r1 (rk r2 []))),.ag (pk p0 [])] Q=(∃x x1 x2,Gv 194 [aT r0 r1 r2,aP p0] [aT x x1 x2]∧∃i,Gv 193 [aT x x1 x2] [aI i]∧Q [aI i]):=by kernel_rfl
theorem PF (r0:R4) (r1:R4) (r2:R4) (p0:P20):wpF CC Gv an0 Tryz.f196 [.ag (rk r0 (rk r1 (rk r2 []))),.ag (pk p0 [])] Q=(∃x x1 x2,Gv 254 [aP p0,aV r0 r1] [aT x x1 x2]∧∃x3,Gv 192 [aR r2] [aR x3]∧∃x4 x5 x6,Gv 195 [aT x x1 x2,aR x3] [aT x4 x5 x6]∧Q [aT x4 x5 x6]):=by kernel_rfl
theorem L3 (r0:R4) (r1:R4) (r2:R4) (p0:P20):wpF CC Gv an0 Tryz.f130 [.ag (rk r0 (rk r1 (rk r2 []))),.ag (pk p0 [])] Q=(∃x x1 x2,Gv 196 [aT r0 r1 r2,aP p0] [aT x x1 x2]∧∃i,Gv 193 [aT x x1 x2] [aI i]∧Q [aI (bw .i64 (0-i))]):=by kernel_rfl
theorem FF (r0:R4) (r1:R4):wpF CC Gv an0 Tryz.f204 [.ag (rk r0 []),.ag (rk r1 [])] Q=(∃x,Gv 190 [aR r0,aR r1] [aR x]∧Q [aR x]):=by kernel_rfl
theorem FG (r0:R4) (r1:R4):wpF CC Gv an0 Tryz.f303 [.ag (rk r0 []),.ag (rk r1 [])] Q=(∃x,Gv 191 [aR r0,aR r1] [aR x]∧Q [aR x]):=by kernel_rfl
theorem FH (r0:R4) (r1:R4):wpF CC Gv an0 Tryz.f205 [.ag (rk r0 []),.ag (rk r1 [])] Q=(∃x,Gv 189 [aR r0,aR r1] [aR x]∧Q [aR x]):=by kernel_rfl
theorem FI (r0:R4):wpF CC Gv an0 Tryz.f141 [.ag (rk r0 [])] Q=(∃x,Gv 192 [aR r0] [aR x]∧Q [aR x]):=by kernel_rfl
theorem BG (r0:R4) (r1:R4):wpF CC Gv an0 Tryz.f301 [.ag (rk r0 []),.ag (rk r1 [])] Q=(∃x i,Gv 292 [aR r0,aR r1] [aR x,aI i]∧Q [aR x]):=by kernel_rfl
theorem PG (r0:R4) (r1:R4) (r2:R4) (r3:R4) (r4:R4) (r5:R4):wpF CC Gv an0 Tryz.f304 [.ag (rk r0 (rk r1 (rk r2 []))),.ag (rk r3 (rk r4 (rk r5 [])))] Q=(∃x,Gv 205 [aR r0,aR r4] [aR x]∧∃x1,Gv 205 [aR r3,aR r1] [aR x1]∧∃x2,Gv 303 [aR x,aR x1] [aR x2]∧Q [aR x2]):=by kernel_rfl
theorem PH (r0:R4) (r1:R4) (r2:R4) (r3:R4) (r4:R4) (r5:R4):wpF CC Gv an0 Tryz.f260 [.ag (rk r0 (rk r1 (rk r2 []))),.ag (rk r3 (rk r4 (rk r5 [])))] Q=(∃x,Gv 304 [aT r0 r1 r2,aT r3 r4 r5] [aR x]∧∃x1,Gv 205 [aR r2,aR r4] [aR x1]∧∃x2,Gv 205 [aR r5,aR r1] [aR x2]∧∃x3,Gv 303 [aR x1,aR x2] [aR x3]∧∃x4,Gv 205 [aR r0,aR r5] [aR x4]∧∃x5,Gv 205 [aR r3,aR r2] [aR x5]∧∃x6,Gv 303 [aR x4,aR x5] [aR x6]∧∃i,Gv 72 [aR x] [aI i]∧bB (i !=0) (∃x7,Gv 301 [aR x3,aR x] [aR x7]∧∃x8,Gv 301 [aR x6,aR x] [aR x8]∧∃x,Gv 39 [aV x7 x8] [aP x]∧Q [aL [(pk x [])],aI (0:Int)]) (∃i,Gv 72 [aR x3] [aI i]∧bB (i==0) (∃i,Gv 72 [aR x6] [aI i]∧bB (i==0) (Q [aL [],aI (10:Int)]) (Q [aL [],aI (0:Int)])) (Q [aL [],aI (0:Int)]))):=by kernel_rfl
theorem BH (r0:R4) (r1:R4) (r2:R4):wpF CC Gv an0 Tryz.f300 [.ag (rk r0 (rk r1 (rk r2 [])))] Q=(∃x,Gv 205 [aR r0,aR r0] [aR x]∧∃x1,Gv 205 [aR r1,aR r1] [aR x1]∧∃x2,Gv 204 [aR x,aR x1] [aR x2]∧Q [aR x2]):=by kernel_rfl
theorem PI (r0:R4) (r1:R4) (r2:R4) (r3:R4) (r4:R4):wpF CC Gv an0 Tryz.f302 [.ag (rk r0 (rk r1 (rk r2 []))),.ag (rk r3 []),.ag (rk r4 [])] Q=(∃x,Gv 205 [aR r0,aR r3] [aR x]∧∃x1,Gv 205 [aR r1,aR r4] [aR x1]∧∃x2,Gv 204 [aR x,aR x1] [aR x2]∧∃x,Gv 303 [aR x2,aR r2] [aR x]∧Q [aR x]):=by kernel_rfl
theorem BI (r0:R4) (r1:R4) (r2:R4) (r3:R4) (r4:R4) (r5:R4):wpF CC Gv an0 Tryz.f299 [.ag (rk r0 (rk r1 (rk r2 []))),.ag (rk r3 (rk r4 (rk r5 [])))] Q=(∃x,Gv 302 [aT r0 r1 r2,aR r3,aR r4] [aR x]∧∃x1,Gv 300 [aT r0 r1 r2] [aR x1]∧∃x2,Gv 205 [aR x1,aR r5] [aR x2]∧∃x3,Gv 205 [aR x,aR x] [aR x3]∧∃x,Gv 303 [aR x2,aR x3] [aR x]∧Q [aR x]):=by kernel_rfl
theorem Ud (r0:R4) (r1:R4) (r2:R4) (r3:R4) (r4:R4):wpF CC Gv an0 Tryz.f140 [.ag (rk r0 []),.ag (rk r1 []),.ag (rk r2 []),.ag (rk r3 []),.ag (rk r4 [])] Q=(∃x b,Gv 198 [aR r4] [aR x,aB b]∧br b (∃x1,Gv 205 [aR r1,aR x] [aR x1]∧∃x2,Gv 204 [aR r0,aR x1] [aR x2]∧∃x3,Gv 205 [aR r3,aR x] [aR x3]∧∃x,Gv 204 [aR r2,aR x3] [aR x]∧∃x4,Gv 39 [aV x2 x] [aP x4]∧Q [aP x4]) (Q [Dd (rk r0 (rk r1 (rk r2 (rk r3 (rk r4 [])))))])):=by kernel_rfl
theorem KJ (r0:R4) (r1:R4) (r2:R4) (r3:R4) (r4:R4) (r5:R4):wpF CC Gv an0 Tryz.f259 [.ag (rk r0 (rk r1 (rk r2 []))),.ag (rk r3 (rk r4 (rk r5 [])))] Q=(∃x,Gv 299 [aT r0 r1 r2,aT r3 r4 r5] [aR x]∧∃x1,Gv 300 [aT r0 r1 r2] [aR x1]∧∃i,Gv 72 [aR x] [aI i]∧bB (decide (i<0)) (Q [aL []]) (∃x2,Gv 302 [aT r0 r1 r2,aR r3,aR r4] [aR x2]∧∃x3,Gv 301 [aR x2,aR x1] [aR x3]∧∃x4,Gv 205 [aR x3,aR r0] [aR x4]∧∃x5,Gv 303 [aR r3,aR x4] [aR x5]∧∃x6,Gv 205 [aR x3,aR r1] [aR x6]∧∃x7,Gv 303 [aR r4,aR x6] [aR x7]∧∃i,Gv 72 [aR x] [aI i]∧bB (i==0) (∃x,Gv 39 [aV x5 x7] [aP x]∧Q [aL [(pk x [])]]) (∃x8,Gv 301 [aR r1,aR x1] [aR x8]∧∃x9,Gv 141 [aR r0] [aR x9]∧∃x10,Gv 301 [aR x9,aR x1] [aR x10]∧∃x11,Gv 141 [aR x8] [aR x11]∧∃x12,Gv 141 [aR x10] [aR x12]∧∃x13,Gv 140 [aR x5,aR x11,aR x7,aR x12,aR x] [aP x13]∧∃x14,Gv 140 [aR x5,aR x8,aR x7,aR x10,aR x] [aP x14]∧∃i,Gv 164 [aP x13,aP x14] [aI i]∧bB (decide (i>0)) (Q [aL [(pk x14 []),(pk x13 [])]]) (Q [aL [(pk x13 []),(pk x14 [])]])))):=by kernel_rfl
theorem BJ (r0:R4) (r1:R4) (r2:R4) (r3:R4) (r4:R4) (r5:R4):wpF CC Gv an0 Tryz.f297 [.ag (rk r0 (rk r1 (rk r2 []))),.ag (rk r3 (rk r4 (rk r5 [])))] Q=(∃i,Gv 83 [aR r0,aR r3] [aI i]∧bB (i==0) (∃i,Gv 83 [aR r1,aR r4] [aI i]∧Q [aB (i==0)]) (Q [aB false])):=by kernel_rfl
theorem Ue (r0:R4) (r1:R4) (r2:R4) (r3:R4) (r4:R4) (r5:R4):wpF CC Gv an0 Tryz.f298 [.ag (rk r0 (rk r1 (rk r2 []))),.ag (rk r3 (rk r4 (rk r5 [])))] Q=(∃b,Gv 297 [aT r0 r1 r2,aT r3 r4 r5] [aB b]∧br b (Q [Dd [Lm false,Ls [],Lm false,Ls [],Lm false,Ls [],Lm false,Ls [],Lm false,Ls [],Lm false,Ls []],aI (6:Int)]) (∃x,Gv 21 [aI (2:Int)] [aR x]∧∃x1,Gv 205 [aR r0,aR r0] [aR x1]∧∃x2,Gv 205 [aR r1,aR r1] [aR x2]∧∃x3,Gv 204 [aR x1,aR x2] [aR x3]∧∃x4,Gv 303 [aR x3,aR r2] [aR x4]∧∃x5,Gv 205 [aR r3,aR r3] [aR x5]∧∃x6,Gv 205 [aR r4,aR r4] [aR x6]∧∃x7,Gv 204 [aR x5,aR x6] [aR x7]∧∃x8,Gv 303 [aR x7,aR r5] [aR x8]∧∃x9,Gv 303 [aR r3,aR r0] [aR x9]∧∃x10,Gv 205 [aR x,aR x9] [aR x10]∧∃x11,Gv 303 [aR r4,aR r1] [aR x11]∧∃x12,Gv 205 [aR x,aR x11] [aR x12]∧∃x,Gv 303 [aR x8,aR x4] [aR x]∧Q [aT x10 x12 x,aI (0:Int)])):=by kernel_rfl
theorem Uf (r0:R4) (r1:R4) (r2:R4) (r3:R4) (r4:R4) (r5:R4):wpF CC Gv an0 Tryz.f258 [.ag (rk r0 (rk r1 (rk r2 []))),.ag (rk r3 (rk r4 (rk r5 [])))] Q=(∃b,Gv 297 [aT r0 r1 r2,aT r3 r4 r5] [aB b]∧br b (∃i,Gv 83 [aR r2,aR r5] [aI i]∧bB (i==0) (Q [aL [],aI (10:Int)]) (Q [aL [],aI (0:Int)])) (∃x x1 x2 i,Gv 298 [aT r0 r1 r2,aT r3 r4 r5] [aT x x1 x2,aI i]∧∃es,Gv 259 [aT x x1 x2,aT r0 r1 r2] [aL es]∧Q [aL es,aI (0:Int)])):=by kernel_rfl
theorem ki (c0:C66) (c1:C66):wpF CC Gv an0 Tryz.f202 [.ag (ck c0 []),.ag (ck c1 [])] Q=(bB (Hu c0) (bB (Hu c1) (∃es i,Gv 258 [aT (J8 c0) (J4 c0) (Hx c0),aT (J8 c1) (J4 c1) (Hx c1)] [aL es,aI i]∧Q [aL es,aI i]) (bB (Hu c0) (∃es,Gv 259 [aT (J3 c1) (Hy c1) (J7 c1),aT (J8 c0) (J4 c0) (Hx c0)] [aL es]∧Q [aL es,aI (0:Int)]) (bB (Hu c1) (∃es,Gv 259 [aT (J3 c0) (Hy c0) (J7 c0),aT (J8 c1) (J4 c1) (Hx c1)] [aL es]∧Q [aL es,aI (0:Int)]) (∃es i,Gv 260 [aT (J3 c0) (Hy c0) (J7 c0),aT (J3 c1) (Hy c1) (J7 c1)] [aL es,aI i]∧Q [aL es,aI i])))) (bB (Hu c0) (∃es,Gv 259 [aT (J3 c1) (Hy c1) (J7 c1),aT (J8 c0) (J4 c0) (Hx c0)] [aL es]∧Q [aL es,aI (0:Int)]) (bB (Hu c1) (∃es,Gv 259 [aT (J3 c0) (Hy c0) (J7 c0),aT (J8 c1) (J4 c1) (Hx c1)] [aL es]∧Q [aL es,aI (0:Int)]) (∃es i,Gv 260 [aT (J3 c0) (Hy c0) (J7 c0),aT (J3 c1) (Hy c1) (J7 c1)] [aL es,aI i]∧Q [aL es,aI i])))):=by kernel_rfl
theorem YO (r0:R4) (r1:R4) (r2:R4):wpF CC Gv an0 Tryz.f79 [.ag (rk r0 (rk r1 (rk r2 [])))] Q=(∃x,Gv 21 [aI (1:Int)] [aR x]∧∃x1,Gv 21 [aI (0:Int)] [aR x1]∧∃x2,Gv 141 [aR x] [aR x2]∧∃x3,Gv 140 [aR r0,aR x2,aR r1,aR x1,aR r2] [aP x3]∧∃x4,Gv 140 [aR r0,aR x,aR r1,aR x1,aR r2] [aP x4]∧Q [aP x3,aP x4]):=by kernel_rfl
theorem X4 (r0:R4) (r1:R4) (r2:R4) (r3:R4):wpF CC Gv an0 Tryz.f146 [.ag (rk r0 (rk r1 [])),.ag (rk r2 (rk r3 []))] Q=(∃x x1 x2 i,Gv 207 [aV r0 r1,aV r2 r3] [aT x x1 x2,aI i]∧bB (i !=0) (Q [Dd [Lm false,Lm false,Ls [],Lm false,Ls [],Lm false,Ls [],Lm false,Ls [],Lm false,Ls [],Lm false,Ls [],Lm false,Ls [],Lm false,Ls [],Lm false,Ls [],Lm false,Ls [],Lm false,Ls [],Lm false,Ls [],Lm false,Lm false,Ls [],Lm false,Ls [],Lm false,Ls [],Lm false,Ls [],Lm false,Ls [],Lm false,Ls [],Lm false,Ls [],Lm false,Ls [],Lm false,Ls [],Lm false,Ls [],Lm false,Ls [],Lm false,Ls [],Lm false,Ls [],Lm false,Ls [],Lm false,Ls [],Lm false,Ls [],Lm false,Ls [],Lm false,Ls [],Lm false,Ls [],Lm false,Ls []],aI (6:Int)]) (∃x3,Gv 39 [aV r0 r1] [aP x3]∧∃x4,Gv 39 [aV r2 r3] [aP x4]∧Q [Dd (Lm false::(rk x (rk x1 (rk x2 (Lm false::(Ls []::(Lm false::(Ls []::(Lm false::(Ls []::(Lm false::(Ls []::(Lm false::(Ls []::(Lm false::(Ls []::(Lm false::(pk x3 (pk x4 []))))))))))))))))))),aI (0:Int)])):=by kernel_rfl
theorem PJ (r0:R4) (r1:R4) (r2:R4):wpF CC Gv an0 Tryz.f42 [.ag (rk r0 (rk r1 (rk r2 [])))] Q=(∃x x1,Gv 79 [aT r0 r1 r2] [aP x,aP x1]∧Q [aL [(Lm true::(Lm false::(Ls []::(Lm false::(Ls []::(Lm false::(Ls []::(Lm false::(Ls []::(Lm false::(Ls []::(Lm false::(Ls []::(rk r0 (rk r1 (rk r2 (Lm false::(pk x (pk x1 []))))))))))))))))))),(Lm true::(Lm false::(Ls []::(Lm false::(Ls []::(Lm false::(Ls []::(Lm false::(Ls []::(Lm false::(Ls []::(Lm false::(Ls []::(rk r0 (rk r1 (rk r2 (Lm false::(pk x1 (pk x [])))))))))))))))))))]]):=by kernel_rfl
theorem YP (c0:C66) (p0:P20):wpF CC Gv an0 Tryz.f135 [.ag (ck c0 []),.ag (pk p0 [])] Q=(bB (Hu c0) (∃i,Gv 130 [aT (J8 c0) (J4 c0) (Hx c0),aP p0] [aI i]∧Q [aB (i==0)]) (∃i,Gv 128 [aT (J3 c0) (Hy c0) (J7 c0),aP p0] [aI i]∧Q [aB (i==0)])):=by kernel_rfl
theorem L4 (c0:C66):wpF CC Gv an0 Tryz.f73 [.ag (ck c0 [])] Q=(∃b,Gv 133 [aP (F2 c0)] [aB b]∧bB (!b) (Q [aB false]) (∃b,Gv 133 [aP (Hv c0)] [aB b]∧bB (!b) (Q [aB false]) (bB (Hu c0) (∃b,Gv 40 [aT (J8 c0) (J4 c0) (Hx c0)] [aB b]∧bB (!b) (Q [aB false]) (bB (!Hu c0) (bB (J9 c0) (Q [aB false]) (∃b,Gv 134 [aT (J3 c0) (Hy c0) (J7 c0)] [aB b]∧bB (!b) (Q [aB false]) (∃b,Gv 135 [aC c0,aP (F2 c0)] [aB b]∧br b (∃b,Gv 135 [aC c0,aP (Hv c0)] [aB b]∧br b (∃b,Gv 106 [aP (F2 c0),aP (Hv c0)] [aB b]∧Q [aB (!b)]) (Q [aB false])) (Q [aB false])))) (∃b,Gv 135 [aC c0,aP (F2 c0)] [aB b]∧br b (∃b,Gv 135 [aC c0,aP (Hv c0)] [aB b]∧br b (∃b,Gv 106 [aP (F2 c0),aP (Hv c0)] [aB b]∧Q [aB (!b)]) (Q [aB false])) (Q [aB false])))) (bB (!Hu c0) (bB (J9 c0) (Q [aB false]) (∃b,Gv 134 [aT (J3 c0) (Hy c0) (J7 c0)] [aB b]∧bB (!b) (Q [aB false]) (∃b,Gv 135 [aC c0,aP (F2 c0)] [aB b]∧br b (∃b,Gv 135 [aC c0,aP (Hv c0)] [aB b]∧br b (∃b,Gv 106 [aP (F2 c0),aP (Hv c0)] [aB b]∧Q [aB (!b)]) (Q [aB false])) (Q [aB false])))) (∃b,Gv 135 [aC c0,aP (F2 c0)] [aB b]∧br b (∃b,Gv 135 [aC c0,aP (Hv c0)] [aB b]∧br b (∃b,Gv 106 [aP (F2 c0),aP (Hv c0)] [aB b]∧Q [aB (!b)]) (Q [aB false])) (Q [aB false])))))):=by kernel_rfl
theorem L5 (r0:R4) (r1:R4) (r2:R4) (p0:P20):wpF CC Gv an0 Tryz.f332 [.ag (rk r0 (rk r1 (rk r2 []))),.ag (pk p0 [])] Q=(∃x x1 x2,Gv 127 [aP p0] [aT x x1 x2]∧∃i,Gv 357 [aT x x1 x2,aR r1] [aI i]∧bB (decide (i>0)) (Q [aB true]) (bB (i==0) (∃x x3 x4,Gv 66 [aP p0] [aT x x3 x4]∧∃i,Gv 357 [aT x x3 x4,aR r0] [aI i]∧Q [aB (decide (i>0))]) (Q [aB false]))):=by kernel_rfl
theorem L6 (r0:R4) (r1:R4) (r2:R4) (p0:P20) (p1:P20):wpF CC Gv an0 Tryz.f284 [.ag (rk r0 (rk r1 (rk r2 []))),.ag (pk p0 []),.ag (pk p1 [])] Q=(∃b,Gv 332 [aT r0 r1 r2,aP p0] [aB b]∧∃b1,Gv 332 [aT r0 r1 r2,aP p1] [aB b1]∧bB (!b==b1) (br b1 (Q [aI (-1:Int)]) (Q [aI (1:Int)])) (∃x x1 x2,Gv 66 [aP p0] [aT x x1 x2]∧∃x3 x4 x5,Gv 66 [aP p1] [aT x3 x4 x5]∧∃i,Gv 68 [aT x x1 x2,aT x3 x4 x5] [aI i]∧br b (Q [aI (bw .i64 (0-i))]) (Q [aI i]))):=by kernel_rfl
theorem L7 (r0:R4) (r1:R4) (r2:R4) (p0:P20) (p1:P20) (p2:P20):wpF CC Gv an0 Tryz.f246 [.ag (rk r0 (rk r1 (rk r2 []))),.ag (pk p0 []),.ag (pk p1 []),.ag (pk p2 [])] Q=(∃i,Gv 284 [aT r0 r1 r2,aP p1,aP p0] [aI i]∧∃i_1,Gv 284 [aT r0 r1 r2,aP p2,aP p0] [aI i_1]∧bB (!decide (i<0)==decide (i_1<0)) (bB (decide (i_1<0)) (Q [aI (-1:Int)]) (Q [aI (1:Int)])) (∃i,Gv 284 [aT r0 r1 r2,aP p1,aP p2] [aI i]∧Q [aI i])):=by kernel_rfl
theorem L8 (c0:C66) (p0:P20) (p1:P20):wpF CC Gv an0 Tryz.f186 [.ag (ck c0 []),.ag (pk p0 []),.ag (pk p1 [])] Q=(bB (!Hu c0) (∃i,Gv 164 [aP p0,aP p1] [aI i]∧∃i_1,Gv 164 [aP (F2 c0),aP (Hv c0)] [aI i_1]∧bB (decide (i_1>0)) (Q [aI (bw .i64 (0-i))]) (Q [aI i])) (bB (!J9 c0) (∃i,Gv 246 [aT (J8 c0) (J4 c0) (Hx c0),aP (F2 c0),aP p0,aP p1] [aI i]∧Q [aI i]) (∃x,Gv 247 [aC c0] [aC x]∧∃x1,Gv 248 [aP p0] [aP x1]∧∃x2,Gv 248 [aP p1] [aP x2]∧∃i,Gv 246 [aT (J8 x) (J4 x) (Hx x),aP (F2 x),aP x1,aP x2] [aI i]∧Q [aI i]))):=by kernel_rfl
theorem PK (p0:P20):wpF CC Gv an0 Tryz.f248 [.ag (pk p0 [])] Q=(∃x,Gv 192 [aR (bv p0)] [aR x]∧∃x1,Gv 192 [aR (W2 p0)] [aR x1]∧Q [Dd (rk x (rk x1 (rk (bs p0) (rk (W1 p0) (rk (W0 p0) [])))))]):=by kernel_rfl
theorem Ug (c0:C66):wpF CC Gv an0 Tryz.f247 [.ag (ck c0 [])] Q=(∃x,Gv 192 [aR (J8 c0)] [aR x]∧∃x1,Gv 248 [aP (F2 c0)] [aP x1]∧∃x2,Gv 248 [aP (Hv c0)] [aP x2]∧Q [Dd (Lm (Hu c0)::(rk (J3 c0) (rk (Hy c0) (rk (J7 c0) (rk x (rk (J4 c0) (rk (Hx c0) (Lm (!J9 c0)::(pk x1 (pk x2 []))))))))))]):=by kernel_rfl
theorem FJ (c0:C66) (p0:P20):wpF CC Gv an0 Tryz.f121 [.ag (ck c0 []),.ag (pk p0 [])] Q=(∃b,Gv 135 [aC c0,aP p0] [aB b]∧br b (∃i,Gv 186 [aC c0,aP (F2 c0),aP p0] [aI i]∧bB (decide (i≤0)) (∃i,Gv 186 [aC c0,aP p0,aP (Hv c0)] [aI i]∧Q [aB (decide (i≤0))]) (Q [aB false])) (Q [aB false])):=by kernel_rfl
theorem YQ (c0:C66):wpF CC Gv an0 Tryz.f201 [.ag (ck c0 [])] Q=(bB (Hu c0) (Q [Dd (Lm (Hu c0)::(rk (J3 c0) (rk (Hy c0) (rk (J7 c0) (rk (J8 c0) (rk (J4 c0) (rk (Hx c0) (Lm (!J9 c0)::(pk (Hv c0) (pk (F2 c0) []))))))))))]) (Q [Dd (Lm (Hu c0)::(rk (J3 c0) (rk (Hy c0) (rk (J7 c0) (rk (J8 c0) (rk (J4 c0) (rk (Hx c0) (Lm false::(pk (Hv c0) (pk (F2 c0) []))))))))))])):=by kernel_rfl
theorem PL (c0:C66) (c1:C66):wpF CC Gv an0 Tryz.f105 [.ag (ck c0 []),.ag (ck c1 [])] Q=(bB (!Hu c0==Hu c1) (Q [aB false]) (bB (Hu c0) (∃b,Gv 91 [aT (J8 c0) (J4 c0) (Hx c0),aT (J8 c1) (J4 c1) (Hx c1)] [aB b]∧Q [aB b]) (∃b,Gv 163 [aT (J3 c0) (Hy c0) (J7 c0),aT (J3 c1) (Hy c1) (J7 c1)] [aB b]∧Q [aB b]))):=by kernel_rfl
theorem L9 (c0:C66) (c1:C66):wpF CC Gv an0 Tryz.f58 [.ag (ck c0 []),.ag (ck c1 [])] Q=(∃b,Gv 105 [aC c0,aC c1] [aB b]∧br b (bB (J9 c0==J9 c1) (∃b,Gv 106 [aP (F2 c0),aP (F2 c1)] [aB b]∧br b (∃b,Gv 106 [aP (Hv c0),aP (Hv c1)] [aB b]∧Q [aB b]) (Q [aB false])) (Q [aB false])) (Q [aB false])):=by kernel_rfl
theorem LA (c0:C66) (p0:P20):wpF CC Gv an0 Tryz.f200 [.ag (ck c0 []),.ag (pk p0 [])] Q=(∃b,Gv 121 [aC c0,aP p0] [aB b]∧br b (∃b,Gv 106 [aP (F2 c0),aP p0] [aB b]∧bB (!b) (∃b,Gv 106 [aP (Hv c0),aP p0] [aB b]∧Q [aB (!b)]) (Q [aB false])) (Q [aB false])):=by kernel_rfl
theorem PM (c0:C66):wpF CC Gv an0 Tryz.f67 [.ag (ck c0 [])] Q=(bB (!Hu c0) (∃x x1 x2,Gv 66 [aP (F2 c0)] [aT x x1 x2]∧∃x3 x4 x5,Gv 66 [aP (Hv c0)] [aT x3 x4 x5]∧∃b,Gv 123 [aT x x1 x2,aT x3 x4 x5] [aB b]∧Q [aB b]) (Q [aB false])):=by kernel_rfl
theorem Uh (c0:C66) (r0:R4) (r1:R4) (r2:R4):wpF CC Gv an0 Tryz.f126 [.ag (ck c0 []),.ag (rk r0 (rk r1 (rk r2 [])))] Q=(∃x x1 x2,Gv 66 [aP (F2 c0)] [aT x x1 x2]∧∃i,Gv 68 [aT x x1 x2,aT r0 r1 r2] [aI i]∧bB (decide (i≤0)) (∃x x3 x4,Gv 66 [aP (Hv c0)] [aT x x3 x4]∧∃i,Gv 68 [aT r0 r1 r2,aT x x3 x4] [aI i]∧Q [aB (decide (i≤0))]) (Q [aB false])):=by kernel_rfl
theorem LB (c0:C66) (p0:P20):wpF CC Gv an0 Tryz.f69 [.ag (ck c0 []),.ag (pk p0 [])] Q=(∃x x1 x2,Gv 66 [aP p0] [aT x x1 x2]∧∃b,Gv 126 [aC c0,aT x x1 x2] [aB b]∧bB (!b) (Q [aI (0:Int),aI (1:Int)]) (∃b,Gv 67 [aC c0] [aB b]∧br b (∃x x3 x4,Gv 127 [aP p0] [aT x x3 x4]∧∃x5 x6 x7,Gv 127 [aP (Hv c0)] [aT x5 x6 x7]∧∃i,Gv 68 [aT x x3 x4,aT x5 x6 x7] [aI i]∧bB (decide (i>0)) (Q [aI (1:Int),aI (0:Int)]) (∃x x8 x9,Gv 127 [aP p0] [aT x x8 x9]∧∃x10 x11 x12,Gv 127 [aP (F2 c0)] [aT x10 x11 x12]∧∃i,Gv 68 [aT x x8 x9,aT x10 x11 x12] [aI i]∧bB (decide (i<0)) (Q [aI (-1:Int),aI (0:Int)]) (Q [aI (0:Int),aI (0:Int)]))) (bB (!Hu c0) (∃i,Gv 128 [aT (J3 c0) (Hy c0) (J7 c0),aP p0] [aI i]∧∃i_1,Gv 72 [aR (Hy c0)] [aI i_1]∧Q [aI (bw .i64 (i*i_1)),aI (0:Int)]) (∃x x3 x4,Gv 127 [aP p0] [aT x x3 x4]∧∃i,Gv 129 [aT x x3 x4,aR (J4 c0)] [aI i]∧∃i_1,Gv 130 [aT (J8 c0) (J4 c0) (Hx c0),aP p0] [aI i_1]∧bB (J9 c0) (bB (decide (i<0)) (Q [aI (-1:Int),aI (0:Int)]) (Q [aI (bw .i64 (0-i_1)),aI (0:Int)])) (bB (decide (i>0)) (Q [aI (1:Int),aI (0:Int)]) (Q [aI i_1,aI (0:Int)])))))):=by kernel_rfl
theorem LC (c0:C66) (p0:P20):wpF CC Gv an0 Tryz.f256 [.ag (ck c0 []),.ag (pk p0 [])] Q=(∃b,Gv 67 [aC c0] [aB b]∧br b (Q [Dd [dI (2:Int),Lm false,Ls [],Lm false,Ls [],Lm false,Ls [],Lm false,Ls [],Lm false,Ls [],Lm false,Ls []]]) (bB (!Hu c0) (∃x,Gv 192 [aR (J3 c0)] [aR x]∧∃x1 i,Gv 292 [aR x,aR (Hy c0)] [aR x1,aI i]∧∃x x2 x3,Gv 187 [aR x1] [aT x x2 x3]∧Q [Dd (dI (0:Int)::(rk x (rk x2 (rk x3 []))))]) (∃x x1 x2,Gv 66 [aP p0] [aT x x1 x2]∧∃x3,Gv 192 [aR (J8 c0)] [aR x3]∧∃x4 x5 x6,Gv 195 [aT x x1 x2,aR x3] [aT x4 x5 x6]∧∃x x7 x8,Gv 127 [aP p0] [aT x x7 x8]∧∃x9,Gv 192 [aR (J4 c0)] [aR x9]∧∃x10 x11 x12,Gv 195 [aT x x7 x8,aR x9] [aT x10 x11 x12]∧∃i,Gv 193 [aT x10 x11 x12] [aI i]∧bB (i==0) (bB (J9 c0) (Q [Dd [dI (1:Int),Lm false,Ls [],Lm false,Ls [],Lm false,Ls [],Lm false,Ls [],Lm false,Ls [],Lm false,Ls []]]) (Q [Dd [dI (-1:Int),Lm false,Ls [],Lm false,Ls [],Lm false,Ls [],Lm false,Ls [],Lm false,Ls [],Lm false,Ls []]])) (∃x x13 x14 i,Gv 293 [aT x10 x11 x12] [aT x x13 x14,aI i]∧∃x15 x16 x17,Gv 295 [aT x4 x5 x6] [aT x15 x16 x17]∧∃x18 x19 x20 i,Gv 294 [aT x15 x16 x17,aT x x13 x14] [aT x18 x19 x20,aI i]∧Q [Dd (dI (0:Int)::(rk x18 (rk x19 (rk x20 []))))])))):=by kernel_rfl
theorem PN (c0:C66) (c1:C66):wpF CC Gv an0 Tryz.f257 [.ag (ck c0 []),.ag (ck c1 [])] Q=(∃i,Gv 296 [aC c0] [aI i]∧∃i_1,Gv 296 [aC c1] [aI i_1]∧bB (i !=i_1) (bB (decide (i<i_1)) (Q [aI (-1:Int)]) (Q [aI (1:Int)])) (bB (i==0) (Q [aI (0:Int)]) (∃i_2,Gv 83 [aR (Hx c0),aR (Hx c1)] [aI i_2]∧Q [aI (bw .i64 (bw .i64 (0-i)*i_2))]))):=by kernel_rfl
theorem PO (c0:C66):wpF CC Gv an0 Tryz.f296 [.ag (ck c0 [])] Q=(bB (!Hu c0) (Q [aI (0:Int)]) (bB (J9 c0) (Q [aI (-1:Int)]) (Q [aI (1:Int)]))):=by kernel_rfl
theorem LF (c0:C66) (c1:C66):wpF CC Gv an0 Tryz.f199 [.ag (ck c0 []),.ag (ck c1 [])] Q=(∃b,Gv 106 [aP (F2 c0),aP (F2 c1)] [aB b]∧bB (!b) (Q [aI (0:Int),aI (1:Int)]) (∃i x x1 x2,Gv 256 [aC c0,aP (F2 c0)] [Dd (dI i::(rk x (rk x1 (rk x2 []))))]∧∃i_1 x3 x4 x5,Gv 256 [aC c1,aP (F2 c1)] [Dd (dI i_1::(rk x3 (rk x4 (rk x5 []))))]∧bB (i !=i_1) (bB (decide (i<i_1)) (Q [aI (-1:Int),aI (0:Int)]) (Q [aI (1:Int),aI (0:Int)])) (bB (i==2) (Q [aI (0:Int),aI (0:Int)]) (bB (i !=0) (∃i_2,Gv 83 [aR (Hx c0),aR (Hx c1)] [aI i_2]∧Q [aI (bw .i64 (i*i_2)),aI (0:Int)]) (∃i,Gv 68 [aT x x1 x2,aT x3 x4 x5] [aI i]∧bB (i !=0) (Q [aI i,aI (0:Int)]) (∃i,Gv 257 [aC c0,aC c1] [aI i]∧Q [aI i,aI (0:Int)])))))):=by kernel_rfl
theorem YR (c0:C66) (c1:C66):wpF CC Gv an0 Tryz.f136 [.ag (ck c0 []),.ag (ck c1 [])] Q=(∃i,Gv 164 [aP (F2 c0),aP (F2 c1)] [aI i]∧bB (i !=0) (Q [aI i]) (∃i i_1,Gv 199 [aC c0,aC c1] [aI i,aI i_1]∧bB (i !=0) (Q [aI i]) (∃i,Gv 164 [aP (Hv c0),aP (Hv c1)] [aI i]∧Q [aI i]))):=by kernel_rfl
end
end Eng
end
section
open Go Go.Proofs Eng
namespace Eng
section
variable (Gv:Nat→List A→List A→Prop) (I0:List D→List D→Prop) (M0:List D→Nat) (I1:List D→List D→Prop) (M1:List D→Nat) (I2:List D→List D→Prop) (M2:List D→Nat) (I3:List D→List D→Prop) (M3:List D→Nat) (Q:List A→Prop)
theorem FK (z0:Bool) (l0:List (List D)) (z1:Bool) (l1:List (List D)):wpF CC Gv an0 Tryz.f132 [.ag [.bool z0,.sl l0],.ag [.bool z1,.sl l1]] Q=(bB (z0==z1) (∃i,Gv 197 [aL l0,aL l1] [aI i]∧Q [aB (i==0)]) (Q [aB false])):=by kernel_rfl
theorem FL (z0:Bool) (l0:List (List D)):wpF CC Gv an0 Tryz.f255 [.ag [.bool z0,.sl l0]] Q=(∃b es i,Gv 291 [aZ z0 l0] [aZ b es,aI i]∧bB (i==0) (∃b1 e1,Gv 145 [aZ b es,aZ b es] [aZ b1 e1]∧∃b2,Gv 132 [aZ b1 e1,aZ z0 l0] [aB b2]∧Q [aZ b es,aB b2]) (Q [aZ b es,aB false])):=by kernel_rfl
theorem NI (r0:R4):wpF CC Gv an0 Tryz.f198 [.ag (rk r0 [])] Q=(∃b es b1,Gv 255 [aZ (R4.b r0) (R4.l r0)] [aZ b es,aB b1]∧∃b2 e1 b3,Gv 255 [aZ (R4.c r0) (R4.m r0)] [aZ b2 e1,aB b3]∧bB (!b1) (Q [Dd [Lm false,Ls [],Lm false,Ls []],aB false]) (bB (!b3) (Q [Dd [Lm false,Ls [],Lm false,Ls []],aB false]) (Q [Dd [Lm b,Ls es,Lm b2,Ls e1],aB true]))):=by kernel_rfl
theorem BK (z0:Bool) (l0:List (List D)):wpF CC Gv (fun _=>⟨[.box 4 [(.bool false),(.slice none 0 0)]],[],I0,M0⟩) Tryz.f291 [.ag [.bool z0,.sl l0]] Q=(br z0 (Q [aZ false [],aI (7:Int)]) (bB ((cr l0.length)==0) (Q [aZ false [],aI (0:Int)]) ((2:Int)≠(0:Int)∧(0≤bw .i64 (cg (bw .i64 ((cr l0.length)+1)) (2:Int))∧bw .i64 (cg (bw .i64 ((cr l0.length)+1)) (2:Int))≤bw .i64 (cg (bw .i64 ((cr l0.length)+1)) (2:Int))∧room (cL (bw .i64 (cg (bw .i64 ((cr l0.length)+1)) (2:Int)))))∧(room (List.length (el (cL (bw .i64 (cg (bw .i64 ((cr l0.length)+1)) (2:Int)))) [Lv .u32 0])+1)∧lens 1 [[Lv .u32 1]])∧∃b es,Gv 43 [aI (2:Int)] [aZ b es]∧I0 [] [Lm false,Ls (el (cL (bw .i64 (cg (bw .i64 ((cr l0.length)+1)) (2:Int)))) [Lv .u32 0]++[[Lv .u32 1]])]∧∀(b1:Bool) (e1:List (List D)),I0 [] [Lm b1,Ls e1]→∃b2 e2 b3 e3 i,Gv 110 [aZ z0 l0,aZ b1 e1] [aZ b2 e2,aZ b3 e3,aI i]∧∃b4 e4,Gv 168 [aZ b1 e1,aZ b2 e2] [aZ b4 e4]∧∃b5 e5 b6 e6 i,Gv 110 [aZ b4 e4,aZ b es] [aZ b5 e5,aZ b6 e6,aI i]∧∃i,Gv 144 [aZ b5 e5,aZ b1 e1] [aI i]∧bB (decide (i≥0)) (Q [aZ b1 e1,aI (0:Int)]) (I0 [] [Lm b5,Ls e5]∧M0 [Lm b5,Ls e5]<M0 [Lm b1,Ls e1])))):=by kernel_rfl
theorem Ui (r0:R4):wpF CC Gv an0 Tryz.f71 [.ag (rk r0 [])] Q=(∃b,Gv 131 [aZ (R4.b r0) (R4.l r0)] [aB b]∧bB (!b) (Q [aB false]) (∃b,Gv 131 [aZ (R4.c r0) (R4.m r0)] [aB b]∧bB (!b) (Q [aB false]) (∃i,Gv 107 [aZ (R4.c r0) (R4.m r0)] [aI i]∧bB (i !=1) (Q [aB false]) (∃b es,Gv 109 [aZ (R4.b r0) (R4.l r0),aZ (R4.c r0) (R4.m r0)] [aZ b es]∧∃b1 e1,Gv 44 [] [aZ b1 e1]∧∃b2,Gv 132 [aZ b es,aZ b1 e1] [aB b2]∧Q [aB b2])))):=by kernel_rfl
end
end Eng
end
section
namespace Eng
open Go Go.Proofs
set_option maxRecDepth 100000
theorem cP (a b:List Nat):raw (a++b)=raw a++raw b:=by unfold raw;rw[List.map_append]
theorem cQ (k:Nat):raw (el k 0)=el k [Lv .u32 0]:=by unfold raw;rw[List.map_replicate];rfl
theorem NJ (k:Nat):el k [Lv cb (0:Int)]++[[Lv cb (1:Int)]]=raw (el k 0++[1]):=by
 rw[cP,cQ];rfl
theorem Vz (k:Nat):Limbs (el k 0++[1]):=by
 intro x hx;rw[List.mem_append]at hx;rcases hx with h|h
 ·rw[(List.mem_replicate.1 h).2];omega
 ·rw[List.mem_singleton.1 h];omega
theorem NK (k:Nat):val (el k 0++[1])=1000000000^k:=by
 rw[qU,v8,en];show 0+1000000000^k*1=_;omega
theorem jn {n:Nat} (h:n<1000000000^200):Sm (n:Int):=by
 unfold Sm Vq;rw[cH];exact hG h (SN (by omega) (by omega))
theorem X5 (n:Nat):cI (n:Int)=[.bool false,.sl (raw (lim n))]:=by
 unfold cI;rw[cH,decide_eq_false (by omega)]
theorem qL (n:Nat):qS (n:Int)= .ag [.bool false,.sl (raw (lim n))]:=by unfold qS;rw[X5]
def unr (l:List (List D)):Nat:=val (l.map fun r=>(toI (nth .undef r 0)).toNat)
theorem cS (l:List Nat):unr (raw l)=val l:=by
 unfold unr raw;rw[List.map_map];congr 1;have:((fun r:List D=>(toI (nth .undef r 0)).toNat)∘fun(x:Nat)=>[Lv .u32 (x:Int)])=id:=by funext x;rfl
 rw[this,List.map_id]
def msZ:List D→Nat
 |[_,.sl l]=>unr l
 |_=>0
theorem YS (x:Nat):msZ (cI (x:Int))=x:=by
 rw[X5];show unr (raw (lim x))=x;rw[cS,qj]
theorem lE {b:Bool} {es:List (List D)} {x:Nat} (h:[Lm b,Ls es]=cI (x:Int)):b=false∧es=raw (lim x):=by
 rw[X5]at h;simp only[ft,D.bool.injEq,P1,and_true]at h;exact h
theorem YT (l:List Nat):(raw l).length=l.length:=by unfold raw;rw[List.length_map]
theorem lF (n:Nat):1000000000^n=10^(9*n):=by
 rw[show(1000000000:Nat)=10^9 from rfl,←Nat.pow_mul]
theorem FM (k:Nat):lim (1000000000^k)=el k 0++[1]:=by
 rw[←NK];exact yR (Vz k) (.inr (by rw[List.getLast?_append];show(some 1:Option Nat)≠some 0;decide))
theorem BL {a:Nat} (ha:a<1000000000^190):qc CC 291 [qS (a:Int)] [qS (qM a:Int),aI 0]:=by
 refine qu (anns:=fun _=>⟨[.box 4 [(.bool false),(.slice none 0 0)]],[],fun _ ds=>∃x:Nat,0<x∧x<1000000000^191∧ds=cI (x:Int)∧Tj a x=qM a,msZ⟩) mixedT Tryz.func291 ?_;rw[qL,BK,YT];have hL:(lim a).length≤190:=qx ha;have hav:a<10^(9*(lim a).length):=by
  have:=qX (qh a)
  rwa [qj,lF]at this
 refine zH (fun h=>by simp at h) (fun _=>?_);refine brb (fun h=>?_) (fun h=>?_)
 ·have h0:lim a=[]:=by apply List.eq_nil_of_length_eq_zero;have:=ed h;simp only[cp]at this;omega
  obtain rfl:=Q3.1 h0;have:qM 0=0:=by unfold qM;rw[Tj];rfl
  rw[this];rfl
 ·have hp:0<(lim a).length:=by
   rcases ga (lim a).length with h0|h0
   ·rw[h0]at h;simp at h
   ·exact h0
  have ap:0<a:=qK.1 hp;have hk:bw .i64 (cg (bw .i64 ((cr (lim a).length)+1)) 2)=(((lim a).length+1)/2:Nat):=by simp only[cp];rw[zr (n:=(((lim a).length:Nat):Int)+1),Int.tdiv_eq_ediv_of_nonneg (by omega),zr];omega
  rw[hk,cc,NJ];generalize hkk:((lim a).length+1)/2=k at *;have h2:=zg (n:=2) (by omega) (by omega);have a3:1000000000^k<1000000000^191:=fz (by omega) (by omega);refine⟨by omega,⟨by omega,by omega,by unfold room;omega⟩,⟨by rw[en];unfold room;omega,fun e he=>by simp at he;subst he;rfl⟩,_,_,h2,⟨1000000000^k,h8 (by omega),a3,by rw[X5,FM],?_⟩,?_⟩
  ·rw[lF,←hkk];exact Vt hav
  ·rintro b es ⟨x,hx0,hx,he,hn⟩;obtain⟨rfl,rfl⟩:=lE he;have sx:Sm (x:Int):=jn (gr hx (fz (by omega) (by omega)));have sa:Sm (a:Int):=jn (gr ha (fz (by omega) (by omega)));have hq:=wU jF sa sx (by omega);have eq1:(a:Int)/(x:Int)=((a/x:Nat):Int):=rfl;have eq2:(a:Int)%(x:Int)=((a%x:Nat):Int):=rfl;rw[eq1,eq2]at hq;have hqa:a/x≤a:=ib _ _;have sq:Sm ((a/x:Nat):Int):=jn (g7 hqa (gr ha (fz (by omega) (by omega))));have a5:=K3 sx sq;have e1:(x:Int)+((a/x:Nat):Int)=((x+a/x:Nat):Int):=by omega
   rw[e1]at a5;have hb:x+a/x<1000000000^200:=by have h3:1000000000^190≤1000000000^191:=gz (by omega) (by omega);have h4:1000000000^191*1000000000=1000000000^192:=(fS ..).symm;have h5:1000000000^192≤1000000000^200:=gz (by omega) (by omega);omega
   have a4:=wU jF (jn hb) (jn (n:=2) (by decide)) (by omega);have eq3:((x+a/x:Nat):Int)/((2:Nat):Int)=(((x+a/x)/2:Nat):Int):=rfl;have eq4:((x+a/x:Nat):Int)%((2:Nat):Int)=(((x+a/x)%2:Nat):Int):=rfl;rw[eq3,eq4]at a4;have sy:Sm (((x+a/x)/2:Nat):Int):=jn (by omega);have hc:=TV sy sx;rw[N0]at hn;generalize hy:(x+a/x)/2=y at *;rw[qL,qL,qL,qL]at hq;rw[qL,qL,qL]at a5;rw[qL,qL,qL,qL]at a4;rw[qL,qL]at hc;refine⟨_,_,_,_,_,hq,_,_,a5,_,_,_,_,_,a4,_,hc,?_⟩;unfold Ql;refine brd (fun h3=>?_) (fun h3=>?_)
   ·have:x≤y:=by
     rcases hH y x with h4|h4
     ·rw[if_pos (by omega)]at h3;omega
     ·exact h4
    rw[if_pos this]at hn;rw[←hn,qL]
   ·have h4:y<x:=by
     rcases hH y x with h4|h4
     ·exact h4
     ·exfalso;apply h3;rw[if_neg (by omega)];split<;>omega
    rw[if_neg (by omega)]at hn;have yp:0<y:=by rw[←hy];exact Nx ap hx0
    refine⟨⟨y,yp,by omega,(X5 y).symm,hn⟩,?_⟩;have m1:=YS y;have m2:=YS x;rw[X5]at m1 m2;rw[m1,m2];exact h4
theorem NL {x y:Int} (hx:Sm x) (hy:Sm y):qc CC 132 [qS x,qS y] [aB (decide (x=y))]:=by
 refine qu (anns:=an0) mixedT Tryz.func132 ?_;rw[xJ,xJ,FK];have hc:=kF (x:=x.natAbs) (y:=y.natAbs) (gm hx.len (by omega)) (gm hy.len (by omega));refine brb (fun h=>⟨_,hc,?_⟩) (fun h=>?_)
 ·rw[beq_iff_eq,decide_eq_decide]at h;have:(XP x.natAbs y.natAbs==0)=decide (x=y):=by
   rw[Bx,beq_iff_eq,decide_eq_true_eq];unfold XP;split
   ·omega
   ·split<;>omega
  rw[this]
 ·have:decide (x=y)=false:=by
   refine decide_eq_false fun e=>?_
   subst e;simp at h
  rw[this]
theorem cT {n a b:Nat} (h:n≤10^a) (k:a<9*b):n<1000000000^b:=by
 rw[lF];exact g7 h (fz (by omega) k)
theorem YU {n:Nat} (h:n≤10^1300):n<1000000000^190:=cT h (by omega)
theorem FN (a:Nat):qM a≤a:=by
 have h:=(jJ a).1;rcases ga (qM a)with h0|h0
 ·omega
 ·exact gm (gp _ h0) h
theorem Jp {a:Nat} (ha:a≤10^1300):qc CC 255 [qS (a:Int)] [qS (qM a:Int),aB (decide (qM a*qM a=a))]:=by
 have h1:=BL (YU ha);have sa:Sm (a:Int):=jn (gr (YU ha) (fz (by omega) (by omega)));have hr:qM a≤a:=FN a;have sr:Sm (qM a:Int):=jn (gr (YU (gm hr ha)) (fz (by omega) (by omega)));have srr:Sm ((qM a*qM a:Nat):Int):=jn (g7 (jJ a).1 (gr (YU ha) (fz (by omega) (by omega))));have h2:=jD sr sr;have e:(qM a:Int)*(qM a:Int)=((qM a*qM a:Nat):Int):=(dc _ _).symm;rw[e]at h2;have h3:=NL srr sa;have e2:decide (((qM a*qM a:Nat):Int)=(a:Int))=decide (qM a*qM a=a):=decide_eq_decide.2 (by omega);rw[e2]at h3;rw[qL,qL]at *;refine wpG Tryz.func255 ((FL ..).mpr ?_);refine⟨_,_,_,h1,?_⟩;refine brb (fun _=>?_) (fun h=>by simp at h);exact⟨_,_,h2,_,h3,rfl⟩
theorem KK {c s:Rat} (hc:Hz 1300 c) (h:sqQ c=some s):qc CC 198 [aR (q4 c)] [aR (q4 s),aB true]:=by
 obtain⟨e,h0⟩:=Jl h;obtain⟨e1,e2⟩:=Ny s;rw[e]at e1 e2;have hn0:0≤s.num:=iz.2 h0;have f1:c.num=((s.num.natAbs*s.num.natAbs:Nat):Int):=by rw[e1,dc,Int.natAbs_mul_self']
 have b1:s.num.natAbs*s.num.natAbs≤10^1300:=by have:=hc.1;rw[f1,cH]at this;exact this
 have b2:s.den*s.den≤10^1300:=by have:=hc.2;rw[e2]at this;exact this
 have a1:=Jp b1;have a2:=Jp b2;rw[Nz,decide_eq_true rfl]at a1 a2;have q1:qS (((s.num.natAbs*s.num.natAbs:Nat)):Int)= .ag [.bool (R4.b (q4 c)),.sl (R4.l (q4 c))]:=by rw[←f1];rfl
 have q2:qS ((s.den*s.den:Nat):Int)= .ag [.bool (R4.c (q4 c)),.sl (R4.m (q4 c))]:=by rw[←e2];rfl
 have q3:(s.num.natAbs:Int)=s.num:=by omega
 rw[q1,q3]at a1;rw[q2]at a2;refine wpG Tryz.func198 ((NI ..).mpr ?_);exact⟨_,_,_,a1,_,_,_,a2,brb (fun h=>by simp at h) (fun _=>brb (fun h=>by simp at h) (fun _=>rfl))⟩
theorem Q9 {c:Rat} (hc:Hz 1300 c) (h0:0≤c) (h:sqQ c=none):qc CC 198 [aR (q4 c)] [aR z4A,aB false]:=by
 have hn0:0≤c.num:=iz.2 h0;have a1:=Jp hc.1;have a2:=Jp hc.2;have q1:qS ((c.num.natAbs:Nat):Int)= .ag [.bool (R4.b (q4 c)),.sl (R4.l (q4 c))]:=by rw[show((c.num.natAbs:Nat):Int)=c.num by omega];rfl
 have q2:qS ((c.den:Nat):Int)= .ag [.bool (R4.c (q4 c)),.sl (R4.m (q4 c))]:=rfl;rw[q1]at a1;rw[q2]at a2;have key:¬(qM c.num.natAbs*qM c.num.natAbs=c.num.natAbs∧qM c.den*qM c.den=c.den):=by rintro⟨k1,k2⟩;unfold sqQ Bj Lb at h;rw[if_neg (by omega),if_pos k1,if_pos k2]at h;simp at h
 refine wpG Tryz.func198 ((NI ..).mpr ?_);refine⟨_,_,_,a1,_,_,_,a2,?_⟩;refine brb (fun _=>rfl) (fun h1=>?_);refine brb (fun _=>rfl) (fun h2=>?_);exact absurd ⟨by simpa using h1,by simpa using h2⟩ key
end Eng
end
section
namespace Eng
open Go Go.Proofs Rl
set_option maxRecDepth 100000
def HV (v:Vc):Prop:=Hz 20 v.x∧Hz 20 v.y
def HL (l:Ln):Prop:=Hz 45 l.a∧Hz 45 l.b∧Hz 205 l.c
def HC (c:Ci):Prop:=Hz 20 c.x∧Hz 20 c.y∧Hz 20 c.q
def kPs (l:List P5):List (List D):=l.map fun p=>pk (kP p) []
theorem lG {p:P5} {v:Vc} {k:Nat} (h:HP k p) (hv:HV v) (hk:k=1300):HP 1321 (trP p v):=by
 subst hk;exact⟨h.1.add hv.1 (by omega),h.2.1.mono (by omega),h.2.2.1.add hv.2 (by omega),h.2.2.2.1.mono (by omega),h.2.2.2.2.mono (by omega)⟩
theorem PP {p:P5} {v:Vc} (h:HP 1300 p) (hv:HV v):qc CC 287 [aP (kP p),.ag (kV v)] [aP (kP (trP p v))]:=by
 refine wpG Tryz.func287 ((PA ..).mpr ?_);exact⟨_,PB h.1 hv.1,_,PB h.2.2.1 hv.2,rfl⟩
theorem BM {v:Vc} (hv:HV v):qc CC 288 [.ag (kV v)] [.ag (kV ⟨-v.x, -v.y⟩)]:=by
 refine wpG Tryz.func288 ((BA ..).mpr ?_);exact⟨_,Lz hv.1,_,Lz hv.2,rfl⟩
theorem HV.neg {v:Vc} (h:HV v):HV ⟨-v.x, -v.y⟩:=⟨h.1.neg,h.2.neg⟩
theorem KL {r:Rt} {j k l:Nat} (hr:HT j k l r) (h:2*j+2*k+2*l<170000:=by omega):
 qc CC 290 [.ag (kT r [])] [.ag (kT (Zj r r) [])]:=by
 refine wpG Tryz.func290 ((Lt ..).mpr ?_);exact⟨_,_,_,_,ND hr hr (YL r) (by omega),rfl⟩
theorem NM {a b c:Rat} {j k l:Nat} (ha:Hz j a) (hb:Hz k b) (hc:Hz l c):HT j k l (Jj a b c):=by
 unfold Jj;split
 ·exact⟨ha,Ts,Ts⟩
 ·exact⟨ha,hb,hc⟩
theorem BN {r s:Rt} {j k l i m:Nat} (hr:HT j k l r) (hs:HT i m l s):Hz l (XQ r s):=by
 unfold XQ;split
 ·exact hs.2.2
 ·exact hr.2.2
theorem Uj {r s:Rt} {j k l i m a b:Nat} (hr:HT j k l r) (hs:HT i m l s) (h1:j+i+(k+m+l)+1≤a) (h2:j+m+(k+i)+1≤b):HT a b l (Zj r s):=
 NM ((hr.1.mul hs.1 (gq _)).add ((hr.2.1.mul hs.2.1 (gq _)).mul (BN hr hs) (gq _)) h1) ((hr.1.mul hs.2.1 (gq _)).add (hr.2.1.mul hs.1 (gq _)) h2) (BN hr hs)
theorem lH {r s:Rt} {j k l i m a b:Nat} (hr:HT j k l r) (hs:HT i m l s) (h1:j+i+1≤a) (h2:k+m+1≤b):HT a b l (eR r s):=
 NM (hr.1.add hs.1 h1) (hr.2.1.add hs.2.1 h2) (BN hr hs)
theorem FO {r s:Rt} {j k l i m:Nat} (hr:HT j k l r) (hs:HT i m l s) (hc:Ff r s) (h:j+k+i+m+l<170000:=by omega):
 qc CC 289 [.ag (kT r []),.ag (kT s [])] [.ag (kT (eR r s) []),aI 0]:=by
 refine wpG Tryz.func289 ((F1 ..).mpr ?_);refine⟨_,_,KE hr.2.2 hs.2.2 hc (by omega),?_⟩;refine brb (fun h=>absurd h (by decide)) (fun _=>?_);exact⟨_,PB hr.1 hs.1,_,PB hr.2.1 hs.2.1,_,_,_,Jn _ _ _,rfl⟩
theorem I7 {p:P5} {v:Vc} (h:HP 1300 p) (hv:HV v):HT 15000 11000 1321 (sqP p v):=by
 have h1:=lG h hv.neg rfl;have mx:=Uj (a:=7000) (b:=5300) h1.tx h1.tx (by omega) (by omega);have my:=Uj (a:=7000) (b:=5300) h1.ty h1.ty (by omega) (by omega);exact lH mx my (by omega) (by omega)
theorem LG {p:P5} {v:Vc} (h:HP 1300 p) (ho:okP p) (hv:HV v):qc CC 254 [aP (kP p),.ag (kV v)] [.ag (kT (sqP p v) [])]:=by
 have h1:=lG h hv.neg rfl;have mx:=Uj (a:=7000) (b:=5300) h1.tx h1.tx (by omega) (by omega);have my:=Uj (a:=7000) (b:=5300) h1.ty h1.ty (by omega) (by omega);refine wpG Tryz.func254 ((Lx ..).mpr ?_);exact⟨_,_,BM hv,_,PP h hv.neg,_,_,_,kM _,_,_,_,KL h1.tx,_,_,_,Qo _,_,_,_,KL h1.ty,_,_,_,_,FO mx my (cO ho v),rfl⟩
theorem Jq {x y:Rat} {j k:Nat} (hx:Hz j x) (hy:Hz k y) (h:j<360000∧k<360000:=by omega):qc CC 252 [aR (q4 x),aR (q4 y)] [aR (q4 (x+y))]:=by
 refine wpG Tryz.func252 ((FC ..).mpr ?_);exact⟨_,PB hx hy h,rfl⟩
theorem X6 {x y:Rat} {j k:Nat} (hx:Hz j x) (hy:Hz k y) (h:j<360000∧k<360000:=by omega):qc CC 251 [aR (q4 x),aR (q4 y)] [aR (q4 (x-y))]:=by
 refine wpG Tryz.func251 ((FD ..).mpr ?_);exact⟨_,cE hx hy h,rfl⟩
theorem zu {x y:Rat} {j k:Nat} (hx:Hz j x) (hy:Hz k y) (h:j<360000∧k<360000:=by omega):qc CC 221 [aR (q4 x),aR (q4 y)] [aR (q4 (x*y))]:=by
 refine wpG Tryz.func221 ((FE ..).mpr ?_);exact⟨_,Ja hx hy h,rfl⟩
theorem YV {l m:Ln} (hl:HL l) (hm:HL m):qc CC 163 [.ag (kL l []),.ag (kL m [])] [aB (eV l m)]:=by
 refine wpG Tryz.func163 ((YN ..).mpr ?_);unfold eV;refine⟨_,zu hl.1 hm.2.1,_,zu hl.2.1 hm.1,_,PC (hl.1.mul hm.2.1 (l:=90)) (hl.2.1.mul hm.1 (l:=90)),?_⟩;rw[X0,decide_eq_decide.2 BD];refine brb (fun h1=>?_) (fun h1=>?_)
 ·rw[h1];refine⟨_,zu hl.1 hm.2.2,_,zu hl.2.2 hm.1,_,PC (hl.1.mul hm.2.2 (l:=250)) (hl.2.2.mul hm.1 (l:=250)),?_⟩;rw[X0,decide_eq_decide.2 BD];refine brb (fun h2=>?_) (fun h2=>?_)
  ·rw[h2];refine⟨_,zu hl.2.1 hm.2.2,_,zu hl.2.2 hm.2.1,_,PC (hl.2.1.mul hm.2.2 (l:=250)) (hl.2.2.mul hm.2.1 (l:=250)),?_⟩;rw[X0,decide_eq_decide.2 BD];rfl
  ·rw[h2];rfl
 ·rw[h1];rfl
theorem y5 {c d:Ci} (hc:HC c) (hd:HC d):qc CC 91 [.ag (kC c []),.ag (kC d [])] [aB (Fg c d)]:=by
 refine wpG Tryz.func91 ((KI ..).mpr ?_);unfold Fg;refine⟨_,PC hc.1 hd.1,?_⟩;rw[X0,decide_eq_decide.2 BD];refine brb (fun h1=>?_) (fun h1=>?_)
 ·rw[h1];refine⟨_,PC hc.2.1 hd.2.1,?_⟩;rw[X0,decide_eq_decide.2 BD];refine brb (fun h2=>?_) (fun h2=>?_)
  ·rw[h2];refine⟨_,PC hc.2.2 hd.2.2,?_⟩;rw[X0,decide_eq_decide.2 BD];rfl
  ·rw[h2];rfl
 ·rw[h1];rfl
theorem I8 {c s:Rat} {k:Nat} (h:sqQ c=some s) (hc:Hz k c):Hz k s:=by
 obtain⟨h1,_⟩:=Jl h;obtain⟨e1,e2⟩:=Ny s;rw[h1]at e1 e2;refine⟨?_,?_⟩
 ·have:=hc.1;rw[e1,dn]at this;rcases ga s.num.natAbs with h0|h0
  ·rw[h0];exact it _
  ·exact gm (gp _ h0) this
 ·have:=hc.2;rw[e2]at this;exact gm (gp _ s.den_pos) this
theorem BO {a b c:Rat} {i j:Nat} (ha:Hz i a) (hb:Hz j b) (hc:Hz 1300 c) (h0:0≤c) (h:i+j<300000:=by omega):
 qc CC 253 [aR (q4 a),aR (q4 b),aR (q4 c)] [.ag (kT (YE a b c) []),aI 0]:=by
 refine wpG Tryz.func253 ((B5 ..).mpr ?_);refine⟨_,zM c,?_⟩;refine brd (fun h=>absurd (ZR.1 h) (by grind)) (fun _=>?_);unfold YE;cases hs:sqQ c with
 |none=>refine⟨_,_,Q9 hc h0 hs,?_⟩;exact⟨_,_,_,Jn a b c,rfl⟩
 |some s=>have hz:=I8 hs hc;refine⟨_,_,KK hc hs,?_⟩;exact⟨_,Ja hb hz,_,PB ha (hb.mul hz (l:=j+1300)),_,_,_,jQ _,rfl⟩
theorem cV {a b c:Rat} {i j:Nat} (ha:Hz i a) (hb:Hz j b) (hc:Hz 1300 c):HT (i+j+1301) j 1300 (YE a b c):=by
 unfold YE;cases hs:sqQ c with
 |none=>exact NM (ha.mono (by omega)) hb hc
 |some s=>exact⟨ha.add (hb.mul (I8 hs hc) (gq _)) (by omega),Ts,Ts⟩
def valR (l:Ln) (p:P5):Rt:=YE (l.a*p.x+l.b*p.y-l.c) (l.a*p.u+l.b*p.v) p.c
theorem PQ {l:Ln} {p:P5} (hl:HL l) (hp:HP 1300 p) (ho:okP p):qc CC 194 [.ag (kL l []),aP (kP p)] [.ag (kT (valR l p) [])]:=by
 refine wpG Tryz.func194 ((PE ..).mpr ?_);have h1:=hl.1.mul hp.1 (l:=1345);have h2:=hl.2.1.mul hp.2.2.1 (l:=1345);have h3:=h1.add h2 (l:=2691);have h4:=h3.sub hl.2.2 (l:=2900);have h5:=hl.1.mul hp.2.1 (l:=1345);have h6:=hl.2.1.mul hp.2.2.2.1 (l:=1345);have h7:=h5.add h6 (l:=2691);exact⟨_,zu hl.1 hp.1,_,zu hl.2.1 hp.2.2.1,_,Jq h1 h2,_,X6 h3 hl.2.2,_,zu hl.1 hp.2.1,_,zu hl.2.1 hp.2.2.2.1,_,Jq h5 h6,_,_,_,_,BO h4 h7 hp.2.2.2.2 ho.nn,rfl⟩
theorem Uk {l:Ln} {p:P5} (hl:HL l) (hp:HP 1300 p) (ho:okP p):qc CC 128 [.ag (kL l []),aP (kP p)] [aI (sg (lnv l p))]:=by
 refine wpG Tryz.func128 ((BF ..).mpr ?_);have h1:=hl.1.mul hp.1 (l:=1345);have h2:=hl.2.1.mul hp.2.2.1 (l:=1345);have h4:=(h1.add h2 (l:=2691)).sub hl.2.2 (l:=2900);have h7:=(hl.1.mul hp.2.1 (l:=1345)).add (hl.2.1.mul hp.2.2.2.1 (l:=1345)) (l:=2691) (by omega);have hs:=yz (cV h4 h7 hp.2.2.2.2) (Fo _ _ ho.nn);rw[c4,←l8]at hs;exact⟨_,_,_,PQ hl hp ho,_,hs,rfl⟩
theorem PR {c:Ci} {p:P5} (hc:HC c) (hp:HP 1300 p) (ho:okP p):qc CC 196 [.ag (kC c []),aP (kP p)] [.ag (kT (Bq (sqP p ⟨c.x,c.y⟩) (-c.q)) [])]:=by
 refine wpG Tryz.func196 ((PF ..).mpr ?_);exact⟨_,_,_,LG (v:=⟨c.x,c.y⟩) hp ho ⟨hc.1,hc.2.1⟩,_,Lz hc.2.2,_,_,_,vH (I7 hp ⟨hc.1,hc.2.1⟩) hc.2.2.neg,rfl⟩
theorem KM {a:Int} (h: -1≤a∧a≤1):bw .i64 (0-a)= -a:=by
 have h1:a= -1∨a=0∨a=1:=by omega
 rcases h1 with rfl|rfl|rfl<;>rfl
theorem KN {c:Ci} {p:P5} (hc:HC c) (hp:HP 1300 p) (ho:okP p):qc CC 130 [.ag (kC c []),aP (kP p)] [aI (-sg (civ c p))]:=by
 refine wpG Tryz.func130 ((L3 ..).mpr ?_);have hs:=yz ((I7 hp (v:=⟨c.x,c.y⟩) ⟨hc.1,hc.2.1⟩).add hc.2.2.neg (gq _)) ((I6 ho ⟨c.x,c.y⟩).1.add (-c.q));rw[←lD ho]at hs;refine⟨_,_,_,PR hc hp ho,_,hs,?_⟩;rw[KM (Bw _)]
end Eng
end
section
namespace Eng
open Go Go.Proofs Rl
set_option maxRecDepth 100000
theorem yV {x y:Rat} {j k:Nat} (hx:Hz j x) (hy:Hz k y) (h:j<360000∧k<360000:=by omega):qc CC 204 [aR (q4 x),aR (q4 y)] [aR (q4 (x+y))]:=by
 refine wpG Tryz.func204 ((FF ..).mpr ?_);exact⟨_,PB hx hy h,rfl⟩
theorem zT {x y:Rat} {j k:Nat} (hx:Hz j x) (hy:Hz k y) (h:j<360000∧k<360000:=by omega):qc CC 303 [aR (q4 x),aR (q4 y)] [aR (q4 (x-y))]:=by
 refine wpG Tryz.func303 ((FG ..).mpr ?_);exact⟨_,cE hx hy h,rfl⟩
theorem xg {x y:Rat} {j k:Nat} (hx:Hz j x) (hy:Hz k y) (h:j<360000∧k<360000:=by omega):qc CC 205 [aR (q4 x),aR (q4 y)] [aR (q4 (x*y))]:=by
 refine wpG Tryz.func205 ((FH ..).mpr ?_);exact⟨_,Ja hx hy h,rfl⟩
theorem Jr {x:Rat} {j:Nat} (hx:Hz j x) (h:j<360000:=by omega):qc CC 141 [aR (q4 x)] [aR (q4 (-x))]:=by
 refine wpG Tryz.func141 ((FI ..).mpr ?_);exact⟨_,Lz hx h,rfl⟩
theorem y6 {x y:Rat} {j k:Nat} (hx:Hz j x) (hy:Hz k y) (h0:y≠0) (h:j<360000∧k<360000:=by omega):qc CC 301 [aR (q4 x),aR (q4 y)] [aR (q4 (x/y))]:=by
 refine wpG Tryz.func301 ((BG ..).mpr ?_);exact⟨_,_,tJ hx hy h0 h,rfl⟩
theorem PS {l m:Ln} (hl:HL l) (hm:HL m):qc CC 304 [.ag (kL l []),.ag (kL m [])] [aR (q4 (ZO l m))]:=by
 refine wpG Tryz.func304 ((PG ..).mpr ?_);exact⟨_,xg hl.1 hm.2.1,_,xg hm.1 hl.2.1,_,zT (hl.1.mul hm.2.1 (l:=90)) (hm.1.mul hl.2.1 (l:=90)),rfl⟩
theorem KO {l m:Ln} (hl:HL l) (hm:HL m):Hz 181 (ZO l m):=(hl.1.mul hm.2.1 (l:=90)).sub (hm.1.mul hl.2.1 (l:=90)) (by omega)
theorem Ul {l m:Ln} (hl:HL l) (hm:HL m):Hz 501 (Br l m):=(hl.2.2.mul hm.2.1 (l:=250)).sub (hm.2.2.mul hl.2.1 (l:=250)) (by omega)
theorem Um {l m:Ln} (hl:HL l) (hm:HL m):Hz 501 (Bs l m):=(hl.1.mul hm.2.2 (l:=250)).sub (hm.1.mul hl.2.2 (l:=250)) (by omega)
theorem PT {l m:Ln} (hl:HL l) (hm:HL m):∃e,qc CC 260 [.ag (kL l []),.ag (kL m [])] [aL (kPs (ZP l m)),aI e]:=by
 have go:∀e,wpF CC (qc CC) an0 Tryz.f260 [.ag (kL l []),.ag (kL m [])] (· =[aL (kPs (ZP l m)),aI e])→qc CC 260 [.ag (kL l []),.ag (kL m [])] [aL (kPs (ZP l m)),aI e]:=fun e h=>qu (anns:=an0) mixedT Tryz.func260 h
 refine⟨if ZO l m=0∧Br l m=0∧Bs l m=0 then 10 else 0,go _ ((PH ..).mpr ?_)⟩;have hX:=Ul hl hm;have hY:=Um hl hm;have hD:=KO hl hm;refine⟨_,PS hl hm,_,xg hl.2.2 hm.2.1,_,xg hm.2.2 hl.2.1,_,zT (hl.2.2.mul hm.2.1 (l:=250)) (hm.2.2.mul hl.2.1 (l:=250)),
  _,xg hl.1 hm.2.2,_,xg hm.1 hl.2.2,_,zT (hl.1.mul hm.2.2 (l:=250)) (hm.1.mul hl.2.2 (l:=250)),_,zM _,?_⟩
 rw[bne,X0];unfold ZP;refine brb (fun h=>?_) (fun h=>?_)
 ·have h0:ZO l m≠0:=by simpa using h
  rw[if_pos h0,if_neg (by simp[h0])];exact⟨_,y6 hX hD h0,_,y6 hY hD h0,_,Zn ⟨_,_⟩,rfl⟩
 ·have h0:ZO l m=0:=by simpa using h
  rw[if_neg (by simp[h0])];refine⟨_,zM _,?_⟩;rw[X0];refine brd (fun h1=>?_) (fun h1=>?_)
  ·refine⟨_,zM _,?_⟩;rw[X0];refine brd (fun h2=>?_) (fun h2=>?_)
   ·rw[if_pos ⟨h0,h1,h2⟩];rfl
   ·rw[if_neg (fun k=>h2 k.2.2)];rfl
  ·rw[if_neg (fun k=>h1 k.2.1)];rfl
theorem Un {l:Ln} (hl:HL l):qc CC 300 [.ag (kL l [])] [aR (q4 (G8 l))]:=by
 refine wpG Tryz.func300 ((BH ..).mpr ?_);exact⟨_,xg hl.1 hl.1,_,xg hl.2.1 hl.2.1,_,yV (hl.1.mul hl.1 (l:=90)) (hl.2.1.mul hl.2.1 (l:=90)),rfl⟩
theorem QA {l:Ln} (hl:HL l):Hz 181 (G8 l):=(hl.1.mul hl.1 (l:=90)).add (hl.2.1.mul hl.2.1 (l:=90)) (by omega)
theorem V0 {l:Ln} {x y:Rat} (hl:HL l) (hx:Hz 20 x) (hy:Hz 20 y):qc CC 302 [.ag (kL l []),aR (q4 x),aR (q4 y)] [aR (q4 (iY l x y))]:=by
 refine wpG Tryz.func302 ((PI ..).mpr ?_);have h1:=hl.1.mul hx (l:=65);have h2:=hl.2.1.mul hy (l:=65);exact⟨_,xg hl.1 hx,_,xg hl.2.1 hy,_,yV h1 h2,_,zT (h1.add h2 (l:=131)) hl.2.2,rfl⟩
theorem KP {l:Ln} {x y:Rat} (hl:HL l) (hx:Hz 20 x) (hy:Hz 20 y):Hz 337 (iY l x y):=
 ((hl.1.mul hx (l:=65)).add (hl.2.1.mul hy (l:=65)) (l:=131) (by omega)).sub hl.2.2 (by omega)
theorem BP {l:Ln} {c:Ci} (hl:HL l) (hc:HC c):qc CC 299 [.ag (kL l []),.ag (kC c [])] [aR (q4 (WK l c))]:=by
 refine wpG Tryz.func299 ((BI ..).mpr ?_);have hv:=KP hl hc.1 hc.2.1;exact⟨_,V0 hl hc.1 hc.2.1,_,Un hl,_,xg (QA hl) hc.2.2,_,xg hv hv,_,zT ((QA hl).mul hc.2.2 (l:=201)) (hv.mul hv (l:=674)),rfl⟩
theorem Js {l:Ln} {c:Ci} (hl:HL l) (hc:HC c):Hz 876 (WK l c):=
 ((QA hl).mul hc.2.2 (l:=201)).sub ((KP hl hc.1 hc.2.1).mul (KP hl hc.1 hc.2.1) (l:=674) (by omega)) (by omega)
theorem cW {s:Rat} {k:Nat} (h:Hz (2*k) (s*s)):Hz k s:=by
 obtain⟨e1,e2⟩:=Ny s;have e:(10:Nat)^(2*k)=10^k*10^k:=by rw[Nat.two_mul,Nat.pow_add]
 refine⟨?_,?_⟩
 ·have h1:=h.1;rw[e1,dn,e]at h1;exact ia.1 h1
 ·have h1:=h.2;rw[e2,e]at h1;exact ia.1 h1
theorem NN {c s:Rat} {k:Nat} (h:sqQ c=some s) (hc:Hz (2*k) c):Hz k s:=by
 rw[←(Jl h).1]at hc;exact cW hc
theorem ws {x u y v c:Rat} (hx:Hz 600 x) (hu:Hz 250 u) (hy:Hz 600 y) (hv:Hz 250 v) (hc:Hz 876 c) (h0:0≤c):
 qc CC 140 [aR (q4 x),aR (q4 u),aR (q4 y),aR (q4 v),aR (q4 c)] [aP (kP (zt x u y v c))]:=by
 refine wpG Tryz.func140 ((Ud ..).mpr ?_);unfold zt;cases hs:sqQ c with
 |none=>exact⟨_,_,Q9 (hc.mono (by omega)) h0 hs,rfl⟩
 |some s=>have hz:=NN (k:=438) hs hc;have h1:=hu.mul hz (l:=688);have h2:=hv.mul hz (l:=688);refine⟨_,_,KK (hc.mono (by omega)) hs,?_⟩;exact⟨_,xg hu hz,_,yV hx h1,_,xg hv hz,_,yV hy h2,_,Zn ⟨_,_⟩,rfl⟩
theorem NO {x u y v c:Rat} (hx:Hz 600 x) (hu:Hz 250 u) (hy:Hz 600 y) (hv:Hz 250 v) (hc:Hz 876 c):HP 1300 (zt x u y v c):=by
 unfold zt;cases hs:sqQ c with
 |none=>exact⟨hx.mono (by omega),hu.mono (by omega),hy.mono (by omega),hv.mono (by omega),hc.mono (by omega)⟩
 |some s=>have hz:=NN (k:=438) hs hc;exact⟨hx.add (hu.mul hz (l:=688)) (by omega),Ts,hy.add (hv.mul hz (l:=688)) (by omega),Ts,Ts⟩
def okLn (l:Ln):Prop:=¬(l.a=0∧l.b=0)
theorem I9 (x:Rat):0≤x*x:=by
 rcases Rat.le_total (a:=0) (b:=x)with h|h
 ·exact j2 h h
 ·have:0≤ -x:=by grind
  have:=j2 this this
  grind
theorem okLn.norm {l:Ln} (h:okLn l):0<G8 l:=by
 unfold G8;have h1:=I9 l.a;have h2:=I9 l.b;by_cases h3:l.a*l.a=0
 ·by_cases h4:l.b*l.b=0
  ·exfalso;apply h;constructor
   ·have:=j1.1 h3;grind
   ·have:=j1.1 h4;grind
  ·grind
 ·grind
theorem YW {l:Ln} {c:Ci} (hl:HL l) (hc:HC c) (h:okLn l):Hz 600 (Fh l c)∧Hz 600 (Fi l c)∧Hz 518 (cu l c):=by
 have hn:G8 l≠0:=by have:=h.norm;grind
 have hk:=(KP hl hc.1 hc.2.1).div (QA hl) hn (l:=518) (by omega);exact⟨hc.1.sub (hk.mul hl.1 (l:=563)) (by omega),hc.2.1.sub (hk.mul hl.2.1 (l:=563)) (by omega),hk⟩
theorem IA {l:Ln} (hl:HL l) (h:okLn l):Hz 250 (l.b/G8 l)∧Hz 250 (-l.a/G8 l):=by
 have hn:G8 l≠0:=by have:=h.norm;grind
 exact⟨hl.2.1.div (QA hl) hn (by omega),hl.1.neg.div (QA hl) hn (by omega)⟩
theorem IB {l:Ln} {c:Ci} (hl:HL l) (hc:HC c) (h:okLn l):HP 1300 (lcP l c)∧HP 1300 (lcQ l c):=by
 obtain⟨h1,h2,_⟩:=YW hl hc h;obtain⟨h3,h4⟩:=IA hl h;exact⟨NO h1 h3.neg h2 h4.neg (Js hl hc),NO h1 h3 h2 h4 (Js hl hc)⟩
theorem okLn.div {l:Ln} (h:okLn l):¬(l.b/G8 l=0∧ -l.a/G8 l=0):=by
 have hn:G8 l≠0:=by have:=h.norm;grind
 rintro⟨h1,h2⟩;apply h
 grind
theorem IC {l:Ln} {c:Ci} (h:okLn l) (h0:0<WK l c):okP (lcP l c)∧okP (lcQ l c):=by
 have hd:=h.div;exact⟨YM h0 (fun k=>hd (by grind)),YM h0 hd⟩
theorem kN {l:Ln} {c:Ci} (hl:HL l) (hc:HC c) (h:okLn l):qc CC 259 [.ag (kL l []),.ag (kC c [])] [aL (kPs (Xx l c))]:=by
 refine wpG Tryz.func259 ((KJ ..).mpr ?_);have hn:G8 l≠0:=by have:=h.norm;grind
 have hv:=KP hl hc.1 hc.2.1;have hN:=QA hl;obtain⟨hX,hY,hk⟩:=YW hl hc h;obtain⟨hU,hV⟩:=IA hl h;refine⟨_,BP hl hc,_,Un hl,_,zM _,?_⟩;unfold Xx;refine brd (fun h1=>?_) (fun h1=>?_)
 ·rw[if_pos (ZR.1 h1)];rfl
 have n1:¬WK l c<0:=fun k=>h1 (ZR.2 k)
 rw[if_neg n1];refine⟨_,V0 hl hc.1 hc.2.1,_,y6 hv hN hn,_,xg hk hl.1,_,zT hc.1 (hk.mul hl.1 (l:=563)),_,xg hk hl.2.1,_,zT hc.2.1 (hk.mul hl.2.1 (l:=563)),_,zM _,?_⟩;rw[X0];refine brd (fun h2=>?_) (fun h2=>?_)
 ·rw[if_pos h2];exact⟨_,Zn ⟨_,_⟩,rfl⟩
 rw[if_neg h2];have h3:0<WK l c:=by grind
 obtain⟨hp,hq⟩:=IB hl hc h;obtain⟨op,oq⟩:=IC (c:=c) h h3;refine⟨_,y6 hl.2.1 hN hn,_,Jr hl.1,_,y6 hl.1.neg hN hn,_,Jr hU,_,Jr hV,_,ws hX hU.neg hY hV.neg (Js hl hc) (j0 h3),_,ws hX hU hY hV (Js hl hc) (j0 h3),_,YK hp hq op oq,?_⟩;refine brd (fun h4=>?_) (fun h4=>?_)
 ·have h5:0<jb (lcP l c) (lcQ l c):=h4;rw[if_pos h5];rfl
 ·have h5:¬0<jb (lcP l c) (lcQ l c):=h4;rw[if_neg h5];rfl
theorem Uo {c d:Ci} (hc:HC c) (hd:HC d):qc CC 297 [.ag (kC c []),.ag (kC d [])] [aB (decide (yv c d))]:=by
 refine wpG Tryz.func297 ((BJ ..).mpr ?_);refine⟨_,PC hc.1 hd.1,?_⟩;rw[X0,decide_eq_decide.2 BD];refine brd (fun h1=>?_) (fun h1=>?_)
 ·refine⟨_,PC hc.2.1 hd.2.1,?_⟩;rw[X0,decide_eq_decide.2 BD];have:(c.y=d.y)↔yv c d:=⟨fun k=>⟨h1,k⟩,fun k=>k.2⟩;have e:decide (c.y=d.y)=decide (yv c d):=decide_eq_decide.2 this;exact congrArg (fun b=>[aB b]) e
 ·rw[decide_eq_false (p:=yv c d) (fun k=>h1 k.1)]
theorem NP {c d:Ci} (h:¬yv c d):okLn (Fj c d):=by
 intro k;apply h;obtain⟨k1,k2⟩:=k;have e1:2*(d.x-c.x)=0:=k1;have e2:2*(d.y-c.y)=0:=k2;exact⟨by grind,by grind⟩
theorem two_hz:Hz 1 2:=Hz.int (n:=2) (by decide)
theorem NQ {c d:Ci} (hc:HC c) (hd:HC d):HL (Fj c d):=by
 refine⟨two_hz.mul (hd.1.sub hc.1 (l:=41)) (by omega),two_hz.mul (hd.2.1.sub hc.2.1 (l:=41)) (by omega),?_⟩;exact(((hd.1.mul hd.1 (l:=40)).add (hd.2.1.mul hd.2.1 (l:=40)) (l:=81) (by omega)).sub hd.2.2 (l:=102)).sub
  (((hc.1.mul hc.1 (l:=40)).add (hc.2.1.mul hc.2.1 (l:=40)) (l:=81) (by omega)).sub hc.2.2 (l:=102)) (by omega)
theorem Up {c d:Ci} (hc:HC c) (hd:HC d) (h:¬yv c d):qc CC 298 [.ag (kC c []),.ag (kC d [])] [.ag (kL (Fj c d) []),aI 0]:=by
 refine wpG Tryz.func298 ((Ue ..).mpr ?_);refine⟨_,Uo hc hd,?_⟩;rw[decide_eq_false h];refine zH (fun k=>by simp at k) (fun _=>?_);have c1:=hc.1.mul hc.1 (l:=40);have c2:=hc.2.1.mul hc.2.1 (l:=40);have c3:=c1.add c2 (l:=81);have d1:=hd.1.mul hd.1 (l:=40);have d2:=hd.2.1.mul hd.2.1 (l:=40);have d3:=d1.add d2 (l:=81);exact⟨_,a2,_,xg hc.1 hc.1,_,xg hc.2.1 hc.2.1,_,yV c1 c2,_,zT c3 hc.2.2,_,xg hd.1 hd.1,_,xg hd.2.1 hd.2.1,_,yV d1 d2,_,zT d3 hd.2.2,
  _,zT hd.1 hc.1,_,xg two_hz (hd.1.sub hc.1 (l:=41)),_,zT hd.2.1 hc.2.1,_,xg two_hz (hd.2.1.sub hc.2.1 (l:=41)),_,zT (d3.sub hd.2.2 (l:=102)) (c3.sub hc.2.2 (l:=102)),rfl⟩
theorem Uq {c d:Ci} (hc:HC c) (hd:HC d):∃e,qc CC 258 [.ag (kC c []),.ag (kC d [])] [aL (kPs (yT c d)),aI e]:=by
 have go:∀e,wpF CC (qc CC) an0 Tryz.f258 [.ag (kC c []),.ag (kC d [])] (· =[aL (kPs (yT c d)),aI e])→qc CC 258 [.ag (kC c []),.ag (kC d [])] [aL (kPs (yT c d)),aI e]:=fun e h=>qu (anns:=an0) mixedT Tryz.func258 h
 refine⟨if yv c d∧c.q=d.q then 10 else 0,go _ ((Uf ..).mpr ?_)⟩;refine⟨_,Uo hc hd,?_⟩;unfold yT;refine zH (fun h=>?_) (fun h=>?_)
 ·have h1:yv c d:=by simpa using h
  rw[if_pos h1];refine⟨_,PC hc.2.2 hd.2.2,?_⟩;rw[X0,decide_eq_decide.2 BD];refine brd (fun h2=>?_) (fun h2=>?_)
  ·rw[if_pos ⟨h1,h2⟩];rfl
  ·rw[if_neg (fun k=>h2 k.2)];rfl
 ·have h1:¬yv c d:=by simpa using h
  rw[if_neg h1,if_neg (fun k=>h1 k.1)];exact⟨_,_,_,_,Up hc hd h1,_,kN (NQ hc hd) hc (NP h1),rfl⟩
theorem X7 {c:Ci} (hc:HC c) (h:0<c.q):qc CC 79 [.ag (kC c [])] [aP (kP (ju c)),aP (kP (xW c))]:=by
 refine wpG Tryz.func79 ((YO ..).mpr ?_);have hq:Hz 876 c.q:=hc.2.2.mono (by omega);have hx:Hz 600 c.x:=hc.1.mono (by omega);have hy:Hz 600 c.y:=hc.2.1.mono (by omega);have h0:=j0 h;exact⟨_,a1,_,a0,_,Jr (T1 (k:=0)),_,ws hx (T1.neg) hy Ts hq h0,_,ws hx T1 hy Ts hq h0,rfl⟩
theorem Jt {c:Ci} (hc:HC c) (h:0<c.q):(HP 1300 (ju c)∧okP (ju c))∧(HP 1300 (xW c)∧okP (xW c)):=by
 have hq:Hz 876 c.q:=hc.2.2.mono (by omega);have hx:Hz 600 c.x:=hc.1.mono (by omega);have hy:Hz 600 c.y:=hc.2.1.mono (by omega);exact⟨⟨NO hx T1.neg hy Ts hq,YM h (fun k=>by grind)⟩,⟨NO hx T1 hy Ts hq,YM h (fun k=>by grind)⟩⟩
end Eng
end
section
namespace Eng
open Go Go.Proofs Rl
set_option maxRecDepth 100000
def kU (c:Cu):C66:=match c.arc with
 |true=>⟨true,c.jk,c.jk,c.jk,q4 c.ci.x,q4 c.ci.y,q4 c.ci.q,c.cw,kP c.fr,kP c.tt⟩
 |false=>⟨false,q4 c.ln.a,q4 c.ln.b,q4 c.ln.c,c.jk,c.jk,c.jk,c.cw,kP c.fr,kP c.tt⟩
def kUs (l:List Cu):List (List D):=l.map fun c=>ck (kU c) []
theorem jv (c:Cu):F2 (kU c)=kP c.fr:=by unfold kU;cases c.arc<;>rfl
theorem kj (c:Cu):Hv (kU c)=kP c.tt:=by unfold kU;cases c.arc<;>rfl
theorem wt (c:Cu):Hu (kU c)=c.arc:=by unfold kU;cases h:c.arc<;>rfl
theorem WM (c:Cu):J9 (kU c)=c.cw:=by unfold kU;cases c.arc<;>rfl
def Gp (p:P5):Prop:=HP 1300 p∧okP p
def Gs (c:Cu):Prop:=c.jk=z4A∧((c.arc=true∧HC c.ci∧0<c.ci.q)∨(c.arc=false∧HL c.ln∧okLn c.ln))
def Gc (c:Cu):Prop:=Gs c∧Gp c.fr∧Gp c.tt
theorem Gp.neg {p:P5} (h:Gp p):Gp (vZ p):=⟨⟨h.1.1.neg,h.1.2.1.neg,h.1.2.2⟩,c5 h.2⟩
theorem Gp.tx {p:P5} (h:Gp p):HT 1300 1300 1300 (xP p)∧okT (xP p):=⟨h.1.tx,Qn h.2⟩
theorem Gp.ty {p:P5} (h:Gp p):HT 1300 1300 1300 (yP p)∧okT (yP p):=⟨h.1.ty,X1 h.2⟩
theorem y7 {p q:P5} (hp:Gp p) (hq:Gp q):qc CC 164 [aP (kP p),aP (kP q)] [aI (jb p q)]:=YK hp.1 hq.1 hp.2 hq.2
theorem wW {p q:P5} (hp:Gp p) (hq:Gp q):qc CC 106 [aP (kP p),aP (kP q)] [aB (wC p q)]:=cJ hp.1 hq.1 hp.2 hq.2
theorem LH {p q:P5} (hp:Gp p) (hq:Gp q):qc CC 68 [.ag (kT (xP p) []),.ag (kT (xP q) [])] [aI (sg (px p-px q))]:=by
 have:=wq hp.tx.1 hq.tx.1 hp.tx.2 hq.tx.2
 rwa [X2,X2]at this
theorem BQ {p q:P5} (hp:Gp p) (hq:Gp q):qc CC 68 [.ag (kT (yP p) []),.ag (kT (yP q) [])] [aI (sg (py p-py q))]:=by
 have:=wq hp.ty.1 hq.ty.1 hp.ty.2 hq.ty.2
 rwa [KC,KC]at this
theorem lI (p q:P5): -1≤jb p q∧jb p q≤1:=by
 unfold jb;split
 ·exact Bw _
 ·exact Bw _
theorem vI {c:Cu} {p:P5} (hc:Gs c) (hp:Gp p):qc CC 135 [aC (kU c),aP (kP p)] [aB (Zl c p)]:=by
 refine wpG Tryz.func135 ((YP ..).mpr ?_);obtain⟨arc,ln,ci,cw,fr,tt,jk⟩:=c;unfold Zl;cases arc with
 |true=>
  have hc:HC ci:=by rcases hc.2 with h|h;exact h.2.1;cases h.1
  refine brb (fun _=>⟨_,KN hc hp.1 hp.2,?_⟩) (fun h=>by cases h);have e:(-sg (civ ci p)==0)=(sg (civ ci p)==0):=by rw[Bx,beq_iff_eq,beq_iff_eq];omega
  rw[e];rfl
 |false=>
  have hc:HL ln:=by rcases hc.2 with h|h;cases h.1;exact h.2.1
  refine brb (fun h=>by cases h) (fun _=>⟨_,Uk hc hp.1 hp.2,?_⟩);rfl
theorem KQ {c:Ci} {p:P5} (hc:HC c) (hp:Gp p):qc CC 332 [.ag (kC c []),aP (kP p)] [aB (upB c p)]:=by
 refine wpG Tryz.func332 ((L5 ..).mpr ?_);have h1:=KF hp.ty.1 hp.ty.2 hc.2.1;have h2:=KF hp.tx.1 hp.tx.2 hc.1;rw[KC]at h1;rw[X2]at h2;refine⟨_,_,_,Qo p,_,h1,?_⟩;unfold upB;refine brd (fun h=>?_) (fun h=>?_)
 ·rw[decide_eq_true (show 0<sg (py p-ofR c.y)from h)];rfl
 rw[decide_eq_false (show ¬0<sg (py p-ofR c.y)from h),Bool.false_or];refine brb (fun h=>?_) (fun h=>?_)
 ·rw[h,Aw];exact⟨_,_,_,kM p,_,h2,rfl⟩
 ·rw[h];rfl
theorem QB {c:Ci} {p q:P5} (hc:HC c) (hp:Gp p) (hq:Gp q):qc CC 284 [.ag (kC c []),aP (kP p),aP (kP q)] [aI (qw c p q)]:=by
 refine wpG Tryz.func284 ((L6 ..).mpr ?_);refine⟨_,KQ hc hp,_,KQ hc hq,?_⟩;unfold qw;refine brb (fun h=>?_) (fun h=>?_)
 ·have h1:¬upB c p=upB c q:=by simpa using h
  rw[if_neg h1];refine zH (fun h2=>?_) (fun h2=>?_)
  ·rw[if_pos h2]
  ·rw[if_neg (by rw[h2];simp)]
 ·have h1:upB c p=upB c q:=by simpa using h
  rw[if_pos h1];refine⟨_,_,_,kM p,_,_,_,kM q,_,LH hp hq,?_⟩;refine zH (fun h2=>?_) (fun h2=>?_)
  ·rw[if_pos h2,KM (Bw _)]
  ·rw[if_neg (by rw[h2];simp)]
theorem KR {c:Ci} {f p q:P5} (hc:HC c) (hf:Gp f) (hp:Gp p) (hq:Gp q):qc CC 246 [.ag (kC c []),aP (kP f),aP (kP p),aP (kP q)] [aI (wV c f p q)]:=by
 refine wpG Tryz.func246 ((L7 ..).mpr ?_);refine⟨_,QB hc hp hf,_,QB hc hq hf,?_⟩;unfold wV;refine brb (fun h=>?_) (fun h=>?_)
 ·have h1:¬decide (qw c p f<0)=decide (qw c q f<0):=by simpa using h
  rw[if_neg h1];refine brd (fun h2=>?_) (fun h2=>?_)
  ·rw[if_pos h2]
  ·rw[if_neg h2]
 ·have h1:decide (qw c p f<0)=decide (qw c q f<0):=by simpa using h
  rw[if_pos h1];exact⟨_,QB hc hp hq,rfl⟩
theorem yW {p:P5} (hp:Gp p):qc CC 248 [aP (kP p)] [aP (kP (vZ p))]:=by
 refine wpG Tryz.func248 ((PK ..).mpr ?_);exact⟨_,Lz hp.1.1,_,Lz hp.1.2.1,rfl⟩
def mirC (c:Cu):Cu:={c with ci:=⟨-c.ci.x,c.ci.y,c.ci.q⟩,fr:=vZ c.fr,tt:=vZ c.tt,cw:=!c.cw}
theorem Ur {c:Cu} (hc:Gc c) (ha:c.arc=true):qc CC 247 [aC (kU c)] [aC (kU (mirC c))]:=by
 refine wpG Tryz.func247 ((Ug ..).mpr ?_);obtain⟨arc,ln,ci,cw,fr,tt,jk⟩:=c;obtain⟨hs,hf,ht⟩:=hc;subst ha;have hc:HC ci:=by rcases hs.2 with h|h;exact h.2.1;cases h.1
 exact⟨_,Lz hc.1,_,yW hf,_,yW ht,rfl⟩
theorem kO {c:Cu} {p q:P5} (hc:Gc c) (hp:Gp p) (hq:Gp q):qc CC 186 [aC (kU c),aP (kP p),aP (kP q)] [aI (zS c p q)]:=by
 have hm:=fun ha=>Ur hc ha
 refine wpG Tryz.func186 ((L8 ..).mpr ?_);obtain⟨arc,ln,ci,cw,fr,tt,jk⟩:=c;obtain⟨hs,hf,ht⟩:=hc;unfold zS;cases arc with
 |false=>
  refine brb (fun _=>?_) (fun h=>by cases h);refine⟨_,y7 hp hq,_,y7 hf ht,?_⟩;rw[if_neg (by simp)];refine brd (fun h=>?_) (fun h=>?_)
  ·rw[if_pos (show 0<jb fr tt from h),KM (lI _ _)]
  ·rw[if_neg (show ¬0<jb fr tt from h)]
 |true=>
  have hc:HC ci:=by rcases hs.2 with h|h;exact h.2.1;cases h.1
  refine brb (fun h=>by cases h) (fun _=>?_);rw[if_pos rfl];cases cw with
  |false=>refine brb (fun _=>?_) (fun h=>by cases h);exact⟨_,KR hc hf hp hq,rfl⟩
  |true=>refine brb (fun h=>by cases h) (fun _=>?_);have hc2:HC ⟨-ci.x,ci.y,ci.q⟩:=⟨hc.1.neg,hc.2.1,hc.2.2⟩;exact⟨_,hm rfl,_,yW hp,_,yW hq,_,KR hc2 hf.neg hp.neg hq.neg,rfl⟩
theorem vJ {c:Cu} {p:P5} (hc:Gc c) (hp:Gp p):qc CC 121 [aC (kU c),aP (kP p)] [aB (yU c p)]:=by
 refine wpG Tryz.func121 ((FJ ..).mpr ?_);have h1:=kO hc hc.2.1 hp;have h2:=kO hc hp hc.2.2;rw[←jv]at h1;rw[←kj]at h2;refine⟨_,vI hc.1 hp,?_⟩;unfold yU;refine zH (fun h=>?_) (fun h=>?_)
 ·rw[h,Aw];refine⟨_,h1,?_⟩;refine brd (fun h=>?_) (fun h=>?_)
  ·rw[decide_eq_true h,Aw];exact⟨_,h2,rfl⟩
  ·rw[decide_eq_false h];rfl
 ·rw[h];rfl
theorem lJ (c:Cu) (h:c.arc=false→c.cw=false):ck (kU (Lf c)) []= .bool c.arc::(rk (kU c).la (rk (kU c).lb (rk (kU c).lc (rk (kU c).cx (rk (kU c).cy (rk (kU c).cq (.bool (c.arc&&!c.cw)::pk (kP c.tt) (pk (kP c.fr) [])))))))):=by
 obtain⟨arc,ln,ci,cw,fr,tt,jk⟩:=c;cases arc<;>rfl
theorem Gs.rev {c:Cu} (h:Gs c):Gs (Lf c):=h
theorem Gc.rev {c:Cu} (h:Gc c):Gc (Lf c):=⟨h.1.rev,h.2.2,h.2.1⟩
theorem Zo {c d:Cu} (hc:Gs c) (hd:Gs d):qc CC 105 [aC (kU c),aC (kU d)] [aB (jw c d)]:=by
 refine wpG Tryz.func105 ((PL ..).mpr ?_);obtain⟨arc,ln,ci,cw,fr,tt,jk⟩:=c;obtain⟨a3,ln2,ci2,cw2,fr2,tt2,jk2⟩:=d;unfold jw;cases arc with
 |false=>
  have h1:HL ln:=by rcases hc.2 with h|h;cases h.1;exact h.2.1
  cases a3 with
  |false=>
   have h2:HL ln2:=by rcases hd.2 with h|h;cases h.1;exact h.2.1
   refine brb (fun h=>by cases h) (fun _=>brb (fun h=>by cases h) (fun _=>⟨_,YV h1 h2,rfl⟩))
  |true=>exact brb (fun _=>rfl) (fun h=>by cases h)
 |true=>
  have h1:HC ci:=by rcases hc.2 with h|h;exact h.2.1;cases h.1
  cases a3 with
  |false=>exact brb (fun _=>rfl) (fun h=>by cases h)
  |true=>
   have h2:HC ci2:=by rcases hd.2 with h|h;exact h.2.1;cases h.1
   refine brb (fun h=>by cases h) (fun _=>brb (fun _=>⟨_,y5 h1 h2,rfl⟩) (fun h=>by cases h))
theorem KS {c d:Cu} (hc:Gc c) (hd:Gc d):qc CC 58 [aC (kU c),aC (kU d)] [aB (eqC c d)]:=by
 refine wpG Tryz.func58 ((L9 ..).mpr ?_);have h1:=wW hc.2.1 hd.2.1;have h2:=wW hc.2.2 hd.2.2;rw[←jv,←jv]at h1;rw[←kj,←kj]at h2;refine⟨_,Zo hc.1 hd.1,?_⟩;unfold eqC;rw[WM,WM];refine zH (fun h=>?_) (fun h=>?_)
 ·rw[h,Aw];refine brb (fun h=>?_) (fun h=>?_)
  ·rw[h,Aw];refine⟨_,h1,?_⟩;refine zH (fun h=>?_) (fun h=>?_)
   ·rw[h,Aw];exact⟨_,h2,rfl⟩
   ·rw[h];rfl
  ·rw[h];rfl
 ·rw[h];rfl
theorem YX {c d:Cu} (hc:Gs c) (hd:Gs d):∃e,qc CC 202 [aC (kU c),aC (kU d)] [aL (kPs (Q5 c d)),aI e]:=by
 have go:∀e,wpF CC (qc CC) an0 Tryz.f202 [aC (kU c),aC (kU d)] (· =[aL (kPs (Q5 c d)),aI e])→qc CC 202 [aC (kU c),aC (kU d)] [aL (kPs (Q5 c d)),aI e]:=fun e h=>qu (anns:=an0) mixedT Tryz.func202 h
 obtain⟨arc,ln,ci,cw,fr,tt,jk⟩:=c;obtain⟨a3,a4,a5,cw2,fr2,tt2,jk2⟩:=d;unfold Q5 at *;cases arc with
 |false=>
  have h1:HL ln∧okLn ln:=by rcases hc.2 with h|h;cases h.1;exact h.2
  cases a3 with
  |false=>
   have h2:HL a4∧okLn a4:=by rcases hd.2 with h|h;cases h.1;exact h.2
   obtain⟨e,he⟩:=PT h1.1 h2.1;exact⟨e,go _ ((ki ..).mpr (brb (fun h=>by cases h) (fun _=>brb (fun h=>by cases h) (fun _=>brb (fun h=>by cases h) (fun _=>⟨_,_,he,rfl⟩)))))⟩
  |true=>
   have h2:HC a5:=by rcases hd.2 with h|h;exact h.2.1;cases h.1
   exact⟨0,go _ ((ki ..).mpr (brb (fun h=>by cases h) (fun _=>brb (fun h=>by cases h) (fun _=>brb (fun _=>⟨_,kN h1.1 h2 h1.2,rfl⟩) (fun h=>by cases h)))))⟩
 |true=>
  have h1:HC ci:=by rcases hc.2 with h|h;exact h.2.1;cases h.1
  cases a3 with
  |false=>
   have h2:HL a4∧okLn a4:=by rcases hd.2 with h|h;cases h.1;exact h.2
   exact⟨0,go _ ((ki ..).mpr (brb (fun _=>brb (fun h=>by cases h) (fun _=>brb (fun _=>⟨_,kN h2.1 h1 h2.2,rfl⟩) (fun h=>by cases h))) (fun h=>by cases h)))⟩
  |true=>
   have h2:HC a5:=by rcases hd.2 with h|h;exact h.2.1;cases h.1
   obtain⟨e,he⟩:=Uq h1 h2;exact⟨e,go _ ((ki ..).mpr (brb (fun _=>brb (fun _=>⟨_,_,he,rfl⟩) (fun h=>by cases h)) (fun h=>by cases h)))⟩
end Eng
end
