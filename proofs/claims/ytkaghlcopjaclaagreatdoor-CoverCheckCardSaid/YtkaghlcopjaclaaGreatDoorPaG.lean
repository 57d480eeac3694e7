import Derived.Test.YtkaghlcopjaclaaGreatDoorPaC
import Derived.Test.YtkaghlcopjaclaaGreatDoorPaF
import Derived.Test.YtkaghlcopjaclaaGreatDoorPaD
import Derived.Test.YtkaghlcopjaclaaGreatDoorEngE
import Derived.Test.YtkaghlcopjaclaaGreatDoorPaA
import Derived.Test.YtkaghlcopjaclaaGreatDoorPaE
import Derived.Laws.Bits64b
import Derived.Lib.Mul64
import Derived.KernelRfl
open Bool renaming and_eq_true->B0, true_and->Dd, eq_false_or_eq_true->F0, false_and->F2
open Eng.A renaming ag->Hu, c->Hv
open Eng.C66 renaming tt->Hx, fr->Hy, cy->HZ, cx->I2, cq->I3, cw->J3
open Eng.D renaming bool->J4, sl->J9, int->Lm
open Eng.D.int renaming injEq->Lr
open Eng.P20 renaming c->Ls, v->Lv, u->M2, y->M3, x->No
open Go.IntKind renaming wrap->Pl, signed->P1, bits->Sz, u64->Ts
open Go.Lib renaming half_mul_le->T1
open Int renaming ofNat->U0, ofNat_eq_natCast->U3, toNat->V1, tmod->W0, natCast_mul->W1, toNat_natCast->W2, lt_or_le->W3, natAbs_neg->W4, fdiv->aE, zero_sub->be, tdiv->bk
open LawfulBEq renaming eq_of_beq->bv
open List renaming take_succ_eq_append_getElem->bx, getElem_mem->cb, any_eq_true->cc, length->cf, take_length->cg, length_replicate->cp, mem_singleton->cv, mem_append->c3
open List.cons renaming injEq->c4
open Nat renaming pow_lt_pow_right->c7, le_refl->cH, lt_trans->cL, pow_le_pow_right->dc, lt_of_le_of_lt->dk, lt_or_ge->dn, and_two_pow_sub_one_eq_mod->dv, zero_le->dy, lt_of_lt_of_le->dA, mul_le_mul->ea, beq->eb
open Rat renaming intCast_neg->ec, mul_comm->eg, floor_le->el
set_option maxRecDepth 1000000
section
namespace Eng
open Go Go.Proofs Rl
theorem Iy(x:Nat)(r:List Nat):val r<=val (x::r):=by
 show val r<=x+1000000000*val r;omega
theorem Vd:∀(l:List Nat) (k:Nat),val (l.drop k)<=val l
 |[],k=>by simp
 |x::r,0=>cH _
 |x::r,k+1=>Nat.le_trans (Vd r k) (Iy x r)
def bV (z:Int):Int×Bool:=if-9223372036854775808<=z/\z<=9223372036854775807 then(z,true)else(0,false)
theorem TA{z:Int}(h1: -9223372036854775808<=z)(h2:z<=9223372036854775808):Sm z:=by
 unfold Sm VX;have h3:z.natAbs<1000000000^3:=by omega
 exact dA h3 (B5 (by omega) (by omega))
theorem rh{z:Int}(hz:Sm z):qa CC 294 [qM z] [.c (.int .i64 (bV z).1),.c (.bool (bV z).2)]:=by
 have hlen:=hz.len;refine qo (anns:=λ_=>⟨[.slot 4 (.int .u64 0),.slot 5 (.int .i64 0)],[],λ_ ds=> -9223372036854775808<=z/\z<=9223372036854775807/\∃k:Nat,k<=(lim z.natAbs).length/\ds=[.int .u64 (val ((lim z.natAbs).drop k):Int),.int .i64 ((k:Int)-1)],λds=>(toI (nth .undef ds 1)+1).toNat⟩) mixedT Tryz.func294 ?_;have s1:Sm (-9223372036854775808):=TA (by omega) (by omega);have s2:Sm 9223372036854775807:=TA (by omega) (by omega);have h1:=up (xv (n:= -9223372036854775808) (by omega) (by omega));have h2:=up (xv (n:=9223372036854775807) (by omega) (by omega));have c1:=up (yb hz s1);have c2:=up (yb hz s2);rw[xn]at h1 h2 c1 c2;rw[xn (-9223372036854775808)]at c1;rw[xn 9223372036854775807]at c2;rw[xn,Ed];have l1:QA z (-9223372036854775808)<0↔z< -9223372036854775808:=by unfold QA;split<;>(try split)<;>omega
 have l2:QA z 9223372036854775807>0↔9223372036854775807<z:=by unfold QA;split<;>(try split)<;>omega
 unfold bV;refine⟨_,_,h1,_,c1,brd (λh=>?_) (λh=>⟨_,_,h2,_,c2,brd (λg=>?_) (λg=>?_)⟩)⟩
 .have:=l1.1 h;rw[if_neg (by omega)]
 .have:=l2.1 g;rw[if_neg (by omega)]
 .have h:=mt l1.2 h;have g:=mt l2.2 g;rw[if_pos ⟨by omega,by omega⟩];have hl:=qe z.natAbs;have hv:=qh z.natAbs;generalize lim z.natAbs=l at *;simp only[U3,qg];refine⟨⟨by omega,by omega,l.length,cH _,by rw[List.drop_length,xF];rfl⟩,?_⟩;rintro n m ⟨_,_,k,hk,he⟩;simp only[c4,Lr,true_and,and_true]at he;obtain⟨rfl,rfl⟩:=he;refine brd (λh=>?_) (λh=>?_)
  .have a3:k-1<l.length:=by omega
   have ht:((k:Int)-1).toNat=k-1:=by omega
   rw[ht];have hd:val (l.drop (k-1))=l[k-1]+1000000000*val (l.drop k):=by rw[List.drop_eq_getElem_cons a3,show k-1+1=k by omega];rfl
   have hle:=Vd l (k-1);have hx:=hl.get a3;have hw:Pl .u64 (Pl .u64 ((val (l.drop k):Int)*1000000000)+Pl .u64 (l[k-1]:Int))=(val (l.drop (k-1)):Int):=by rw[xV (n:=(val (l.drop k):Int)*1000000000),xV (n:=(l[k-1]:Int)),xV];omega
   have a4:Pl .i64 ((k:Int)-1-1)=((k-1:Nat):Int)-1:=by rw[xF];omega
   refine⟨⟨by omega,by omega,qx a3⟩,_,qy a3,⟨by omega,by omega,k-1,by omega,by rw[hw,a4]⟩,?_⟩;rw[a4];simp only[nth,toI];omega
  .have a3:k=0:=by omega
   subst a3;rw[List.drop_zero,hv];by_cases hn:z<0
   .rw[decide_eq_true hn];refine xG (λ_=>?_) (λh=>by simp at h);have e:Pl .i64 (Pl .u64 (0-((z.natAbs:Nat):Int)))=z:=by simp[Pl,Sz,P1];omega
    rw[e]
   .rw[decide_eq_false hn];refine xG (λh=>by simp at h) (λ_=>?_);have e:Pl .i64 ((z.natAbs:Nat):Int)=z:=by rw[xF];omega
    rw[e]
theorem nw{a:Nat}(ha:a<1000000000^190):qa CC 343 [qM (a:Int)] [qM (qI a:Int),.c (.int .i64 0)]:=by
 refine qo (anns:=λ_=>⟨[.box 5 [(.bool false),(.slice none 0 0)]],[],λ_ ds=>∃x:Nat,0<x/\x<1000000000^191/\ds=cI (x:Int)/\TQ a x=qI a,msZ⟩) mixedT Tryz.func343 ?_;rw[qH,Ix,Wz];have hL:(lim a).length<=190:=qq ha;have hav:a<10^(9*(lim a).length):=by
  have:=qQ (qe a)
  rwa [qh,m8]at this
 refine xG (λh=>by simp at h) (λ_=>?_);refine brb (λh=>?_) (λh=>?_)
 .have h0:lim a=[]:=by apply List.eq_nil_of_length_eq_zero;have:=bv h;simp only[U3]at this;omega
  obtain rfl:=vX.1 h0;have:qI 0=0:=by unfold qI;rw[TQ];rfl
  rw[this];rfl
 .have hp:0<(lim a).length:=by
   rcases Nat.eq_zero_or_pos (lim a).length with h0|h0
   .rw[h0]at h;simp at h
   .exact h0
  have ap:0<a:=qB.1 hp;have hk:Pl .i64 (bk (Pl .i64 ((U0 (lim a).length)+1)) 2)=(((lim a).length+1)/2:Nat):=by simp only[U3];rw[xF (n:=(((lim a).length:Nat):Int)+1),Int.tdiv_eq_ediv_of_nonneg (by omega),xF];omega
  rw[hk,W2,Oi];generalize hkk:((lim a).length+1)/2=k at *;have h2:=up (xv (n:=2) (by omega) (by omega));have hg:=up (VU false (Yh k) (by rw[List.length_append,cp];simp;omega));rw[Oj,F2]at hg;have a3:1000000000^k<1000000000^191:=c7 (by omega) (by omega);refine⟨by omega,⟨by omega,by omega,by unfold room;omega⟩,⟨by rw[cp];unfold room;omega,λe he=>by simp at he;subst he;rfl⟩,_,_,hg,_,_,h2,⟨1000000000^k,Nat.pow_pos (by omega),a3,by rw[Zf],?_⟩,?_⟩
  .rw[m8,<-hkk];exact Ya hav
  .rintro b es ⟨x,hx0,hx,he,hn⟩;obtain⟨rfl,rfl⟩:=m7 he;have sx:Sm (x:Int):=jj (cL hx (c7 (by omega) (by omega)));have sa:Sm (a:Int):=jj (cL ha (c7 (by omega) (by omega)));have hq:=vo JB sa sx (by omega);have eq1:(a:Int)/(x:Int)=((a/x:Nat):Int):=rfl;have eq2:(a:Int)%(x:Int)=((a%x:Nat):Int):=rfl;rw[eq1,eq2]at hq;have hqa:a/x<=a:=Nat.div_le_self _ _;have sq:Sm ((a/x:Nat):Int):=jj (dk hqa (cL ha (c7 (by omega) (by omega))));have a5:=up (ZA sx sq);have e1:(x:Int)+((a/x:Nat):Int)=((x+a/x:Nat):Int):=by omega
   rw[e1]at a5;have hb:x+a/x<1000000000^200:=by have h3:1000000000^190<=1000000000^191:=dc (by omega) (by omega);have h4:1000000000^191*1000000000=1000000000^192:=(Nat.pow_succ ..).symm;have h5:1000000000^192<=1000000000^200:=dc (by omega) (by omega);omega
   have a4:=vo JB (jj hb) (jj (n:=2) (by decide)) (by omega);have eq3:((x+a/x:Nat):Int)/((2:Nat):Int)=(((x+a/x)/2:Nat):Int):=rfl;have eq4:((x+a/x:Nat):Int)%((2:Nat):Int)=(((x+a/x)%2:Nat):Int):=rfl;rw[eq3,eq4]at a4;have sy:Sm (((x+a/x)/2:Nat):Int):=jj (by omega);have hc:=up (yb sy sx);rw[NP]at hn;generalize hy:(x+a/x)/2=y at *;rw[qH,qH,qH,qH]at hq;rw[qH,qH,qH]at a5;rw[qH,qH,qH,qH]at a4;rw[qH,qH]at hc;refine⟨_,_,_,_,_,hq,_,_,a5,_,_,_,_,_,a4,_,hc,?_⟩;unfold QA;refine brd (λh3=>?_) (λh3=>?_)
   .have:x<=y:=by
     rcases dn y x with h4|h4
     .rw[if_pos (by omega)]at h3;omega
     .exact h4
    rw[if_pos this]at hn;rw[<-hn,qH]
   .have h4:y<x:=by
     rcases dn y x with h4|h4
     .exact h4
     .exfalso;apply h3;rw[if_neg (by omega)];split<;>omega
    rw[if_neg (by omega)]at hn;have yp:0<y:=by rw[<-hy];exact NM ap hx0
    refine⟨⟨y,yp,by omega,(Zf y).symm,hn⟩,?_⟩;have m1:=GB y;have m2:=GB x;rw[Zf]at m1 m2;rw[m1,m2];exact h4
theorem fdN(a m:Nat):aE (a:Int) (m:Int)=((a/m:Nat):Int):=by
 rw[Int.fdiv_eq_ediv_of_nonneg _ (by omega)];exact(Int.natCast_ediv a m).symm
theorem fd32(a:Nat):aE (a:Int) 4294967296=((a/4294967296:Nat):Int):=fdN a 4294967296
theorem fd16(a:Nat):aE (a:Int) 65536=((a/65536:Nat):Int):=fdN a 65536
theorem Ef(a:Nat)(ha:a<18446744073709551616):bits .and .u64 (a:Int) 4294967295=((a%4294967296:Nat):Int):=by
 have h:=bits_and_u64_nat a 4294967295 ha (by omega);have e:a&&&4294967295=a%4294967296:=dv a 32;rw[e]at h;exact h
theorem ny(a:Nat)(ha:a<18446744073709551616):bits .and .u64 (a:Int) 65535=((a%65536:Nat):Int):=by
 have h:=bits_and_u64_nat a 65535 ha (by omega);have e:a&&&65535=a%65536:=dv a 16;rw[e]at h;exact h
theorem or48{a b:Nat}(ha:a<65536)(hb:b<281474976710656):bits .or .u64 (Pl .u64 ((a:Int)*281474976710656)) (b:Int)=((a*281474976710656+b:Nat):Int):=by
 rw[xV];have e:(a:Int)*281474976710656=((a*281474976710656:Nat):Int):=by omega
 rw[e,bits_or_u64_nat _ _ (by omega) (by omega)];have h:=Nat.two_pow_add_eq_or_of_lt (i:=48) (b:=b) hb a;rw[Nat.mul_comm a,show(281474976710656:Nat)=2^48 from rfl,<-h]
theorem nz{x y:Nat}(hx:x<18446744073709551616)(hy:y<18446744073709551616):qa CC 290 [.c (.int .u64 (x:Int)),.c (.int .u64 (y:Int))] [.c (.int .u64 ((x*y/18446744073709551616:Nat):Int)),.c (.int .u64 ((x*y%18446744073709551616:Nat):Int))]:=by
 refine wpG Tryz.func290 ((Ee ..).mpr ?_);obtain⟨bd,bt,bw,hhi⟩:=Go.Lib.mul64_hi x y hx hy;have ba:=T1 (a:=x/4294967296) (b:=y/4294967296) (by omega) (by omega);have bb:=T1 (a:=x/4294967296) (b:=y%4294967296) (by omega) (by omega);have bc:=T1 (a:=x%4294967296) (b:=y/4294967296) (by omega) (by omega);have wN:∀a:Nat,a<18446744073709551616->Ts.wrap (a:Int)=(a:Int):=λa h=>xV
 have wM:∀a:Nat,Ts.wrap (a:Int)=((a%18446744073709551616:Nat):Int):=λa=>by simp[Pl,Sz,P1]
 have a4:∀a b:Nat,(a:Int)*(b:Int)=((a*b:Nat):Int):=λa b=>(W1 a b).symm
 have a3:∀a b:Nat,(a:Int)+(b:Int)=((a+b:Nat):Int):=λa b=>(Int.natCast_add a b).symm
 have bb':x/4294967296*(y%4294967296)<18446744073709551616:=by omega
 have bc':x%4294967296*(y/4294967296)<18446744073709551616:=by omega
 have ba':x/4294967296*(y/4294967296)<18446744073709551616:=by omega
 have bh1:x/4294967296*(y/4294967296)+(x/4294967296*(y%4294967296)+x%4294967296*(y%4294967296)/4294967296)/4294967296<18446744073709551616:=by omega
 have bh:x/4294967296*(y/4294967296)+(x/4294967296*(y%4294967296)+x%4294967296*(y%4294967296)/4294967296)/4294967296+((x/4294967296*(y%4294967296)+x%4294967296*(y%4294967296)/4294967296)%4294967296+x%4294967296*(y/4294967296))/4294967296<18446744073709551616:=by omega
 refine⟨by omega,by omega,by omega,by omega,by omega,?_⟩;simp only[fd32,Ef x hx,Ef y hy,a4,a3,wN _ bd,wN _ bb',wN _ bt,Ef _ bt,wN _ bc',wN _ bw,wN _ ba',wN _ bh1,wN _ bh,wM (x*y)];rw[hhi]
end Eng
end
section
namespace Eng
open Go Go.Proofs Rl
set_option maxRecDepth 100000
theorem cAbs{x:Int}(hx:FB x):qa CC 329 [.c (.int .i64 x)] [.c (.int .u64 (x.natAbs:Int))]:=by
 refine wpG Tryz.func329 ((eV ..).mpr ?_);unfold FB at hx;refine brd (λh=>?_) (λh=>?_)
 .have e:Pl .u64 (0-Pl .u64 x)=(x.natAbs:Int):=by simp[Pl,Sz,P1];omega
  rw[e]
 .have e:Pl .u64 x=(x.natAbs:Int):=by rw[xV];omega
  rw[e]
theorem Eg{x y:Int}(h:decide (x<0)=decide (y<0)):x*y=((x.natAbs*y.natAbs:Nat):Int):=by
 rw[<-Int.natAbs_mul];have h:=decide_eq_decide.1 h;have h2:0<=x*y:=by
  rcases W3 x 0 with k|k
  .exact Int.mul_nonneg_of_nonpos_of_nonpos (by omega) (by have:=h.1 k;omega)
  .exact Int.mul_nonneg k (by
    rcases W3 y 0 with l|l
    .have:=h.2 l;omega
    .exact l)
 omega
theorem Iz{x y:Int}(h:¬decide (x<0)=decide (y<0)):x*y= -((x.natAbs*y.natAbs:Nat):Int):=by
 have h1:decide (-x<0)=decide (y<0)\/x=0:=by
  by_cases k:x=0
  .exact .inr k
  .refine .inl (decide_eq_decide.2 ?_);have h:¬(x<0↔y<0):=λe=>h (decide_eq_decide.2 e)
   constructor<;>intro l
   .rcases W3 y 0 with m|m
    .exact m
    .exact absurd ⟨λa=>by omega,λa=>by omega⟩ h
   .rcases W3 x 0 with m|m
    .exact absurd ⟨λ_=>l,λ_=>m⟩ h
    .omega
 rcases h1 with h1|h1
 .have:=Eg h1;rw[Int.neg_mul,W4]at this;omega
 .subst h1;simp
theorem nq{q:Nat}(k:¬q>2305843009213693952):¬((q:Int)>2305843009213693952):=by omega
theorem yq{q:Nat}(k:q>2305843009213693952):(q:Int)>2305843009213693952:=by omega
theorem ne0{a:Nat}{X:Prop}(k:a=0)(h:((a:Int) !=0)=true):X:=by subst k;simp at h
theorem eq0{a:Nat}{X:Prop}(k:¬a=0)(h:((a:Int) !=0)=false):X:=by
 simp at h;omega
theorem ar0{P q:Nat}(hq:P/65536=q)(hr:P%65536=0):(q:Int)*65536<=(P:Int)/\(P:Int)<=(q:Int)*65536:=by omega
theorem ar1{P q:Nat}(hq:P/65536=q):(q:Int)*65536<=(P:Int)/\(P:Int)<=((q:Int)+1)*65536:=by omega
theorem ar2{P q:Nat}(hq:P/65536=q)(hr:P%65536=0): -(q:Int)*65536<= -(P:Int)/\ -(P:Int)<= -(q:Int)*65536:=by omega
theorem ar3{P q:Nat}(hq:P/65536=q): -((q:Int)+1)*65536<= -(P:Int)/\ -(P:Int)<= -(q:Int)*65536:=by omega
theorem wq1{q:Nat}(k:¬q>2305843009213693952):Pl .i64 (q:Int)=q:=xF
theorem wq2{q:Nat}(k:¬q>2305843009213693952):Pl .i64 ((q:Int)+1)=q+1:=xF
theorem wq3{q:Nat}(k:¬q>2305843009213693952):Pl .i64 (0-(q:Int))= -q:=by rw[xF];omega
theorem wq4{q:Nat}(k:¬q>2305843009213693952):Pl .i64 (0-((q:Int)+1))= -(q+1):=by rw[xF];omega
theorem oJ{q:Nat}{l u Z:Int}(_:l= -(q+1)/\u= -q\/l= -q/\u= -q\/l=q/\u=q+1\/l=q/\u=q)(hb:l*65536<=Z/\Z<=u*65536)(hk:(decide (l>= -2305843009213693952)&&decide (u<=2305843009213693952))=true):FB l/\FB u/\l<=u/\l*65536<=Z/\Z<=u*65536:=by
 simp only[B0,decide_eq_true_eq]at hk;unfold FB;omega
theorem oK(l u:Int):br (toB (J4 (decide (l>= -2305843009213693952)))) ([Hv (.int .i64 l),Hv (.int .i64 u),Hv (.bool (decide (u<=2305843009213693952)))]=[.c (.int .i64 l),.c (.int .i64 u),eOk (decide (l>= -2305843009213693952)&&decide (u<=2305843009213693952))])
 ([Hv (.int .i64 l),Hv (.int .i64 u),Hv (.bool false)]=[.c (.int .i64 l),.c (.int .i64 u),eOk (decide (l>= -2305843009213693952)&&decide (u<=2305843009213693952))]):=by
 refine brd (λh=>?_) (λh=>?_)
 .rw[decide_eq_true h,Dd];rfl
 .rw[decide_eq_false h,F2];rfl
theorem Hf{x y:Int}(hx:FB x)(hy:FB y):∃l u ok,qa CC 297 [.c (.int .i64 x),.c (.int .i64 y)] [.c (.int .i64 l),.c (.int .i64 u),eOk ok]/\(ok=true->FB l/\FB u/\l<=u/\l*65536<=x*y/\x*y<=u*65536):=by
 have h1:=cAbs hx;have h2:=cAbs hy;have h3:=nz (x:=x.natAbs) (y:=y.natAbs) (by unfold FB at hx;omega) (by unfold FB at hy;omega);have s1:= @Eg x y;have s2:= @Iz x y;generalize x.natAbs*y.natAbs=P at h3 s1 s2;have e1:=fd16 (P/18446744073709551616);have e2:=fd16 (P%18446744073709551616);have e4:bits .and .u64 ((P%18446744073709551616:Nat):Int) 65535=((P%65536:Nat):Int):=by rw[ny _ (by omega)];congr 1;omega
 by_cases k1:¬P/18446744073709551616/65536=0
 .refine⟨0,0,false,?_,by simp⟩;refine wpG Tryz.func297 ((kN ..).mpr ?_);refine⟨_,h1,_,h2,_,_,h3,by omega,?_⟩;rw[e1];exact brb (λ_=>rfl) (λh=>eq0 k1 h)
 have k1:=Classical.not_not.1 k1;have e3:bits .or .u64 (Pl .u64 (((P/18446744073709551616:Nat):Int)*281474976710656)) (((P%18446744073709551616/65536:Nat)):Int)=((P/65536:Nat):Int):=by rw[or48 (by omega) (by omega)];congr 1;omega
 by_cases k2:P/65536>2305843009213693952
 .refine⟨0,0,false,?_,by simp⟩;refine wpG Tryz.func297 ((kN ..).mpr ?_);refine⟨_,h1,_,h2,_,_,h3,by omega,?_⟩;simp only[e1,e2,e3,e4];exact brb (λh=>ne0 k1 h) (λ_=>⟨by decide,by decide,brd (λ_=>rfl) (λh=>absurd (yq k2) h)⟩)
 generalize hq:P/65536=q at *;have w1:=wq1 k2;have w2:=wq2 k2;have w3:=wq3 k2;have w4:=wq4 k2;have k3:=nq k2;by_cases hr:P%65536=0
 .by_cases hs:decide (x<0)=decide (y<0)
  .refine⟨q,q,_,?_,oJ (.inr (.inr (.inr ⟨rfl,rfl⟩))) (by rw[s1 hs];exact ar0 hq hr)⟩;refine wpG Tryz.func297 ((kN ..).mpr ?_);refine⟨_,h1,_,h2,_,_,h3,by omega,?_⟩;simp only[e1,e2,e3,e4,w1,w2,w3,w4];refine brb (λh=>ne0 k1 h) (λ_=>⟨by decide,by decide,brd (λh=>absurd h k3) (λ_=>brb (λh=>ne0 hr h) (λ_=>brb (λh=>by rw[hs]at h;simp at h) (λ_=>oK _ _)))⟩)
  .refine⟨-q, -q,_,?_,oJ (.inr (.inl ⟨rfl,rfl⟩)) (by rw[s2 hs];exact ar2 hq hr)⟩;refine wpG Tryz.func297 ((kN ..).mpr ?_);refine⟨_,h1,_,h2,_,_,h3,by omega,?_⟩;simp only[e1,e2,e3,e4,w1,w2,w3,w4];refine brb (λh=>ne0 k1 h) (λ_=>⟨by decide,by decide,brd (λh=>absurd h k3) (λ_=>brb (λh=>ne0 hr h) (λ_=>brb (λ_=>oK _ _) (λh=>absurd (by simpa using h) hs)))⟩)
 .by_cases hs:decide (x<0)=decide (y<0)
  .refine⟨q,q+1,_,?_,oJ (.inr (.inr (.inl ⟨rfl,rfl⟩))) (by rw[s1 hs];exact ar1 hq)⟩;refine wpG Tryz.func297 ((kN ..).mpr ?_);refine⟨_,h1,_,h2,_,_,h3,by omega,?_⟩;simp only[e1,e2,e3,e4,w1,w2,w3,w4];refine brb (λh=>ne0 k1 h) (λ_=>⟨by decide,by decide,brd (λh=>absurd h k3) (λ_=>brb (λ_=>brb (λh=>by rw[hs]at h;simp at h) (λ_=>oK _ _)) (λh=>eq0 hr h))⟩)
  .refine⟨-(q+1), -q,_,?_,oJ (.inl ⟨rfl,rfl⟩) (by rw[s2 hs];exact ar3 hq)⟩;refine wpG Tryz.func297 ((kN ..).mpr ?_);refine⟨_,h1,_,h2,_,_,h3,by omega,?_⟩;simp only[e1,e2,e3,e4,w1,w2,w3,w4];refine brb (λh=>ne0 k1 h) (λ_=>⟨by decide,by decide,?_⟩);refine brd (λh=>absurd h k3) (λ_=>?_);refine brb (λ_=>?_) (λh=>eq0 hr h);refine brb (λ_=>?_) (λh=>absurd (by simpa using h) hs);generalize-((q:Int)+1)=l;generalize-(q:Int)=u;exact oK l u
end Eng
end
section
namespace Eng
open Go Go.Proofs Rl
set_option maxRecDepth 100000
theorem brF{X Y:Prop}(h:X):br (toB (J4 !false)) X Y:=h
theorem brT{X Y:Prop}(h:Y):br (toB (J4 !true)) X Y:=h
def IvB (a b:Int):Prop:=FB a/\FB b/\a<=b
theorem IvB.zero:IvB 0 0:=⟨⟨by omega,by omega⟩,⟨by omega,by omega⟩,by omega⟩
theorem I4{a b:Int}(hab:a<=b):∃c d ok,qa CC 296 [.c (.int .i64 a),.c (.int .i64 b)] [eIv c d,eOk ok]/\IvB c d/\(ok=true->c=a/\d=b):=by
 obtain⟨c,d,ok,h1,h2,h3⟩:=fe (a:=a) (b:=b);refine⟨c,d,ok,h1,?_,λh=>⟨(h2 h).1,(h2 h).2.1⟩⟩;cases ok with
 |true=>obtain⟨rfl,rfl,k1,k2⟩:=h2 rfl;exact⟨⟨k1,by omega⟩,⟨by omega,k2⟩,hab⟩
 |false=>obtain⟨rfl,rfl⟩:=h3 rfl;exact .zero
theorem I5{a0 b0 a1 b1:Int}(h:IvB a0 b0)(k:IvB a1 b1):∃c d ok,qa CC 245 [eIv a0 b0,eIv a1 b1] [eIv c d,eOk ok]/\IvB c d/\(ok=true->∀x y,inI a0 b0 x->inI a1 b1 y->inI c d (x+y)):=by
 obtain⟨c,d,ok,h1,h2,h3⟩:=I4 (a:=a0+a1) (b:=b0+b1) (by have:=h.2.2;have:=k.2.2;omega);refine⟨c,d,ok,?_,h2,λe x y hx hy=>?_⟩
 .obtain⟨h,h',_⟩:=h;obtain⟨k,k',_⟩:=k;unfold FB at h h' k k';refine wpG Tryz.func245 ((eR ..).mpr ?_);rw[xF (n:=a0+a1),xF (n:=b0+b1)];exact⟨_,_,_,h1,rfl⟩
 .obtain⟨rfl,rfl⟩:=h3 e;exact eZ hx hy
theorem ri(a b:Int):∃n ok,qa CC 247 [eIv a b] [eI n,eOk ok]/\(ok=true->∀x,inI a b x->n=sg x):=by
 by_cases h1:a>0
 .refine⟨1,true,?_,λ_ x hx=>(XW (fc hx h1)).symm⟩;refine wpG Tryz.func247 ((JW ..).mpr ?_);exact brd (λ_=>rfl) (λk=>absurd h1 k)
 by_cases h2:b<0
 .refine⟨-1,true,?_,λ_ x hx=>(Wi (A9 hx h2)).symm⟩;refine wpG Tryz.func247 ((JW ..).mpr ?_);exact brd (λk=>absurd k h1) (λ_=>brd (λ_=>rfl) (λk=>absurd h2 k))
 by_cases h3:a=0
 .refine⟨0,b==0,?_,λe x hx=>?_⟩
  .refine wpG Tryz.func247 ((JW ..).mpr ?_);exact brd (λk=>absurd k h1) (λ_=>brd (λk=>absurd k h2) (λ_=>brb (λ_=>rfl) (λk=>by subst h3;simp at k)))
  .have e:=bv e;subst h3 e;rw[AA hx,zL]
 .refine⟨0,false,?_,by simp⟩;refine wpG Tryz.func247 ((JW ..).mpr ?_);exact brd (λk=>absurd k h1) (λ_=>brd (λk=>absurd k h2) (λ_=>brb (λk=>absurd (bv k) h3) (λ_=>rfl)))
theorem zP{x:Rat}{k:Nat}(hx:Hz k x)(h:k<300000:=by omega):∃c d ok,qa CC 244 [.ag (rk (q4 x) [])] [eIv c d,eOk ok]/\IvB c d/\(ok=true->inI c d (ofR x)):=by
 have h0:=bInt (n:=65536) (by omega) (by omega);have hz:Hz 5 ((65536:Int):Rat):=Hz.int (by decide);have hm:=hx.mul hz (l:=k+5);have h1:=TT hx hz (by omega);have h2:=bf hm (by omega);have h3:=oH hm (by omega);have h4:=bf hm.neg (by omega);have e:x*((65536:Int):Rat)=x*65536:=by rfl
 rw[e]at h1 h2 h3 h4 hm;have f1:=el (x*65536);have f2:=el (-(x*65536));have sf:∀{y:Rat} {j:Nat},Hz j y->j<300010->Sm y.floor:=λ{y j} hy hj=>by have hs:=(hy.sr (by omega)).1.sm;rw[Rat.floor_def];exact dk (Int.natAbs_ediv_le_natAbs _ _) hs
 have s1:=sf hm (by omega);have s2:=sf hm.neg (by omega);generalize (x*65536).floor=f at *;generalize (-(x*65536)).floor=g at *;have s3:Sm (-g):=by unfold Sm at s2 ⊢;rw[W4];exact s2
 have h5:=up (Gf s2);have g1:=rh s1;have g2:=rh s3;rw[xn]at h2 h4 h5 g1 g2;rw[xn]at h5;have fg:f<= -g:=by
  have:(f:Rat)<=((-g:Int):Rat):=by rw[ec];grind
  exact Rat.intCast_le_intCast.1 this
 by_cases o1: -9223372036854775808<=f/\f<=9223372036854775807
 .have i1:bV f=(f,true):=if_pos o1;rw[i1]at g1;by_cases o2: -9223372036854775808<= -g/\ -g<=9223372036854775807
  .have i2:bV (-g)=(-g,true):=if_pos o2;rw[i2]at g2;obtain⟨c,d,ok,p1,p2,p3⟩:=I4 fg;refine⟨c,d,ok,?_,p2,λe=>?_⟩
   .refine wpG Tryz.func244 ((Xa ..).mpr ?_);exact⟨_,h0,_,h1,_,_,h2,_,_,g1,_,h3,_,_,h4,_,_,h5,_,_,g2,brT (brT ⟨_,_,_,p1,rfl⟩)⟩
   .obtain⟨rfl,rfl⟩:=p3 e;exact fa f1 (by rw[ec];grind)
  .have i2:bV (-g)=(0,false):=if_neg o2;rw[i2]at g2;refine⟨0,0,false,?_,.zero,by simp⟩;refine wpG Tryz.func244 ((Xa ..).mpr ?_);exact⟨_,h0,_,h1,_,_,h2,_,_,g1,_,h3,_,_,h4,_,_,h5,_,_,g2,brT (brF rfl)⟩
 .have i1:bV f=(0,false):=if_neg o1;rw[i1]at g1;refine⟨0,0,false,?_,.zero,by simp⟩;refine wpG Tryz.func244 ((Xa ..).mpr ?_);exact⟨_,h0,_,h1,_,_,h2,_,_,g1,_,h3,_,_,h4,_,_,h5,_,_,g2,brF rfl⟩
end Eng
end
section
namespace Eng
open Go Go.Proofs Rl
set_option maxRecDepth 100000
theorem OZ{a b:Nat}(h:a<b*b):qI a<b:=by
 rcases dn (qI a) b with k|k
 .exact k
 .have:=ea k k;have:=(jY a).1;omega
theorem bW{n:Int}(h0:0<=n)(hn:FB n):qa CC 328 [eI n] [eI (qI (n.toNat*65536):Int),eOk (decide (qI (n.toNat*65536)*qI (n.toNat*65536)=n.toNat*65536))]:=by
 unfold FB at hn;obtain⟨m,rfl⟩:=Int.eq_ofNat_of_zero_le h0;rw[W2];have hb:m*65536<549755813889*549755813889:=by omega
 have hr:=OZ hb;have h1:=up (xv (n:=(m:Int)) (by omega) (by omega));have h2:=up (xv (n:=65536) (by omega) (by omega));have sm1:Sm (m:Int):=TA (by omega) (by omega);have sm2:Sm 65536:=TA (by omega) (by omega);have h3:=up (wR sm1 sm2);have e3:(m:Int)*65536=((m*65536:Nat):Int):=by omega
 rw[e3]at h3;have hp:m*65536<1000000000^190:=dA (show m*65536<1000000000^3 by omega) (dc (by omega) (by omega));have h4:=nw hp;have a3:Sm (qI (m*65536):Int):=TA (by omega) (by omega);have h5:=rh a3;have i5:bV (qI (m*65536):Int)=((qI (m*65536):Int),true):=if_pos ⟨by omega,by omega⟩;rw[i5]at h5;have h6:=up (wR a3 a3);have e6:(qI (m*65536):Int)*(qI (m*65536):Int)=((qI (m*65536)*qI (m*65536):Nat):Int):=(W1 _ _).symm;rw[e6]at h6;have hle:=(jY (m*65536)).1;have sms:Sm ((m*65536:Nat):Int):=jj (cL hp (c7 (by omega) (by omega)));have smq:Sm ((qI (m*65536)*qI (m*65536):Nat):Int):=jj (dk hle (cL hp (c7 (by omega) (by omega))));have h7:=up (yb smq sms);have e7:(QA ((qI (m*65536)*qI (m*65536):Nat):Int) ((m*65536:Nat):Int)==0)=decide (qI (m*65536)*qI (m*65536)=m*65536):=by generalize qI (m*65536)*qI (m*65536)=a;rw[Bool.eq_iff_iff,beq_iff_eq,decide_eq_true_eq];unfold QA;split<;>(try split)<;>omega
 refine wpG Tryz.func328 ((C4 ..).mpr ?_);refine⟨_,_,h1,_,_,h2,_,_,h3,_,_,_,h4,_,_,h5,_,_,h6,_,h7,?_⟩;rw[e7];rfl
theorem gE{a b:Int}(h:IvB a b):∃c d ok,qa CC 292 [eIv a b] [eIv c d,eOk ok]/\IvB c d/\(ok=true->∀q:Rat,0<=q->inI a b (ofR q)->inI c d (jw q)):=by
 obtain⟨ha,hb,hab⟩:=h;by_cases h0:b<0
 .refine⟨0,0,false,?_,.zero,by simp⟩;refine wpG Tryz.func292 ((G3 ..).mpr ?_);exact brd (λ_=>rfl) (λk=>absurd h0 k)
 have hm:FB (max a 0):=by unfold FB at ha ⊢;omega
 have r1:=bW (n:=max a 0) (by omega) hm;have r2:=bW (n:=b) (by omega) hb;have q1:=jY ((max a 0).toNat*65536);have q2:=jY (b.toNat*65536);have a3:(max a 0).toNat*65536<=b.toNat*65536:=by omega
 obtain⟨N,hN⟩:∃N,N=(max a 0).toNat*65536:=⟨_,rfl⟩;obtain⟨M,hM⟩:∃M,M=b.toNat*65536:=⟨_,rfl⟩;rw[<-hN]at r1 q1 a3;rw[<-hM]at r2 q2 a3;have mono:qI N<=qI M:=by
  rcases dn (qI M) (qI N)with k|k
  .have:=ea (show qI M+1<=qI N from k) (show qI M+1<=qI N from k);omega
  .exact k
 have hMb:M<549755813889*549755813889:=by unfold FB at hb;omega
 have hr:=OZ hMb;have eL:((qI N:Int))*(qI N:Int)<=max a 0*65536:=by rw[<-W1];omega
 by_cases hx:qI M*qI M=M
 .obtain⟨c,d,ok,p1,p2,p3⟩:=I4 (a:=(qI N:Int)) (b:=(qI M:Int)) (by omega);refine⟨c,d,ok,?_,p2,λe q hq hi=>?_⟩
  .rw[decide_eq_true hx]at r2;refine wpG Tryz.func292 ((G3 ..).mpr ?_);cases hd:decide (a<0)with
   |true=>rw[show max a 0=0 by have:=of_decide_eq_true hd;omega]at r1;exact brd (λk=>absurd k h0) (λ_=>⟨_,_,r1,_,_,r2,brb (λk=>by simp at k) (λ_=>⟨_,_,_,p1,rfl⟩)⟩)
   |false=>rw[show max a 0=a by have:=of_decide_eq_false hd;omega]at r1;exact brd (λk=>absurd k h0) (λ_=>⟨_,_,r1,_,_,r2,brb (λk=>by simp at k) (λ_=>⟨_,_,_,p1,rfl⟩)⟩)
  .obtain⟨rfl,rfl⟩:=p3 e;refine Oe hq hi (by omega) (by omega) eL ?_;rw[<-W1];omega
 .obtain⟨c,d,ok,p1,p2,p3⟩:=I4 (a:=(qI N:Int)) (b:=(qI M:Int)+1) (by omega);refine⟨c,d,ok,?_,p2,λe q hq hi=>?_⟩
  .rw[decide_eq_false hx]at r2;refine wpG Tryz.func292 ((G3 ..).mpr ?_);have w:=xF (n:=(qI M:Int)+1);cases hd:decide (a<0)with
   |true=>rw[show max a 0=0 by have:=of_decide_eq_true hd;omega]at r1;exact brd (λk=>absurd k h0) (λ_=>⟨_,_,r1,_,_,r2,brb (λ_=>by rw[w];exact⟨_,_,_,p1,rfl⟩) (λk=>by simp at k)⟩)
   |false=>rw[show max a 0=a by have:=of_decide_eq_false hd;omega]at r1;exact brd (λk=>absurd k h0) (λ_=>⟨_,_,r1,_,_,r2,brb (λ_=>by rw[w];exact⟨_,_,_,p1,rfl⟩) (λk=>by simp at k)⟩)
  .obtain⟨rfl,rfl⟩:=p3 e;refine Oe hq hi (by omega) (by omega) eL ?_;have e2:((qI M:Int)+1)*((qI M:Int)+1)=(((qI M+1)*(qI M+1):Nat):Int):=by rw[W1];rfl
   rw[e2];omega
end Eng
end
section
namespace Eng
open Go Go.Proofs Rl
set_option maxRecDepth 100000
def mnI (a b:Int):Int:=match decide (a<b)with
 |true=>a
 |false=>b
def mxI (a b:Int):Int:=match decide (a<b)with
 |true=>b
 |false=>a
theorem n0(a b:Int):mnI a b=min a b:=by
 unfold mnI;cases h:decide (a<b)with
 |true=>have:=of_decide_eq_true h;show a=_;omega
 |false=>have:=of_decide_eq_false h;show b=_;omega
theorem nC(a b:Int):mxI a b=max a b:=by
 unfold mxI;cases h:decide (a<b)with
 |true=>have:=of_decide_eq_true h;show b=_;omega
 |false=>have:=of_decide_eq_false h;show a=_;omega
def loN (s:Nat->Int×Int×Bool):Nat->Int
 |0=>2305843009213693952
 |n+1=>mnI (s n).1 (loN s n)
def hiN (s:Nat->Int×Int×Bool):Nat->Int
 |0=> -2305843009213693952
 |n+1=>mxI (hiN s n) (s n).2.1
theorem nD{a0 b0 a1 b1:Int}{s:Nat->Int×Int×Bool}(hs:∀k j,k<2->j<2->qa CC 297 [.c (.int .i64 (if k=0 then a0 else b0)),.c (.int .i64 (if j=0 then a1 else b1))] [.c (.int .i64 (s (2*k+j)).1),.c (.int .i64 (s (2*k+j)).2.1),eOk (s (2*k+j)).2.2]){R:List A}(hR:((∀m<4,(s m).2.2=true)->R=[eIv (loN s 4) (hiN s 4),eOk true]))(hR':(¬(∀m<4,(s m).2.2=true)->R=[eIv 0 0,eOk false])):
 qa CC 250 [eIv a0 b0,eIv a1 b1] R:=by
 refine qo (anns:=Vl ⟨[.slot 21 (.int .i64 0),.slot 6 (.int .i64 0),.slot 7 (.int .i64 0)],[],λ_ ds=>∃k:Nat,k<=2/\ds=[.int .i64 (k:Int),.int .i64 (loN s (2*k)),.int .i64 (hiN s (2*k))]/\∀m<2*k,(s m).2.2=true,λds=>(2-toI (nth .undef ds 0)).toNat⟩
  ⟨[.slot 31 (.int .i64 0),.slot 6 (.int .i64 0),.slot 7 (.int .i64 0)],[.slot 21 (.int .i64 0)],λgs ds=>∃k j:Nat,k<2/\j<=2/\gs=[.int .i64 (k:Int)]/\ds=[.int .i64 (j:Int),.int .i64 (loN s (2*k+j)),.int .i64 (hiN s (2*k+j))]/\∀m<2*k+j,(s m).2.2=true,λds=>(2-toI (nth .undef ds 0)).toNat⟩) mixedT Tryz.func250 ?_
 show wpF _ _ _ _ [.ag [.int .i64 a0,.int .i64 b0],.ag [.int .i64 a1,.int .i64 b1]] _;rw[gD];refine⟨⟨0,by omega,rfl,by omega⟩,?_⟩;rintro i p q ⟨k,hk,he,a6⟩;simp only[c4,Lr,true_and,and_true]at he;obtain⟨rfl,rfl,rfl⟩:=he;refine brd (λh=>?_) (λh=>?_)
 .have a3:k<2:=by omega
  refine⟨⟨by omega,h⟩,(if k=0 then a0 else b0),?_,⟨k,0,a3,by omega,rfl,rfl,a6⟩,?_⟩
  .rw[W2];rcases(by omega:k=0\/k=1)with rfl|rfl
   .exact⟨rfl,cH 1⟩
   .exact⟨rfl,cH 1⟩
  .rintro j p q ⟨k',j',hk',hj',hg,he,a4⟩;simp only[c4,Lr,true_and,and_true]at he hg;obtain⟨rfl,rfl,rfl⟩:=he;obtain rfl:k=k':=by omega
   refine brd (λh=>?_) (λh=>?_)
   .have a5:j'<2:=by omega
    refine⟨⟨by omega,h⟩,(if j'=0 then a1 else b1),?_,_,_,_,hs k j' a3 a5,?_⟩
    .rw[W2];rcases(by omega:j'=0\/j'=1)with rfl|rfl
     .exact⟨rfl,cH 1⟩
     .exact⟨rfl,cH 1⟩
    .have w:Pl .i64 ((j':Int)+1)=((j'+1:Nat):Int):=by rw[xF];omega
     rw[w];cases hb:(s (2*k+j')).2.2 with
     |false=>refine brb (λ_=>?_) (λh=>by simp at h);exact(hR' (λg=>by rw[g _ (by omega)]at hb;simp at hb)).symm
     |true=>
      refine brb (λh=>by simp at h) (λ_=>⟨⟨k,j'+1,a3,by omega,rfl,rfl,λm hm=>?_⟩,?_⟩)
      .rcases(by omega:m<2*k+j'\/m=2*k+j')with g|rfl
       .exact a4 m g
       .exact hb
      .simp only[nth,toI];omega
   .have a5:j'=2:=by omega
    subst a5;have w:Pl .i64 ((k:Int)+1)=((k+1:Nat):Int):=by rw[xF];omega
    rw[w];exact⟨⟨k+1,by omega,rfl,a4⟩,by simp only[nth,toI];omega⟩
 .have a3:k=2:=by omega
  subst a3;exact(hR a6).symm
theorem bX{a0 b0 a1 b1:Int}(h:IvB a0 b0)(k:IvB a1 b1):∃c d ok,qa CC 250 [eIv a0 b0,eIv a1 b1] [eIv c d,eOk ok]/\IvB c d/\(ok=true->∀x y,inI a0 b0 x->inI a1 b1 y->inI c d (x*y)):=by
 obtain⟨l0,u0,o0,g0,f0⟩:=Hf h.1 k.1;obtain⟨l1,u1,o1,g1,f1⟩:=Hf h.1 k.2.1;obtain⟨l2,u2,o2,g2,f2⟩:=Hf h.2.1 k.1;obtain⟨l3,u3,o3,g3,f3⟩:=Hf h.2.1 k.2.1;obtain⟨s,a3,a4,a5,a6⟩:∃s:Nat->Int×Int×Bool,s 0=(l0,u0,o0)/\s 1=(l1,u1,o1)/\s 2=(l2,u2,o2)/\s 3=(l3,u3,o3):=
  ⟨λn=>if n=0 then(l0,u0,o0)else if n=1 then(l1,u1,o1)else if n=2 then(l2,u2,o2)else(l3,u3,o3),rfl,rfl,rfl,rfl⟩
 have hs:∀k j,k<2->j<2->qa CC 297 [.c (.int .i64 (if k=0 then a0 else b0)),.c (.int .i64 (if j=0 then a1 else b1))] [.c (.int .i64 (s (2*k+j)).1),.c (.int .i64 (s (2*k+j)).2.1),eOk (s (2*k+j)).2.2]:=by
  intro k j hk hj;rcases(by omega:k=0\/k=1)with rfl|rfl<;>rcases(by omega:j=0\/j=1)with rfl|rfl
  .show qa _ _ _ [.c (.int .i64 (s 0).1),.c (.int .i64 (s 0).2.1),eOk (s 0).2.2];rw[a3];exact g0
  .show qa _ _ _ [.c (.int .i64 (s 1).1),.c (.int .i64 (s 1).2.1),eOk (s 1).2.2];rw[a4];exact g1
  .show qa _ _ _ [.c (.int .i64 (s 2).1),.c (.int .i64 (s 2).2.1),eOk (s 2).2.2];rw[a5];exact g2
  .show qa _ _ _ [.c (.int .i64 (s 3).1),.c (.int .i64 (s 3).2.1),eOk (s 3).2.2];rw[a6];exact g3
 by_cases ha:∀m<4,(s m).2.2=true
 .have e0:=f0 (by have:=ha 0 (by omega);rwa [a3]at this);have e1:=f1 (by have:=ha 1 (by omega);rwa [a4]at this);have e2:=f2 (by have:=ha 2 (by omega);rwa [a5]at this);have e3:=f3 (by have:=ha 3 (by omega);rwa [a6]at this);have eL:loN s 4=min l3 (min l2 (min l1 (min l0 2305843009213693952))):=by simp only[loN,n0,a3,a4,a5,a6]
  have eH:hiN s 4=max (max (max (max (-2305843009213693952) u0) u1) u2) u3:=by simp only[hiN,nC,a3,a4,a5,a6]
  refine⟨loN s 4,hiN s 4,true,nD hs (λ_=>rfl) (λg=>absurd ha g),?_,λ_ x y hx hy=>?_⟩
  .rw[eL,eH];unfold IvB FB at *;omega
  .rw[eL,eH];refine fb hx hy ?_ ?_
   .rintro p q (rfl|rfl) (rfl|rfl)<;>omega
   .rintro p q (rfl|rfl) (rfl|rfl)<;>omega
 .exact⟨0,0,false,nD hs (λg=>absurd g ha) (λ_=>rfl),.zero,by simp⟩
end Eng
end
section
namespace Eng
open Go Go.Proofs
set_option maxRecDepth 100000
theorem gF(k ok:Bool)(a b:Int):Uj CB 293 [.bool k] [.ag [.int .i64 a,.int .i64 b],.c (.bool ok)] [.ag [.int .i64 a,.int .i64 b]] [.bool (k&&ok)]:=by
 refine FD (tab:=noT) (lim:=1000) (n:=40) mixedT (λ_ _ _ h=>by simp[noT]at h) rfl λg=>?_
 cases k<;>cases ok<;>kernel_rfl
def Eh:List D->List A->Bool
 |[.bool _],[.ag [.int .i64 _,.int .i64 _],.c (.bool _)]=>true
 |_,_=>false
def nE:List D->List A->List D
 |[.bool k],[_,.c (.bool ok)]=>[.bool (k&&ok)]
 |_,_=>[]
def gG:List D->List A->List A
 |_,[a,_]=>[a]
 |_,_=>[]
noncomputable def CQL:List (Nat×RQ):=[(293,Bv Eh nE gG)]
noncomputable def CQ:Cx:=CX CQL
instance:EffOk CQ:=zY (Xj ⟨FE (C:=CX CQL) Tryz.func293 (by simp[Tryz.f293]) (by decide) λds al h=>by
 unfold Eh at h;split at h
 .exact Bt rfl rfl (gF _ _ _ _)
 .simp at h,trivial⟩)
end Eng
end
section
open Go Go.Proofs Eng
namespace Eng
theorem Ei(Gv:Nat->List A->List A->Prop)(r0:R4)(r1:R4)(r2:R4)(r3:R4)(r4:R4)(r5:R4)(Q:List A->Prop):wpF CQ Gv an0 Tryz.f240 [.ag (rk r0 (rk r1 (rk r2 (rk r3 (rk r4 (rk r5 []))))))] Q=(∃i i_1 b,Gv 244 [aR r4] [Hu [dI i,dI i_1],aB b]/\true=true/\∃i_2 i_3 b1,Gv 292 [Hu [dI i,dI i_1]] [Hu [dI i_2,dI i_3],aB b1]/\true=true/\∃i i_4 b2,Gv 244 [aR r5] [Hu [dI i,dI i_4],aB b2]/\true=true/\∃i_5 i_6 b3,Gv 292 [Hu [dI i,dI i_4]] [Hu [dI i_5,dI i_6],aB b3]/\true=true/\bB (!(b&&b1&&b2&&b3)) (Q [aI (0:Int),aB false]) (∃i i_7 b4,Gv 244 [aR r1] [Hu [dI i,dI i_7],aB b4]/\true=true/\∃i_8 i_9 b5,Gv 250 [Hu [dI i,dI i_7],Hu [dI i_2,dI i_3]] [Hu [dI i_8,dI i_9],aB b5]/\true=true/\∃i i_10 b6,Gv 244 [aR r2] [Hu [dI i,dI i_10],aB b6]/\true=true/\∃i_11 i_12 b7,Gv 250 [Hu [dI i,dI i_10],Hu [dI i_5,dI i_6]] [Hu [dI i_11,dI i_12],aB b7]/\true=true/\∃i i_13 b8,Gv 244 [aR r3] [Hu [dI i,dI i_13],aB b8]/\true=true/\∃i_14 i_15 b9,Gv 250 [Hu [dI i_2,dI i_3],Hu [dI i_5,dI i_6]] [Hu [dI i_14,dI i_15],aB b9]/\true=true/\∃i_16 i_17 b10,Gv 250 [Hu [dI i,dI i_13],Hu [dI i_14,dI i_15]] [Hu [dI i_16,dI i_17],aB b10]/\true=true/\bB (!(b&&b1&&b2&&b3&&b4&&b5&&b6&&b7&&b8&&b9&&b10)) (Q [aI (0:Int),aB false]) (∃i i_18 b11,Gv 244 [aR r0] [Hu [dI i,dI i_18],aB b11]/\true=true/\∃i_19 i_20 b12,Gv 245 [Hu [dI i,dI i_18],Hu [dI i_8,dI i_9]] [Hu [dI i_19,dI i_20],aB b12]/\true=true/\∃i i_21 b13,Gv 245 [Hu [dI i_11,dI i_12],Hu [dI i_16,dI i_17]] [Hu [dI i,dI i_21],aB b13]/\true=true/\∃i_22 i_23 b14,Gv 245 [Hu [dI i_19,dI i_20],Hu [dI i,dI i_21]] [Hu [dI i_22,dI i_23],aB b14]/\true=true/\bB (!(b&&b1&&b2&&b3&&b4&&b5&&b6&&b7&&b8&&b9&&b10&&b11&&b12&&b13&&b14)) (Q [aI (0:Int),aB false]) (∃i b,Gv 247 [Hu [dI i_22,dI i_23]] [aI i,aB b]/\Q [aI i,aB b])))):=by kernel_rfl
end Eng
end
section
namespace Eng
open Go Go.Proofs Rl
set_option maxRecDepth 100000
theorem Ej{r:Rt}{i j k:Nat}(hr:HT i j k r)(nn:0<=r.c)(h:i<300000/\j<300000/\k<300000:=by omega):∃c d ok,qa CC 239 [eT r] [eIv c d,eOk ok]/\IvB c d/\(ok=true->inI c d (rv r)):=by
 obtain⟨a1,a2,oa,ga,ba,ia⟩:=zP hr.1;obtain⟨b1,b2,ob,gb,bb,ib⟩:=zP hr.2.1;obtain⟨c1,c2,oc,gc,bc,ic⟩:=zP hr.2.2;obtain⟨s1,s2,os,gs,bs,is⟩:=gE bc;obtain⟨m1,m2,om,gm,bm,im⟩:=bX bb bs;obtain⟨t1,t2,ot,gt,bt,it⟩:=I5 ba bm;have zz:IvB 0 0/\(false=true->inI 0 0 (rv r)):=⟨.zero,by simp⟩;cases oa with
 |false=>refine⟨a1,a2,false,?_,ba,by simp⟩;refine wpG Tryz.func239 ((yh ..).mpr ?_);exact⟨_,_,_,ga,brF rfl⟩
 |true=>
 by_cases h0:r.b=0
 .refine⟨a1,a2,true,?_,ba,λ_=>?_⟩
  .refine wpG Tryz.func239 ((yh ..).mpr ?_);refine⟨_,_,_,ga,brT ⟨_,kq r.b,brb (λ_=>rfl) (λh=>?_)⟩⟩;rw[h0]at h;simp[sr]at h
  .have:=ia rfl;unfold rv
   rwa [h0,xS,zml,ad0]
 have hs:∀{X:Prop},(sr r.b==0)=true->X:=λh=>by rw[Xp]at h;exact absurd (of_decide_eq_true h) h0
 cases ob with
 |false=>refine⟨0,0,false,?_,zz⟩;refine wpG Tryz.func239 ((yh ..).mpr ?_);exact⟨_,_,_,ga,brT ⟨_,kq r.b,brb hs (λ_=>⟨_,_,_,gb,_,_,_,gc,brF rfl⟩)⟩⟩
 |true=>
 cases oc with
 |false=>refine⟨0,0,false,?_,zz⟩;refine wpG Tryz.func239 ((yh ..).mpr ?_);exact⟨_,_,_,ga,brT ⟨_,kq r.b,brb hs (λ_=>⟨_,_,_,gb,_,_,_,gc,brT (brF rfl)⟩)⟩⟩
 |true=>
 cases os with
 |false=>refine⟨0,0,false,?_,zz⟩;refine wpG Tryz.func239 ((yh ..).mpr ?_);exact⟨_,_,_,ga,brT ⟨_,kq r.b,brb hs (λ_=>⟨_,_,_,gb,_,_,_,gc,brT (brT ⟨_,kq r.c,brd (λ_=>rfl) (λ_=>⟨_,_,_,gs,brF rfl⟩)⟩)⟩)⟩⟩
 |true=>
 have a3:∀{X:Prop},sr r.c<0->X:=λh=>absurd (kv.1 h) (by grind)
 cases om with
 |false=>refine⟨0,0,false,?_,zz⟩;refine wpG Tryz.func239 ((yh ..).mpr ?_);exact⟨_,_,_,ga,brT ⟨_,kq r.b,brb hs (λ_=>⟨_,_,_,gb,_,_,_,gc,brT (brT ⟨_,kq r.c,brd a3 (λ_=>⟨_,_,_,gs,brT ⟨_,_,_,gm,brF rfl⟩⟩)⟩)⟩)⟩⟩
 |true=>refine⟨t1,t2,ot,?_,bt,λe=>it e _ _ (ia rfl) (im rfl _ _ (ib rfl) (is rfl _ nn (ic rfl)))⟩;refine wpG Tryz.func239 ((yh ..).mpr ?_);exact⟨_,_,_,ga,brT ⟨_,kq r.b,brb hs (λ_=>⟨_,_,_,gb,_,_,_,gc,brT (brT ⟨_,kq r.c,brd a3 (λ_=>⟨_,_,_,gs,brT ⟨_,_,_,gm,brT ⟨_,_,_,gt,rfl⟩⟩⟩)⟩)⟩)⟩⟩
theorem Zt{a b m:Rat}{i j k:Nat}(ha:Hz i a)(hb:Hz j b)(hm:Hz k m)(h:2*i<360000/\2*j+k<360000:=by omega):
 qa CC 181 [.ag (rk (q4 a) []),.ag (rk (q4 b) []),.ag (rk (q4 m) [])] [.c (.int .i64 (tw a b m))]:=by
 refine wpG Tryz.func181 ((C5 ..).mpr ?_);have h2:=hb.mul hb (l:=2*j);refine⟨_,kq a,_,kq b,_,kq m,?_⟩;rw[j9 (Wm b) (Wm m)];unfold tw;refine brb (λh1=>?_) (λh1=>?_)
 .rw[if_pos (.inl (bv h1))]
 have n1:¬sr b*sr m=0:=by simpa using h1
 refine brb (λh3=>?_) (λh3=>?_)
 .rw[if_pos (.inr (bv h3))]
 have n3:¬sr a=sr b*sr m:=by simpa using h3
 rw[if_neg (by simp[n1,n3])];refine brb (λh4=>?_) (λh4=>?_)
 .rw[if_pos (bv h4)]
 have n4:¬sr a=0:=by simpa using h4
 rw[if_neg n4];refine⟨_,TT ha ha,_,TT hb hb,_,TT h2 hm,_,Rd (ha.mul ha (l:=2*i)) (h2.mul hm (l:=2*j+k)),?_⟩;rw[j9 (Wm a) (Wm _)]
theorem Ek{r s:Rt}{i j k:Nat}(hr:HT i j k r)(hs:HT i j k s)(ho:okT r)(hp:okT s)(h:i<300000/\j<300000/\k<300000:=by omega):
 ∃n ok,qa CC 180 [eT r,eT s] [eI n,eOk ok]/\(ok=true->n=sg (rv r-rv s)):=by
 obtain⟨a1,a2,oa,ga,_,ia⟩:=Ej hr ho.nn;obtain⟨b1,b2,ob,gb,_,ib⟩:=Ej hs hp.nn;cases oa with
 |false=>refine⟨0,false,?_,by simp⟩;refine wpG Tryz.func180 ((yN ..).mpr ?_);exact⟨_,_,_,ga,_,_,_,gb,brF rfl⟩
 |true=>
 cases ob with
 |false=>refine⟨0,false,?_,by simp⟩;refine wpG Tryz.func180 ((yN ..).mpr ?_);exact⟨_,_,_,ga,_,_,_,gb,brT (brF rfl)⟩
 |true=>
 by_cases h1:a2<b1
 .refine⟨-1,true,?_,λ_=>(Wi (NR.2 (aY (ia rfl) (ib rfl) h1))).symm⟩;refine wpG Tryz.func180 ((yN ..).mpr ?_);exact⟨_,_,_,ga,_,_,_,gb,brT (brT (brd (λ_=>rfl) (λk=>absurd h1 k)))⟩
 by_cases h2:a1>b2
 .refine⟨1,true,?_,λ_=>(XW (Uy.2 (aY (ib rfl) (ia rfl) h2))).symm⟩;refine wpG Tryz.func180 ((yN ..).mpr ?_);exact⟨_,_,_,ga,_,_,_,gb,brT (brT (brd (λk=>absurd k h1) (λ_=>brd (λ_=>rfl) (λk=>absurd h2 k))))⟩
 .refine⟨0,false,?_,by simp⟩;refine wpG Tryz.func180 ((yN ..).mpr ?_);exact⟨_,_,_,ga,_,_,_,gb,brT (brT (brd (λk=>absurd k h1) (λ_=>brd (λk=>absurd k h2) (λ_=>rfl))))⟩
end Eng
end
section
namespace Eng
open Go Go.Proofs Rl
set_option maxRecDepth 100000
theorem upQ{f:Nat}{al rs:List A}(h:qa CC f al rs):qa CQ f al rs:=zb rfl rfl h
theorem El{a b c d m n:Rat}{i:Nat}(ha:Hz i a)(hb:Hz i b)(hc:Hz i c)(hd:Hz i d)(hm:Hz i m)(hn:Hz i n)(hm0:0<=m)(hn0:0<=n)(h:i<300000:=by omega):
 ∃z ok,qa CC 240 [.ag (rk (q4 a) (rk (q4 b) (rk (q4 c) (rk (q4 d) (rk (q4 m) (rk (q4 n) []))))))] [eI z,eOk ok]/\(ok=true->z=sg (qv a b c d m n)):=by
 obtain⟨_,_,o1,g1,k1,i1⟩:=zP hm;obtain⟨_,_,o2,g2,k2,i2⟩:=gE k1;obtain⟨_,_,o3,g3,k3,i3⟩:=zP hn;obtain⟨_,_,o4,g4,k4,i4⟩:=gE k3;obtain⟨_,_,o5,g5,k5,i5⟩:=zP hb;obtain⟨_,_,o6,g6,k6,i6⟩:=bX k5 k2;obtain⟨_,_,o7,g7,k7,i7⟩:=zP hc;obtain⟨_,_,o8,g8,k8,i8⟩:=bX k7 k4;obtain⟨_,_,o9,g9,k9,i9⟩:=zP hd;obtain⟨_,_,p0,h0,l0,j0⟩:=bX k2 k4;obtain⟨_,_,p1,h1,l1,j1⟩:=bX k9 l0;obtain⟨_,_,p2,h2,l2,j2⟩:=zP ha;obtain⟨_,_,p3,h3,l3,j3⟩:=I5 l2 k6;obtain⟨_,_,p4,h4,l4,j4⟩:=I5 k8 l1;obtain⟨_,_,p5,h5,l5,j5⟩:=I5 l3 l4;obtain⟨z,oz,hz,iz⟩:=ri _ _;refine⟨if(o1&&o2&&o3&&o4&&o5&&o6&&o7&&o8&&o9&&p0&&p1&&p2&&p3&&p4&&p5)=true then z else 0,o1&&o2&&o3&&o4&&o5&&o6&&o7&&o8&&o9&&p0&&p1&&p2&&p3&&p4&&p5&&oz,?_,λe=>?_⟩
 .refine zb (C:=CQ) rfl rfl (qo (C:=CQ) (anns:=an0) mixedT Tryz.func240 ((Ei ..).mpr ?_));refine⟨_,_,_,upQ g1,rfl,_,_,_,upQ g2,rfl,_,_,_,upQ g3,rfl,_,_,_,upQ g4,rfl,?_⟩;cases o1
  .rfl
  cases o2
  .rfl
  cases o3
  .rfl
  cases o4
  .rfl
  refine⟨_,_,_,upQ g5,rfl,_,_,_,upQ g6,rfl,_,_,_,upQ g7,rfl,_,_,_,upQ g8,rfl,_,_,_,upQ g9,rfl,_,_,_,upQ h0,rfl,_,_,_,upQ h1,rfl,?_⟩;cases o5
  .rfl
  cases o6
  .rfl
  cases o7
  .rfl
  cases o8
  .rfl
  cases o9
  .rfl
  cases p0
  .rfl
  cases p1
  .rfl
  refine⟨_,_,_,upQ h2,rfl,_,_,_,upQ h3,rfl,_,_,_,upQ h4,rfl,_,_,_,upQ h5,rfl,?_⟩;cases p2
  .rfl
  cases p3
  .rfl
  cases p4
  .rfl
  cases p5
  .rfl
  exact⟨_,_,upQ hz,rfl⟩
 .rw[B0]at e;obtain⟨e,ez⟩:=e;rw[if_pos e];simp only[B0]at e;obtain⟨⟨⟨⟨⟨⟨⟨⟨⟨⟨⟨⟨⟨⟨q1,q2⟩,q3⟩,q4⟩,q5⟩,q6⟩,q7⟩,q8⟩,q9⟩,r0⟩,r1⟩,r2⟩,r3⟩,r4⟩,r5⟩:=e;have vm:=i2 q2 _ hm0 (i1 q1);have vn:=i4 q4 _ hn0 (i3 q3);rw[iz ez _ (j5 r5 _ _ (j3 r3 _ _ (j2 r2) (i6 q6 _ _ (i5 q5) vm)) (j4 r4 _ _ (i8 q8 _ _ (i7 q7) vn) (j1 r1 _ _ (i9 q9) (j0 r0 _ _ vm vn))))];congr 1;unfold qv;generalize jw m=x;generalize jw n=y;obtain⟨x,rfl⟩:=x.rep;obtain⟨y,rfl⟩:=y.rep;exact xz λn=>by simp only[xZ,ke,kf];grind
theorem MY{x y:Rat}{j k:Nat}(hx:Hz j x)(hy:Hz k y)(h:j<360000/\k<360000:=by omega):qa CC 241 [.ag (rk (q4 x) []),.ag (rk (q4 y) [])] [.ag (rk (q4 (x+y)) [])]:=by
 refine wpG Tryz.func241 ((eW ..).mpr ?_);exact⟨_,mr hx hy h,rfl⟩
theorem I6{a b c d m n:Rat}{i j k:Nat}(ha:Hz i a)(hb:Hz j b)(hc:Hz j c)(hd:Hz 0 d)(hm:Hz k m)(hn:Hz k n)(hm0:0<=m)(hn0:0<=n)(h:4*i+(8*j+6*k)<299000:=by omega):
 qa CC 182 [.ag (rk (q4 a) (rk (q4 b) (rk (q4 c) (rk (q4 d) (rk (q4 m) (rk (q4 n) []))))))] [.c (.int .i64 (qs a b c d m n))]:=by
 have a9:=hc.mul hc (l:=2*j);have ag:=hd.mul hd (l:=0);have a4:=hm.mul ag (l:=k);have hs:=a9.add a4 (l:=2*j+k+1);have al:=hn.mul hs (l:=2*j+2*k+1);have a6:=ha.mul ha (l:=2*i);have a8:=hb.mul hb (l:=2*j);have a3:=hm.mul a8 (l:=2*j+k);have an:=a6.add a3 (l:=2*i+2*j+k+1);have hA:=an.sub al (l:=2*i+4*j+3*k+3);have a7:=ha.mul hb (l:=i+j);have ad:=hc.mul hd (l:=j);have a5:=hn.mul ad (l:=k+j);have hB:=a7.sub a5 (l:=i+2*j+k+1);have hBB:=hB.add hB (l:=2*i+4*j+2*k+3);obtain⟨z,oz,gz,iz⟩:=El (i:=i+j+k) (ha.mono (by omega)) (hb.mono (by omega)) (hc.mono (by omega)) (hd.mono (by omega)) (hm.mono (by omega)) (hn.mono (by omega)) hm0 hn0;refine wpG Tryz.func182 ((A5 ..).mpr ?_);refine⟨_,kq m,?_⟩;refine brd (λh=>absurd (kv.1 h) (by grind)) (λ_=>?_);refine⟨_,kq n,?_⟩;refine brd (λh=>absurd (kv.1 h) (by grind)) (λ_=>?_);refine⟨_,_,gz,?_⟩;refine xG (λe=>?_) (λ_=>?_)
 .rw[iz e,eu _ _ _ _ hm0 hn0]
 refine⟨_,Zt ha hb hm (by omega),_,Zt hc hd hm (by omega),_,kq n,?_⟩;rw[j9 (iv _ _ _) (Wm n)];unfold qs;refine brb (λh1=>?_) (λh1=>?_)
 .rw[if_pos (.inl (bv h1))]
 have n1:¬tw c d m*sr n=0:=by simpa using h1
 refine brb (λh3=>?_) (λh3=>?_)
 .rw[if_pos (.inr (bv h3))]
 have n3:¬tw a b m=tw c d m*sr n:=by simpa using h3
 rw[if_neg (by simp[n1,n3])];refine brb (λh4=>?_) (λh4=>?_)
 .rw[if_pos (bv h4)]
 have n4:¬tw a b m=0:=by simpa using h4
 rw[if_neg n4];refine⟨_,TT ha ha,_,TT hb hb,_,TT hm a8,_,MY a6 a3,_,TT hc hc,_,TT hd hd,_,TT hm ag,_,MY a9 a4,_,TT hn hs,_,EU an al,
  _,TT ha hb,_,TT hc hd,_,TT hn ad,_,EU a7 a5,_,MY hB hB,_,Zt hA hBB hm (by omega),?_⟩
 rw[j9 (iv _ _ _) (iv _ _ _),Ob,eg m (b*b),eg m (d*d)]
theorem Jf{x:Rat}{k:Nat}(hx:Hz k x)(h:k<360000:=by omega):qa CC 242 [.ag (rk (q4 x) [])] [.ag (rk (q4 x) [])]:=by
 refine wpG Tryz.func242 ((Rb ..).mpr ?_);have:=oH hx.neg h;rw[Rat.neg_neg]at this;exact⟨_,oH hx h,_,this,rfl⟩
theorem nG{a b:Rat}:(sr (a-b)==0)=true↔a=b:=by
 rw[Xp,decide_eq_true_eq];exact Cy
theorem Hg{r s:Rt}{i j k:Nat}(hr:HT i j k r)(hs:HT i j k s)(ho:okT r)(hp:okT s)(h:8*i+(8*j+6*k)<298900:=by omega):
 qa CC 125 [.ag (kT r []),.ag (kT s [])] [.c (.int .i64 (sg (rv r-rv s)))]:=by
 obtain⟨z,oz,gz,iz⟩:=Ek hr hs ho hp;have a3:qa CC 183 [.ag (kT r []),.ag (kT s [])] [.ag (rk (q4 (r.a-s.a)) (rk (q4 r.b) (rk (q4 (-s.b)) (rk (q4 0) (rk (q4 r.c) (rk (q4 s.c) []))))))]:=by refine wpG Tryz.func183 ((eX ..).mpr ?_);exact⟨_,EU hr.1 hs.1,_,Jf hr.2.1,_,oH hs.2.1,_,b0,_,Jf hr.2.2,_,Jf hs.2.2,rfl⟩
 have a6:=I6 (i:=2*i+1) (j:=j) (k:=k) (hr.1.sub hs.1 (by omega)) hr.2.1 hs.2.1.neg Hz.zero hr.2.2 hs.2.2 ho.nn hp.nn (by omega);rw[eu _ _ _ _ ho.nn hp.nn,aU]at a6;have a5:r.c=s.c->tw (r.a-s.a) (r.b-s.b) r.c=sg (rv r-rv s):=λe=>by rw[U4 _ _ ho.nn];congr 1;unfold rv;rw[<-e];generalize jw r.c=x;obtain⟨x,rfl⟩:=x.rep;rw[wS,wS];exact xz λn=>by simp only[xZ,zK,ke,kf];grind
 have a4:br (toB (J4 (sr (r.c-s.c)==0)))
  (∃x,qa CC 80 [.ag (rk (q4 r.a) []),.ag (rk (q4 s.a) [])] [.ag (rk x [])]/\∃x_1,qa CC 80 [.ag (rk (q4 r.b) []),.ag (rk (q4 s.b) [])] [.ag (rk x_1 [])]/\∃i,qa CC 181 [.ag (rk x []),.ag (rk x_1 []),.ag (rk (q4 r.c) [])] [.c (.int .i64 i)]/\[Hv (.int .i64 i)]=[.c (.int .i64 (sg (rv r-rv s)))])
  (∃x x_1,qa CC 183 [.ag (kT r []),.ag (kT s [])] [.ag (pk x (rk x_1 []))]/\∃i,qa CC 182 [.ag (pk x (rk x_1 []))] [.c (.int .i64 i)]/\[Hv (.int .i64 i)]=[.c (.int .i64 (sg (rv r-rv s)))]):=by
  refine brb (λe=>?_) (λ_=>?_)
  .have e:=nG.1 e;refine⟨_,EU hr.1 hs.1,_,EU hr.2.1 hs.2.1,_,Zt (hr.1.sub hs.1 (l:=2*i+1)) (hr.2.1.sub hs.2.1 (l:=2*j+1)) hr.2.2 (by omega),?_⟩;rw[a5 e]
  .exact⟨⟨_,_,_,_,_⟩,_,a3,_,a6,rfl⟩
 have a7:∃i b,qa CC 180 [.ag (kT r []),.ag (kT s [])] [.c (.int .i64 i),.c (.bool b)]/\br b ([Hv (.int .i64 i)]=[.c (.int .i64 (sg (rv r-rv s)))])
  (∃i,qa CC 65 [.ag (rk (q4 r.c) []),.ag (rk (q4 s.c) [])] [.c (.int .i64 i)]/\br (toB (J4 (i==0)))
  (∃x,qa CC 80 [.ag (rk (q4 r.a) []),.ag (rk (q4 s.a) [])] [.ag (rk x [])]/\∃x_1,qa CC 80 [.ag (rk (q4 r.b) []),.ag (rk (q4 s.b) [])] [.ag (rk x_1 [])]/\∃i,qa CC 181 [.ag (rk x []),.ag (rk x_1 []),.ag (rk (q4 r.c) [])] [.c (.int .i64 i)]/\[Hv (.int .i64 i)]=[.c (.int .i64 (sg (rv r-rv s)))])
  (∃x x_1,qa CC 183 [.ag (kT r []),.ag (kT s [])] [.ag (pk x (rk x_1 []))]/\∃i,qa CC 182 [.ag (pk x (rk x_1 []))] [.c (.int .i64 i)]/\[Hv (.int .i64 i)]=[.c (.int .i64 (sg (rv r-rv s)))])):=by
  refine⟨_,_,gz,xG (λe=>by rw[iz e]) (λ_=>⟨_,Rd hr.2.2 hs.2.2,a4⟩)⟩
 refine wpG Tryz.func125 ((eY ..).mpr ?_);refine⟨_,kq r.b,?_⟩;rw[Xp];refine brd (λh1=>?_) (λ_=>a7);refine⟨_,kq s.b,?_⟩;rw[Xp];refine brd (λh2=>?_) (λ_=>a7);refine⟨_,Rd hr.1 hs.1,?_⟩;unfold rv;rw[h1,h2,xS,zml,zml,ad0,ad0,BV,wS]
theorem nH{r s:Rt}{i j k:Nat}(hr:HT i j k r)(hs:HT i j k s)(ho:okT r)(hp:okT s)(h:8*i+(8*j+6*k)<298900:=by omega):
 qa CC 179 [.ag (kT r []),.ag (kT s [])] [.c (.bool (sg (rv r-rv s)==0))]:=by
 refine wpG Tryz.func179 ((mf ..).mpr ?_);exact⟨_,Hg hr hs ho hp h,rfl⟩
theorem Kh:qa CC 72 [] [.ag (rk (q4 0) [])]:=by
 refine wpG Tryz.func72 ((A6 ..).mpr ?_);exact⟨_,b0,rfl⟩
theorem TB(a b c:Rat):qa CC 122 [.ag (rk (q4 a) []),.ag (rk (q4 b) []),.ag (rk (q4 c) [])] [.ag (kT (wq a b c) [])]:=by
 refine wpG Tryz.func122 ((C6 ..).mpr ?_);refine⟨_,kq b,?_⟩;rw[Xp];unfold wq;refine brd (λh=>?_) (λh=>?_)
 .rw[if_pos h];refine⟨_,Kh,?_⟩;rw[h];rfl
 .rw[if_neg h];rfl
theorem TC(p:P5):qa CC 69 [.ag (pk (kP p) [])] [.ag (kT (xP p) [])]:=by
 refine wpG Tryz.func69 ((pK ..).mpr ?_);exact⟨_,_,_,TB _ _ _,rfl⟩
theorem Em(p:P5):qa CC 126 [.ag (pk (kP p) [])] [.ag (kT (yP p) [])]:=by
 refine wpG Tryz.func126 ((pL ..).mpr ?_);exact⟨_,_,_,TB _ _ _,rfl⟩
end Eng
end
section
namespace Eng
open Go Go.Proofs Rl
set_option maxRecDepth 100000
theorem zu{x y:Rat}{j k:Nat}(hx:Hz j x)(hy:Hz k y)(h:j<360000/\k<360000:=by omega):qa CC 188 [.ag (rk (q4 x) []),.ag (rk (q4 y) [])] [.ag (rk (q4 (x*y)) [])]:=by
 refine wpG Tryz.func188 ((A7 ..).mpr ?_);exact⟨_,TT hx hy h,rfl⟩
end Eng
end
section
open Go Go.Proofs Eng
namespace Eng
theorem Ve(Gv:Nat->List A->List A->Prop)(r0:R4)(a0:Int)(b0:Int)(k0:Bool)(Q:List A->Prop):wpF CC Gv an0 Tryz.f243 [.ag (rk r0 []),.ag [.int .i64 a0,.int .i64 b0],.c (.bool k0)] Q=(∃i i_1 b,Gv 244 [aR r0] [Hu [dI i,dI i_1],aB b]/\bB (!k0) (Q [Hu [dI (0:Int),dI (0:Int)],aB false]) (bB (!b) (Q [Hu [dI (0:Int),dI (0:Int)],aB false]) (∃i_2 i_3 b,Gv 250 [Hu [dI i,dI i_1],Hu [dI a0,dI b0]] [Hu [dI i_2,dI i_3],aB b]/\Q [Hu [dI i_2,dI i_3],aB b]))):=by kernel_rfl
theorem I7(Gv:Nat->List A->List A->Prop)(r0:R4)(r1:R4)(r2:R4)(p0:P20)(Q:List A->Prop):wpF CC Gv an0 Tryz.f184 [.ag (rk r0 (rk r1 (rk r2 []))),.ag (pk p0 [])] Q=(∃i i_1 b,Gv 239 [aT (No p0) (M2 p0) (Ls p0)] [Hu [dI i,dI i_1],aB b]/\∃i_2 i_3 b1,Gv 243 [aR r0,Hu [dI i,dI i_1],aB b] [Hu [dI i_2,dI i_3],aB b1]/\∃i i_4 b,Gv 239 [aT (M3 p0) (Lv p0) (Ls p0)] [Hu [dI i,dI i_4],aB b]/\∃i_5 i_6 b2,Gv 243 [aR r1,Hu [dI i,dI i_4],aB b] [Hu [dI i_5,dI i_6],aB b2]/\∃i i_7 b,Gv 244 [aR r2] [Hu [dI i,dI i_7],aB b]/\bB (!b1) (Q [aI (0:Int),aB false]) (bB (!b2) (Q [aI (0:Int),aB false]) (bB (!b) (Q [aI (0:Int),aB false]) (∃i_8 i_9 b,Gv 245 [Hu [dI i_2,dI i_3],Hu [dI i_5,dI i_6]] [Hu [dI i_8,dI i_9],aB b]/\bB (!b) (Q [aI (0:Int),aB false]) (∃i_10 i_11,Gv 246 [Hu [dI i,dI i_7]] [Hu [dI i_10,dI i_11]]/\∃i i_12 b,Gv 245 [Hu [dI i_8,dI i_9],Hu [dI i_10,dI i_11]] [Hu [dI i,dI i_12],aB b]/\bB (!b) (Q [aI (0:Int),aB false]) (∃i_13 b,Gv 247 [Hu [dI i,dI i_12]] [aI i_13,aB b]/\Q [aI i_13,aB b])))))):=by kernel_rfl
theorem gH(Gv:Nat->List A->List A->Prop)(r0:R4)(r1:R4)(Q:List A->Prop):wpF CC Gv an0 Tryz.f187 [.ag (rk r0 []),.ag (rk r1 [])] Q=(∃x,Gv 81 [aR r0,aR r1] [aR x]/\Q [aR x]):=by kernel_rfl
theorem gI(Gv:Nat->List A->List A->Prop)(r0:R4)(r1:R4)(Q:List A->Prop):wpF CC Gv an0 Tryz.f186 [.ag (rk r0 []),.ag (rk r1 [])] Q=(∃x,Gv 80 [aR r0,aR r1] [aR x]/\Q [aR x]):=by kernel_rfl
theorem I8(Gv:Nat->List A->List A->Prop)(r0:R4)(r1:R4)(r2:R4)(Q:List A->Prop):wpF CC Gv an0 Tryz.f185 [.ag (rk r0 []),.ag (rk r1 []),.ag (rk r2 [])] Q=(∃i,Gv 27 [aR r0] [aI i]/\∃i_1,Gv 27 [aR r1] [aI i_1]/\∃i_2,Gv 27 [aR r2] [aI i_2]/\bB (Pl .i64 (i_1*i_2)==0) (Q [aI i]) (bB (i==Pl .i64 (i_1*i_2)) (Q [aI i]) (bB (i==0) (Q [aI (Pl .i64 (i_1*i_2))]) (∃x,Gv 188 [aR r0,aR r0] [aR x]/\∃x1,Gv 188 [aR r1,aR r1] [aR x1]/\∃x2,Gv 188 [aR x1,aR r2] [aR x2]/\∃i_3,Gv 65 [aR x,aR x2] [aI i_3]/\Q [aI (Pl .i64 (i*i_3))])))):=by kernel_rfl
theorem Hh(Gv:Nat->List A->List A->Prop)(r0:R4)(r1:R4)(r2:R4)(r3:R4)(Q:List A->Prop):wpF CC Gv an0 Tryz.f249 [.ag (rk r0 []),.ag (rk r1 []),.ag (rk r2 []),.ag (rk r3 [])] Q=(∃i i_1 b,Gv 239 [aT r0 r1 r2] [Hu [dI i,dI i_1],aB b]/\∃i_2 i_3 b1,Gv 244 [aR r3] [Hu [dI i_2,dI i_3],aB b1]/\bB (!b) (Q [Hu [dI (0:Int),dI (0:Int)],aB false]) (bB (!b1) (Q [Hu [dI (0:Int),dI (0:Int)],aB false]) (∃i_4 i_5,Gv 246 [Hu [dI i_2,dI i_3]] [Hu [dI i_4,dI i_5]]/\∃i_6 i_7 b,Gv 245 [Hu [dI i,dI i_1],Hu [dI i_4,dI i_5]] [Hu [dI i_6,dI i_7],aB b]/\Q [Hu [dI i_6,dI i_7],aB b]))):=by kernel_rfl
theorem En(Gv:Nat->List A->List A->Prop)(r0:R4)(r1:R4)(r2:R4)(p0:P20)(Q:List A->Prop):wpF CC Gv an0 Tryz.f190 [.ag (rk r0 (rk r1 (rk r2 []))),.ag (pk p0 [])] Q=(∃i i_1 b,Gv 249 [aR (No p0),aR (M2 p0),aR (Ls p0),aR r0] [Hu [dI i,dI i_1],aB b]/\∃i_2 i_3 b1,Gv 249 [aR (M3 p0),aR (Lv p0),aR (Ls p0),aR r1] [Hu [dI i_2,dI i_3],aB b1]/\∃i_4 i_5 b2,Gv 244 [aR r2] [Hu [dI i_4,dI i_5],aB b2]/\bB (!b) (Q [aI (0:Int),aB false]) (bB (!b1) (Q [aI (0:Int),aB false]) (bB (!b2) (Q [aI (0:Int),aB false]) (∃i_6 i_7 b,Gv 250 [Hu [dI i,dI i_1],Hu [dI i,dI i_1]] [Hu [dI i_6,dI i_7],aB b]/\∃i i_8 b3,Gv 250 [Hu [dI i_2,dI i_3],Hu [dI i_2,dI i_3]] [Hu [dI i,dI i_8],aB b3]/\bB (!b) (Q [aI (0:Int),aB false]) (bB (!b3) (Q [aI (0:Int),aB false]) (∃i_9 i_10 b,Gv 245 [Hu [dI i_6,dI i_7],Hu [dI i,dI i_8]] [Hu [dI i_9,dI i_10],aB b]/\bB (!b) (Q [aI (0:Int),aB false]) (∃i i_11,Gv 246 [Hu [dI i_4,dI i_5]] [Hu [dI i,dI i_11]]/\∃i_12 i_13 b,Gv 245 [Hu [dI i_9,dI i_10],Hu [dI i,dI i_11]] [Hu [dI i_12,dI i_13],aB b]/\bB (!b) (Q [aI (0:Int),aB false]) (∃i b,Gv 247 [Hu [dI i_12,dI i_13]] [aI i,aB b]/\Q [aI i,aB b])))))))):=by kernel_rfl
theorem I9(Gv:Nat->List A->List A->Prop)(r0:R4)(r1:R4)(r2:R4)(p0:P20)(Q:List A->Prop):wpF CC Gv an0 Tryz.f127 [.ag (rk r0 (rk r1 (rk r2 []))),.ag (pk p0 [])] Q=(∃i b,Gv 184 [aT r0 r1 r2,aP p0] [aI i,aB b]/\br b (Q [aI i]) (∃x,Gv 188 [aR r0,aR (No p0)] [aR x]/\∃x1,Gv 188 [aR r1,aR (M3 p0)] [aR x1]/\∃x2,Gv 187 [aR x,aR x1] [aR x2]/\∃x,Gv 186 [aR x2,aR r2] [aR x]/\∃x3,Gv 188 [aR r0,aR (M2 p0)] [aR x3]/\∃x4,Gv 188 [aR r1,aR (Lv p0)] [aR x4]/\∃x5,Gv 187 [aR x3,aR x4] [aR x5]/\∃i,Gv 185 [aR x,aR x5,aR (Ls p0)] [aI i]/\Q [aI i])):=by kernel_rfl
theorem RU(Gv:Nat->List A->List A->Prop)(r0:R4)(r1:R4)(r2:R4)(p0:P20)(Q:List A->Prop):wpF CC Gv an0 Tryz.f129 [.ag (rk r0 (rk r1 (rk r2 []))),.ag (pk p0 [])] Q=(∃i b,Gv 190 [aT r0 r1 r2,aP p0] [aI i,aB b]/\br b (Q [aI (Pl .i64 (0-i))]) (∃x,Gv 186 [aR (No p0),aR r0] [aR x]/\∃x1,Gv 186 [aR (M3 p0),aR r1] [aR x1]/\∃x2,Gv 188 [aR x,aR x] [aR x2]/\∃x3,Gv 188 [aR x1,aR x1] [aR x3]/\∃x4,Gv 187 [aR x2,aR x3] [aR x4]/\∃x5,Gv 188 [aR (M2 p0),aR (M2 p0)] [aR x5]/\∃x6,Gv 188 [aR (Lv p0),aR (Lv p0)] [aR x6]/\∃x7,Gv 187 [aR x5,aR x6] [aR x7]/\∃x8,Gv 188 [aR (Ls p0),aR x7] [aR x8]/\∃x9,Gv 187 [aR x4,aR x8] [aR x9]/\∃x10,Gv 188 [aR x,aR (M2 p0)] [aR x10]/\∃x,Gv 188 [aR x1,aR (Lv p0)] [aR x]/\∃x11,Gv 187 [aR x10,aR x] [aR x11]/\∃x,Gv 186 [aR x9,aR r2] [aR x]/\∃x12,Gv 187 [aR x11,aR x11] [aR x12]/\∃i,Gv 185 [aR x,aR x12,aR (Ls p0)] [aI i]/\Q [aI (Pl .i64 (0-i))])):=by kernel_rfl
theorem Eo(Gv:Nat->List A->List A->Prop)(Q:List A->Prop):wpF CC Gv an0 Tryz.f248 [] Q=(∃x,Gv 130 [aI (0:Int)] [aR x]/\Q [aR x]):=by kernel_rfl
theorem MZ(Gv:Nat->List A->List A->Prop)(r0:R4)(Q:List A->Prop):wpF CC Gv an0 Tryz.f189 [.ag (rk r0 [])] Q=(∃x,Gv 248 [] [aR x]/\∃x1,Gv 248 [] [aR x1]/\Q [aT r0 x x1]):=by kernel_rfl
theorem RV(Gv:Nat->List A->List A->Prop)(r0:R4)(r1:R4)(r2:R4)(r3:R4)(Q:List A->Prop):wpF CC Gv an0 Tryz.f128 [.ag (rk r0 (rk r1 (rk r2 []))),.ag (rk r3 [])] Q=(∃x x1 x2,Gv 189 [aR r3] [aT x x1 x2]/\∃i,Gv 125 [aT r0 r1 r2,aT x x1 x2] [aI i]/\Q [aI i]):=by kernel_rfl
theorem nI(Gv:Nat->List A->List A->Prop)(r0:R4)(r1:R4)(Q:List A->Prop):wpF CC Gv an0 Tryz.f32 [.ag (rk r0 (rk r1 []))] Q=(∃x,Gv 72 [] [aR x]/\∃x1,Gv 72 [] [aR x1]/\∃x2,Gv 72 [] [aR x2]/\Q [Hu (rk r0 (rk x (rk r1 (rk x1 (rk x2 [])))))]):=by kernel_rfl
theorem IA(Gv:Nat->List A->List A->Prop)(c0:C66)(Q:List A->Prop):wpF CC Gv an0 Tryz.f124 [.ag (ck c0 [])] Q=(bB (!C66.arc c0) (∃x x1 x2,Gv 69 [aP (Hy c0)] [aT x x1 x2]/\∃x3 x4 x5,Gv 69 [aP (Hx c0)] [aT x3 x4 x5]/\∃b,Gv 179 [aT x x1 x2,aT x3 x4 x5] [aB b]/\Q [aB b]) (Q [aB false])):=by kernel_rfl
theorem IB(Gv:Nat->List A->List A->Prop)(c0:C66)(r0:R4)(r1:R4)(r2:R4)(Q:List A->Prop):wpF CC Gv an0 Tryz.f123 [.ag (ck c0 []),.ag (rk r0 (rk r1 (rk r2 [])))] Q=(∃x x1 x2,Gv 69 [aP (Hy c0)] [aT x x1 x2]/\∃i,Gv 125 [aT x x1 x2,aT r0 r1 r2] [aI i]/\bB (decide (i<=0)) (∃x x3 x4,Gv 69 [aP (Hx c0)] [aT x x3 x4]/\∃i,Gv 125 [aT r0 r1 r2,aT x x3 x4] [aI i]/\Q [aB (decide (i<=0))]) (Q [aB false])):=by kernel_rfl
theorem Ep(Gv:Nat->List A->List A->Prop)(c0:C66)(p0:P20)(Q:List A->Prop):wpF CC Gv an0 Tryz.f70 [.ag (ck c0 []),.ag (pk p0 [])] Q=(∃x x1 x2,Gv 69 [aP p0] [aT x x1 x2]/\∃b,Gv 123 [aC c0,aT x x1 x2] [aB b]/\bB (!b) (Q [aI (0:Int),aI (1:Int)]) (∃b,Gv 124 [aC c0] [aB b]/\br b (∃x x3 x4,Gv 126 [aP p0] [aT x x3 x4]/\∃x5 x6 x7,Gv 126 [aP (Hx c0)] [aT x5 x6 x7]/\∃i,Gv 125 [aT x x3 x4,aT x5 x6 x7] [aI i]/\bB (decide (i>0)) (Q [aI (1:Int),aI (0:Int)]) (∃x x8 x9,Gv 126 [aP p0] [aT x x8 x9]/\∃x10 x11 x12,Gv 126 [aP (Hy c0)] [aT x10 x11 x12]/\∃i,Gv 125 [aT x x8 x9,aT x10 x11 x12] [aI i]/\bB (decide (i<0)) (Q [aI (-1:Int),aI (0:Int)]) (Q [aI (0:Int),aI (0:Int)]))) (bB (!C66.arc c0) (∃i,Gv 127 [aT (C66.la c0) (C66.lb c0) (C66.lc c0),aP p0] [aI i]/\∃i_1,Gv 27 [aR (C66.lb c0)] [aI i_1]/\Q [aI (Pl .i64 (i*i_1)),aI (0:Int)]) (∃x x3 x4,Gv 126 [aP p0] [aT x x3 x4]/\∃i,Gv 128 [aT x x3 x4,aR (HZ c0)] [aI i]/\bB (J3 c0) (bB (decide (i<0)) (Q [aI (-1:Int),aI (0:Int)]) (bB (J3 c0) (∃i,Gv 129 [aT (I2 c0) (HZ c0) (I3 c0),aP p0] [aI i]/\Q [aI (Pl .i64 (0-i)),aI (0:Int)]) (bB (decide (i>0)) (Q [aI (1:Int),aI (0:Int)]) (∃i,Gv 129 [aT (I2 c0) (HZ c0) (I3 c0),aP p0] [aI i]/\Q [aI i,aI (0:Int)])))) (bB (J3 c0) (∃i,Gv 129 [aT (I2 c0) (HZ c0) (I3 c0),aP p0] [aI i]/\Q [aI (Pl .i64 (0-i)),aI (0:Int)]) (bB (decide (i>0)) (Q [aI (1:Int),aI (0:Int)]) (∃i,Gv 129 [aT (I2 c0) (HZ c0) (I3 c0),aP p0] [aI i]/\Q [aI i,aI (0:Int)]))))))):=by kernel_rfl
theorem Ki(Gv:Nat->List A->List A->Prop)(c0:C66)(r0:R4)(r1:R4)(r2:R4)(p0:P20)(Q:List A->Prop):wpF CC Gv an0 Tryz.f71 [.ag (ck c0 []),.ag (rk r0 (rk r1 (rk r2 []))),.ag (pk p0 [])] Q=(∃b,Gv 124 [aC c0] [aB b]/\br b (Q [aI (0:Int),aB false]) (∃x x1 x2,Gv 69 [aP (Hx c0)] [aT x x1 x2]/\∃i,Gv 125 [aT r0 r1 r2,aT x x1 x2] [aI i]/\bB (decide (i>=0)) (Q [aI (0:Int),aB false]) (∃x x3 x4,Gv 69 [aP (Hy c0)] [aT x x3 x4]/\∃i,Gv 125 [aT r0 r1 r2,aT x x3 x4] [aI i]/\bB (decide (i<0)) (Q [aI (0:Int),aB false]) (∃i i_1,Gv 70 [aC c0,aP p0] [aI i,aI i_1]/\Q [aI i,aB (i_1==0)])))):=by kernel_rfl
theorem IC(Gv:Nat->List A->List A->Prop)(I0:List D->List D->Prop)(M0:List D->Nat)(l0:List (List D))(p0:P20)(Q:List A->Prop):wpF CC Gv (λ_=>⟨[.slot 18 (.int .i64 0),.slot 6 (.int .i64 0)],[],I0,M0⟩) Tryz.f31 [.ag [.sl l0],.ag (pk p0 [])] Q=(∃x x1 x2,Gv 69 [aP p0] [aT x x1 x2]/\I0 [] [dI (0:Int),dI (0:Int)]/\∀(i i_1:Int),I0 [] [dI i,dI i_1]->bB (decide (i<(U0 l0.length))) (rO l0 i 66/\∃x3,cU l0 i 0 66 (ck x3 [])/\∃i_2 i_3,Gv 70 [aC x3,aP p0] [aI i_2,aI i_3]/\bB (i_3==0) (bB (i_2==0) (Q [aI (0:Int)]) (∃i_4 b,Gv 71 [aC x3,aT x x1 x2,aP p0] [aI i_4,aB b]/\br b (bB (decide (i_4>0)) (I0 [] [dI (Pl .i64 (i+1)),dI (Pl .i64 (i_1+1))]/\M0 [dI (Pl .i64 (i+1)),dI (Pl .i64 (i_1+1))]<M0 [dI i,dI i_1]) (I0 [] [dI (Pl .i64 (i+1)),dI i_1]/\M0 [dI (Pl .i64 (i+1)),dI i_1]<M0 [dI i,dI i_1])) (I0 [] [dI (Pl .i64 (i+1)),dI i_1]/\M0 [dI (Pl .i64 (i+1)),dI i_1]<M0 [dI i,dI i_1]))) (∃i_4 b,Gv 71 [aC x3,aT x x1 x2,aP p0] [aI i_4,aB b]/\br b (bB (decide (i_4>0)) (I0 [] [dI (Pl .i64 (i+1)),dI (Pl .i64 (i_1+1))]/\M0 [dI (Pl .i64 (i+1)),dI (Pl .i64 (i_1+1))]<M0 [dI i,dI i_1]) (I0 [] [dI (Pl .i64 (i+1)),dI i_1]/\M0 [dI (Pl .i64 (i+1)),dI i_1]<M0 [dI i,dI i_1])) (I0 [] [dI (Pl .i64 (i+1)),dI i_1]/\M0 [dI (Pl .i64 (i+1)),dI i_1]<M0 [dI i,dI i_1]))) ((2:Int)≠(0:Int)/\bB (W0 i_1 (2:Int)==(1:Int)) (Q [aI (1:Int)]) (Q [aI (-1:Int)]))):=by kernel_rfl
theorem ID(Gv:Nat->List A->List A->Prop)(I0:List D->List D->Prop)(M0:List D->Nat)(l0:List (List D))(p0:P20)(Q:List A->Prop):wpF CC Gv (λ_=>⟨[.slot 5 (.int .i64 0)],[],I0,M0⟩) Tryz.f144 [.c (.sl l0),.ag (pk p0 [])] Q=(I0 [] [dI (0:Int)]/\∀(i:Int),I0 [] [dI i]->bB (decide (i<(U0 l0.length))) (rO l0 i 66/\∃x,cU l0 i 0 66 (ck x [])/\∃b,Gv 207 [aC x,aP p0] [aB b]/\br b (Q [aB true]) (I0 [] [dI (Pl .i64 (i+1))]/\M0 [dI (Pl .i64 (i+1))]<M0 [dI i])) (Q [aB false])):=by kernel_rfl
theorem RW(Gv:Nat->List A->List A->Prop)(I0:List D->List D->Prop)(M0:List D->Nat)(l0:List (List D))(p0:P20)(Q:List A->Prop):wpF CC Gv (λ_=>⟨[.slot 7 (.int .i64 0),.slot 5 (.int .i64 0)],[],I0,M0⟩) Tryz.f90 [.ag [.sl l0],.ag (pk p0 [])] Q=(∃b,Gv 144 [aL l0,aP p0] [aB b]/\br b (Q [aI (0:Int)]) (∃x x1 x2,Gv 145 [aP p0] [aT x x1 x2]/\I0 [] [dI (0:Int),dI (-1:Int)]/\∀(i i_1:Int),I0 [] [dI i,dI i_1]->bB (decide (i<(U0 l0.length))) (rO l0 i 66/\∃x3,cU l0 i 0 66 (ck x3 [])/\∃b,Gv 146 [aC x3] [aB b]/\br b (I0 [] [dI (Pl .i64 (i+1)),dI i_1]/\M0 [dI (Pl .i64 (i+1)),dI i_1]<M0 [dI i,dI i_1]) (∃x4 x5 x6,Gv 145 [aP (Hy x3)] [aT x4 x5 x6]/\∃i_2,Gv 147 [aT x4 x5 x6,aT x x1 x2] [aI i_2]/\bB (decide (i_2>0)) (I0 [] [dI (Pl .i64 (i+1)),dI i_1]/\M0 [dI (Pl .i64 (i+1)),dI i_1]<M0 [dI i,dI i_1]) (∃x7 x8 x9,Gv 145 [aP (Hx x3)] [aT x7 x8 x9]/\∃i_3,Gv 147 [aT x x1 x2,aT x7 x8 x9] [aI i_3]/\bB (decide (i_3>=0)) (I0 [] [dI (Pl .i64 (i+1)),dI i_1]/\M0 [dI (Pl .i64 (i+1)),dI i_1]<M0 [dI i,dI i_1]) (∃i_4 i_5,Gv 148 [aC x3,aP p0] [aI i_4,aI i_5]/\bB (decide (i_4>0)) (I0 [] [dI (Pl .i64 (i+1)),dI (Pl .i64 (0-i_1))]/\M0 [dI (Pl .i64 (i+1)),dI (Pl .i64 (0-i_1))]<M0 [dI i,dI i_1]) (I0 [] [dI (Pl .i64 (i+1)),dI i_1]/\M0 [dI (Pl .i64 (i+1)),dI i_1]<M0 [dI i,dI i_1]))))) (Q [aI i_1]))):=by kernel_rfl
theorem IE(Gv:Nat->List A->List A->Prop)(x0:Int)(y0:Int)(u0:Int)(Q:List A->Prop):wpF CC Gv an0 Tryz.f15 [.ag [.int .i16 x0,.int .i16 y0,.int .u8 u0]] Q=(∃x,Gv 14 [aI (Pl .i64 x0),aI (Pl .i64 (Pl .i64 u0+1))] [aR x]/\∃x1,Gv 14 [aI (Pl .i64 y0),aI (Pl .i64 (Pl .i64 u0+1))] [aR x1]/\Q [aV x x1]):=by kernel_rfl
end Eng
end
section
namespace Eng
open Go Go.Proofs Rl
set_option maxRecDepth 100000
theorem rj{a b:Int}(h:IvB a b):qa CC 246 [eIv a b] [eIv (-b) (-a)]/\IvB (-b) (-a):=by
 obtain⟨ha,hb,hab⟩:=h;unfold FB at ha hb;refine⟨?_,⟨by unfold FB;omega,by unfold FB;omega,by omega⟩⟩;refine wpG Tryz.func246 ((eS ..).mpr ?_);rw[xF (n:=0-b),xF (n:=0-a),be,be];rfl
theorem bY{n:Rat}{k:Nat}(hn:Hz k n){a b:Int}(h:IvB a b)(o:Bool)(hk:k<300000:=by omega):∃c d ok,qa CC 243 [.ag (rk (q4 n) []),eIv a b,eOk o] [eIv c d,eOk ok]/\IvB c d/\(ok=true->o=true/\∀x,inI a b x->inI c d (ofR n*x)):=by
 obtain⟨b1,b2,ob,gb,bb,ib⟩:=zP hn;obtain⟨m1,m2,om,gm,bm,im⟩:=bX bb h;cases o with
 |false=>refine⟨0,0,false,?_,.zero,by simp⟩;refine wpG Tryz.func243 ((Ve ..).mpr ?_);exact⟨_,_,_,gb,brF rfl⟩
 |true=>
 cases ob with
 |false=>refine⟨0,0,false,?_,.zero,by simp⟩;refine wpG Tryz.func243 ((Ve ..).mpr ?_);exact⟨_,_,_,gb,brT (brF rfl)⟩
 |true=>refine⟨m1,m2,om,?_,bm,λe=>⟨rfl,λx hx=>im e _ _ (ib rfl) hx⟩⟩;refine wpG Tryz.func243 ((Ve ..).mpr ?_);exact⟨_,_,_,gb,brT (brT ⟨_,_,_,gm,rfl⟩)⟩
theorem cPx{p:P5}{k:Nat}(hp:HP k p)(ho:okP p)(h:k<300000:=by omega):∃c d ok,qa CC 239 [.ag (rk (q4 p.x) (rk (q4 p.u) (rk (q4 p.c) [])))] [eIv c d,eOk ok]/\IvB c d/\(ok=true->inI c d (px p)):=
 Ej (r:=⟨p.x,p.u,p.c⟩) ⟨hp.1,hp.2.1,hp.2.2.2.2⟩ ho.nn
theorem cPy{p:P5}{k:Nat}(hp:HP k p)(ho:okP p)(h:k<300000:=by omega):∃c d ok,qa CC 239 [.ag (rk (q4 p.y) (rk (q4 p.v) (rk (q4 p.c) [])))] [eIv c d,eOk ok]/\IvB c d/\(ok=true->inI c d (py p)):=
 Ej (r:=⟨p.y,p.v,p.c⟩) ⟨hp.2.2.1,hp.2.2.2.1,hp.2.2.2.2⟩ ho.nn
theorem IF{l:Ln}{p:P5}(hl:HL l)(hp:HP 1300 p)(ho:okP p):∃n ok,qa CC 184 [.ag (kL l []),.ag (pk (kP p) [])] [eI n,eOk ok]/\(ok=true->n=sg (lnv l p)):=by
 obtain⟨_,_,o1,g1,k1,i1⟩:=cPx hp ho;obtain⟨_,_,o2,g2,k2,i2⟩:=bY hl.1 k1 o1;obtain⟨_,_,o3,g3,k3,i3⟩:=cPy hp ho;obtain⟨_,_,o4,g4,k4,i4⟩:=bY hl.2.1 k3 o3;obtain⟨_,_,o5,g5,k5,i5⟩:=zP hl.2.2;obtain⟨_,_,o6,g6,k6,i6⟩:=I5 k2 k4;obtain⟨g7,k7⟩:=rj k5;obtain⟨_,_,o8,g8,k8,i8⟩:=I5 k6 k7;obtain⟨z,oz,gz,iz⟩:=ri _ _;refine⟨if(o2&&o4&&o5&&o6&&o8)=true then z else 0,o2&&o4&&o5&&o6&&o8&&oz,?_,λe=>?_⟩
 .refine wpG Tryz.func184 ((I7 ..).mpr ?_);refine⟨_,_,_,g1,_,_,_,g2,_,_,_,g3,_,_,_,g4,_,_,_,g5,?_⟩;cases o2
  .rfl
  cases o4
  .rfl
  cases o5
  .rfl
  refine⟨_,_,_,g6,?_⟩;cases o6
  .rfl
  refine⟨_,_,g7,_,_,_,g8,?_⟩;cases o8
  .rfl
  exact⟨_,_,gz,rfl⟩
 .simp only[B0]at e;obtain⟨⟨⟨⟨⟨e2,e4⟩,e5⟩,e6⟩,e8⟩,ez⟩:=e;obtain⟨e1,j2⟩:=i2 e2;obtain⟨e3,j4⟩:=i4 e4;rw[e2,e4,e5,e6,e8];exact iz ez _ (i8 e8 _ _ (i6 e6 _ _ (j2 _ (i1 e1)) (j4 _ (i3 e3))) (Mg (i5 e5)))
theorem yr{x y:Rat}{j k:Nat}(hx:Hz j x)(hy:Hz k y)(h:j<360000/\k<360000:=by omega):qa CC 187 [.ag (rk (q4 x) []),.ag (rk (q4 y) [])] [.ag (rk (q4 (x+y)) [])]:=by
 refine wpG Tryz.func187 ((gH ..).mpr ?_);exact⟨_,mr hx hy h,rfl⟩
theorem Kj{x y:Rat}{j k:Nat}(hx:Hz j x)(hy:Hz k y)(h:j<360000/\k<360000:=by omega):qa CC 186 [.ag (rk (q4 x) []),.ag (rk (q4 y) [])] [.ag (rk (q4 (x-y)) [])]:=by
 refine wpG Tryz.func186 ((gI ..).mpr ?_);exact⟨_,EU hx hy h,rfl⟩
theorem Pa{a b m:Rat}{i j k:Nat}(ha:Hz i a)(hb:Hz j b)(hm:Hz k m)(h:2*i<360000/\2*j+k<360000:=by omega):
 qa CC 185 [.ag (rk (q4 a) []),.ag (rk (q4 b) []),.ag (rk (q4 m) [])] [.c (.int .i64 (tw a b m))]:=by
 refine wpG Tryz.func185 ((I8 ..).mpr ?_);have h2:=hb.mul hb (l:=2*j);refine⟨_,kq a,_,kq b,_,kq m,?_⟩;rw[j9 (Wm b) (Wm m)];unfold tw;refine brb (λh1=>?_) (λh1=>?_)
 .rw[if_pos (.inl (bv h1))]
 have n1:¬sr b*sr m=0:=by simpa using h1
 refine brb (λh3=>?_) (λh3=>?_)
 .rw[if_pos (.inr (bv h3))]
 have n3:¬sr a=sr b*sr m:=by simpa using h3
 rw[if_neg (by simp[n1,n3])];refine brb (λh4=>?_) (λh4=>?_)
 .rw[if_pos (bv h4)]
 have n4:¬sr a=0:=by simpa using h4
 rw[if_neg n4];refine⟨_,zu ha ha,_,zu hb hb,_,zu h2 hm,_,Rd (ha.mul ha (l:=2*i)) (h2.mul hm (l:=2*j+k)),?_⟩;rw[j9 (Wm a) (Wm _)]
theorem IG{l:Ln}{p:P5}(hl:HL l)(hp:HP 1300 p)(ho:okP p):qa CC 127 [.ag (kL l []),.ag (pk (kP p) [])] [.c (.int .i64 (sg (lnv l p)))]:=by
 obtain⟨z,oz,gz,iz⟩:=IF hl hp ho;have m1:=hl.1.mul hp.1 (l:=1345);have m2:=hl.2.1.mul hp.2.2.1 (l:=1345);have s1:=m1.add m2 (l:=2691);have s2:=s1.sub hl.2.2 (l:=2900);have m3:=hl.1.mul hp.2.1 (l:=1345);have m4:=hl.2.1.mul hp.2.2.2.1 (l:=1345);have s3:=m3.add m4 (l:=2691);refine wpG Tryz.func127 ((I9 ..).mpr ?_);refine⟨_,_,gz,xG (λe=>by rw[iz e]) (λ_=>?_)⟩;refine⟨_,zu hl.1 hp.1,_,zu hl.2.1 hp.2.2.1,_,yr m1 m2,_,Kj s1 hl.2.2,_,zu hl.1 hp.2.1,_,zu hl.2.1 hp.2.2.2.1,_,yr m3 m4,_,Pa s2 s3 hp.2.2.2.2,?_⟩;rw[U4 _ _ ho.nn];have e:lnv l p=ofR (l.a*p.x+l.b*p.y-l.c)+ofR (l.a*p.u+l.b*p.v)*jw p.c:=by unfold lnv px py;generalize jw p.c=x;obtain⟨x,rfl⟩:=x.rep;simp only[wS,ze,qL];exact xz λn=>by simp only[xZ,zK,ke,kf];grind
 rw[e]
theorem Pb{a b c f:Rat}{k:Nat}(ha:Hz k a)(hb:Hz k b)(hc:Hz k c)(hf:Hz k f)(nn:0<=c)(h:k<300000:=by omega):∃l u ok,qa CC 249 [.ag (rk (q4 a) []),.ag (rk (q4 b) []),.ag (rk (q4 c) []),.ag (rk (q4 f) [])] [eIv l u,eOk ok]/\IvB l u/\(ok=true->inI l u (ofR a+ofR b*jw c-ofR f)):=by
 obtain⟨_,_,o1,g1,k1,i1⟩:=Ej (r:=⟨a,b,c⟩) ⟨ha,hb,hc⟩ nn;obtain⟨_,_,o2,g2,k2,i2⟩:=zP hf;obtain⟨g3,k3⟩:=rj k2;obtain⟨s,t,o4,g4,k4,i4⟩:=I5 k1 k3;cases o1 with
 |false=>refine⟨0,0,false,?_,.zero,by simp⟩;refine wpG Tryz.func249 ((Hh ..).mpr ?_);exact⟨_,_,_,g1,_,_,_,g2,brF rfl⟩
 |true=>
 cases o2 with
 |false=>refine⟨0,0,false,?_,.zero,by simp⟩;refine wpG Tryz.func249 ((Hh ..).mpr ?_);exact⟨_,_,_,g1,_,_,_,g2,brT (brF rfl)⟩
 |true=>refine⟨s,t,o4,?_,k4,λe=>i4 e _ _ (i1 rfl) (Mg (i2 rfl))⟩;refine wpG Tryz.func249 ((Hh ..).mpr ?_);exact⟨_,_,_,g1,_,_,_,g2,brT (brT ⟨_,_,g3,_,_,_,g4,rfl⟩)⟩
theorem Er{c:Ci}{p:P5}(hc:HC c)(hp:HP 1300 p)(ho:okP p):∃n ok,qa CC 190 [.ag (kC c []),.ag (pk (kP p) [])] [eI n,eOk ok]/\(ok=true->n=sg (civ c p)):=by
 obtain⟨_,_,o1,g1,k1,i1⟩:=Pb hp.1 hp.2.1 hp.2.2.2.2 (show Hz 1300 c.x from hc.1.mono (by omega)) ho.nn;obtain⟨_,_,o2,g2,k2,i2⟩:=Pb hp.2.2.1 hp.2.2.2.1 hp.2.2.2.2 (show Hz 1300 c.y from hc.2.1.mono (by omega)) ho.nn;obtain⟨_,_,o3,g3,k3,i3⟩:=zP hc.2.2;obtain⟨_,_,o4,g4,k4,i4⟩:=bX k1 k1;obtain⟨_,_,o5,g5,k5,i5⟩:=bX k2 k2;obtain⟨_,_,o6,g6,k6,i6⟩:=I5 k4 k5;obtain⟨g7,k7⟩:=rj k3;obtain⟨_,_,o8,g8,k8,i8⟩:=I5 k6 k7;obtain⟨z,oz,gz,iz⟩:=ri _ _;refine⟨if(o1&&o2&&o3&&o4&&o5&&o6&&o8)=true then z else 0,o1&&o2&&o3&&o4&&o5&&o6&&o8&&oz,?_,λe=>?_⟩
 .refine wpG Tryz.func190 ((En ..).mpr ?_);refine⟨_,_,_,g1,_,_,_,g2,_,_,_,g3,?_⟩;cases o1
  .rfl
  cases o2
  .rfl
  cases o3
  .rfl
  refine⟨_,_,_,g4,_,_,_,g5,?_⟩;cases o4
  .rfl
  cases o5
  .rfl
  refine⟨_,_,_,g6,?_⟩;cases o6
  .rfl
  refine⟨_,_,g7,_,_,_,g8,?_⟩;cases o8
  .rfl
  exact⟨_,_,gz,rfl⟩
 .simp only[B0]at e;obtain⟨⟨⟨⟨⟨⟨⟨e1,e2⟩,e3⟩,e4⟩,e5⟩,e6⟩,e8⟩,ez⟩:=e;rw[e1,e2,e3,e4,e5,e6,e8];exact iz ez _ (i8 e8 _ _ (i6 e6 _ _ (i4 e4 _ _ (i1 e1) (i1 e1)) (i5 e5 _ _ (i2 e2) (i2 e2))) (Mg (i3 e3)))
theorem Y4{c:Ci}{p:P5}(hc:HC c)(hp:HP 1300 p)(ho:okP p):qa CC 129 [.ag (kC c []),.ag (pk (kP p) [])] [.c (.int .i64 (-sg (civ c p)))]:=by
 obtain⟨z,oz,gz,iz⟩:=Er hc hp ho;have wn:∀x:Rl,Pl .i64 (0-sg x)= -sg x:=λx=>by have:=Ce x;rw[xF];omega
 have u1:=hp.1.sub hc.1 (l:=1321);have v1:=hp.2.2.1.sub hc.2.1 (l:=1321);have uu:=u1.mul u1 (l:=2642);have vv:=v1.mul v1 (l:=2642);have q1:=uu.add vv (l:=5285);have ss:=hp.2.1.mul hp.2.1 (l:=2600);have tt:=hp.2.2.2.1.mul hp.2.2.2.1 (l:=2600);have q2:=ss.add tt (l:=5201);have q3:=hp.2.2.2.2.mul q2 (l:=6501);have q4:=q1.add q3 (l:=11787);have us:=u1.mul hp.2.1 (l:=2621);have vt:=v1.mul hp.2.2.2.1 (l:=2621);have cr:=us.add vt (l:=5243);have q5:=q4.sub hc.2.2 (l:=11808);have c2:=cr.add cr (l:=10487);refine wpG Tryz.func129 ((RU ..).mpr ?_);refine⟨_,_,gz,xG (λe=>by rw[iz e,wn]) (λ_=>?_)⟩;refine⟨_,Kj hp.1 hc.1,_,Kj hp.2.2.1 hc.2.1,_,zu u1 u1,_,zu v1 v1,_,yr uu vv,_,zu hp.2.1 hp.2.1,_,zu hp.2.2.2.1 hp.2.2.2.1,_,yr ss tt,_,zu hp.2.2.2.2 q2,_,yr q1 q3,
  _,zu u1 hp.2.1,_,zu v1 hp.2.2.2.1,_,yr us vt,_,Kj q4 hc.2.2,_,yr cr cr,_,Pa q5 c2 hp.2.2.2.2,?_⟩
 rw[U4 _ _ ho.nn];have e:civ c p=ofR ((p.x-c.x)*(p.x-c.x)+(p.y-c.y)*(p.y-c.y)+p.c*(p.u*p.u+p.v*p.v)-c.q)+ofR ((p.x-c.x)*p.u+(p.y-c.y)*p.v+((p.x-c.x)*p.u+(p.y-c.y)*p.v))*jw p.c:=by unfold civ px py;have h:=wo ho.nn;simp only[wS,ze,qL];rw[<-h];generalize jw p.c=x;obtain⟨x,rfl⟩:=x.rep;exact xz λn=>by simp only[xZ,zK,ke,kf];grind
 rw[e,wn]
end Eng
end
section
namespace Eng
open Go Go.Proofs Rl
set_option maxRecDepth 100000
theorem TD{x y:Rl}:sg (x-y)<=0↔x<=y:=by
 have:= @Xg x y;constructor
 .intro h k;exact absurd (this.2 k) (by omega)
 .intro h;rcases W3 0 (sg (x-y))with k|k
  .exact absurd (this.1 k) h
  .exact k
theorem Es{p q:P5}:zW p q<=0↔px p<px q\/(px p=px q/\py p<=py q):=by
 unfold zW;split
 .rename_i h;rw[TD];have e:=jv (qY.1 h);exact⟨λk=> .inr ⟨e,k⟩,λk=>k.elim (λk=>by rw[e]at k;exact absurd k (ku _)) (·.2)⟩
 .rename_i h;rw[TD];constructor
  .intro k;rcases lt_or_ge (px p) (px q)with l|l
   .exact .inl l
   .exact absurd (qY.2 (by rw[xA k l,sbs])) h
  .rintro(k|⟨k, -⟩)
   .exact le_of_lt k
   .rw[k];exact ji
theorem w6{c:Cu}{x:Rl}:Qx c x=true↔px c.fr<=x/\x<=px c.tt:=by
 unfold Qx;rw[B0,decide_eq_true_eq,decide_eq_true_eq,TD,TD]
theorem Pc{c:Cu}{p:P5}(h:Qx c (px p)=true):xD c p=((xD c p).1,true):=by
 unfold xD;rw[if_neg (by rw[h];simp)];split
 .split
  .rfl
  .split<;>rfl
 split
 .rfl
 split
 .split<;>rfl
 .split<;>rfl
theorem Zu{c:Cu}{p:P5}(h:¬Qx c (px p)=true):xD c p=(0,false):=by
 unfold xD;rw[if_pos (by simpa using h)]
theorem IH{l:Ln}{p q:P5}(h:lnv l p=0)(hx:px p=px q)(hb:l.b=0):lnv l q=0:=by
 unfold lnv at h ⊢;rw[hb,xS,zml,ad0]at h ⊢;rw[<-hx];exact h
theorem Et{l:Ln}{p q:P5}(h:lnv l p=0)(k:lnv l q=0)(hx:px p=px q):l.b=0\/py p=py q:=by
 unfold lnv at h k;rw[hx]at h;have e:ofR l.b*(py p-py q)=(ofR l.a*px q+ofR l.b*py p-ofR l.c)-(ofR l.a*px q+ofR l.b*py q-ofR l.c):=by generalize py p=x;generalize py q=y;generalize px q=z;obtain⟨x,rfl⟩:=x.rep;obtain⟨y,rfl⟩:=y.rep;obtain⟨z,rfl⟩:=z.rep;exact xz λn=>by simp only[xZ,zK,ke,kf];grind
 rw[h,k,sbs]at e;rcases mul_eq_zero e with e|e
 .exact .inl (yG.1 e)
 .exact .inr (jv e)
theorem Pd{c:Cu}(h:Mo c)(p:P5):y5 c p=true↔xD c p=(0,true):=by
 obtain⟨hg,hlt,a5⟩:=h;obtain⟨s1,s2,hne⟩:=hg.sup;rcases F0 c.arc with ha|ha
 .obtain⟨hx,hu,hlo⟩:=a5 ha;have hv:y6 c=false:=by unfold y6;rw[ha];rfl
  unfold y5;rw[B0,B0,decide_eq_true_eq,decide_eq_true_eq];rw[show(Z0 c p=true)=onS c p from rfl,jD ha];rcases F0 c.cw with hw|hw
  .obtain⟨f1,t1⟩:=hu hw;have h0:0<(So c.ci).q:=(hg.circ ha).2;have a4:px (yz c.tt)<px (yz c.fr):=jE.2 hx;have a6:=fJ h0 (xY.2 f1) (xY.2 t1).1 a4;have o:∀x y,zZ c x y=vw (So c.ci) (yz c.fr) (yz x) (yz y):=λx y=>by unfold zZ;rw[if_pos ha,if_pos hw];rfl
   rw[o,o];constructor
   .rintro⟨hc, -,k⟩;obtain⟨z1,z2⟩:=mP h0 (xY.2 f1) (xY.2 t1) a4 (QF.2 hc) k;have e:=D4 h0 (xY.2 f1) a6 z1 (xY.2 t1) z2 (le_of_lt a4);rw[e,TD]at k;have a1:px c.fr<=px p:=λl=>z2 (jE.2 l)
    have a2:px p<=px c.tt:=λl=>k (jE.2 l)
    have a3:=xY.1 z1;unfold xD;rw[if_neg (by rw[w6.2 ⟨a1,a2⟩];simp),if_neg (by rw[hv];simp),if_neg (by rw[ha];simp),if_pos hw];have n:¬sg (py p-ofR c.ci.y)<0:=λl=>a3.2 (Wj.1 (by have:=Ce (cY c.ci p);have l:sg (cY c.ci p)<0:=l;omega))
    rw[if_neg n,WU.2 a3.1]
   .intro k;by_cases hwb:Qx c (px p)=true
    .obtain⟨a1,a2⟩:=w6.1 hwb;unfold xD at k;rw[if_neg (by rw[hwb];simp),if_neg (by rw[hv];simp),if_neg (by rw[ha];simp),if_pos hw]at k;split at k
     .simp at k
     .rename_i n;have hc:=WU.1 (congrArg Prod.fst k);have a3:upp c.ci p:=⟨hc,λl=>n (by rw[show sg (py p-ofR c.ci.y)= -1 from Wi l];omega)⟩;have b1:px (yz p)<=px (yz c.fr):=λl=>a1 (jE.1 l)
      refine⟨hc,GV _ _ _,?_⟩;rw[D4 h0 (xY.2 f1) a6 (xY.2 a3) (xY.2 t1) b1 (le_of_lt a4),TD];exact λl=>a2 (jE.1 l)
    .rw[Zu hwb]at k;simp at k
  .obtain⟨f1,t1⟩:=hlo hw;have o:∀x y,zZ c x y=vw c.ci c.fr x y:=λx y=>by unfold zZ;rw[if_pos ha,if_neg (by rw[hw];simp)]
   rw[o,o];constructor
   .rintro⟨hc, -,k⟩;obtain⟨z1,z2⟩:=bL f1 t1 hx hc k;rw[MP f1 z1 t1 z2 (le_of_lt hx),TD]at k;unfold xD;rw[if_neg (by rw[w6.2 ⟨z2,k⟩];simp),if_neg (by rw[hv];simp),if_neg (by rw[ha];simp),if_neg (by rw[hw];simp)];have n:¬0<sg (py p-ofR c.ci.y):=λl=>z1.2 (U2.1 (by have:=Ce (cY c.ci p);have l:0<sg (cY c.ci p):=l;omega))
    rw[if_neg n,WU.2 z1.1];rfl
   .intro k;by_cases hwb:Qx c (px p)=true
    .obtain⟨a1,a2⟩:=w6.1 hwb;unfold xD at k;rw[if_neg (by rw[hwb];simp),if_neg (by rw[hv];simp),if_neg (by rw[ha];simp),if_neg (by rw[hw];simp)]at k;split at k
     .simp at k
     .rename_i n;have k1: -sg (civ c.ci p)=0:=congrArg Prod.fst k;have hc:=WU.1 (show sg (civ c.ci p)=0 by omega);have hl:low c.ci p:=⟨hc,λl=>n (by rw[show sg (py p-ofR c.ci.y)=1 from XW l];omega)⟩;refine⟨hc,GV _ _ _,?_⟩;rw[MP f1 hl t1 a1 (le_of_lt hx),TD];exact a2
    .rw[Zu hwb]at k;simp at k
 .have o:∀x y,zZ c x y=zW x y:=λx y=>by unfold zZ;rw[if_neg (by rw[ha];simp),if_neg (by omega)]
  have a7:∀q,Z0 c q=true↔lnv c.ln q=0:=λq=>by unfold Z0;rw[if_neg (by rw[ha];simp),beq_iff_eq,qY]
  rw[a7]at s1 s2;unfold y5;rw[B0,B0,decide_eq_true_eq,decide_eq_true_eq,o,o,Es,Es,a7];have vx:y6 c=true↔px c.fr=px c.tt:=by unfold y6;rw[ha];simp only[Bool.not_false,Dd,beq_iff_eq];exact RD
  have ge:∀{x y:Rl},x<y\/x=y->x<=y:=λh=>h.elim le_of_lt (λe=>by rw[e];exact ji)
  constructor
  .rintro⟨hs,h1,h2⟩;have a1:px c.fr<=px p:=ge (h1.imp id (·.1));have a2:px p<=px c.tt:=ge (h2.imp id (·.1));unfold xD;rw[if_neg (by rw[w6.2 ⟨a1,a2⟩];simp)];by_cases hv:y6 c=true
   .have e:=vx.1 hv;rw[if_pos hv];have y2:py p<=py c.tt:=h2.elim (λl=>absurd l (by rw[<-e];exact a1)) (·.2);have y1:py c.fr<=py p:=h1.elim (λl=>absurd l (by rw[e];exact a2)) (·.2);rw[if_neg (by rw[Xg];exact y2),if_neg (by rw[yS];exact y1)]
   .rw[if_neg hv,if_pos ha,qY.2 hs,Int.zero_mul]
  .intro k;by_cases hwb:Qx c (px p)=true
   .obtain⟨a1,a2⟩:=w6.1 hwb;unfold xD at k;rw[if_neg (by rw[hwb];simp)]at k;by_cases hv:y6 c=true
    .have e:=vx.1 hv;rw[if_pos hv]at k;split at k
     .simp at k
     .rename_i n1;split at k
      .simp at k
      .rename_i n2;rw[Xg]at n1;rw[yS]at n2;have e1:px c.fr=px p:=xA a1 (by rw[e];exact a2);refine⟨?_,.inr ⟨e1,n2⟩,.inr ⟨by rw[<-e1,e],n1⟩⟩;rcases Et s1 s2 e with hb|hy
       .exact IH s1 e1 hb
       .have:=jd.2 (show ZI c.fr c.tt from⟨e,hy⟩);rw[hne]at this;cases this
    .have hb:=Mz hg ha (by simpa using hv);rw[if_neg hv,if_pos ha]at k;have k1:sg (lnv c.ln p)*sr c.ln.b=0:=congrArg Prod.fst k;have hs:lnv c.ln p=0:=by
      rcases Int.mul_eq_zero.1 k1 with k|k
      .exact qY.1 k
      .rw[BV,qY]at k;exact absurd (yG.1 k) hb
     have le:∀{x y:Rl},x<=y->x<y\/x=y:=λ{x y} h=>(lt_or_ge x y).imp id (λl=>xA h l)
     refine⟨hs,(le a1).imp id λe=>⟨e,?_⟩,(le a2).imp id λe=>⟨e,?_⟩⟩
     .rw[(Et s1 hs e).resolve_left hb];exact ji
     .rw[(Et hs s2 e).resolve_left hb];exact ji
   .rw[Zu hwb]at k;simp at k
end Eng
end
section
namespace Eng
open Go Go.Proofs Rl
set_option maxRecDepth 100000
theorem TE:qa CC 248 [] [.ag (rk (q4 0) [])]:=by
 refine wpG Tryz.func248 ((Eo ..).mpr ?_);exact⟨_,b0,rfl⟩
theorem Na(x:Rat):qa CC 189 [.ag (rk (q4 x) [])] [.ag (kT (rtQ x) [])]:=by
 refine wpG Tryz.func189 ((MZ ..).mpr ?_);exact⟨_,TE,_,TE,rfl⟩
theorem RX{r:Rt}{i j k:Nat}{x:Rat}(hr:HT i j k r)(ho:okT r)(hx:Hz i x)(h:8*i+(8*j+6*k)<298900:=by omega):
 qa CC 128 [.ag (kT r []),.ag (rk (q4 x) [])] [.c (.int .i64 (sg (rv r-ofR x)))]:=by
 refine wpG Tryz.func128 ((RV ..).mpr ?_);have e:rv (rtQ x)=ofR x:=by show ofR x+ofR 0*jw 0=ofR x;rw[xS,zml,ad0]
 have h1:=Hg (s:=rtQ x) hr ⟨hx,Hz.zero,Hz.zero⟩ ho (.inl ⟨rfl,rfl⟩);rw[e]at h1;exact⟨_,_,_,Na x,_,h1,rfl⟩
theorem nJ(v:Vc):qa CC 32 [.ag (kV v)] [.ag (pk (kP (atV v)) [])]:=by
 refine wpG Tryz.func32 ((nI ..).mpr ?_);exact⟨_,Kh,_,Kh,_,Kh,rfl⟩
theorem yt{p q:P5}(hp:Gp p)(hq:Gp q):qa CC 125 [.ag (kT (xP p) []),.ag (kT (xP q) [])] [.c (.int .i64 (sg (px p-px q)))]:=by
 have h:=Hg hp.1.tx hq.1.tx (QD hp.2) (QD hq.2)
 rwa [Zb,Zb]at h
theorem Pe{p q:P5}(hp:Gp p)(hq:Gp q):qa CC 125 [.ag (kT (yP p) []),.ag (kT (yP q) [])] [.c (.int .i64 (sg (py p-py q)))]:=by
 have h:=Hg hp.1.ty hq.1.ty (Za hp.2) (Za hq.2)
 rwa [Wn,Wn]at h
theorem Zv{c:Cu}(hc:Gc c):qa CC 124 [.ag (ck (kU c) [])] [.c (.bool (y6 c))]:=by
 refine wpG Tryz.func124 ((IA ..).mpr ?_);have h1:=TC c.fr;have h2:=TC c.tt;rw[<-jH]at h1;rw[<-kH]at h2;have h3:=nH hc.2.1.1.tx hc.2.2.1.tx (QD hc.2.1.2) (QD hc.2.2.2);rw[Zb,Zb]at h3;rw[vz];unfold y6;refine brb (λh=>?_) (λh=>?_)
 .rw[h,Dd];exact⟨_,_,_,h1,_,_,_,h2,_,h3,rfl⟩
 .rw[h];rfl
theorem II{c:Cu}{p:P5}(hc:Gc c)(hp:Gp p):qa CC 123 [.ag (ck (kU c) []),.ag (kT (xP p) [])] [.c (.bool (Qx c (px p)))]:=by
 refine wpG Tryz.func123 ((IB ..).mpr ?_);have h1:=TC c.fr;have h2:=TC c.tt;rw[<-jH]at h1;rw[<-kH]at h2;refine⟨_,_,_,h1,_,yt hc.2.1 hp,?_⟩;unfold Qx;refine brd (λh=>?_) (λh=>?_)
 .rw[decide_eq_true h,Dd];exact⟨_,_,_,h2,_,yt hp hc.2.2,rfl⟩
 .rw[decide_eq_false h];rfl
theorem TF{c:Cu}{p:P5}(hc:Gc c)(hp:Gp p):qa CC 70 [.ag (ck (kU c) []),.ag (pk (kP p) [])] [.c (.int .i64 (xD c p).1),.c (.int .i64 (if(xD c p).2=true then 0 else 1))]:=by
 refine wpG Tryz.func70 ((Ep ..).mpr ?_);refine⟨_,_,_,TC p,_,II hc hp,?_⟩;cases hb:Qx c (px p)with
 |false=>rw[Zu (by rw[hb];simp)];exact brb (λ_=>rfl) (λh=>by cases h)
 |true=>
  have hin:=Pc (p:=p) hb;have h2:(xD c p).2=true:=congrArg Prod.snd hin;rw[h2,if_pos rfl];refine brb (λh=>by cases h) (λ_=>?_);unfold xD;rw[if_neg (by rw[hb];simp)];refine⟨_,Zv hc,?_⟩;have h1:=Em c.fr;have h2:=Em c.tt;rw[<-jH]at h1;rw[<-kH]at h2;refine xG (λh=>?_) (λh=>?_)
  .rw[if_pos h];refine⟨_,_,_,Em p,_,_,_,h2,_,Pe hp hc.2.2,?_⟩;refine brd (λh3=>?_) (λh3=>?_)
   .rw[if_pos (show 0<sg (py p-py c.tt)from h3)]
   .rw[if_neg (show ¬0<sg (py p-py c.tt)from h3)];refine⟨_,_,_,Em p,_,_,_,h1,_,Pe hp hc.2.1,?_⟩;refine brd (λh4=>?_) (λh4=>?_)
    .rw[if_pos h4]
    .rw[if_neg h4]
  .rw[if_neg (by rw[h];simp),vz];cases ha:c.arc with
   |false=>
    refine brb (λ_=>?_) (λh=>by cases h);obtain⟨arc,ln,ci,cw,fr,tt,jk⟩:=c;subst ha;have hl:HL ln:=by rcases hc.1.2 with h|h;cases h.1;exact h.2.1
    refine⟨_,IG hl hp.1 hp.2,_,kq _,?_⟩;rw[j9 (Ce _) (Wm _),if_pos rfl]
   |true=>
    refine brb (λh=>by cases h) (λ_=>?_);obtain⟨arc,ln,ci,cw,fr,tt,jk⟩:=c;subst ha;have hC:HC ci:=by rcases hc.1.2 with h|h;exact h.2.1;cases h.1
    have h5:=RX hp.1.ty (Za hp.2) (hC.2.1.mono (by omega));rw[Wn]at h5;refine⟨_,_,_,Em p,_,h5,?_⟩;have hw2:Pl .i64 (0- -sg (civ ci p))=sg (civ ci p):=by have:=Ce (civ ci p);rw[xF];omega
    rw[if_neg (by simp)];cases cw with
    |true=>
     refine brb (λ_=>?_) (λh=>by cases h);rw[if_pos rfl];refine brd (λh3=>?_) (λh3=>?_)
     .rw[if_pos h3]
     .rw[if_neg h3];refine brb (λ_=>⟨_,Y4 hC hp.1 hp.2,?_⟩) (λh=>by cases h);rw[hw2]
    |false=>
     refine brb (λh=>by cases h) (λ_=>brb (λh=>by cases h) (λ_=>?_));rw[if_neg (by simp)];refine brd (λh3=>?_) (λh3=>?_)
     .rw[if_pos (show 0<sg (py p-ofR ci.y)from h3)]
     .rw[if_neg (show ¬0<sg (py p-ofR ci.y)from h3)];exact⟨_,Y4 hC hp.1 hp.2,rfl⟩
def IJ (p:P5) (c:Cu):Prop:=y6 c=true\/0<sg (px c.fr-px p)\/0<=sg (px p-px c.tt)
theorem gJ(p:P5)(n:Int)(c:Cu):(open Classical in jz p n c=if IJ p c then n else if 0<(xD c p).1 then-n else n):=by
 unfold jz IJ;congr
theorem IK{c:Cu}{p:P5}(hc:Gc c)(hp:Gp p):∃n b,qa CC 71 [.ag (ck (kU c) []),.ag (kT (xP p) []),.ag (pk (kP p) [])] [.c (.int .i64 n),.c (.bool b)]/\((b=true/\0<n)↔(¬IJ p c/\0<(xD c p).1)):=by
 have h1:=TC c.fr;have h2:=TC c.tt;rw[<-jH]at h1;rw[<-kH]at h2;unfold IJ;by_cases k1:y6 c=true
 .refine⟨0,false,?_,by simp[k1]⟩;refine wpG Tryz.func71 ((Ki ..).mpr ?_);exact⟨_,Zv hc,xG (λ_=>rfl) (λh=>by rw[k1]at h;cases h)⟩
 by_cases k2:0<=sg (px p-px c.tt)
 .refine⟨0,false,?_,by simp[k2]⟩;refine wpG Tryz.func71 ((Ki ..).mpr ?_);exact⟨_,Zv hc,xG (λh=>absurd h k1) (λ_=>⟨_,_,_,h2,_,yt hp hc.2.2,brd (λ_=>rfl) (λh=>absurd k2 h)⟩)⟩
 by_cases k3:sg (px p-px c.fr)<0
 .have a3:0<sg (px c.fr-px p):=by rw[ZW];omega
  refine⟨0,false,?_,by simp[a3]⟩;refine wpG Tryz.func71 ((Ki ..).mpr ?_);exact⟨_,Zv hc,xG (λh=>absurd h k1) (λ_=>⟨_,_,_,h2,_,yt hp hc.2.2,brd (λh=>absurd h k2) (λ_=>⟨_,_,_,h1,_,yt hp hc.2.1,brd (λ_=>rfl) (λh=>absurd k3 h)⟩)⟩)⟩
 .have a3:¬0<sg (px c.fr-px p):=by rw[ZW];omega
  have hin:Qx c (px p)=true:=w6.2 ⟨λl=>k3 (yS.2 l),λl=>k2 (Int.le_of_lt (Xg.2 l))⟩;have ha:=TF hc hp;rw[Pc hin,if_pos rfl]at ha;refine⟨(xD c p).1,true,?_,by simp[k1,k2,a3]⟩;refine wpG Tryz.func71 ((Ki ..).mpr ?_);exact⟨_,Zv hc,xG (λh=>absurd h k1) (λ_=>⟨_,_,_,h2,_,yt hp hc.2.2,brd (λh=>absurd h k2) (λ_=>⟨_,_,_,h1,_,yt hp hc.2.1,brd (λh=>absurd h k3) (λ_=>⟨_,_,ha,rfl⟩)⟩)⟩)⟩
end Eng
end
section
namespace Eng
open Go Go.Proofs Rl
set_option maxRecDepth 100000
theorem TG{l:List Cu}{k:Nat}(h:k<l.length)(p:P5)(n:Int):(l.take (k+1)).foldl (jz p) n=jz p ((l.take k).foldl (jz p) n) l[k]:=by
 rw[bx h,List.foldl_append];rfl
def ctI (l:List Cu) (p:P5) (_ ds:List D):Prop:=∃k m:Nat,k<=l.length/\m<=k/\ds=[.int .i64 (k:Int),.int .i64 (m:Int)]/\(∀c∈l.take k,¬xD c p=(0,true))/\(l.take k).foldl (jz p) (-1)=if m%2=1 then 1 else-1
theorem IL{l:List Cu}{p:P5}(hl:∀c∈l,Mo c)(hp:Gp p)(hn:l.length<=6000000):qa CC 31 [.ag [.sl (kUs l)],.ag (pk (kP p) [])] [.c (.int .i64 (j8 l p))]:=by
 have hv:=IC (qa CC) (ctI l p) (jn 10000000) (kUs l) (kP p) (· =[.c (.int .i64 (j8 l p))]);refine gOk Tryz.func31 hv ?_;clear hv;rw[qu];refine⟨_,_,_,TC p,⟨0,0,dy _,cH _,rfl,by simp,rfl⟩,?_⟩;rintro _ _ ⟨k,m,hk,hm,he,a6,hf⟩;simp only[c4,Lr,and_true,true_and]at he;obtain⟨rfl,rfl⟩:=he;refine brd (λh3=>?_) (λh3=>?_)
 .have a3:k<l.length:=by simp only[U3]at h3;omega
  have ok1:=xk a3;have a7:=hl _ (cb a3);have hg:=a7.1.1;refine⟨ok1,_,xh a3,_,_,TF hg hp,?_⟩;obtain⟨n,b,ho,hb⟩:=IK hg hp;have w1:Pl .i64 ((k:Int)+1)=((k+1:Nat):Int):=by rw[wI];rfl
  have w2:Pl .i64 ((m:Int)+1)=((m+1:Nat):Int):=by rw[wI];rfl
  have fl:=gJ p ((l.take k).foldl (jz p) (-1)) l[k];rw[<-TG a3]at fl;have a8:¬xD l[k] p=(0,true)->∃n b,qa CC 71 [.ag (ck (kU l[k]) []),.ag (kT (xP p) []),.ag (pk (kP p) [])] [.c (.int .i64 n),.c (.bool b)]/\br b
   (br (toB (J4 (decide (n>0))))
    (ctI l p [] [.int .i64 (Pl .i64 ((k:Int)+1)),.int .i64 (Pl .i64 ((m:Int)+1))]/\jn 10000000 [.int .i64 (Pl .i64 ((k:Int)+1)),.int .i64 (Pl .i64 ((m:Int)+1))]<jn 10000000 [.int .i64 (k:Int),.int .i64 (m:Int)])
    (ctI l p [] [.int .i64 (Pl .i64 ((k:Int)+1)),.int .i64 (m:Int)]/\jn 10000000 [.int .i64 (Pl .i64 ((k:Int)+1)),.int .i64 (m:Int)]<jn 10000000 [.int .i64 (k:Int),.int .i64 (m:Int)]))
   (ctI l p [] [.int .i64 (Pl .i64 ((k:Int)+1)),.int .i64 (m:Int)]/\jn 10000000 [.int .i64 (Pl .i64 ((k:Int)+1)),.int .i64 (m:Int)]<jn 10000000 [.int .i64 (k:Int),.int .i64 (m:Int)]):=by
   intro hne;have a4:∀c∈l.take (k+1),¬xD c p=(0,true):=λc hc=>by
    rw[bx a3]at hc;rcases c3.1 hc with hc|hc
    .exact a6 c hc
    .rw[cv.1 hc];exact hne
   have a5:¬(b=true/\0<n)->ctI l p [] [.int .i64 (Pl .i64 ((k:Int)+1)),.int .i64 (m:Int)]/\jn 10000000 [.int .i64 (Pl .i64 ((k:Int)+1)),.int .i64 (m:Int)]<jn 10000000 [.int .i64 (k:Int),.int .i64 (m:Int)]:=λhh=>by
    refine⟨⟨k+1,m,a3,by omega,by rw[w1],a4,?_⟩,qt⟩;rw[fl,<-hf];split
    .rfl
    .rename_i h1;rw[if_neg (λh2=>hh (hb.2 ⟨h1,h2⟩))]
   refine⟨n,b,ho,xG (λe1=>brd (λe2=>?_) (λe2=>a5 (λh=>e2 h.2))) (λe1=>a5 (λh=>by rw[e1]at h;cases h.1))⟩;obtain⟨h1,h2⟩:=hb.1 ⟨e1,e2⟩;refine⟨⟨k+1,m+1,a3,by omega,by rw[w1,w2],a4,?_⟩,qt⟩;rw[fl,if_neg h1,if_pos h2,hf];rcases Nat.mod_two_eq_zero_or_one m with e|e
   .rw[if_neg (by omega),if_pos (by omega)];rfl
   .rw[if_pos e,if_neg (by omega)]
  refine brb (λh4=>brb (λh5=>?_) (λh5=>a8 ?_)) (λh4=>a8 ?_)
  .have e1:(xD l[k] p).1=0:=by simpa using h5
   have e2:(xD l[k] p).2=true:=by
    cases hh:(xD l[k] p).2 with
    |true=>rfl
    |false=>rw[hh]at h4;simp at h4
   have on:onL l p=true:=by unfold onL;exact cc.2 ⟨_,cb a3,(Pd a7 p).2 (Prod.ext e1 e2)⟩
   unfold j8;rw[if_pos on]
  .intro e;rw[e]at h5;simp at h5
  .intro e;rw[e]at h4;simp at h4
 .have a3:k=l.length:=by simp only[U3]at h3;omega
  subst a3;rw[cg]at a6 hf;have on:¬onL l p=true:=λh=>by unfold onL at h;obtain⟨c,hc,h⟩:=cc.1 h;exact a6 c hc ((Pd (hl c hc) p).1 h)
  unfold j8;rw[if_neg on,hf];have t:W0 (m:Int) 2=((m%2:Nat):Int):=by rw[show(2:Int)=((2:Nat):Int)from rfl,<-Int.ofNat_tmod]
  rw[t];refine⟨by omega,brb (λh=>?_) (λh=>?_)⟩
  .have h:m%2=1:=by have:=bv h;omega
   rw[if_pos h]
  .have h:¬m%2=1:=λe=>by rw[e]at h;simp at h
   rw[if_neg h]
theorem IM{l:List Cu}{p:P5}(hl:∀c∈l,Gc c)(hp:Gp p)(hn:l.length<=6000000):qa CC 144 [.c (.sl (kUs l)),.ag (pk (kP p) [])] [.c (.bool (onL l p))]:=by
 have hv:=ID (qa CC) (λ_ ds=>∃k:Nat,k<=l.length/\ds=[.int .i64 (k:Int)]/\∀c∈l.take k,¬y5 c p=true) (jn 10000000) (kUs l) (kP p) (· =[.c (.bool (onL l p))]);refine gOk Tryz.func144 hv ?_;clear hv;rw[qu];refine⟨⟨0,dy _,rfl,by simp⟩,?_⟩;rintro _ ⟨k,hk,he,a4⟩;simp only[c4,Lr,and_true,true_and]at he;subst he;refine brd (λh3=>?_) (λh3=>?_)
 .have a3:k<l.length:=by simp only[U3]at h3;omega
  have ok1:=xk a3;refine⟨ok1,_,xh a3,_,yj (hl _ (cb a3)) hp,xG (λh=>?_) (λh=>?_)⟩
  .have:onL l p=true:=cc.2 ⟨_,cb a3,h⟩;rw[this]
  .refine⟨⟨k+1,a3,by rw[wI];rfl,λc hc=>?_⟩,qt⟩;rw[bx a3]at hc;rcases c3.1 hc with hc|hc
   .exact a4 c hc
   .rw[cv.1 hc,h];simp
 .have a3:k=l.length:=by simp only[U3]at h3;omega
  subst a3;rw[cg]at a4;have:onL l p=false:=by
   cases h:onL l p with
   |false=>rfl
   |true=>obtain⟨c,hc,h⟩:=cc.1 h;exact absurd h (a4 c hc)
  rw[this]
theorem bZ(p:P5):∀(l:List Cu) (n:Int),n=1\/n= -1->l.foldl (jz p) n=1\/l.foldl (jz p) n= -1
 |[],_,h=>h
 |c::r,n,h=>bZ p r _ (by unfold jz;split;exact h;split;(rcases h with rfl|rfl;exact .inr rfl;exact .inl rfl);exact h)
def cdI (l:List Cu) (p:P5) (_ ds:List D):Prop:=∃k:Nat,k<=l.length/\ds=[.int .i64 (k:Int),.int .i64 ((l.take k).foldl (jz p) (-1))]
theorem RY{l:List Cu}{p:P5}(hl:∀c∈l,Gc c)(hp:Gp p)(hn:l.length<=6000000):qa CC 90 [.ag [.sl (kUs l)],.ag (pk (kP p) [])] [.c (.int .i64 (j8 l p))]:=by
 have hv:=RW (qa CC) (cdI l p) (jn 10000000) (kUs l) (kP p) (· =[.c (.int .i64 (j8 l p))]);refine gOk Tryz.func90 hv ?_;clear hv;rw[qu];unfold j8;refine⟨_,IM hl hp hn,xG (λh=>by rw[if_pos h]) (λh=>?_)⟩;rw[if_neg (by rw[h];simp)];refine⟨_,_,_,wu p,⟨0,dy _,rfl⟩,?_⟩;rintro _ _ ⟨k,hk,he⟩;simp only[c4,Lr,and_true,true_and]at he;obtain⟨rfl,rfl⟩:=he;refine brd (λh3=>?_) (λh3=>?_)
 .have a3:k<l.length:=by simp only[U3]at h3;omega
  have ok1:=xk a3;have hg:=hl _ (cb a3);have hf:=TG a3 p (-1);have fw:=bZ p (l.take k) (-1) (.inr rfl);generalize (l.take k).foldl (jz p) (-1)=n at hf fw ⊢;have go:∀v,v=jz p n l[k]->cdI l p [] [.int .i64 (Pl .i64 ((k:Int)+1)),.int .i64 v]/\jn 10000000 [.int .i64 (Pl .i64 ((k:Int)+1)),.int .i64 v]<jn 10000000 [.int .i64 (k:Int),.int .i64 n]:=λv e=>
   ⟨⟨k+1,a3,by rw[wI,hf,e];rfl⟩,qt⟩
  have h1:=wu l[k].fr;have h2:=wu l[k].tt;rw[<-jH]at h1;rw[<-kH]at h2;refine⟨ok1,_,xh a3,_,ZN hg,xG (λe=>go _ ?_) (λe=>⟨_,_,_,h1,_,Mw hg.2.1 hp,brd (λe2=>go _ ?_) (λe2=>⟨_,_,_,h2,_,Mw hp hg.2.2,brd (λe3=>go _ ?_) (λe3=>?_)⟩)⟩)⟩
  .unfold jz;rw[if_pos (.inl e)]
  .unfold jz;rw[if_pos (.inr (.inl e2))]
  .unfold jz;rw[if_pos (.inr (.inr e3))]
  .obtain⟨er,ha⟩:=My hg hp;have fl:jz p n l[k]=if 0<(xD l[k] p).1 then-n else n:=by
    unfold jz;rw[if_neg];rintro(h|h|h)
    .rw[e]at h;cases h
    .exact e2 h
    .exact e3 h
   refine⟨_,_,ha,brd (λe4=>go _ ?_) (λe4=>go _ ?_)⟩
   .rw[fl,if_pos e4];rcases fw with rfl|rfl<;>rfl
   .rw[fl,if_neg e4]
 .have a3:k=l.length:=by simp only[U3]at h3;omega
  subst a3;rw[cg]
end Eng
end
section
open Go Go.Proofs Eng
namespace Eng
theorem Nb(Gv:Nat->List A->List A->Prop)(rs:List (List D))(r0:R4)(r1:R4)(Q:List A->Prop):wpF CC Gv an0 Tryz.f40 [.ag [.sl rs],.ag (rk r0 (rk r1 []))] Q=(∃x,Gv 91 [aV r0 r1] [aP x]/\∃i,Gv 90 [Hu [J9 rs],aP x] [aI i]/\Q [aB (decide (i<=0))]):=by kernel_rfl
theorem IN(Gv:Nat->List A->List A->Prop)(I0:List D->List D->Prop)(M0:List D->Nat)(I1:List D->List D->Prop)(M1:List D->Nat)(rs:List (List D))(r0:R4)(r1:R4)(r2:R4)(r3:R4)(r4:R4)(Q:List A->Prop):wpF CC Gv (Vl ⟨[.slot 10 (.int .i64 0)],[],I0,M0⟩ ⟨[.slot 11 (.int .i64 0)],[.slot 10 (.int .i64 0)],I1,M1⟩) Tryz.f53 [.ag [.sl rs],.ag (rk r0 []),.ag (rk r1 (rk r2 (rk r3 (rk r4 []))))] Q=(∃x,Gv 55 [aR r3,aR r1] [aR x]/\∃x1,Gv 55 [aR r4,aR r2] [aR x1]/\I0 [] [dI (0:Int)]/\∀(i:Int),I0 [] [dI i]->bB (decide (i<7)) (I1 [dI i] [dI (0:Int)]/\∀(i_1:Int),I1 [dI i] [dI i_1]->bB (decide (i_1<7)) (∃x2,Gv 14 [aI (Pl .i64 (i-2)),aI (2:Int)] [aR x2]/\∃x3,Gv 114 [aR x,aR x2] [aR x3]/\∃x,Gv 8 [aR r1,aR x3] [aR x]/\∃x4,Gv 14 [aI (Pl .i64 (i_1-2)),aI (2:Int)] [aR x4]/\∃x5,Gv 114 [aR x1,aR x4] [aR x5]/\∃x6,Gv 8 [aR r2,aR x5] [aR x6]/\∃b,Gv 39 [Hu (rk r1 (rk r2 (rk r3 (rk r4 [])))),aV x x6,aR r0] [aB b]/\br b (∃b,Gv 40 [Hu [J9 rs],aV x x6] [aB b]/\br b (Q [aV x x6,aB true]) (I1 [dI i] [dI (Pl .i64 (i_1+1))]/\M1 [dI (Pl .i64 (i_1+1))]<M1 [dI i_1])) (I1 [dI i] [dI (Pl .i64 (i_1+1))]/\M1 [dI (Pl .i64 (i_1+1))]<M1 [dI i_1])) (I0 [] [dI (Pl .i64 (i+1))]/\M0 [dI (Pl .i64 (i+1))]<M0 [dI i])) (Q [Hu [J4 false,J9 [],J4 false,J9 [],J4 false,J9 [],J4 false,J9 []],aB false])):=by kernel_rfl
theorem Eu(Gv:Nat->List A->List A->Prop)(I0:List D->List D->Prop)(M0:List D->Nat)(rs:List (List D))(r0:R4)(r1:R4)(r2:R4)(es:List (List D))(Q:List A->Prop):wpF CC Gv (λ_=>⟨[.slot 10 (.int .i64 0),.own 9 77 16],[],I0,M0⟩) Tryz.f12 [.ag [.sl rs],.ag (rk r0 []),.ag (rk r1 (rk r2 [])),.c (.sl es)] Q=(∃i,Gv 36 [aR r0] [aI i]/\bB (decide (i<=0)) (Q [aB false]) (bB (decide ((U0 es.length)>4096)) (Q [aB false]) (I0 [] [dI (0:Int),J9 []]/\∀(i:Int) (e1:List (List D)),I0 [] [dI i,J9 e1]->bB (decide (i<(U0 es.length))) ((0<=i/\i<(U0 es.length)/\cf (nth [] es (V1 i))=25)/\∃x x1 x2 x3 b x4 x5,cut (nth [] es (V1 i)) 0 25 (rk x (rk x1 (rk x2 (rk x3 (J4 b::(rk x4 (rk x5 [])))))))/\(room (e1.length+1)/\lens 16 [(rk x (rk x1 (rk x2 (rk x3 []))))])/\br b (∃b,Gv 37 [Hu (rk x (rk x1 (rk x2 (rk x3 [])))),aV r1 r2,aR r0] [aB b]/\bB (!b) (Q [aB false]) (I0 [] [dI (Pl .i64 (i+1)),J9 (e1++[(rk x (rk x1 (rk x2 (rk x3 []))))])]/\M0 [dI (Pl .i64 (i+1)),J9 (e1++[(rk x (rk x1 (rk x2 (rk x3 []))))])]<M0 [dI i,J9 e1])) (∃b,Gv 38 [aR x4] [aB b]/\bB (!b) (Q [aB false]) (∃b,Gv 38 [aR x5] [aB b]/\bB (!b) (Q [aB false]) (∃b,Gv 39 [Hu (rk x (rk x1 (rk x2 (rk x3 [])))),aV x4 x5,aR r0] [aB b]/\bB (!b) (Q [aB false]) (∃b,Gv 40 [Hu [J9 rs],aV x4 x5] [aB b]/\bB (!b) (Q [aB false]) (I0 [] [dI (Pl .i64 (i+1)),J9 (e1++[(rk x (rk x1 (rk x2 (rk x3 []))))])]/\M0 [dI (Pl .i64 (i+1)),J9 (e1++[(rk x (rk x1 (rk x2 (rk x3 []))))])]<M0 [dI i,J9 e1])))))) (∃x x1 x2 x3,Gv 22 [aV r1 r2,aR r0] [Hu (rk x (rk x1 (rk x2 (rk x3 []))))]/\∃b,Gv 41 [Hu (rk x (rk x1 (rk x2 (rk x3 [])))),aL e1] [aB b]/\Q [aB b])))):=by kernel_rfl
theorem Ev(Gv:Nat->List A->List A->Prop)(I0:List D->List D->Prop)(M0:List D->Nat)(rs:List (List D))(r0:R4)(r1:R4)(r2:R4)(es:List (List D))(Q:List A->Prop):wpF CC Gv (λ_=>⟨[.slot 22 (.int .i64 0),.own 9 71 16],[],I0,M0⟩) Tryz.f10 [.ag [.sl rs],.ag (rk r0 []),.ag (rk r1 (rk r2 [])),.c (.sl es)] Q=(∃i,Gv 27 [aR r0] [aI i]/\bB (decide (i<=0)) (Q [aB false]) (bB (decide ((U0 es.length)>4096)) (Q [aB false]) (I0 [] [dI (0:Int),J9 []]/\∀(i:Int) (e1:List (List D)),I0 [] [dI i,J9 e1]->bB (decide (i<(U0 es.length))) ((0<=i/\i<(U0 es.length)/\cf (nth [] es (V1 i))=25)/\∃x x1 x2 x3 b x4 x5,cut (nth [] es (V1 i)) 0 25 (rk x (rk x1 (rk x2 (rk x3 (J4 b::(rk x4 (rk x5 [])))))))/\(room (e1.length+1)/\lens 16 [(rk x (rk x1 (rk x2 (rk x3 []))))])/\∃b1,Gv 28 [Hu (rk x (rk x1 (rk x2 (rk x3 []))))] [aB b1]/\bB (!b1) (Q [aB false]) (br b (∃b,Gv 29 [Hu (rk x (rk x1 (rk x2 (rk x3 [])))),aV r1 r2,aR r0] [aB b]/\bB (!b) (Q [aB false]) (I0 [] [dI (Pl .i64 (i+1)),J9 (e1++[(rk x (rk x1 (rk x2 (rk x3 []))))])]/\M0 [dI (Pl .i64 (i+1)),J9 (e1++[(rk x (rk x1 (rk x2 (rk x3 []))))])]<M0 [dI i,J9 e1])) (∃b,Gv 30 [aV x4 x5] [aB b]/\bB (!b) (Q [aB false]) (∃x6,Gv 32 [aV x4 x5] [aP x6]/\∃i_1,Gv 31 [Hu [J9 rs],aP x6] [aI i_1]/\bB (decide (i_1>0)) (Q [aB false]) (∃b,Gv 33 [Hu (rk x (rk x1 (rk x2 (rk x3 [])))),aV x4 x5,aR r0] [aB b]/\bB (!b) (Q [aB false]) (I0 [] [dI (Pl .i64 (i+1)),J9 (e1++[(rk x (rk x1 (rk x2 (rk x3 []))))])]/\M0 [dI (Pl .i64 (i+1)),J9 (e1++[(rk x (rk x1 (rk x2 (rk x3 []))))])]<M0 [dI i,J9 e1])))))) (∃x x1 x2 x3,Gv 35 [aV r1 r2,aR r0] [Hu (rk x (rk x1 (rk x2 (rk x3 []))))]/\∃b,Gv 34 [Hu (rk x (rk x1 (rk x2 (rk x3 [])))),aL e1] [aB b]/\Q [aB b])))):=by kernel_rfl
theorem RZ(Gv:Nat->List A->List A->Prop)(rs:List (List D))(r0:R4)(r1:R4)(r2:R4)(i0:Int)(Q:List A->Prop):wpF CC Gv an0 Tryz.f6 [.ag [.sl rs],.ag (rk r0 []),.ag (rk r1 (rk r2 [])),.c (.int .i64 i0)] Q=(∃x x1 x2 x3,Gv 22 [aV r1 r2,aR r0] [Hu (rk x (rk x1 (rk x2 (rk x3 []))))]/\∃es,Gv 21 [Hu [J9 rs],aR r0,aV r1 r2,Hu (rk x (rk x1 (rk x2 (rk x3 [])))),aI i0] [aL es]/\Q [aL es]):=by kernel_rfl
theorem Y5(Gv:Nat->List A->List A->Prop)(I0:List D->List D->Prop)(M0:List D->Nat)(rs:List (List D))(r0:R4)(r1:R4)(r2:R4)(r3:R4)(r4:R4)(r5:R4)(r6:R4)(i0:Int)(Q:List A->Prop):wpF CC Gv (λ_=>⟨[.slot 15 (.int .i64 0),.own 13 63 25],[],I0,M0⟩) Tryz.f21 [.ag [.sl rs],.ag (rk r0 []),.ag (rk r1 (rk r2 [])),.ag (rk r3 (rk r4 (rk r5 (rk r6 [])))),.c (.int .i64 i0)] Q=(∃b,Gv 37 [Hu (rk r3 (rk r4 (rk r5 (rk r6 [])))),aV r1 r2,aR r0] [aB b]/\br b (Q [aL [(rk r3 (rk r4 (rk r5 (rk r6 [J4 true,J4 false,J9 [],J4 false,J9 [],J4 false,J9 [],J4 false,J9 []]))))]]) (∃x x1 b,Gv 53 [Hu [J9 rs],aR r0,Hu (rk r3 (rk r4 (rk r5 (rk r6 []))))] [aV x x1,aB b]/\br b (Q [aL [(rk r3 (rk r4 (rk r5 (rk r6 (J4 false::(rk x (rk x1 [])))))))]]) (bB (i0==0) (Q [aL [(rk r3 (rk r4 (rk r5 (rk r6 (J4 false::(rk r1 (rk r2 [])))))))]]) (∃es,Gv 54 [Hu (rk r3 (rk r4 (rk r5 (rk r6 []))))] [aL es]/\I0 [] [dI (0:Int),J9 []]/\∀(i:Int) (e1:List (List D)),I0 [] [dI i,J9 e1]->bB (decide (i<(U0 es.length))) ((0<=i/\i<(U0 es.length)/\cf (nth [] es (V1 i))=16)/\∃x x2 x3 x4,cut (nth [] es (V1 i)) 0 16 (rk x (rk x2 (rk x3 (rk x4 []))))/\∃es,Gv 21 [Hu [J9 rs],aR r0,aV r1 r2,Hu (rk x (rk x2 (rk x3 (rk x4 [])))),aI (Pl .i64 (i0-1))] [aL es]/\(room (e1.length+es.length)/\lens 25 es)/\I0 [] [dI (Pl .i64 (i+1)),J9 (e1++es)]/\M0 [dI (Pl .i64 (i+1)),J9 (e1++es)]<M0 [dI i,J9 e1]) (Q [aL e1]))))):=by kernel_rfl
end Eng
end
section
open Go Go.Proofs Eng
namespace Eng
theorem Sa(Gv:Nat->List A->List A->Prop)(I0:List D->List D->Prop)(M0:List D->Nat)(rs:List (List D))(r0 r1 r2 r3 r4 r5 r6:R4)(i0:Int)(Q:Nat->List (List D)->Prop):dz CC Gv (λ_=>⟨[.slot 15 (.int .i64 0),.own 13 63 25],[],I0,M0⟩) Tryz.f21 [.ag [.sl rs],.ag (rk r0 []),.ag (rk r1 (rk r2 [])),.ag (rk r3 (rk r4 (rk r5 (rk r6 [])))),.c (.int .i64 i0)] none [] Q=(∃b,Gv 37 [Hu (rk r3 (rk r4 (rk r5 (rk r6 [])))),aV r1 r2,aR r0] [aB b]/\br b ([(rk r3 (rk r4 (rk r5 (rk r6 [J4 true,J4 false,J9 [],J4 false,J9 [],J4 false,J9 [],J4 false,J9 []]))))]≠[]/\Q 25 [(rk r3 (rk r4 (rk r5 (rk r6 [J4 true,J4 false,J9 [],J4 false,J9 [],J4 false,J9 [],J4 false,J9 []]))))]) (∃x x1 b,Gv 53 [Hu [J9 rs],aR r0,Hu (rk r3 (rk r4 (rk r5 (rk r6 []))))] [aV x x1,aB b]/\br b ([(rk r3 (rk r4 (rk r5 (rk r6 (J4 false::(rk x (rk x1 [])))))))]≠[]/\Q 25 [(rk r3 (rk r4 (rk r5 (rk r6 (J4 false::(rk x (rk x1 [])))))))]) (bB (i0==0) ([(rk r3 (rk r4 (rk r5 (rk r6 (J4 false::(rk r1 (rk r2 [])))))))]≠[]/\Q 25 [(rk r3 (rk r4 (rk r5 (rk r6 (J4 false::(rk r1 (rk r2 [])))))))]) (∃es,Gv 54 [Hu (rk r3 (rk r4 (rk r5 (rk r6 []))))] [aL es]/\I0 [] [dI (0:Int),J9 []]/\∀(i:Int) (e1:List (List D)),I0 [] [dI i,J9 e1]->bB (decide (i<(U0 es.length))) ((0<=i/\i<(U0 es.length)/\cf (nth [] es (V1 i))=16)/\∃x x2 x3 x4,cut (nth [] es (V1 i)) 0 16 (rk x (rk x2 (rk x3 (rk x4 []))))/\∃es,Gv 21 [Hu [J9 rs],aR r0,aV r1 r2,Hu (rk x (rk x2 (rk x3 (rk x4 [])))),aI (Pl .i64 (i0-1))] [aL es]/\(room (e1.length+es.length)/\lens 25 es)/\I0 [] [dI (Pl .i64 (i+1)),J9 (e1++es)]/\M0 [dI (Pl .i64 (i+1)),J9 (e1++es)]<M0 [dI i,J9 e1]) (e1≠[]/\Q 25 e1))))):=by kernel_rfl
end Eng
end
section
open Go Go.Proofs Eng
namespace Eng
theorem Sb(Gv:Nat->List A->List A->Prop)(c1:Ck1)(m1:Mk1)(c2:Ck2)(m2:Mk2)(rs:List (List D))(r0 r1 r2:R4)(i0:Int)(Q:Nat->List (List D)->Prop):dz (CX [(21,XE c1 25 m1),(7,KX 25 c2 m2)]) Gv an0 Tryz.f6 [.ag [.sl rs],.ag (rk r0 []),.ag (rk r1 (rk r2 [])),.c (.int .i64 i0)] none [] Q=(∃x x1 x2 x3,Gv 22 [aV r1 r2,aR r0] [Hu (rk x (rk x1 (rk x2 (rk x3 []))))]/\c1 [Hu [J9 rs],Hu (rk r0 []),Hu (rk r1 (rk r2 [])),Hu (rk x (rk x1 (rk x2 (rk x3 [])))),Hv (dI i0)]=true/\m1 [Hu [J9 rs],Hu (rk r0 []),Hu (rk r1 (rk r2 [])),Hu (rk x (rk x1 (rk x2 (rk x3 [])))),Hv (dI i0)]≠[]/\Q 25 (m1 [Hu [J9 rs],Hu (rk r0 []),Hu (rk r1 (rk r2 [])),Hu (rk x (rk x1 (rk x2 (rk x3 [])))),Hv (dI i0)])):=by kernel_rfl
end Eng
end
section
open Go Go.Proofs Eng
namespace Eng
theorem Ew(Gv:Nat->List A->List A->Prop)(J5:List D->List D->Prop)(J7:List D->List D->Prop)(J8:List D->List D->Prop)(J24:List D->List D->Prop)(c1:Ck1)(m1:Mk1)(c2:Ck2)(m2:Mk2)(s0:List (List D))(k0:Int)(x0:Int)(y0:Int)(d0:Int)(dp:Int)(ch:Int)(Q:List A->Prop):wpF (CX [(6,XE c1 25 m1),(7,KX 25 c2 m2)]) Gv (V7 (V7 (V7 (V7 an0 5 ⟨[.own 11 127 25],[],J5,λ_=>0⟩) 7 ⟨[.own 11 127 25],[],J7,λ_=>0⟩) 8 ⟨[.slot 12 (.int .i64 0),.own 11 127 25],[],J8,λ_=>0⟩) 24 ⟨[.own 11 127 25,.box 8 [.bool false,.slice none 0 0,.bool false,.slice none 0 0]],[],J24,λ_=>0⟩) Tryz.f3 [.ag [.sl s0,.int .u8 k0,.int .i16 x0,.int .i16 y0,.int .u8 d0],.c (.int .u8 dp),.c (.int .u8 ch)] Q=(∃es x x1 x2 b,Gv 4 [Hu [J9 s0,Lm .u8 k0,Lm .i16 x0,Lm .i16 y0,Lm .u8 d0]] [Hu [J9 es],aR x,aV x1 x2,aB b]/\∃b1,Gv 5 [] [aB b1]/\bB (!b1) (∃b,Gv 5 [] [aB b]/\Q [aB b]) (bB (!b) (∃b,Gv 5 [] [aB b]/\Q [aB b]) (((4:Int)≠(0:Int)/\c1 [Hu [J9 es],Hu (rk x []),Hu (rk x1 (rk x2 [])),Hv (dI (Pl .i64 (W0 dp (4:Int))))]=true/\J5 [] [J9 (m1 [Hu [J9 es],Hu (rk x []),Hu (rk x1 (rk x2 [])),Hv (dI (Pl .i64 (W0 dp (4:Int))))])])/\∀(e1:List (List D)),J5 [] [J9 e1]->bB (decide ((U0 e1.length)>64)) (Q [aB true]) (J7 [] [J9 e1])/\∀(e2:List (List D)),J7 [] [J9 e2]->(((8:Int)≠(0:Int)/\((match decide (1<(U0 e2.length))with|true=>(U0 e2.length)|false=>(1:Int)):Int)≠(0:Int)/\J8 [] [dI (W0 (Pl .i64 (Pl .u8 (bk ch (8:Int)))) (match decide (1<(U0 e2.length))with|true=>(U0 e2.length)|false=>(1:Int))),J9 e2])/\∀(i:Int) (es:List (List D)),J8 [] [dI i,J9 es]->bB (decide ((U0 es.length)>0)) ((8:Int)≠(0:Int)/\bB (W0 ch (8:Int)==(1:Int)) (c2 es [Hv (dI i),Hv (dI (Pl .i64 (i+1)))]=true/\J24 [] (J9 (m2 es [Hv (dI i),Hv (dI (Pl .i64 (i+1)))])::(rk x []))) (bB (W0 ch (8:Int)==(2:Int)) ((0<=i/\i<(U0 es.length))/\∃b,cut (nth [] es (V1 i)) 16 1 [J4 b]/\(0<=i/\i<(U0 es.length))/\16<25/\J24 [] (J9 (upd es (V1 i) (upd (nth [] es (V1 i)) 16 (J4 !b)))::(rk x []))) (bB (W0 ch (8:Int)==(3:Int)) ((0<=i/\i<(U0 es.length))/\25<=25/\J24 [] (J9 (upd es (V1 i) (zU (nth [] es (V1 i)) 17 (rk x1 (rk x2 []))))::(rk x []))) (bB (W0 ch (8:Int)==(4:Int)) ((0<=i/\i<(U0 es.length))/\∃x3,cut (nth [] es (V1 i)) 0 4 (rk x3 [])/\(0<=i/\i<(U0 es.length))/\12<=25/\J24 [] (J9 (upd es (V1 i) (zU (nth [] es (V1 i)) 8 (rk x3 [])))::(rk x []))) (bB (W0 ch (8:Int)==(5:Int)) ((0<=i/\i<(U0 es.length))/\25<=25/\J24 [] (J9 (upd es (V1 i) (zU (nth [] es (V1 i)) 17 [J4 false,J9 [],J4 false,J9 [],J4 false,J9 [],J4 false,J9 []]))::(rk x []))) (bB (W0 ch (8:Int)==(6:Int)) ((0<=i/\i<(U0 es.length))/\∃x3,cut (nth [] es (V1 i)) 12 4 (rk x3 [])/\∃x4,Gv 8 [aR x3,aR x] [aR x4]/\(0<=i/\i<(U0 es.length))/\16<=25/\J24 [] (J9 (upd es (V1 i) (zU (nth [] es (V1 i)) 12 (rk x4 [])))::(rk x []))) (bB (W0 ch (8:Int)==(7:Int)) (∃x3,Gv 9 [aR x] [aR x3]/\J24 [] (J9 es::(rk x3 []))) (J24 [] (J9 es::(rk x [])))))))))) (J24 [] (J9 es::(rk x []))))/\∀(e3:List (List D)) (b:Bool) (e4:List (List D)) (b2:Bool) (e5:List (List D)),J24 [] [J9 e3,J4 b,J9 e4,J4 b2,J9 e5]->∃e6,Gv 11 [aL e3] [aL e6]/\∃b3,Gv 10 [Hu [J9 es],Hu [J4 b,J9 e4,J4 b2,J9 e5],aV x1 x2,aL e6] [aB b3]/\∃b4,Gv 12 [Hu [J9 es],Hu [J4 b,J9 e4,J4 b2,J9 e5],aV x1 x2,aL e3] [aB b4]/\Q [aB (b3==b4)]))):=by kernel_rfl
end Eng
end
section
open Go Go.Proofs Eng
namespace Eng
theorem Ex(Gv:Nat->List A->List A->Prop)(s0:List (List D))(k0:Int)(x0:Int)(y0:Int)(d0:Int)(Q:List A->Prop):wpF CC Gv an0 Tryz.f4 [.ag [.sl s0,.int .u8 k0,.int .i16 x0,.int .i16 y0,.int .u8 d0]] Q=(∃es b,Gv 13 [aL s0,aI (8:Int)] [Hu [J9 es],aB b]/\(16:Int)≠(0:Int)/\∃x,Gv 14 [aI (Pl .i64 (W0 k0 (16:Int))),aI (4:Int)] [aR x]/\∃x1 x2,Gv 15 [Hu [Lm .i16 x0,Lm .i16 y0,Lm .u8 d0]] [aV x1 x2]/\Q [Hu [J9 es],aR x,aV x1 x2,aB b]):=by kernel_rfl
theorem Sc(Gv:Nat->List A->List A->Prop)(l0:List (List D))(Q:List A->Prop):wpF CC Gv an0 Tryz.f11 [.c (.sl l0)] Q=(0<l0.length/\(room (0+l0.length)/\lens 25 l0)/\Q [aL l0]):=by kernel_rfl
end Eng
end
section
open Go Go.Proofs Eng
namespace Eng
theorem Sd(Gv:Nat->List A->List A->Prop)(chk6:Ck1)(s0:List (List D))(k0:Int)(x0:Int)(y0:Int)(d0:Int)(dp:Int)(ch:Int)(Q:List A->Prop):wpF (CX [(6,LA CC 6 chk6 (λ_=>[.c (.sl [])]))]) Gv an0 Tryz.f3 [.ag [.sl s0,.int .u8 k0,.int .i16 x0,.int .i16 y0,.int .u8 d0],.c (.int .u8 dp),.c (.int .u8 ch)] Q=(∃es x x1 x2 b,Gv 4 [Hu [J9 s0,Lm .u8 k0,Lm .i16 x0,Lm .i16 y0,Lm .u8 d0]] [Hu [J9 es],aR x,aV x1 x2,aB b]/\∃b1,Gv 5 [] [aB b1]/\bB (!b1) (∃b,Gv 5 [] [aB b]/\Q [aB b]) (bB (!b) (∃b,Gv 5 [] [aB b]/\Q [aB b]) ((4:Int)≠(0:Int)/\chk6 [Hu [J9 es],Hu (rk x []),Hu (rk x1 (rk x2 [])),Hv (dI (Pl .i64 (W0 dp (4:Int))))]=true/\(8:Int)≠(0:Int)/\(1:Int)≠(0:Int)/\∃e1,Gv 11 [aL []] [aL e1]/\∃b,Gv 10 [Hu [J9 es],aR x,aV x1 x2,aL e1] [aB b]/\∃b2,Gv 12 [Hu [J9 es],aR x,aV x1 x2,aL []] [aB b2]/\Q [aB (b==b2)]))):=by kernel_rfl
end Eng
end
section
open Go Go.Proofs Eng
namespace Eng
theorem IO(Gv:Nat->List A->List A->Prop)(c1:Ck1)(m1:Mk1)(Q:List A->Prop):wpF (CX [(11,XE c1 25 m1)]) Gv an0 Tryz.f5 [] Q=(∃es,Gv 16 [aI (0:Int),aI (0:Int),aI (2:Int)] [Hu [J9 es]]/\∃x,Gv 17 [aI (2:Int)] [aR x]/\∃x1 x2,Gv 18 [aI (1:Int),aI (1:Int)] [aV x1 x2]/\∃x3 x4 x5 x6 b x7 x8,Gv 19 [aI (-1:Int),aI (-1:Int),aI (0:Int),aI (0:Int)] [Hu (rk x3 (rk x4 (rk x5 (rk x6 (J4 b::(rk x7 (rk x8 [])))))))]/\∃x9 x10 x11 x12 b1 x13 x14,Gv 19 [aI (1:Int),aI (-1:Int),aI (2:Int),aI (0:Int)] [Hu (rk x9 (rk x10 (rk x11 (rk x12 (J4 b1::(rk x13 (rk x14 [])))))))]/\∃x15 x16 x17 x18 b2 x19 x20,Gv 19 [aI (-1:Int),aI (1:Int),aI (0:Int),aI (2:Int)] [Hu (rk x15 (rk x16 (rk x17 (rk x18 (J4 b2::(rk x19 (rk x20 [])))))))]/\∃x21 x22 x23 x24 b3 x25 x26,Gv 19 [aI (1:Int),aI (1:Int),aI (2:Int),aI (2:Int)] [Hu (rk x21 (rk x22 (rk x23 (rk x24 (J4 b3::(rk x25 (rk x26 [])))))))]/\c1 [Hv (J9 [(rk x3 (rk x4 (rk x5 (rk x6 (J4 b::(rk x7 (rk x8 []))))))),(rk x9 (rk x10 (rk x11 (rk x12 (J4 b1::(rk x13 (rk x14 []))))))),(rk x15 (rk x16 (rk x17 (rk x18 (J4 b2::(rk x19 (rk x20 []))))))),(rk x21 (rk x22 (rk x23 (rk x24 (J4 b3::(rk x25 (rk x26 [])))))))])]=true/\((0:Int)<=(1:Int)/\1<(U0 (cf (m1 [Hv (J9 [(rk x3 (rk x4 (rk x5 (rk x6 (J4 b::(rk x7 (rk x8 []))))))),(rk x9 (rk x10 (rk x11 (rk x12 (J4 b1::(rk x13 (rk x14 []))))))),(rk x15 (rk x16 (rk x17 (rk x18 (J4 b2::(rk x19 (rk x20 []))))))),(rk x21 (rk x22 (rk x23 (rk x24 (J4 b3::(rk x25 (rk x26 [])))))))])]))))/\25<=25/\c1 [Hv (J9 [(rk x3 (rk x4 (rk x5 (rk x6 (J4 b::(rk x7 (rk x8 []))))))),(rk x9 (rk x10 (rk x11 (rk x12 (J4 b1::(rk x13 (rk x14 []))))))),(rk x15 (rk x16 (rk x17 (rk x18 (J4 b2::(rk x19 (rk x20 []))))))),(rk x21 (rk x22 (rk x23 (rk x24 (J4 b3::(rk x25 (rk x26 [])))))))])]=true/\∃b4,Gv 10 [Hu [J9 es],aR x,aV x1 x2,aL (m1 [Hv (J9 [(rk x3 (rk x4 (rk x5 (rk x6 (J4 b::(rk x7 (rk x8 []))))))),(rk x9 (rk x10 (rk x11 (rk x12 (J4 b1::(rk x13 (rk x14 []))))))),(rk x15 (rk x16 (rk x17 (rk x18 (J4 b2::(rk x19 (rk x20 []))))))),(rk x21 (rk x22 (rk x23 (rk x24 (J4 b3::(rk x25 (rk x26 [])))))))])])] [aB b4]/\br b4 (((0:Int)<=(1:Int)/\(1:Int)<=(4:Int)/\(4:Int)<=(4:Int)/\lens 25 [(rk x3 (rk x4 (rk x5 (rk x6 (J4 b::(rk x7 (rk x8 []))))))),(rk x9 (rk x10 (rk x11 (rk x12 (J4 b1::(rk x13 (rk x14 []))))))),(rk x15 (rk x16 (rk x17 (rk x18 (J4 b2::(rk x19 (rk x20 []))))))),(rk x21 (rk x22 (rk x23 (rk x24 (J4 b3::(rk x25 (rk x26 [])))))))])/\c1 [Hv (J9 [(rk x9 (rk x10 (rk x11 (rk x12 (J4 b1::(rk x13 (rk x14 []))))))),(rk x15 (rk x16 (rk x17 (rk x18 (J4 b2::(rk x19 (rk x20 []))))))),(rk x21 (rk x22 (rk x23 (rk x24 (J4 b3::(rk x25 (rk x26 [])))))))])]=true/\∃b5,Gv 10 [Hu [J9 es],aR x,aV x1 x2,aL (m1 [Hv (J9 [(rk x9 (rk x10 (rk x11 (rk x12 (J4 b1::(rk x13 (rk x14 []))))))),(rk x15 (rk x16 (rk x17 (rk x18 (J4 b2::(rk x19 (rk x20 []))))))),(rk x21 (rk x22 (rk x23 (rk x24 (J4 b3::(rk x25 (rk x26 [])))))))])])] [aB b5]/\bB (!b5) (∃b6,Gv 10 [Hu [J9 es],aR x,aV x1 x2,aL (upd (m1 [Hv (J9 [(rk x3 (rk x4 (rk x5 (rk x6 (J4 b::(rk x7 (rk x8 []))))))),(rk x9 (rk x10 (rk x11 (rk x12 (J4 b1::(rk x13 (rk x14 []))))))),(rk x15 (rk x16 (rk x17 (rk x18 (J4 b2::(rk x19 (rk x20 []))))))),(rk x21 (rk x22 (rk x23 (rk x24 (J4 b3::(rk x25 (rk x26 [])))))))])]) 1 (zU (nth [] (m1 [Hv (J9 [(rk x3 (rk x4 (rk x5 (rk x6 (J4 b::(rk x7 (rk x8 []))))))),(rk x9 (rk x10 (rk x11 (rk x12 (J4 b1::(rk x13 (rk x14 []))))))),(rk x15 (rk x16 (rk x17 (rk x18 (J4 b2::(rk x19 (rk x20 []))))))),(rk x21 (rk x22 (rk x23 (rk x24 (J4 b3::(rk x25 (rk x26 [])))))))])]) 1) 17 (rk x1 (rk x2 []))))] [aB b6]/\bB (!b6) (((0:Int)<=(0:Int)/\(0:Int)<=(1:Int)/\(1:Int)<=(4:Int)/\lens 25 [(rk x3 (rk x4 (rk x5 (rk x6 (J4 b::(rk x7 (rk x8 []))))))),(rk x9 (rk x10 (rk x11 (rk x12 (J4 b1::(rk x13 (rk x14 []))))))),(rk x15 (rk x16 (rk x17 (rk x18 (J4 b2::(rk x19 (rk x20 []))))))),(rk x21 (rk x22 (rk x23 (rk x24 (J4 b3::(rk x25 (rk x26 [])))))))])/\∃s,Gv 20 [aL [(rk x3 (rk x4 (rk x5 (rk x6 (J4 b::(rk x7 (rk x8 [])))))))]] [Hv (D.str s)]/\Q [aB (s==[45,49,32,45,49,32,49,32,49,32,107,101,101,112,32,48,32,48,10])]) (Q [aB false])) (Q [aB false])) (Q [aB false])):=by kernel_rfl
end Eng
end
section
open Go Go.Proofs Eng
namespace Eng
theorem gL(Gv:Nat->List A->List A->Prop)(i0:Int)(i1:Int)(Q:List A->Prop):wpF CC Gv an0 Tryz.f18 [.c (.int .i64 i0),.c (.int .i64 i1)] Q=(∃x,Gv 17 [aI i0] [aR x]/\∃x1,Gv 17 [aI i1] [aR x1]/\Q [aV x x1]):=by kernel_rfl
theorem Ey(Gv:Nat->List A->List A->Prop)(i0:Int)(i1:Int)(i2:Int)(i3:Int)(Q:List A->Prop):wpF CC Gv an0 Tryz.f19 [.c (.int .i64 i0),.c (.int .i64 i1),.c (.int .i64 i2),.c (.int .i64 i3)] Q=(∃x,Gv 17 [aI i0] [aR x]/\∃x1,Gv 17 [aI i1] [aR x1]/\∃x2,Gv 17 [aI (Pl .i64 (i0+2))] [aR x2]/\∃x3,Gv 17 [aI (Pl .i64 (i1+2))] [aR x3]/\∃x4 x5,Gv 18 [aI i2,aI i3] [aV x4 x5]/\Q [Hu (rk x (rk x1 (rk x2 (rk x3 (J4 false::(rk x4 (rk x5 [])))))))]):=by kernel_rfl
theorem Ez(Gv:Nat->List A->List A->Prop)(l0:List (List D))(Q:Nat->List (List D)->Prop):dz CC Gv an0 Tryz.f11 [.c (.sl l0)] none [] Q=(0<l0.length/\(room (0+l0.length)/\lens 25 l0)/\l0≠[]/\Q 25 l0):=by kernel_rfl
end Eng
end
section
namespace Eng
open Go Go.Proofs
def W (acc w:Nat):Nat:=acc*4722366482869645213696+w
def rl:IntKind->Nat
 | .u8=>0| .u16=>1| .u32=>2| .u64=>3| .i8=>4| .i16=>5| .i32=>6| .i64=>7
def nK (acc:Nat):Int->Nat
 | .ofNat n=>W (W acc 0) n
 | .negSucc n=>W (W acc 1) n
def gM {α:Type} (e:Nat->α->Nat) (acc:Nat) (l:List α):Nat:=l.foldl e (W acc l.length)
def nL:Nat->Nat->D->Nat
 |0,acc,_=>W acc 99
 |_+1,acc,.undef=>W acc 0
 |_+1,acc,.bool b=>W (W acc 1) (match b with|true=>1|false=>0)
 |_+1,acc,.int k n=>nK (W (W acc 2) (rl k)) n
 |_+1,acc,.str s=>gM (λa (b:UInt8)=>W a b.toNat) (W acc 3) s
 |n+1,acc,.sl es=>gM (gM (nL n)) (W acc 4) es
 |_+1,acc,.ifc b=>W (W acc 5) (match b with|true=>1|false=>0)
 |_+1,acc,.nilP=>W acc 6
 |_+1,acc,.fn f=>W (W acc 7) f
 |n+1,acc,.ptr cs=>gM (nL n) (W acc 8) cs
 |n+1,acc,.clo f ps=>gM (nL n) (W (W acc 9) f) ps
def encA (acc:Nat):A->Nat
 | .c d=>nL 20 (W acc 0) d
 | .ag cs=>gM (nL 20) (W acc 1) cs
def keyA (al:List A):Nat:=gM encA (W 1 2) al%2305843009213693951
abbrev qU:=Nat×Nat×List A×List A
def Nc (f key:Nat) (al:List A):List qU->Option (List A)
 |[]=>none
 |(f0,k0,al0,rs0)::r=>match eb f f0 with
  |true=>match eb key k0 with
   |true=>match eqL eqA al al0 with
    |true=>some rs0
    |false=>Nc f key al r
   |false=>Nc f key al r
  |false=>Nc f key al r
def gN (C:Cx):List qU->Prop
 |[]=>True
 |(f0,_,al0,rs0)::r=>qa C f0 al0 rs0/\gN C r
def hasF (f:Nat):List qU->Bool
 |[]=>false
 |(f0,_)::r=>match eb f f0 with
  |true=>true
  |false=>hasF f r
def rm (ents:List qU) (tab:Nat->List A->Option (List A)) (f:Nat) (al:List A):Option (List A):=
 match hasF f ents with
 |true=>match keyA al with
  |0=>tab f al
  |k+1=>match Nc f (k+1) al ents with
   |some rs=>some rs
   |none=>tab f al
 |false=>tab f al
theorem Kk{C:Cx}{f key:Nat}{al rs:List A}:∀{ents:List qU},gN C ents->Nc f key al ents=some rs->qa C f al rs
 |[],_,h=>by simp[Nc]at h
 |(f0,k0,al0,rs0)::r,hg,h=>by
  obtain⟨h1,h2⟩:=hg;unfold Nc at h;split at h
  .rename_i hf;split at h
   .split at h
    .rename_i ha;obtain rfl:=Nat.eq_of_beq_eq_true hf;obtain rfl:=J2 np ha;simp only[Option.some.injEq]at h;subst h;exact h1
    .exact Kk h2 h
   .exact Kk h2 h
  .exact Kk h2 h
theorem gO{C:Cx}{ents:List qU}{tab:Nat->List A->Option (List A)}(h0:gN C ents)(h:∀f al rs,tab f al=some rs->qa C f al rs)(f:Nat)(al rs:List A)(hh:rm ents tab f al=some rs):qa C f al rs:=by
 unfold rm at hh;split at hh
 .split at hh
  .exact h _ _ _ hh
  .split at hh
   .rename_i rs' hf;simp only[Option.some.injEq]at hh;subst hh;exact Kk h0 hf
   .exact h _ _ _ hh
 .exact h _ _ _ hh
end Eng
end
