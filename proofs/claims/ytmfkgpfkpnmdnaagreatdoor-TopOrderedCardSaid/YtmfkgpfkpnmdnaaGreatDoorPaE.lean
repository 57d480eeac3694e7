import Derived.Test.YtmfkgpfkpnmdnaaGreatDoorPaD
import Derived.Laws.Bits64b
import Derived.Lib.Mul64
import Derived.KernelRfl
open Bool renaming and_eq_true->Aw, or_eq_true->Bx, false_and->Dd
open Eng.A renaming ag->F0
open Eng.D renaming bool->Hu, sl->Hv, int->Hx
open Go.IntKind renaming wrap->Hy, signed->I1, bits->I2, u64->I3, u32->J3
open Go.Lib renaming half_mul_le->J4
open Iff renaming rfl->Lm
open Int renaming tmod->Lr, ofNat->Ls, ofNat_eq_natCast->Lv, tdiv->M1, toNat_natCast->M2, natCast_mul->M3, toNat->No, natAbs_natCast->Pl, lt_or_le->P1, tdiv_eq_ediv_of_nonneg->Sz, natAbs_neg->Tk, natAbs_ediv_le_natAbs->Ts, natAbs_mul_self'->U0, natAbs_mul->U3, fdiv->V1, zero_sub->W0
open LawfulBEq renaming eq_of_beq->W1
open List renaming replicate->W2, mem_cons->an, length_map->a7, not_mem_nil->be, mem_map->bs, length_replicate->bv, map_cons->bx, map_map->bF, mem_singleton->cb, getD_eq_getElem?_getD->cc, map->cg, length_append->cm, mem_flatMap->cp, length_cons->cv, getElem_mem->c3, eq_nil_of_length_eq_zero->c4, mem_range->cF, getElem?_eq_getElem->cH, map_nil->cL, mem_cons_of_mem->dc, map_congr_left->dl, flatten_cons->dv, map_append->ea, length->eb
open List.cons renaming injEq->ec
open Nat renaming pow_lt_pow_right->ed, eq_of_beq_eq_true->eg, lt_of_le_of_lt->ei, lt_trans->el, pow_le_pow_right->ep, le_refl->et, eq_zero_or_pos->eu, mul_self_lt_mul_self_iff->ey, lt_or_ge->e7, and_two_pow_sub_one_eq_mod->eU, le_mul_of_pos_right->fe, exists_eq_add_of_le->fk, le_trans->fs, beq->ft, zero_le->fz, lt_of_lt_of_le->fR, lt_of_not_le->fS, div_le_self->gd, pow_succ->gn, mul_comm->gp, pow_pos->gq
open Option.some renaming inj->gr
open Rat renaming intCast_lt_intCast->gu, intCast_neg->h6, sub_eq_add_neg->h7, floor_le->h8, num_intCast->h9, floor_def->hA, intCast_le_intCast->hD, num_nonneg->hE, mul_zero->hG, add_zero->hH
set_option maxRecDepth 1000000
section
namespace Eng
open Go Go.Proofs Rl
section
variable [Env]
def eI (n:Int):A:= .c (.int .i64 n)
theorem Uf (x:Rat):Gives CC 78 [.ag (rk (q4 x) [])] [.c (.int .i64 (sr x))]:=by
 rw[<-M9];exact vu x
theorem bNeg {x:Rat} {k:Nat} (hx:Hz k x) (h:k<360000:=by omega):Gives CC 76 [.ag (rk (q4 x) [])] [.ag (rk (q4 (-x)) [])]:=Ko (hx.sr h)
theorem bAdd {x y:Rat} {j k:Nat} (hx:Hz j x) (hy:Hz k y) (h:j<360000/\k<360000:=by omega):Gives CC 75 [.ag (rk (q4 x) []),.ag (rk (q4 y) [])] [.ag (rk (q4 (x+y)) [])]:=Kp wS (hx.sr h.1) (hy.sr h.2)
theorem bSub {x y:Rat} {j k:Nat} (hx:Hz j x) (hy:Hz k y) (h:j<360000/\k<360000:=by omega):Gives CC 33 [.ag (rk (q4 x) []),.ag (rk (q4 y) [])] [.ag (rk (q4 (x-y)) [])]:=Yb wS (hx.sr h.1) (hy.sr h.2)
theorem dz {x y:Rat} {j k:Nat} (hx:Hz j x) (hy:Hz k y) (h:j<360000/\k<360000:=by omega):Gives CC 157 [.ag (rk (q4 x) []),.ag (rk (q4 y) [])] [.ag (rk (q4 (x*y)) [])]:=Ya wS (hx.sr h.1) (hy.sr h.2)
theorem bInt {n:Int} (h1: -9223372036854775808<=n) (h2:n<9223372036854775808):Gives CC 72 [.c (.int .i64 n)] [.ag (rk (q4 (n:Rat)) [])]:=kZ h1 h2
theorem Vo {x:Rat} {k:Nat} (hx:Hz k x) (h:k<360000:=by omega):Gives CC 266 [.ag (rk (q4 x) [])] [qL x.floor]:=by
 refine wpG Tryz.func266 ((MF ..).mpr ?_);have hp:=x.den_pos;have hs:=hx.sr h;have h:=ku wS hs.1.sm hs.2.sm (by omega);have e:x.num/(x.den:Int)=x.floor:=by rw[hA]
 rw[e]at h;exact⟨_,_,_,_,_,h,rfl⟩
def FB (x:Int):Prop:= -2305843009213693952<=x/\x<=2305843009213693952
def eIv (a b:Int):A:= .ag [.int .i64 a,.int .i64 b]
def eOk (b:Bool):A:= .c (.bool b)
theorem CP {a b:Int}:∃c d ok,Gives CC 409 [.c (.int .i64 a),.c (.int .i64 b)] [eIv c d,eOk ok]/\(ok=true->c=a/\d=b/\ -2305843009213693952<=c/\d<=2305843009213693952)/\(ok=false->c=0/\d=0):=by
 by_cases h:a< -2305843009213693952
 .refine⟨0,0,false,?_,by simp,by simp⟩;refine wpG Tryz.func409 ((j9 ..).mpr ?_);exact brd (λ_=>rfl) (λk=>absurd h k)
 by_cases h2:b>2305843009213693952
 .refine⟨0,0,false,?_,by simp,by simp⟩;refine wpG Tryz.func409 ((j9 ..).mpr ?_);exact brd (λk=>absurd k h) (λ_=>brd (λ_=>rfl) (λk=>absurd h2 k))
 .refine⟨a,b,true,?_,λ_=>⟨rfl,rfl,by omega,by omega⟩,by simp⟩;refine wpG Tryz.func409 ((j9 ..).mpr ?_);exact brd (λk=>absurd k h) (λ_=>brd (λk=>absurd k h2) (λ_=>rfl))
omit [Env] in
theorem PL (x:Nat) (r:List Nat):val r<=val (x::r):=by
 show val r<=x+1000000000*val r;omega
omit [Env] in
theorem Zz:∀(l:List Nat) (k:Nat),val (l.drop k)<=val l
 |[],k=>by simp
 |x::r,0=>et _
 |x::r,k+1=>fs (Zz r k) (PL x r)
def Vt (z:Int):Int×Bool:=if-9223372036854775808<=z/\z<=9223372036854775807 then(z,true)else(0,false)
omit [Env] in
theorem So {z:Int} (h1: -9223372036854775808<=z) (h2:z<=9223372036854775808):Sm z:=by
 unfold Sm Kk;have h3:z.natAbs<1000000000^3:=by omega
 exact fR h3 (Lk (by omega) (by omega))
theorem EF {z:Int} (hz:Sm z):Gives CC 123 [qL z] [.c (.int .i64 (Vt z).1),.c (.bool (Vt z).2)]:=by
 have hlen:=hz.len;refine qm (anns:=λ_=>⟨[.slot 4 (.int .u64 0),.slot 5 (.int .i64 0)],[],λ_ ds=> -9223372036854775808<=z/\z<=9223372036854775807/\∃k:Nat,k<=(lim z.natAbs).length/\ds=[.int .u64 (val ((lim z.natAbs).drop k):Int),.int .i64 ((k:Int)-1)],λds=>(toI (nth .undef ds 1)+1).toNat⟩) mixedT Tryz.func123 ?_;have s1:Sm (-9223372036854775808):=So (by omega) (by omega);have s2:Sm 9223372036854775807:=So (by omega) (by omega);have h1:=up (xq (n:= -9223372036854775808) (by omega) (by omega));have h2:=up (xq (n:=9223372036854775807) (by omega) (by omega));have c1:=up (jK hz s1);have c2:=up (jK hz s2);rw[qX]at h1 h2 c1 c2;rw[qX (-9223372036854775808)]at c1;rw[qX 9223372036854775807]at c2;rw[qX,MH];have l1:kd z (-9223372036854775808)<0↔z< -9223372036854775808:=by unfold kd;split<;>(try split)<;>omega
 have l2:kd z 9223372036854775807>0↔9223372036854775807<z:=by unfold kd;split<;>(try split)<;>omega
 unfold Vt;refine⟨_,_,h1,_,c1,brd (λh=>?_) (λh=>⟨_,_,h2,_,c2,brd (λg=>?_) (λg=>?_)⟩)⟩
 .have:=l1.1 h;rw[if_neg (by omega)]
 .have:=l2.1 g;rw[if_neg (by omega)]
 .have h:=mt l1.2 h;have g:=mt l2.2 g;rw[if_pos ⟨by omega,by omega⟩];have hl:=qc z.natAbs;have hv:=qi z.natAbs;generalize lim z.natAbs=l at *;simp only[Lv,qe];refine⟨⟨by omega,by omega,l.length,et _,by rw[List.drop_length,xb];rfl⟩,?_⟩;rintro n m ⟨_,_,k,hk,he⟩;simp only[ec,D.int.injEq,true_and,and_true]at he;obtain⟨rfl,rfl⟩:=he;refine brd (λh=>?_) (λh=>?_)
  .have a0:k-1<l.length:=by omega
   have ht:((k:Int)-1).toNat=k-1:=by omega
   rw[ht];have hd:val (l.drop (k-1))=l[k-1]+1000000000*val (l.drop k):=by rw[List.drop_eq_getElem_cons a0,show k-1+1=k by omega];rfl
   have hle:=Zz l (k-1);have hx:=hl.get a0;have hw:Hy .u64 (Hy .u64 ((val (l.drop k):Int)*1000000000)+Hy .u64 (l[k-1]:Int))=(val (l.drop (k-1)):Int):=by rw[xH (n:=(val (l.drop k):Int)*1000000000),xH (n:=(l[k-1]:Int)),xH];omega
   have a1:Hy .i64 ((k:Int)-1-1)=((k-1:Nat):Int)-1:=by rw[xb];omega
   refine⟨⟨by omega,by omega,qz a0⟩,_,qA a0,⟨by omega,by omega,k-1,by omega,by rw[hw,a1]⟩,?_⟩;rw[a1];simp only[nth,toI];omega
  .have a0:k=0:=by omega
   subst a0;rw[List.drop_zero,hv];by_cases hn:z<0
   .rw[decide_eq_true hn];refine Qd (λ_=>?_) (λh=>by simp at h);have e:Hy .i64 (Hy .u64 (0-((z.natAbs:Nat):Int)))=z:=by simp[Hy,I2,I1];omega
    rw[e]
   .rw[decide_eq_false hn];refine Qd (λh=>by simp at h) (λ_=>?_);have e:Hy .i64 ((z.natAbs:Nat):Int)=z:=by rw[xb];omega
    rw[e]
omit [Env] in
theorem fdN (a m:Nat):V1 (a:Int) (m:Int)=((a/m:Nat):Int):=by
 rw[Int.fdiv_eq_ediv_of_nonneg _ (by omega)];exact(Int.natCast_ediv a m).symm
omit [Env] in
theorem fd32 (a:Nat):V1 (a:Int) 4294967296=((a/4294967296:Nat):Int):=fdN a 4294967296
omit [Env] in
theorem fd16 (a:Nat):V1 (a:Int) 65536=((a/65536:Nat):Int):=fdN a 65536
omit [Env] in
theorem MK (a:Nat) (ha:a<18446744073709551616):bits .and .u64 (a:Int) 4294967295=((a%4294967296:Nat):Int):=by
 have h:=bits_and_u64_nat a 4294967295 ha (by omega);have e:a&&&4294967295=a%4294967296:=eU a 32;rw[e]at h;exact h
omit [Env] in
theorem A2 (a:Nat) (ha:a<18446744073709551616):bits .and .u64 (a:Int) 65535=((a%65536:Nat):Int):=by
 have h:=bits_and_u64_nat a 65535 ha (by omega);have e:a&&&65535=a%65536:=eU a 16;rw[e]at h;exact h
omit [Env] in
theorem or48 {a b:Nat} (ha:a<65536) (hb:b<281474976710656):bits .or .u64 (Hy .u64 ((a:Int)*281474976710656)) (b:Int)=((a*281474976710656+b:Nat):Int):=by
 rw[xH];have e:(a:Int)*281474976710656=((a*281474976710656:Nat):Int):=by omega
 rw[e,bits_or_u64_nat _ _ (by omega) (by omega)];have h:=Nat.two_pow_add_eq_or_of_lt (i:=48) (b:=b) hb a;rw[gp a,show(281474976710656:Nat)=2^48 from rfl,<-h]
theorem A3 {x y:Nat} (hx:x<18446744073709551616) (hy:y<18446744073709551616):Gives CC 441 [.c (.int .u64 (x:Int)),.c (.int .u64 (y:Int))] [.c (.int .u64 ((x*y/18446744073709551616:Nat):Int)),.c (.int .u64 ((x*y%18446744073709551616:Nat):Int))]:=by
 refine wpG Tryz.func441 ((MI ..).mpr ?_);obtain⟨bd,bt,bw,hhi⟩:=Go.Lib.mul64_hi x y hx hy;have ba:=J4 (a:=x/4294967296) (b:=y/4294967296) (by omega) (by omega);have bb:=J4 (a:=x/4294967296) (b:=y%4294967296) (by omega) (by omega);have bc:=J4 (a:=x%4294967296) (b:=y/4294967296) (by omega) (by omega);have wN:∀a:Nat,a<18446744073709551616->I3.wrap (a:Int)=(a:Int):=λa h=>xH
 have wM:∀a:Nat,I3.wrap (a:Int)=((a%18446744073709551616:Nat):Int):=λa=>by simp[Hy,I2,I1]
 have a1:∀a b:Nat,(a:Int)*(b:Int)=((a*b:Nat):Int):=λa b=>(M3 a b).symm
 have a0:∀a b:Nat,(a:Int)+(b:Int)=((a+b:Nat):Int):=λa b=>(Int.natCast_add a b).symm
 have bb':x/4294967296*(y%4294967296)<18446744073709551616:=by omega
 have bc':x%4294967296*(y/4294967296)<18446744073709551616:=by omega
 have ba':x/4294967296*(y/4294967296)<18446744073709551616:=by omega
 have bh1:x/4294967296*(y/4294967296)+(x/4294967296*(y%4294967296)+x%4294967296*(y%4294967296)/4294967296)/4294967296<18446744073709551616:=by omega
 have bh:x/4294967296*(y/4294967296)+(x/4294967296*(y%4294967296)+x%4294967296*(y%4294967296)/4294967296)/4294967296+((x/4294967296*(y%4294967296)+x%4294967296*(y%4294967296)/4294967296)%4294967296+x%4294967296*(y/4294967296))/4294967296<18446744073709551616:=by omega
 refine⟨by omega,by omega,by omega,by omega,by omega,?_⟩;simp only[fd32,MK x hx,MK y hy,a1,a0,wN _ bd,wN _ bb',wN _ bt,MK _ bt,wN _ bc',wN _ bw,wN _ ba',wN _ bh1,wN _ bh,wM (x*y)];rw[hhi]
theorem cAbs {x:Int} (hx:FB x):Gives CC 442 [.c (.int .i64 x)] [.c (.int .u64 (x.natAbs:Int))]:=by
 refine wpG Tryz.func442 ((CI ..).mpr ?_);unfold FB at hx;refine brd (λh=>?_) (λh=>?_)
 .have e:Hy .u64 (0-Hy .u64 x)=(x.natAbs:Int):=by simp[Hy,I2,I1];omega
  rw[e]
 .have e:Hy .u64 x=(x.natAbs:Int):=by rw[xH];omega
  rw[e]
omit [Env] in
theorem ML {x y:Int} (h:decide (x<0)=decide (y<0)):x*y=((x.natAbs*y.natAbs:Nat):Int):=by
 rw[<-U3];have h:=decide_eq_decide.1 h;have h2:0<=x*y:=by
  rcases P1 x 0 with k|k
  .exact Int.mul_nonneg_of_nonpos_of_nonpos (by omega) (by have:=h.1 k;omega)
  .exact Int.mul_nonneg k (by
    rcases P1 y 0 with l|l
    .have:=h.2 l;omega
    .exact l)
 omega
omit [Env] in
theorem PM {x y:Int} (h:¬decide (x<0)=decide (y<0)):x*y= -((x.natAbs*y.natAbs:Nat):Int):=by
 have h1:decide (-x<0)=decide (y<0)\/x=0:=by
  by_cases k:x=0
  .exact .inr k
  .refine .inl (decide_eq_decide.2 ?_);have h:¬(x<0↔y<0):=λe=>h (decide_eq_decide.2 e)
   constructor<;>intro l
   .rcases P1 y 0 with m|m
    .exact m
    .exact absurd ⟨λa=>by omega,λa=>by omega⟩ h
   .rcases P1 x 0 with m|m
    .exact absurd ⟨λ_=>l,λ_=>m⟩ h
    .omega
 rcases h1 with h1|h1
 .have:=ML h1;rw[Int.neg_mul,Tk]at this;omega
 .subst h1;simp
omit [Env] in
theorem nq {q:Nat} (k:¬q>2305843009213693952):¬((q:Int)>2305843009213693952):=by omega
omit [Env] in
theorem yq {q:Nat} (k:q>2305843009213693952):(q:Int)>2305843009213693952:=by omega
omit [Env] in
theorem ne0 {a:Nat} {X:Prop} (k:a=0) (h:((a:Int) !=0)=true):X:=by subst k;simp at h
omit [Env] in
theorem eq0 {a:Nat} {X:Prop} (k:¬a=0) (h:((a:Int) !=0)=false):X:=by
 simp at h;omega
omit [Env] in
theorem ar0 {P q:Nat} (hq:P/65536=q) (hr:P%65536=0):(q:Int)*65536<=(P:Int)/\(P:Int)<=(q:Int)*65536:=by omega
omit [Env] in
theorem ar1 {P q:Nat} (hq:P/65536=q):(q:Int)*65536<=(P:Int)/\(P:Int)<=((q:Int)+1)*65536:=by omega
omit [Env] in
theorem ar2 {P q:Nat} (hq:P/65536=q) (hr:P%65536=0): -(q:Int)*65536<= -(P:Int)/\ -(P:Int)<= -(q:Int)*65536:=by omega
omit [Env] in
theorem ar3 {P q:Nat} (hq:P/65536=q): -((q:Int)+1)*65536<= -(P:Int)/\ -(P:Int)<= -(q:Int)*65536:=by omega
omit [Env] in
theorem wq1 {q:Nat} (k:¬q>2305843009213693952):Hy .i64 (q:Int)=q:=xb
omit [Env] in
theorem wq2 {q:Nat} (k:¬q>2305843009213693952):Hy .i64 ((q:Int)+1)=q+1:=xb
omit [Env] in
theorem wq3 {q:Nat} (k:¬q>2305843009213693952):Hy .i64 (0-(q:Int))= -q:=by rw[xb];omega
omit [Env] in
theorem wq4 {q:Nat} (k:¬q>2305843009213693952):Hy .i64 (0-((q:Int)+1))= -(q+1):=by rw[xb];omega
omit [Env] in
theorem bn {q:Nat} {l u Z:Int} (_:l= -(q+1)/\u= -q\/l= -q/\u= -q\/l=q/\u=q+1\/l=q/\u=q) (hb:l*65536<=Z/\Z<=u*65536)
 (hk:(decide (l>= -2305843009213693952)&&decide (u<=2305843009213693952))=true):FB l/\FB u/\l<=u/\l*65536<=Z/\Z<=u*65536:=by
 simp only[Aw,decide_eq_true_eq]at hk;unfold FB;omega
omit [Env] in
theorem bo (l u:Int):br (toB (Hu (decide (l>= -2305843009213693952)))) ([A.c (.int .i64 l),A.c (.int .i64 u),A.c (.bool (decide (u<=2305843009213693952)))]=[.c (.int .i64 l),.c (.int .i64 u),eOk (decide (l>= -2305843009213693952)&&decide (u<=2305843009213693952))])
 ([A.c (.int .i64 l),A.c (.int .i64 u),A.c (.bool false)]=[.c (.int .i64 l),.c (.int .i64 u),eOk (decide (l>= -2305843009213693952)&&decide (u<=2305843009213693952))]):=by
 refine brd (λh=>?_) (λh=>?_)
 .rw[decide_eq_true h,Bool.true_and];rfl
 .rw[decide_eq_false h,Dd];rfl
theorem K9 {x y:Int} (hx:FB x) (hy:FB y):∃l u ok,Gives CC 418 [.c (.int .i64 x),.c (.int .i64 y)] [.c (.int .i64 l),.c (.int .i64 u),eOk ok]/\(ok=true->FB l/\FB u/\l<=u/\l*65536<=x*y/\x*y<=u*65536):=by
 have h1:=cAbs hx;have h2:=cAbs hy;have h3:=A3 (x:=x.natAbs) (y:=y.natAbs) (by unfold FB at hx;omega) (by unfold FB at hy;omega);have s1:= @ML x y;have s2:= @PM x y;generalize x.natAbs*y.natAbs=P at h3 s1 s2;have e1:=fd16 (P/18446744073709551616);have e2:=fd16 (P%18446744073709551616);have e4:bits .and .u64 ((P%18446744073709551616:Nat):Int) 65535=((P%65536:Nat):Int):=by rw[A2 _ (by omega)];congr 1;omega
 by_cases k1:¬P/18446744073709551616/65536=0
 .refine⟨0,0,false,?_,by simp⟩;refine wpG Tryz.func418 ((jA ..).mpr ?_);refine⟨_,h1,_,h2,_,_,h3,by omega,?_⟩;rw[e1];exact brb (λ_=>rfl) (λh=>eq0 k1 h)
 have k1:=Classical.not_not.1 k1;have e3:bits .or .u64 (Hy .u64 (((P/18446744073709551616:Nat):Int)*281474976710656)) (((P%18446744073709551616/65536:Nat)):Int)=((P/65536:Nat):Int):=by rw[or48 (by omega) (by omega)];congr 1;omega
 by_cases k2:P/65536>2305843009213693952
 .refine⟨0,0,false,?_,by simp⟩;refine wpG Tryz.func418 ((jA ..).mpr ?_);refine⟨_,h1,_,h2,_,_,h3,by omega,?_⟩;simp only[e1,e2,e3,e4];exact brb (λh=>ne0 k1 h) (λ_=>⟨by decide,by decide,brd (λ_=>rfl) (λh=>absurd (yq k2) h)⟩)
 generalize hq:P/65536=q at *;have w1:=wq1 k2;have w2:=wq2 k2;have w3:=wq3 k2;have w4:=wq4 k2;have k3:=nq k2;by_cases hr:P%65536=0
 .by_cases hs:decide (x<0)=decide (y<0)
  .refine⟨q,q,_,?_,bn (.inr (.inr (.inr ⟨rfl,rfl⟩))) (by rw[s1 hs];exact ar0 hq hr)⟩;refine wpG Tryz.func418 ((jA ..).mpr ?_);refine⟨_,h1,_,h2,_,_,h3,by omega,?_⟩;simp only[e1,e2,e3,e4,w1,w2,w3,w4];refine brb (λh=>ne0 k1 h) (λ_=>⟨by decide,by decide,brd (λh=>absurd h k3) (λ_=>brb (λh=>ne0 hr h) (λ_=>brb (λh=>by rw[hs]at h;simp at h) (λ_=>bo _ _)))⟩)
  .refine⟨-q, -q,_,?_,bn (.inr (.inl ⟨rfl,rfl⟩)) (by rw[s2 hs];exact ar2 hq hr)⟩;refine wpG Tryz.func418 ((jA ..).mpr ?_);refine⟨_,h1,_,h2,_,_,h3,by omega,?_⟩;simp only[e1,e2,e3,e4,w1,w2,w3,w4];refine brb (λh=>ne0 k1 h) (λ_=>⟨by decide,by decide,brd (λh=>absurd h k3) (λ_=>brb (λh=>ne0 hr h) (λ_=>brb (λ_=>bo _ _) (λh=>absurd (by simpa using h) hs)))⟩)
 .by_cases hs:decide (x<0)=decide (y<0)
  .refine⟨q,q+1,_,?_,bn (.inr (.inr (.inl ⟨rfl,rfl⟩))) (by rw[s1 hs];exact ar1 hq)⟩;refine wpG Tryz.func418 ((jA ..).mpr ?_);refine⟨_,h1,_,h2,_,_,h3,by omega,?_⟩;simp only[e1,e2,e3,e4,w1,w2,w3,w4];refine brb (λh=>ne0 k1 h) (λ_=>⟨by decide,by decide,brd (λh=>absurd h k3) (λ_=>brb (λ_=>brb (λh=>by rw[hs]at h;simp at h) (λ_=>bo _ _)) (λh=>eq0 hr h))⟩)
  .refine⟨-(q+1), -q,_,?_,bn (.inl ⟨rfl,rfl⟩) (by rw[s2 hs];exact ar3 hq)⟩;refine wpG Tryz.func418 ((jA ..).mpr ?_);refine⟨_,h1,_,h2,_,_,h3,by omega,?_⟩;simp only[e1,e2,e3,e4,w1,w2,w3,w4];refine brb (λh=>ne0 k1 h) (λ_=>⟨by decide,by decide,?_⟩);refine brd (λh=>absurd h k3) (λ_=>?_);refine brb (λ_=>?_) (λh=>eq0 hr h);refine brb (λ_=>?_) (λh=>absurd (by simpa using h) hs);generalize-((q:Int)+1)=l;generalize-(q:Int)=u;exact bo l u
omit [Env] in
theorem brF {X Y:Prop} (h:X):br (toB (Hu !false)) X Y:=h
omit [Env] in
theorem brT {X Y:Prop} (h:Y):br (toB (Hu !true)) X Y:=h
def IvB (a b:Int):Prop:=FB a/\FB b/\a<=b
omit [Env] in
theorem IvB.zero:IvB 0 0:=⟨⟨by omega,by omega⟩,⟨by omega,by omega⟩,by omega⟩
theorem A4 {a b:Int} (hab:a<=b):∃c d ok,Gives CC 409 [.c (.int .i64 a),.c (.int .i64 b)] [eIv c d,eOk ok]/\IvB c d/\(ok=true->c=a/\d=b):=by
 obtain⟨c,d,ok,h1,h2,h3⟩:=CP (a:=a) (b:=b);refine⟨c,d,ok,h1,?_,λh=>⟨(h2 h).1,(h2 h).2.1⟩⟩;cases ok with
 |true=>obtain⟨rfl,rfl,k1,k2⟩:=h2 rfl;exact⟨⟨k1,by omega⟩,⟨by omega,k2⟩,hab⟩
 |false=>obtain⟨rfl,rfl⟩:=h3 rfl;exact .zero
theorem A5 {a0 b0 a1 b1:Int} (h:IvB a0 b0) (k:IvB a1 b1):∃c d ok,Gives CC 383 [eIv a0 b0,eIv a1 b1] [eIv c d,eOk ok]/\IvB c d/\(ok=true->∀x y,inQ a0 b0 x->inQ a1 b1 y->inQ c d (x+y)):=by
 obtain⟨c,d,ok,h1,h2,h3⟩:=A4 (a:=a0+a1) (b:=b0+b1) (by have:=h.2.2;have:=k.2.2;omega);refine⟨c,d,ok,?_,h2,λe x y hx hy=>?_⟩
 .obtain⟨h,h',_⟩:=h;obtain⟨k,k',_⟩:=k;unfold FB at h h' k k';refine wpG Tryz.func383 ((CG ..).mpr ?_);rw[xb (n:=a0+a1),xb (n:=b0+b1)];exact⟨_,_,_,h1,rfl⟩
 .obtain⟨rfl,rfl⟩:=h3 e;exact CE hx hy
theorem cSgn (a b:Int):∃n ok,Gives CC 385 [eIv a b] [eI n,eOk ok]/\(ok=true->∀x,inQ a b x->n=sr x):=by
 by_cases h1:a>0
 .refine⟨1,true,?_,λ_ x hx=>((ME hx).1 h1).symm⟩;refine wpG Tryz.func385 ((Xe ..).mpr ?_);exact brd (λ_=>rfl) (λk=>absurd h1 k)
 by_cases h2:b<0
 .refine⟨-1,true,?_,λ_ x hx=>((ME hx).2.1 h2).symm⟩;refine wpG Tryz.func385 ((Xe ..).mpr ?_);exact brd (λk=>absurd k h1) (λ_=>brd (λ_=>rfl) (λk=>absurd h2 k))
 by_cases h3:a=0
 .refine⟨0,b==0,?_,λe x hx=>?_⟩
  .refine wpG Tryz.func385 ((Xe ..).mpr ?_);exact brd (λk=>absurd k h1) (λ_=>brd (λk=>absurd k h2) (λ_=>brb (λ_=>rfl) (λk=>by subst h3;simp at k)))
  .have e:=W1 e;subst h3 e;exact((ME hx).2.2 rfl rfl).symm
 .refine⟨0,false,?_,by simp⟩;refine wpG Tryz.func385 ((Xe ..).mpr ?_);exact brd (λk=>absurd k h1) (λ_=>brd (λk=>absurd k h2) (λ_=>brb (λk=>absurd (W1 k) h3) (λ_=>rfl)))
theorem Qa {x:Rat} {k:Nat} (hx:Hz k x) (h:k<300000:=by omega):∃c d ok,Gives CC 374 [.ag (rk (q4 x) [])] [eIv c d,eOk ok]/\IvB c d/\(ok=true->inQ c d x):=by
 have h0:=bInt (n:=65536) (by omega) (by omega);have hz:Hz 5 ((65536:Int):Rat):=Hz.int (by decide);have hm:=hx.mul hz (l:=k+5);have h1:=dz hx hz (by omega);have h2:=Vo hm (by omega);have h3:=bNeg hm (by omega);have h4:=Vo hm.neg (by omega);have e:x*((65536:Int):Rat)=x*65536:=by rfl
 rw[e]at h1 h2 h3 h4 hm;have f1:=h8 (x*65536);have f2:=h8 (-(x*65536));have sf:∀{y:Rat} {j:Nat},Hz j y->j<300010->Sm y.floor:=λ{y j} hy hj=>by have hs:=(hy.sr (by omega)).1.sm;rw[hA];exact ei (Ts _ _) hs
 have s1:=sf hm (by omega);have s2:=sf hm.neg (by omega);generalize (x*65536).floor=f at *;generalize (-(x*65536)).floor=g at *;have s3:Sm (-g):=by unfold Sm at s2 ⊢;rw[Tk];exact s2
 have h5:=up (Qq s2);have g1:=EF s1;have g2:=EF s3;rw[qX]at h2 h4 h5 g1 g2;rw[qX]at h5;have fg:f<= -g:=by
  have:(f:Rat)<=((-g:Int):Rat):=by rw[h6];grind
  exact hD.1 this
 by_cases o1: -9223372036854775808<=f/\f<=9223372036854775807
 .have i1:Vt f=(f,true):=if_pos o1;rw[i1]at g1;by_cases o2: -9223372036854775808<= -g/\ -g<=9223372036854775807
  .have i2:Vt (-g)=(-g,true):=if_pos o2;rw[i2]at g2;obtain⟨c,d,ok,p1,p2,p3⟩:=A4 fg;refine⟨c,d,ok,?_,p2,λe=>?_⟩
   .refine wpG Tryz.func374 ((jf ..).mpr ?_);exact⟨_,h0,_,h1,_,_,h2,_,_,g1,_,h3,_,_,h4,_,_,h5,_,_,g2,brT (brT ⟨_,_,_,p1,rfl⟩)⟩
   .obtain⟨rfl,rfl⟩:=p3 e;exact⟨f1,by rw[h6];grind⟩
  .have i2:Vt (-g)=(0,false):=if_neg o2;rw[i2]at g2;refine⟨0,0,false,?_,.zero,by simp⟩;refine wpG Tryz.func374 ((jf ..).mpr ?_);exact⟨_,h0,_,h1,_,_,h2,_,_,g1,_,h3,_,_,h4,_,_,h5,_,_,g2,brT (brF rfl)⟩
 .have i1:Vt f=(0,false):=if_neg o1;rw[i1]at g1;refine⟨0,0,false,?_,.zero,by simp⟩;refine wpG Tryz.func374 ((jf ..).mpr ?_);exact⟨_,h0,_,h1,_,_,h2,_,_,g1,_,h3,_,_,h4,_,_,h5,_,_,g2,brF rfl⟩
def mnI (a b:Int):Int:=match decide (a<b)with
 |true=>a
 |false=>b
def mxI (a b:Int):Int:=match decide (a<b)with
 |true=>b
 |false=>a
omit [Env] in
theorem MM (a b:Int):mnI a b=min a b:=by
 unfold mnI;cases h:decide (a<b)with
 |true=>have:=of_decide_eq_true h;show a=_;omega
 |false=>have:=of_decide_eq_false h;show b=_;omega
omit [Env] in
theorem MN (a b:Int):mxI a b=max a b:=by
 unfold mxI;cases h:decide (a<b)with
 |true=>have:=of_decide_eq_true h;show b=_;omega
 |false=>have:=of_decide_eq_false h;show a=_;omega
def loN (s:Nat->Int×Int×Bool):Nat->Int
 |0=>2305843009213693952
 |n+1=>mnI (s n).1 (loN s n)
def hiN (s:Nat->Int×Int×Bool):Nat->Int
 |0=> -2305843009213693952
 |n+1=>mxI (hiN s n) (s n).2.1
theorem A6 {a0 b0 a1 b1:Int} {s:Nat->Int×Int×Bool}
 (hs:∀k j,k<2->j<2->Gives CC 418 [.c (.int .i64 (if k=0 then a0 else b0)),.c (.int .i64 (if j=0 then a1 else b1))] [.c (.int .i64 (s (2*k+j)).1),.c (.int .i64 (s (2*k+j)).2.1),eOk (s (2*k+j)).2.2])
 {R:List A} (hR:((∀m<4,(s m).2.2=true)->R=[eIv (loN s 4) (hiN s 4),eOk true])) (hR':(¬(∀m<4,(s m).2.2=true)->R=[eIv 0 0,eOk false])):
 Gives CC 382 [eIv a0 b0,eIv a1 b1] R:=by
 refine qm (anns:=YR ⟨[.slot 21 (.int .i64 0),.slot 6 (.int .i64 0),.slot 7 (.int .i64 0)],[],λ_ ds=>∃k:Nat,k<=2/\ds=[.int .i64 (k:Int),.int .i64 (loN s (2*k)),.int .i64 (hiN s (2*k))]/\∀m<2*k,(s m).2.2=true,λds=>(2-toI (nth .undef ds 0)).toNat⟩
  ⟨[.slot 31 (.int .i64 0),.slot 6 (.int .i64 0),.slot 7 (.int .i64 0)],[.slot 21 (.int .i64 0)],λgs ds=>∃k j:Nat,k<2/\j<=2/\gs=[.int .i64 (k:Int)]/\ds=[.int .i64 (j:Int),.int .i64 (loN s (2*k+j)),.int .i64 (hiN s (2*k+j))]/\∀m<2*k+j,(s m).2.2=true,λds=>(2-toI (nth .undef ds 0)).toNat⟩) mixedT Tryz.func382 ?_
 show wpF _ _ _ _ [.ag [.int .i64 a0,.int .i64 b0],.ag [.int .i64 a1,.int .i64 b1]] _;rw[CL];refine⟨⟨0,by omega,rfl,by omega⟩,?_⟩;rintro i p q ⟨k,hk,he,a5⟩;simp only[ec,D.int.injEq,true_and,and_true]at he;obtain⟨rfl,rfl,rfl⟩:=he;refine brd (λh=>?_) (λh=>?_)
 .have a2:k<2:=by omega
  refine⟨⟨by omega,h⟩,(if k=0 then a0 else b0),?_,⟨k,0,a2,by omega,rfl,rfl,a5⟩,?_⟩
  .rw[M2];rcases(by omega:k=0\/k=1)with rfl|rfl
   .exact⟨rfl,et 1⟩
   .exact⟨rfl,et 1⟩
  .rintro j p q ⟨k',j',hk',hj',hg,he,a3⟩;simp only[ec,D.int.injEq,true_and,and_true]at he hg;obtain⟨rfl,rfl,rfl⟩:=he;obtain rfl:k=k':=by omega
   refine brd (λh=>?_) (λh=>?_)
   .have a4:j'<2:=by omega
    refine⟨⟨by omega,h⟩,(if j'=0 then a1 else b1),?_,_,_,_,hs k j' a2 a4,?_⟩
    .rw[M2];rcases(by omega:j'=0\/j'=1)with rfl|rfl
     .exact⟨rfl,et 1⟩
     .exact⟨rfl,et 1⟩
    .have w:Hy .i64 ((j':Int)+1)=((j'+1:Nat):Int):=by rw[xb];omega
     rw[w];cases hb:(s (2*k+j')).2.2 with
     |false=>refine brb (λ_=>?_) (λh=>by simp at h);exact(hR' (λg=>by rw[g _ (by omega)]at hb;simp at hb)).symm
     |true=>
      refine brb (λh=>by simp at h) (λ_=>⟨⟨k,j'+1,a2,by omega,rfl,rfl,λm hm=>?_⟩,?_⟩)
      .rcases(by omega:m<2*k+j'\/m=2*k+j')with g|rfl
       .exact a3 m g
       .exact hb
      .simp only[nth,toI];omega
   .have a4:j'=2:=by omega
    subst a4;have w:Hy .i64 ((k:Int)+1)=((k+1:Nat):Int):=by rw[xb];omega
    rw[w];exact⟨⟨k+1,by omega,rfl,a3⟩,by simp only[nth,toI];omega⟩
 .have a2:k=2:=by omega
  subst a2;exact(hR a5).symm
theorem dA {a0 b0 a1 b1:Int} (h:IvB a0 b0) (k:IvB a1 b1):∃c d ok,Gives CC 382 [eIv a0 b0,eIv a1 b1] [eIv c d,eOk ok]/\IvB c d/\(ok=true->∀x y,inQ a0 b0 x->inQ a1 b1 y->inQ c d (x*y)):=by
 obtain⟨l0,u0,o0,g0,f0⟩:=K9 h.1 k.1;obtain⟨l1,u1,o1,g1,f1⟩:=K9 h.1 k.2.1;obtain⟨l2,u2,o2,g2,f2⟩:=K9 h.2.1 k.1;obtain⟨l3,u3,o3,g3,f3⟩:=K9 h.2.1 k.2.1;obtain⟨s,a2,a3,a4,a5⟩:∃s:Nat->Int×Int×Bool,s 0=(l0,u0,o0)/\s 1=(l1,u1,o1)/\s 2=(l2,u2,o2)/\s 3=(l3,u3,o3):=
  ⟨λn=>if n=0 then(l0,u0,o0)else if n=1 then(l1,u1,o1)else if n=2 then(l2,u2,o2)else(l3,u3,o3),rfl,rfl,rfl,rfl⟩
 have hs:∀k j,k<2->j<2->Gives CC 418 [.c (.int .i64 (if k=0 then a0 else b0)),.c (.int .i64 (if j=0 then a1 else b1))] [.c (.int .i64 (s (2*k+j)).1),.c (.int .i64 (s (2*k+j)).2.1),eOk (s (2*k+j)).2.2]:=by
  intro k j hk hj;rcases(by omega:k=0\/k=1)with rfl|rfl<;>rcases(by omega:j=0\/j=1)with rfl|rfl
  .show Gives _ _ _ [.c (.int .i64 (s 0).1),.c (.int .i64 (s 0).2.1),eOk (s 0).2.2];rw[a2];exact g0
  .show Gives _ _ _ [.c (.int .i64 (s 1).1),.c (.int .i64 (s 1).2.1),eOk (s 1).2.2];rw[a3];exact g1
  .show Gives _ _ _ [.c (.int .i64 (s 2).1),.c (.int .i64 (s 2).2.1),eOk (s 2).2.2];rw[a4];exact g2
  .show Gives _ _ _ [.c (.int .i64 (s 3).1),.c (.int .i64 (s 3).2.1),eOk (s 3).2.2];rw[a5];exact g3
 by_cases ha:∀m<4,(s m).2.2=true
 .have e0:=f0 (by have:=ha 0 (by omega);rwa [a2]at this);have e1:=f1 (by have:=ha 1 (by omega);rwa [a3]at this);have e2:=f2 (by have:=ha 2 (by omega);rwa [a4]at this);have e3:=f3 (by have:=ha 3 (by omega);rwa [a5]at this);have eL:loN s 4=min l3 (min l2 (min l1 (min l0 2305843009213693952))):=by simp only[loN,MM,a2,a3,a4,a5]
  have eH:hiN s 4=max (max (max (max (-2305843009213693952) u0) u1) u2) u3:=by simp only[hiN,MN,a2,a3,a4,a5]
  refine⟨loN s 4,hiN s 4,true,A6 hs (λ_=>rfl) (λg=>absurd ha g),?_,λ_ x y hx hy=>?_⟩
  .rw[eL,eH];unfold IvB FB at *;omega
  .rw[eL,eH];refine CF hx hy ?_ ?_
   .rintro p q (rfl|rfl) (rfl|rfl)<;>omega
   .rintro p q (rfl|rfl) (rfl|rfl)<;>omega
 .exact⟨0,0,false,A6 hs (λg=>absurd g ha) (λ_=>rfl),.zero,by simp⟩
theorem dB {a b:Int} (h:IvB a b):Gives CC 390 [eIv a b] [eIv (-b) (-a)]/\IvB (-b) (-a):=by
 obtain⟨ha,hb,hab⟩:=h;unfold FB at ha hb;refine⟨?_,⟨by unfold FB;omega,by unfold FB;omega,by omega⟩⟩;refine wpG Tryz.func390 ((CH ..).mpr ?_);rw[xb (n:=0-b),xb (n:=0-a),W0,W0];rfl
theorem Sp {n:Rat} {k:Nat} (hn:Hz k n) {a b:Int} (h:IvB a b) (o:Bool) (hk:k<300000:=by omega):∃c d ok,Gives CC 391 [.ag (rk (q4 n) []),eIv a b,eOk o] [eIv c d,eOk ok]/\IvB c d/\(ok=true->o=true/\∀x,inQ a b x->inQ c d (n*x)):=by
 obtain⟨b1,b2,ob,gb,bb,ib⟩:=Qa hn;obtain⟨m1,m2,om,gm,bm,im⟩:=dA bb h;cases o with
 |false=>refine⟨0,0,false,?_,.zero,by simp⟩;refine wpG Tryz.func391 ((Zy ..).mpr ?_);exact⟨_,_,_,gb,brF rfl⟩
 |true=>
 cases ob with
 |false=>refine⟨0,0,false,?_,.zero,by simp⟩;refine wpG Tryz.func391 ((Zy ..).mpr ?_);exact⟨_,_,_,gb,brT (brF rfl)⟩
 |true=>refine⟨m1,m2,om,?_,bm,λe=>⟨rfl,λx hx=>im e _ _ (ib rfl) hx⟩⟩;refine wpG Tryz.func391 ((Zy ..).mpr ?_);exact⟨_,_,_,gb,brT (brT ⟨_,_,_,gm,rfl⟩)⟩
theorem MO {x:Rat} {k:Nat} (hx:Hz k x) (h:k<300000:=by omega):∃c d ok,Gives CC 331 [.ag (rk (q4 x) (rk (q4 0) (rk (q4 0) [])))] [eIv c d,eOk ok]/\IvB c d/\(ok=true->inQ c d x):=by
 obtain⟨a1,a2,oa,ga,ba,ia⟩:=Qa hx;refine⟨a1,a2,oa,?_,ba,ia⟩;refine wpG Tryz.func331 ((G9 ..).mpr ?_);cases oa with
 |false=>exact⟨_,_,_,ga,brF rfl⟩
 |true=>exact⟨_,_,_,ga,brT ⟨_,Uf 0,brb (λ_=>rfl) (λh=>by simp[sr]at h)⟩⟩
end
end Eng
end
section
namespace Eng
open Go Go.Proofs Rl
section
variable [Env]
def kLn (a b c:Rat):List D:=rk (q4 a) (rk (q4 b) (rk (q4 c) []))
def kPt (x y:Rat):List D:=pk ⟨q4 x,q4 0,q4 y,q4 0,q4 0⟩ []
theorem A7 {a b c x y:Rat} {k:Nat} (ha:Hz k a) (hb:Hz k b) (hc:Hz k c) (hx:Hz k x) (hy:Hz k y) (hk:k<80000:=by omega):∃n ok,Gives CC 364 [.ag (kLn a b c),.ag (kPt x y)] [eI n,eOk ok]/\(ok=true->n=sr (a*x+b*y-c)):=by
 obtain⟨_,_,o1,g1,k1,i1⟩:=MO hx;obtain⟨_,_,o2,g2,k2,i2⟩:=Sp ha k1 o1;obtain⟨_,_,o3,g3,k3,i3⟩:=MO hy;obtain⟨_,_,o4,g4,k4,i4⟩:=Sp hb k3 o3;obtain⟨_,_,o5,g5,k5,i5⟩:=Qa hc;obtain⟨_,_,o6,g6,k6,i6⟩:=A5 k2 k4;obtain⟨g7,k7⟩:=dB k5;obtain⟨_,_,o8,g8,k8,i8⟩:=A5 k6 k7;obtain⟨z,oz,gz,iz⟩:=cSgn _ _;refine⟨if(o2&&o4&&o5&&o6&&o8)=true then z else 0,o2&&o4&&o5&&o6&&o8&&oz,?_,λe=>?_⟩
 .unfold kLn kPt;refine wpG Tryz.func364 ((PH ..).mpr ?_);refine⟨_,_,_,g1,_,_,_,g2,_,_,_,g3,_,_,_,g4,_,_,_,g5,?_⟩;cases o2
  .rfl
  cases o4
  .rfl
  cases o5
  .rfl
  refine⟨_,_,_,g6,?_⟩;cases o6
  .rfl
  refine⟨_,_,g7,_,_,_,g8,?_⟩;cases o8
  .rfl
  exact⟨_,_,gz,rfl⟩
 .simp only[Aw]at e;obtain⟨⟨⟨⟨⟨e2,e4⟩,e5⟩,e6⟩,e8⟩,ez⟩:=e;obtain⟨e1,j2⟩:=i2 e2;obtain⟨e3,j4⟩:=i4 e4;rw[e2,e4,e5,e6,e8];have:=iz ez _ (i8 e8 _ _ (i6 e6 _ _ (j2 _ (i1 e1)) (j4 _ (i3 e3))) (Yq (i5 e5)));rw[<-h7]at this;exact this
theorem Qb {x y:Rat} {j k:Nat} (hx:Hz j x) (hy:Hz k y) (h:j<360000/\k<360000:=by omega):Gives CC 362 [.ag (rk (q4 x) []),.ag (rk (q4 y) [])] [.ag (rk (q4 (x+y)) [])]:=by
 refine wpG Tryz.func362 ((CJ ..).mpr ?_);exact⟨_,bAdd hx hy h,rfl⟩
theorem Xf {x y:Rat} {j k:Nat} (hx:Hz j x) (hy:Hz k y) (h:j<360000/\k<360000:=by omega):Gives CC 361 [.ag (rk (q4 x) []),.ag (rk (q4 y) [])] [.ag (rk (q4 (x-y)) [])]:=by
 refine wpG Tryz.func361 ((CK ..).mpr ?_);exact⟨_,bSub hx hy h,rfl⟩
theorem j3 {x y:Rat} {j k:Nat} (hx:Hz j x) (hy:Hz k y) (h:j<360000/\k<360000:=by omega):Gives CC 330 [.ag (rk (q4 x) []),.ag (rk (q4 y) [])] [.ag (rk (q4 (x*y)) [])]:=by
 refine wpG Tryz.func330 ((PI ..).mpr ?_);exact⟨_,dz hx hy h,rfl⟩
theorem Ss (a:Rat):Gives CC 363 [.ag (rk (q4 a) []),.ag (rk (q4 0) []),.ag (rk (q4 0) [])] [.c (.int .i64 (sr a))]:=by
 refine wpG Tryz.func363 ((PJ ..).mpr ?_);refine⟨_,Uf a,_,Uf 0,_,Uf 0,?_⟩;refine brb (λ_=>rfl) (λh1=>?_);simp[sr]at h1;exact absurd rfl h1
theorem A8 {a b c x y:Rat} {k:Nat} (ha:Hz k a) (hb:Hz k b) (hc:Hz k c) (hx:Hz k x) (hy:Hz k y) (hk:k<80000:=by omega):Gives CC 315 [.ag (kLn a b c),.ag (kPt x y)] [.c (.int .i64 (sr (a*x+b*y-c)))]:=by
 obtain⟨z,oz,gz,iz⟩:=A7 ha hb hc hx hy;have m1:=ha.mul hx (l:=2*k);have m2:=hb.mul hy (l:=2*k);have s1:=m1.add m2 (l:=4*k+1);have z0:Hz 0 (0:Rat):=Hz.zero;have g1:=j3 ha z0;have g2:=j3 hb z0;have g3:=Qb z0 z0;rw[hG]at g1 g2;rw[hH]at g3;unfold kLn kPt at gz ⊢;refine wpG Tryz.func315 ((PK ..).mpr ?_);refine⟨_,_,gz,Qd (λe=>by rw[iz e]) (λ_=>?_)⟩;exact⟨_,j3 ha hx,_,j3 hb hy,_,Qb m1 m2,_,Xf s1 hc,_,g1,_,g2,_,g3,_,Ss _,rfl⟩
end
end Eng
end
section
open Go Go.Proofs Eng
namespace Eng
theorem KA (Gv:Nat->List A->List A->Prop) (r0:R4) (r1:R4) (r2:R4) (r3:R4) (Q:List A->Prop):wpF CC Gv an0 Tryz.f389 [.ag (rk r0 []),.ag (rk r1 []),.ag (rk r2 []),.ag (rk r3 [])] Q=(∃i i_1 b,Gv 331 [aT r0 r1 r2] [F0 [dI i,dI i_1],aB b]/\∃i_2 i_3 b1,Gv 374 [aR r3] [F0 [dI i_2,dI i_3],aB b1]/\bB (!b) (Q [F0 [dI (0:Int),dI (0:Int)],aB false]) (bB (!b1) (Q [F0 [dI (0:Int),dI (0:Int)],aB false]) (∃i_4 i_5,Gv 390 [F0 [dI i_2,dI i_3]] [F0 [dI i_4,dI i_5]]/\∃i_6 i_7 b,Gv 383 [F0 [dI i,dI i_1],F0 [dI i_4,dI i_5]] [F0 [dI i_6,dI i_7],aB b]/\Q [F0 [dI i_6,dI i_7],aB b]))):=by kernel_rfl
theorem MP (Gv:Nat->List A->List A->Prop) (r0:R4) (r1:R4) (r2:R4) (p0:P20) (Q:List A->Prop):wpF CC Gv an0 Tryz.f360 [.ag (rk r0 (rk r1 (rk r2 []))),.ag (pk p0 [])] Q=(∃i i_1 b,Gv 389 [aR (P20.x p0),aR (P20.u p0),aR (P20.c p0),aR r0] [F0 [dI i,dI i_1],aB b]/\∃i_2 i_3 b1,Gv 389 [aR (P20.y p0),aR (P20.v p0),aR (P20.c p0),aR r1] [F0 [dI i_2,dI i_3],aB b1]/\∃i_4 i_5 b2,Gv 374 [aR r2] [F0 [dI i_4,dI i_5],aB b2]/\bB (!b) (Q [aI (0:Int),aB false]) (bB (!b1) (Q [aI (0:Int),aB false]) (bB (!b2) (Q [aI (0:Int),aB false]) (∃i_6 i_7 b,Gv 382 [F0 [dI i,dI i_1],F0 [dI i,dI i_1]] [F0 [dI i_6,dI i_7],aB b]/\∃i i_8 b3,Gv 382 [F0 [dI i_2,dI i_3],F0 [dI i_2,dI i_3]] [F0 [dI i,dI i_8],aB b3]/\bB (!b) (Q [aI (0:Int),aB false]) (bB (!b3) (Q [aI (0:Int),aB false]) (∃i_9 i_10 b,Gv 383 [F0 [dI i_6,dI i_7],F0 [dI i,dI i_8]] [F0 [dI i_9,dI i_10],aB b]/\bB (!b) (Q [aI (0:Int),aB false]) (∃i i_11,Gv 390 [F0 [dI i_4,dI i_5]] [F0 [dI i,dI i_11]]/\∃i_12 i_13 b,Gv 383 [F0 [dI i_9,dI i_10],F0 [dI i,dI i_11]] [F0 [dI i_12,dI i_13],aB b]/\bB (!b) (Q [aI (0:Int),aB false]) (∃i b,Gv 385 [F0 [dI i_12,dI i_13]] [aI i,aB b]/\Q [aI i,aB b])))))))):=by kernel_rfl
theorem Ug (Gv:Nat->List A->List A->Prop) (r0:R4) (r1:R4) (r2:R4) (p0:P20) (Q:List A->Prop):wpF CC Gv an0 Tryz.f314 [.ag (rk r0 (rk r1 (rk r2 []))),.ag (pk p0 [])] Q=(∃i b,Gv 360 [aT r0 r1 r2,aP p0] [aI i,aB b]/\br b (Q [aI (Hy .i64 (0-i))]) (∃x,Gv 361 [aR (P20.x p0),aR r0] [aR x]/\∃x1,Gv 361 [aR (P20.y p0),aR r1] [aR x1]/\∃x2,Gv 330 [aR x,aR x] [aR x2]/\∃x3,Gv 330 [aR x1,aR x1] [aR x3]/\∃x4,Gv 362 [aR x2,aR x3] [aR x4]/\∃x5,Gv 330 [aR (P20.u p0),aR (P20.u p0)] [aR x5]/\∃x6,Gv 330 [aR (P20.v p0),aR (P20.v p0)] [aR x6]/\∃x7,Gv 362 [aR x5,aR x6] [aR x7]/\∃x8,Gv 330 [aR (P20.c p0),aR x7] [aR x8]/\∃x9,Gv 362 [aR x4,aR x8] [aR x9]/\∃x10,Gv 330 [aR x,aR (P20.u p0)] [aR x10]/\∃x,Gv 330 [aR x1,aR (P20.v p0)] [aR x]/\∃x11,Gv 362 [aR x10,aR x] [aR x11]/\∃x,Gv 361 [aR x9,aR r2] [aR x]/\∃x12,Gv 362 [aR x11,aR x11] [aR x12]/\∃i,Gv 363 [aR x,aR x12,aR (P20.c p0)] [aI i]/\Q [aI (Hy .i64 (0-i))])):=by kernel_rfl
end Eng
end
section
namespace Eng
open Go Go.Proofs Rl
section
variable [Env]
def kCi (x y q:Rat):List D:=rk (q4 x) (rk (q4 y) (rk (q4 q) []))
theorem Su {a f:Rat} {k:Nat} (ha:Hz k a) (hf:Hz k f) (h:k<300000:=by omega):∃l u ok,Gives CC 389 [.ag (rk (q4 a) []),.ag (rk (q4 0) []),.ag (rk (q4 0) []),.ag (rk (q4 f) [])] [eIv l u,eOk ok]/\IvB l u/\(ok=true->inQ l u (a-f)):=by
 obtain⟨_,_,o1,g1,k1,i1⟩:=MO ha;obtain⟨_,_,o2,g2,k2,i2⟩:=Qa hf;obtain⟨g3,k3⟩:=dB k2;obtain⟨s,t,o4,g4,k4,i4⟩:=A5 k1 k3;cases o1 with
 |false=>refine⟨0,0,false,?_,.zero,by simp⟩;refine wpG Tryz.func389 ((KA ..).mpr ?_);exact⟨_,_,_,g1,_,_,_,g2,brF rfl⟩
 |true=>
 cases o2 with
 |false=>refine⟨0,0,false,?_,.zero,by simp⟩;refine wpG Tryz.func389 ((KA ..).mpr ?_);exact⟨_,_,_,g1,_,_,_,g2,brT (brF rfl)⟩
 |true=>
  refine⟨s,t,o4,?_,k4,λe=>?_⟩
  .refine wpG Tryz.func389 ((KA ..).mpr ?_);exact⟨_,_,_,g1,_,_,_,g2,brT (brT ⟨_,_,g3,_,_,_,g4,rfl⟩)⟩
  .rw[h7];exact i4 e _ _ (i1 rfl) (Yq (i2 rfl))
theorem CQ {x y q u v:Rat} {k:Nat} (hx:Hz k x) (hy:Hz k y) (hq:Hz k q) (hu:Hz k u) (hv:Hz k v) (hk:k<80000:=by omega):
 ∃n ok,Gives CC 360 [.ag (kCi x y q),.ag (kPt u v)] [eI n,eOk ok]/\(ok=true->n=sr ((u-x)*(u-x)+(v-y)*(v-y)-q)):=by
 obtain⟨_,_,o1,g1,k1,i1⟩:=Su hu hx;obtain⟨_,_,o2,g2,k2,i2⟩:=Su hv hy;obtain⟨_,_,o3,g3,k3,i3⟩:=Qa hq;obtain⟨_,_,o4,g4,k4,i4⟩:=dA k1 k1;obtain⟨_,_,o5,g5,k5,i5⟩:=dA k2 k2;obtain⟨_,_,o6,g6,k6,i6⟩:=A5 k4 k5;obtain⟨g7,k7⟩:=dB k3;obtain⟨_,_,o8,g8,k8,i8⟩:=A5 k6 k7;obtain⟨z,oz,gz,iz⟩:=cSgn _ _;refine⟨if(o1&&o2&&o3&&o4&&o5&&o6&&o8)=true then z else 0,o1&&o2&&o3&&o4&&o5&&o6&&o8&&oz,?_,λe=>?_⟩
 .unfold kCi kPt;refine wpG Tryz.func360 ((MP ..).mpr ?_);refine⟨_,_,_,g1,_,_,_,g2,_,_,_,g3,?_⟩;cases o1
  .rfl
  cases o2
  .rfl
  cases o3
  .rfl
  refine⟨_,_,_,g4,_,_,_,g5,?_⟩;cases o4
  .rfl
  cases o5
  .rfl
  refine⟨_,_,_,g6,?_⟩;cases o6
  .rfl
  refine⟨_,_,g7,_,_,_,g8,?_⟩;cases o8
  .rfl
  exact⟨_,_,gz,rfl⟩
 .simp only[Aw]at e;obtain⟨⟨⟨⟨⟨⟨⟨e1,e2⟩,e3⟩,e4⟩,e5⟩,e6⟩,e8⟩,ez⟩:=e;rw[e1,e2,e3,e4,e5,e6,e8,h7 _ q];exact iz ez _ (i8 e8 _ _ (i6 e6 _ _ (i4 e4 _ _ (i1 e1) (i1 e1)) (i5 e5 _ _ (i2 e2) (i2 e2))) (Yq (i3 e3)))
theorem PN {x y q u v:Rat} {k:Nat} (hx:Hz k x) (hy:Hz k y) (hq:Hz k q) (hu:Hz k u) (hv:Hz k v) (hk:k<40000:=by omega):
 Gives CC 314 [.ag (kCi x y q),.ag (kPt u v)] [.c (.int .i64 (-sr ((u-x)*(u-x)+(v-y)*(v-y)-q)))]:=by
 obtain⟨z,oz,gz,iz⟩:=CQ hx hy hq hu hv;have wn:∀x:Rat,Hy .i64 (0-sr x)= -sr x:=λx=>by
  have:sr x=1\/sr x= -1\/sr x=0:=by
   unfold sr;split
   .exact .inl rfl
   .split
    .exact .inr (.inl rfl)
    .exact .inr (.inr rfl)
  rw[xb]<;>omega
 have u1:=hu.sub hx (l:=2*k+1);have v1:=hv.sub hy (l:=2*k+1);have uu:=u1.mul u1 (l:=4*k+2);have vv:=v1.mul v1 (l:=4*k+2);have q1:=uu.add vv (l:=8*k+5);have z0:Hz 0 (0:Rat):=Hz.zero;have m0:=j3 z0 z0;have a0:=Qb z0 z0;have mu:=j3 u1 z0;have mv:=j3 v1 z0;have s1:=Qb q1 z0;rw[hG]at m0 mu mv;rw[hH]at a0 s1;unfold kCi kPt at gz ⊢;refine wpG Tryz.func314 ((Ug ..).mpr ?_);refine⟨_,_,gz,Qd (λe=>by rw[iz e,wn]) (λ_=>?_)⟩;refine⟨_,Xf hu hx,_,Xf hv hy,_,j3 u1 u1,_,j3 v1 v1,_,Qb uu vv,_,m0,_,m0,_,a0,_,m0,_,s1,_,mu,_,mv,_,a0,_,Xf q1 hq,_,a0,_,Ss _,?_⟩;rw[wn]
end
end Eng
end
section
namespace Eng
def Vu (a x:Nat):Nat:=if x<=(x+a/x)/2 then x else Vu a ((x+a/x)/2)
 termination_by x
 decreasing_by omega
theorem MQ (a x:Nat) (hx:0<x):a<((x+a/x)/2+1)*((x+a/x)/2+1):=by
 generalize hq:a/x=q;have h1:a<(q+1)*x:=by rw[<-hq];exact Nat.lt_of_lt_of_eq (Nat.lt_mul_div_succ a hx) (gp _ _)
 generalize hy:(x+q)/2=y;have h2:x+q+1<=2*(y+1):=by omega
 have h3:(x+q+1)*(x+q+1)<=(2*(y+1))*(2*(y+1)):=Nat.mul_le_mul h2 h2;have h4:4*((q+1)*x)<=(x+q+1)*(x+q+1):=by
  rcases Nat.le_total x (q+1)with h|h
  .obtain⟨d,hd⟩:=fk h;have e:x+q+1=2*x+d:=by omega
   rw[e,hd];have:(2*x+d)*(2*x+d)=4*((x+d)*x)+d*d:=by grind
   omega
  .obtain⟨d,hd⟩:=fk h;have e:x+q+1=2*(q+1)+d:=by omega
   rw[e,hd];have:(2*(q+1)+d)*(2*(q+1)+d)=4*((q+1)*(q+1+d))+d*d:=by grind
   omega
 have h5:(2*(y+1))*(2*(y+1))=4*((y+1)*(y+1)):=by grind
 omega
theorem GA {a x:Nat} (ha:0<a) (hx:0<x):0<(x+a/x)/2:=by
 by_cases h:x=1
 .subst h;rw[Nat.div_one];omega
 .have:2<=x:=by omega
  generalize a/x=q;omega
theorem Yr (a:Nat):∀x:Nat,a<(x+1)*(x+1)->Vu a x*Vu a x<=a/\a<(Vu a x+1)*(Vu a x+1):=by
 intro x
 induction x using Nat.strongRecOn with
 |_ x ih=>
  intro h;rw[Vu];by_cases hs:x<=(x+a/x)/2
  .rw[if_pos hs];refine⟨?_,h⟩;rcases eu x with hx|hx
   .subst hx;omega
   .have h1:x<=a/x:=by omega
    exact(Nat.le_div_iff_mul_le hx).1 h1
  .rw[if_neg hs];exact ih _ (fS hs) (MQ a x (ei (fz _) (fS hs)))
theorem CR {r n:Nat} (h1:r*r<=n*n) (h2:n*n<(r+1)*(r+1)):r=n:=by
 have a:r<=n:=Nat.mul_self_le_mul_self_iff.1 h1;have b:n<r+1:=ey.1 h2;omega
theorem Sv (q:Rat):(q*q).num=q.num*q.num/\(q*q).den=q.den*q.den:=by
 have hc:Nat.Coprime (q.num*q.num).natAbs (q.den*q.den):=by rw[U3];exact(q.reduced.mul_left q.reduced).mul_right (q.reduced.mul_left q.reduced)
 have hz:q.den*q.den≠0:=Nat.mul_ne_zero q.den_nz q.den_nz;have h:q*q=Rat.mk' (q.num*q.num) (q.den*q.den) hz hc:=by rw[Rat.mul_def,<-Rat.normalize_eq_mk' _ _ hz hc]
 rw[h];exact⟨rfl,rfl⟩
theorem Uh {a n:Nat} (h:a<10^(9*n)):a<(10^(9*((n+1)/2))+1)*(10^(9*((n+1)/2))+1):=by
 have h1:10^(9*n)<=10^(9*((n+1)/2)+9*((n+1)/2)):=ep (by omega) (by omega);rw[Nat.pow_add]at h1;generalize 10^(9*((n+1)/2))=x at *;have h2:(x+1)*(x+1)=x*x+2*x+1:=by grind
 omega
def zq (a:Nat):Nat:=Vu a a
theorem v5 (a:Nat):zq a*zq a<=a/\a<(zq a+1)*(zq a+1):=Yr a a (by
 have:(a+1)*(a+1)=a*a+2*a+1:=by grind
 have:=fz (a*a);omega)
theorem MR {a r t:Nat} (h1:r*r<=a) (h2:a<(r+1)*(r+1)) (h3:t*t<=a) (h4:a<(t+1)*(t+1)):r=t:=by
 have a1:r<t+1:=ey.1 (ei h1 h4);have a2:t<r+1:=ey.1 (ei h3 h2);omega
theorem MS {a x:Nat} (h:a<(x+1)*(x+1)):Vu a x=zq a:=
 MR (Yr a x h).1 (Yr a x h).2 (v5 a).1 (v5 a).2
theorem J2 {a n:Nat} (h:a<10^(9*n)):Vu a (10^(9*((n+1)/2)))=zq a:=MS (Uh h)
theorem KB (m:Nat):zq (m*m)=m:=CR (v5 (m*m)).1 (v5 (m*m)).2
theorem GB (a x:Nat):Vu a x=if x<=(x+a/x)/2 then x else Vu a ((x+a/x)/2):=by rw[Vu]
end Eng
end
section
open Go Go.Proofs Eng
namespace Eng
theorem PO (Gv:Nat->List A->List A->Prop) (z0:Bool) (l0:List (List D)) (Q:List A->Prop):wpF CC Gv an0 Tryz.f222 [.ag [.bool z0,.sl l0]] Q=(∃b es i,Gv 283 [aZ z0 l0] [aZ b es,aI i]/\bB (i==0) (∃b1 e1,Gv 119 [aZ b es,aZ b es] [aZ b1 e1]/\∃b2,Gv 183 [aZ b1 e1,aZ z0 l0] [aB b2]/\Q [aZ b es,aB b2]) (Q [aZ b es,aB false])):=by kernel_rfl
theorem PP (Gv:Nat->List A->List A->Prop) (r0:R4) (Q:List A->Prop):wpF CC Gv an0 Tryz.f164 [.ag (rk r0 [])] Q=(∃b es b1,Gv 222 [aZ (R4.b r0) (R4.l r0)] [aZ b es,aB b1]/\∃b2 e1 b3,Gv 222 [aZ (R4.c r0) (R4.m r0)] [aZ b2 e1,aB b3]/\bB (!b1) (Q [F0 [Hu false,Hv [],Hu false,Hv []],aB false]) (bB (!b3) (Q [F0 [Hu false,Hv [],Hu false,Hv []],aB false]) (Q [F0 [Hu b,Hv es,Hu b2,Hv e1],aB true]))):=by kernel_rfl
theorem MT (Gv:Nat->List A->List A->Prop) (I0:List D->List D->Prop) (M0:List D->Nat) (z0:Bool) (l0:List (List D)) (Q:List A->Prop):wpF CC Gv (λ_=>⟨[.box 4 [(.bool false),(.slice none 0 0)]],[],I0,M0⟩) Tryz.f283 [.ag [.bool z0,.sl l0]] Q=(br z0 (Q [aZ false [],aI (7:Int)]) (bB ((Ls l0.length)==0) (Q [aZ false [],aI (0:Int)]) ((2:Int)≠(0:Int)/\(0<=Hy .i64 (M1 (Hy .i64 ((Ls l0.length)+1)) (2:Int))/\Hy .i64 (M1 (Hy .i64 ((Ls l0.length)+1)) (2:Int))<=Hy .i64 (M1 (Hy .i64 ((Ls l0.length)+1)) (2:Int))/\room (No (Hy .i64 (M1 (Hy .i64 ((Ls l0.length)+1)) (2:Int)))))/\(room (eb (W2 (No (Hy .i64 (M1 (Hy .i64 ((Ls l0.length)+1)) (2:Int)))) [Hx .u32 0])+1)/\lens 1 [[Hx .u32 1]])/\∃b es,Gv 116 [aI (2:Int)] [aZ b es]/\I0 [] [Hu false,Hv (W2 (No (Hy .i64 (M1 (Hy .i64 ((Ls l0.length)+1)) (2:Int)))) [Hx .u32 0]++[[Hx .u32 1]])]/\∀(b1:Bool) (e1:List (List D)),I0 [] [Hu b1,Hv e1]->∃b2 e2 b3 e3 i,Gv 345 [aZ z0 l0,aZ b1 e1] [aZ b2 e2,aZ b3 e3,aI i]/\∃b4 e4,Gv 308 [aZ b1 e1,aZ b2 e2] [aZ b4 e4]/\∃b5 e5 b6 e6 i,Gv 345 [aZ b4 e4,aZ b es] [aZ b5 e5,aZ b6 e6,aI i]/\∃i,Gv 118 [aZ b5 e5,aZ b1 e1] [aI i]/\bB (decide (i>=0)) (Q [aZ b1 e1,aI (0:Int)]) (I0 [] [Hu b5,Hv e5]/\M0 [Hu b5,Hv e5]<M0 [Hu b1,Hv e1])))):=by kernel_rfl
theorem PQ (Gv:Nat->List A->List A->Prop) (I0:List D->List D->Prop) (M0:List D->Nat) (z0:Bool) (l0:List (List D)) (Q:List A->Prop):wpF CC Gv (λ_=>⟨[.box 5 [(.bool false),(.slice none 0 0)]],[],I0,M0⟩) Tryz.f191 [.ag [.bool z0,.sl l0]] Q=(br z0 (Q [aZ false [],aI (7:Int)]) (bB ((Ls l0.length)==0) (Q [aZ false [],aI (0:Int)]) ((2:Int)≠(0:Int)/\(0<=Hy .i64 (M1 (Hy .i64 ((Ls l0.length)+1)) (2:Int))/\Hy .i64 (M1 (Hy .i64 ((Ls l0.length)+1)) (2:Int))<=Hy .i64 (M1 (Hy .i64 ((Ls l0.length)+1)) (2:Int))/\room (No (Hy .i64 (M1 (Hy .i64 ((Ls l0.length)+1)) (2:Int)))))/\(room (eb (W2 (No (Hy .i64 (M1 (Hy .i64 ((Ls l0.length)+1)) (2:Int)))) [Hx .u32 0])+1)/\lens 1 [[Hx .u32 1]])/\∃b es,Gv 146 [aB false,aL (W2 (No (Hy .i64 (M1 (Hy .i64 ((Ls l0.length)+1)) (2:Int)))) [Hx .u32 0]++[[Hx .u32 1]])] [aZ b es]/\∃b1 e1,Gv 132 [aI (2:Int)] [aZ b1 e1]/\I0 [] [Hu b,Hv es]/\∀(b:Bool) (es:List (List D)),I0 [] [Hu b,Hv es]->∃b2 e2 b3 e3 i,Gv 246 [aZ z0 l0,aZ b es] [aZ b2 e2,aZ b3 e3,aI i]/\∃b4 e4,Gv 141 [aZ b es,aZ b2 e2] [aZ b4 e4]/\∃b5 e5 b6 e6 i,Gv 246 [aZ b4 e4,aZ b1 e1] [aZ b5 e5,aZ b6 e6,aI i]/\∃i,Gv 79 [aZ b5 e5,aZ b es] [aI i]/\bB (decide (i>=0)) (Q [aZ b es,aI (0:Int)]) (I0 [] [Hu b5,Hv e5]/\M0 [Hu b5,Hv e5]<M0 [Hu b,Hv es])))):=by kernel_rfl
theorem PR (Gv:Nat->List A->List A->Prop) (z0:Bool) (l0:List (List D)) (Q:List A->Prop):wpF CC Gv an0 Tryz.f125 [.ag [.bool z0,.sl l0]] Q=(∃b es i,Gv 191 [aZ z0 l0] [aZ b es,aI i]/\bB (i==0) (∃b1 e1,Gv 80 [aZ b es,aZ b es] [aZ b1 e1]/\∃i,Gv 79 [aZ b1 e1,aZ z0 l0] [aI i]/\Q [aZ b es,aB (i==0)]) (Q [aZ b es,aB false])):=by kernel_rfl
theorem PS (Gv:Nat->List A->List A->Prop) (r0:R4) (Q:List A->Prop):wpF CC Gv an0 Tryz.f68 [.ag (rk r0 [])] Q=(∃b es b1,Gv 125 [aZ (R4.b r0) (R4.l r0)] [aZ b es,aB b1]/\br b1 (∃b2 e1 b3,Gv 125 [aZ (R4.c r0) (R4.m r0)] [aZ b2 e1,aB b3]/\br b3 (Q [F0 [Hu b,Hv es,Hu b2,Hv e1],aB true]) (Q [F0 [Hu false,Hv [],Hu false,Hv []],aB false])) (Q [F0 [Hu false,Hv [],Hu false,Hv []],aB false])):=by kernel_rfl
theorem MU (Gv:Nat->List A->List A->Prop) (i0:Int) (Q:List A->Prop):wpF CC Gv an0 Tryz.f410 [.c (.int .i64 i0)] Q=(∃b es,Gv 132 [aI i0] [aZ b es]/\∃b1 e1,Gv 132 [aI (65536:Int)] [aZ b1 e1]/\∃b2 e2,Gv 80 [aZ b es,aZ b1 e1] [aZ b2 e2]/\∃b es i,Gv 191 [aZ b2 e2] [aZ b es,aI i]/\∃i b3,Gv 123 [aZ b es] [aI i,aB b3]/\∃b4 e3,Gv 80 [aZ b es,aZ b es] [aZ b4 e3]/\∃i_1,Gv 79 [aZ b4 e3,aZ b2 e2] [aI i_1]/\Q [aI i,aB (i_1==0)]):=by kernel_rfl
theorem PT (Gv:Nat->List A->List A->Prop) (a0:Int) (b0:Int) (Q:List A->Prop):wpF CC Gv an0 Tryz.f375 [.ag [.int .i64 a0,.int .i64 b0]] Q=(bB (decide (b0<0)) (Q [F0 [dI (0:Int),dI (0:Int)],aB false]) (∃i b,Gv 410 [aI (match decide (a0<0)with|true=>(0:Int)|false=>a0)] [aI i,aB b]/\∃i_1 b,Gv 410 [aI b0] [aI i_1,aB b]/\bB (!b) (∃i_2 i_3 b,Gv 409 [aI i,aI (Hy .i64 (i_1+1))] [F0 [dI i_2,dI i_3],aB b]/\Q [F0 [dI i_2,dI i_3],aB b]) (∃i_2 i_3 b,Gv 409 [aI i,aI i_1] [F0 [dI i_2,dI i_3],aB b]/\Q [F0 [dI i_2,dI i_3],aB b]))):=by kernel_rfl
end Eng
end
section
open Go Go.Proofs Eng
namespace Eng
theorem PU (Gv:Nat->List A->List A->Prop) (z0:Bool) (l0:List (List D)) (z1:Bool) (l1:List (List D)) (Q:List A->Prop):wpF CC Gv an0 Tryz.f139 [.ag [.bool z0,.sl l0],.ag [.bool z1,.sl l1]] Q=(∃i,Gv 144 [aZ z1 l1] [aI i]/\bB (i==0) (Q [F0 [Hu false,Hv [],Hu false,Hv []],aI (6:Int)]) (∃x,Gv 140 [aZ z0 l0,aZ z1 l1] [aR x]/\Q [aR x,aI (0:Int)])):=by kernel_rfl
end Eng
end
section
namespace Eng
open Go Go.Proofs Rl
theorem CS (a b:List Nat):raw (a++b)=raw a++raw b:=by unfold raw;rw[ea]
theorem CU (k:Nat):raw (W2 k 0)=W2 k [Hx .u32 0]:=by unfold raw;rw[List.map_replicate];rfl
theorem GC (k:Nat):W2 k [Hx J3 (0:Int)]++[[Hx J3 (1:Int)]]=raw (W2 k 0++[1]):=by
 rw[CS,CU];rfl
theorem J5 (k:Nat):Limbs (W2 k 0++[1]):=by
 intro x hx;rw[List.mem_append]at hx;rcases hx with h|h
 .rw[(List.mem_replicate.1 h).2];omega
 .rw[cb.1 h];omega
theorem GD (k:Nat):val (W2 k 0++[1])=1000000000^k:=by
 rw[qR,kV,bv];show 0+1000000000^k*1=_;omega
theorem zM {n:Nat} (h:n<1000000000^200):Sm (n:Int):=by
 unfold Sm Kk;rw[Pl];exact fR h (Lk (by omega) (by omega))
theorem Qc (n:Nat):cI (n:Int)=[.bool false,.sl (raw (lim n))]:=by
 unfold cI;rw[Pl,decide_eq_false (by omega)]
theorem qG (n:Nat):qL (n:Int)= .ag [.bool false,.sl (raw (lim n))]:=by unfold qL;rw[Qc]
def unr (l:List (List D)):Nat:=val (l.map λr=>(toI (nth .undef r 0)).toNat)
theorem CW (l:List Nat):unr (raw l)=val l:=by
 unfold unr raw;rw[bF];congr 1;have:((λr:List D=>(toI (nth .undef r 0)).toNat)∘λ(x:Nat)=>[Hx .u32 (x:Int)])=id:=by funext x;rfl
 rw[this,List.map_id]
def msZ:List D->Nat
 |[_,.sl l]=>unr l
 |_=>0
theorem KC (x:Nat):msZ (cI (x:Int))=x:=by
 rw[Qc];show unr (raw (lim x))=x;rw[CW,qi]
theorem A9 {b:Bool} {es:List (List D)} {x:Nat} (h:[Hu b,Hv es]=cI (x:Int)):b=false/\es=raw (lim x):=by
 rw[Qc]at h;simp only[ec,D.bool.injEq,D.sl.injEq,and_true]at h;exact h
theorem MV (l:List Nat):(raw l).length=l.length:=by unfold raw;rw[a7]
theorem AA (n:Nat):1000000000^n=10^(9*n):=by
 rw[show(1000000000:Nat)=10^9 from rfl,<-Nat.pow_mul]
theorem PV (k:Nat):lim (1000000000^k)=W2 k 0++[1]:=by
 rw[<-GD];exact vp (J5 k) (.inr (by rw[List.getLast?_append];show(some 1:Option Nat)≠some 0;decide))
theorem CY {n a b:Nat} (h:n<=10^a) (k:a<9*b):n<1000000000^b:=by
 rw[AA];exact ei h (ed (by omega) k)
theorem yj {n:Nat} (h:n<=10^1300):n<1000000000^190:=CY h (by omega)
theorem PW (a:Nat):zq a<=a:=by
 have h:=(v5 a).1;rcases eu (zq a)with h0|h0
 .omega
 .exact fs (fe _ h0) h
section
variable [Env]
theorem MW {a:Nat} (ha:a<1000000000^190):Gives CC 283 [qL (a:Int)] [qL (zq a:Int),.c (.int .i64 0)]:=by
 refine qm (anns:=λ_=>⟨[.box 4 [(.bool false),(.slice none 0 0)]],[],λ_ ds=>∃x:Nat,0<x/\x<1000000000^191/\ds=cI (x:Int)/\Vu a x=zq a,msZ⟩) mixedT Tryz.func283 ?_;rw[qG,MT,MV];have hL:(lim a).length<=190:=qp ha;have hav:a<10^(9*(lim a).length):=by
  have:=qS (qc a)
  rwa [qi,AA]at this
 refine Qd (λh=>by simp at h) (λ_=>?_);refine brb (λh=>?_) (λh=>?_)
 .have h0:lim a=[]:=by apply c4;have:=W1 h;simp only[Lv]at this;omega
  obtain rfl:=yg.1 h0;have:zq 0=0:=by unfold zq;rw[Vu];rfl
  rw[this];rfl
 .have hp:0<(lim a).length:=by
   rcases eu (lim a).length with h0|h0
   .rw[h0]at h;simp at h
   .exact h0
  have ap:0<a:=qD.1 hp;have hk:Hy .i64 (M1 (Hy .i64 ((Ls (lim a).length)+1)) 2)=(((lim a).length+1)/2:Nat):=by simp only[Lv];rw[xb (n:=(((lim a).length:Nat):Int)+1),Sz (by omega),xb];omega
  rw[hk,M2,GC];generalize hkk:((lim a).length+1)/2=k at *;have h2:=zI (n:=2) (by omega) (by omega);have a0:1000000000^k<1000000000^191:=ed (by omega) (by omega);refine⟨by omega,⟨by omega,by omega,by unfold room;omega⟩,⟨by rw[bv];unfold room;omega,λe he=>by simp at he;subst he;rfl⟩,_,_,h2,⟨1000000000^k,gq (by omega),a0,by rw[Qc,PV],?_⟩,?_⟩
  .rw[AA,<-hkk];exact J2 hav
  .rintro b es ⟨x,hx0,hx,he,hn⟩;obtain⟨rfl,rfl⟩:=A9 he;have sx:Sm (x:Int):=zM (el hx (ed (by omega) (by omega)));have sa:Sm (a:Int):=zM (el ha (ed (by omega) (by omega)));have hq:=kw jv sa sx (by omega);have eq1:(a:Int)/(x:Int)=((a/x:Nat):Int):=rfl;have eq2:(a:Int)%(x:Int)=((a%x:Nat):Int):=rfl;rw[eq1,eq2]at hq;have hqa:a/x<=a:=gd _ _;have sq:Sm ((a/x:Nat):Int):=zM (ei hqa (el ha (ed (by omega) (by omega))));have a2:=Zs sx sq;have e1:(x:Int)+((a/x:Nat):Int)=((x+a/x:Nat):Int):=by omega
   rw[e1]at a2;have hb:x+a/x<1000000000^200:=by have h3:1000000000^190<=1000000000^191:=ep (by omega) (by omega);have h4:1000000000^191*1000000000=1000000000^192:=(gn ..).symm;have h5:1000000000^192<=1000000000^200:=ep (by omega) (by omega);omega
   have a1:=kw jv (zM hb) (zM (n:=2) (by decide)) (by omega);have eq3:((x+a/x:Nat):Int)/((2:Nat):Int)=(((x+a/x)/2:Nat):Int):=rfl;have eq4:((x+a/x:Nat):Int)%((2:Nat):Int)=(((x+a/x)%2:Nat):Int):=rfl;rw[eq3,eq4]at a1;have sy:Sm (((x+a/x)/2:Nat):Int):=zM (by omega);have hc:=Kw sy sx;rw[GB]at hn;generalize hy:(x+a/x)/2=y at *;rw[qG,qG,qG,qG]at hq;rw[qG,qG,qG]at a2;rw[qG,qG,qG,qG]at a1;rw[qG,qG]at hc;refine⟨_,_,_,_,_,hq,_,_,a2,_,_,_,_,_,a1,_,hc,?_⟩;unfold kd;refine brd (λh3=>?_) (λh3=>?_)
   .have:x<=y:=by
     rcases e7 y x with h4|h4
     .rw[if_pos (by omega)]at h3;omega
     .exact h4
    rw[if_pos this]at hn;rw[<-hn,qG]
   .have h4:y<x:=by
     rcases e7 y x with h4|h4
     .exact h4
     .exfalso;apply h3;rw[if_neg (by omega)];split<;>omega
    rw[if_neg (by omega)]at hn;have yp:0<y:=by rw[<-hy];exact GA ap hx0
    refine⟨⟨y,yp,by omega,(Qc y).symm,hn⟩,?_⟩;have m1:=KC y;have m2:=KC x;rw[Qc]at m1 m2;rw[m1,m2];exact h4
theorem GE {a:Nat} (ha:a<=10^1300):Gives CC 222 [qL (a:Int)] [qL (zq a:Int),.c (.bool (decide (zq a*zq a=a)))]:=by
 have h1:=MW (yj ha);have sa:Sm (a:Int):=zM (el (yj ha) (ed (by omega) (by omega)));have hr:zq a<=a:=PW a;have sr:Sm (zq a:Int):=zM (el (yj (fs hr ha)) (ed (by omega) (by omega)));have srr:Sm ((zq a*zq a:Nat):Int):=zM (ei (v5 a).1 (el (yj ha) (ed (by omega) (by omega))));have h2:=je sr sr;have e:(zq a:Int)*(zq a:Int)=((zq a*zq a:Nat):Int):=(M3 _ _).symm;rw[e]at h2;have h3:=G8 srr sa;have e2:decide (((zq a*zq a:Nat):Int)=(a:Int))=decide (zq a*zq a=a):=decide_eq_decide.2 (by omega);rw[e2]at h3;rw[qG,qG]at *;refine wpG Tryz.func222 ((PO ..).mpr ?_);refine⟨_,_,_,h1,?_⟩;refine brb (λ_=>?_) (λh=>by simp at h);exact⟨_,_,h2,_,h3,rfl⟩
theorem Sw {a:Nat} (ha:a<1000000000^190):Gives CC 191 [qL (a:Int)] [qL (zq a:Int),.c (.int .i64 0)]:=by
 refine qm (anns:=λ_=>⟨[.box 5 [(.bool false),(.slice none 0 0)]],[],λ_ ds=>∃x:Nat,0<x/\x<1000000000^191/\ds=cI (x:Int)/\Vu a x=zq a,msZ⟩) mixedT Tryz.func191 ?_;rw[qG,PQ,MV];have hL:(lim a).length<=190:=qp ha;have hav:a<10^(9*(lim a).length):=by
  have:=qS (qc a)
  rwa [qi,AA]at this
 refine Qd (λh=>by simp at h) (λ_=>?_);refine brb (λh=>?_) (λh=>?_)
 .have h0:lim a=[]:=by apply c4;have:=W1 h;simp only[Lv]at this;omega
  obtain rfl:=yg.1 h0;have:zq 0=0:=by unfold zq;rw[Vu];rfl
  rw[this];rfl
 .have hp:0<(lim a).length:=by
   rcases eu (lim a).length with h0|h0
   .rw[h0]at h;simp at h
   .exact h0
  have ap:0<a:=qD.1 hp;have hk:Hy .i64 (M1 (Hy .i64 ((Ls (lim a).length)+1)) 2)=(((lim a).length+1)/2:Nat):=by simp only[Lv];rw[xb (n:=(((lim a).length:Nat):Int)+1),Sz (by omega),xb];omega
  rw[hk,M2,GC];generalize hkk:((lim a).length+1)/2=k at *;have h2:=up (xq (n:=2) (by omega) (by omega));have hg:=up (Js false (J5 k) (by rw[cm,bv];simp;omega));rw[GD,Dd]at hg;have a0:1000000000^k<1000000000^191:=ed (by omega) (by omega);refine⟨by omega,⟨by omega,by omega,by unfold room;omega⟩,⟨by rw[bv];unfold room;omega,λe he=>by simp at he;subst he;rfl⟩,_,_,hg,_,_,h2,⟨1000000000^k,gq (by omega),a0,by rw[Qc],?_⟩,?_⟩
  .rw[AA,<-hkk];exact J2 hav
  .rintro b es ⟨x,hx0,hx,he,hn⟩;obtain⟨rfl,rfl⟩:=A9 he;have sx:Sm (x:Int):=zM (el hx (ed (by omega) (by omega)));have sa:Sm (a:Int):=zM (el ha (ed (by omega) (by omega)));have hq:=ku wS sa sx (by omega);have eq1:(a:Int)/(x:Int)=((a/x:Nat):Int):=rfl;have eq2:(a:Int)%(x:Int)=((a%x:Nat):Int):=rfl;rw[eq1,eq2]at hq;have hqa:a/x<=a:=gd _ _;have sq:Sm ((a/x:Nat):Int):=zM (ei hqa (el ha (ed (by omega) (by omega))));have a2:=up (Qr sx sq);have e1:(x:Int)+((a/x:Nat):Int)=((x+a/x:Nat):Int):=by omega
   rw[e1]at a2;have hb:x+a/x<1000000000^200:=by have h3:1000000000^190<=1000000000^191:=ep (by omega) (by omega);have h4:1000000000^191*1000000000=1000000000^192:=(gn ..).symm;have h5:1000000000^192<=1000000000^200:=ep (by omega) (by omega);omega
   have a1:=ku wS (zM hb) (zM (n:=2) (by decide)) (by omega);have eq3:((x+a/x:Nat):Int)/((2:Nat):Int)=(((x+a/x)/2:Nat):Int):=rfl;have eq4:((x+a/x:Nat):Int)%((2:Nat):Int)=(((x+a/x)%2:Nat):Int):=rfl;rw[eq3,eq4]at a1;have sy:Sm (((x+a/x)/2:Nat):Int):=zM (by omega);have hc:=up (jK sy sx);rw[GB]at hn;generalize hy:(x+a/x)/2=y at *;rw[qG,qG,qG,qG]at hq;rw[qG,qG,qG]at a2;rw[qG,qG,qG,qG]at a1;rw[qG,qG]at hc;refine⟨_,_,_,_,_,hq,_,_,a2,_,_,_,_,_,a1,_,hc,?_⟩;unfold kd;refine brd (λh3=>?_) (λh3=>?_)
   .have:x<=y:=by
     rcases e7 y x with h4|h4
     .rw[if_pos (by omega)]at h3;omega
     .exact h4
    rw[if_pos this]at hn;rw[<-hn,qG]
   .have h4:y<x:=by
     rcases e7 y x with h4|h4
     .exact h4
     .exfalso;apply h3;rw[if_neg (by omega)];split<;>omega
    rw[if_neg (by omega)]at hn;have yp:0<y:=by rw[<-hy];exact GA ap hx0
    refine⟨⟨y,yp,by omega,(Qc y).symm,hn⟩,?_⟩;have m1:=KC y;have m2:=KC x;rw[Qc]at m1 m2;rw[m1,m2];exact h4
theorem PX {s:Rat} {k:Nat} (hs:Hz k s) (hk:2*k<=1300) (h0:0<=s):Gives CC 164 [.ag (rk (q4 (s*s)) [])] [.ag (rk (q4 s) []),.c (.bool true)]:=by
 obtain⟨e1,e2⟩:=Sv s;have hc:=hs.mul hs (l:=1300) (by omega);have hn0:0<=s.num:=hE.2 h0;have f1:(s*s).num=((s.num.natAbs*s.num.natAbs:Nat):Int):=by rw[e1,M3,U0]
 have b1:s.num.natAbs*s.num.natAbs<=10^1300:=by have:=hc.1;rw[f1,Pl]at this;exact this
 have b2:s.den*s.den<=10^1300:=by have:=hc.2;rw[e2]at this;exact this
 have a1:=GE b1;have a2:=GE b2;rw[KB,decide_eq_true rfl]at a1 a2;have q1:qL (((s.num.natAbs*s.num.natAbs:Nat)):Int)= .ag [.bool (R4.b (q4 (s*s))),.sl (R4.l (q4 (s*s)))]:=by rw[<-f1];rfl
 have q2:qL ((s.den*s.den:Nat):Int)= .ag [.bool (R4.c (q4 (s*s))),.sl (R4.m (q4 (s*s)))]:=by rw[<-e2];rfl
 have q3:(s.num.natAbs:Int)=s.num:=by omega
 rw[q1,q3]at a1;rw[q2]at a2;refine wpG Tryz.func164 ((PP ..).mpr ?_);exact⟨_,_,_,a1,_,_,_,a2,brb (λh=>by simp at h) (λ_=>brb (λh=>by simp at h) (λ_=>rfl))⟩
theorem GG {m:Nat} (hm:m*m<=10^1300):Gives CC 125 [qL ((m*m:Nat):Int)] [qL (m:Int),.c (.bool true)]:=by
 have h1:=Sw (yj hm);rw[KB]at h1;have a0:Sm ((m*m:Nat):Int):=zM (el (yj hm) (ed (by omega) (by omega)));have hmm:m<=m*m:=by
  rcases eu m with h|h
  .subst h;exact fz _
  .exact fe _ h
 have sm:Sm (m:Int):=zM (ei hmm (el (yj hm) (ed (by omega) (by omega))));have h2:=Eng.up (jd sm sm);have e:(m:Int)*(m:Int)=((m*m:Nat):Int):=(M3 m m).symm;rw[e]at h2;have h3:=Eng.up (jK a0 a0);rw[qG]at *;refine wpG Tryz.func125 ((PR ..).mpr ?_);refine⟨_,_,_,h1,?_⟩;refine brb (λ_=>?_) (λh=>by simp at h);refine⟨_,_,h2,_,h3,?_⟩;unfold kd;rw[if_neg (by omega),if_neg (by omega)];rw[qG];rfl
theorem GH {s:Rat} {k:Nat} (hs:Hz k s) (hk:2*k<=1300) (h0:0<=s):Gives CC 68 [.ag (rk (q4 (s*s)) [])] [.ag (rk (q4 s) []),.c (.bool true)]:=by
 obtain⟨e1,e2⟩:=Sv s;have hc:=hs.mul hs (l:=1300) (by omega);have hn0:0<=s.num:=hE.2 h0;have f1:(s*s).num=((s.num.natAbs*s.num.natAbs:Nat):Int):=by rw[e1,M3,U0]
 have b1:s.num.natAbs*s.num.natAbs<=10^1300:=by have:=hc.1;rw[f1,Pl]at this;exact this
 have b2:s.den*s.den<=10^1300:=by have:=hc.2;rw[e2]at this;exact this
 have a1:=GG b1;have a2:=GG b2;have q1:qL (((s.num.natAbs*s.num.natAbs:Nat)):Int)= .ag [.bool (R4.b (q4 (s*s))),.sl (R4.l (q4 (s*s)))]:=by rw[<-f1];rfl
 have q2:qL ((s.den*s.den:Nat):Int)= .ag [.bool (R4.c (q4 (s*s))),.sl (R4.m (q4 (s*s)))]:=by rw[<-e2];rfl
 have q3:(s.num.natAbs:Int)=s.num:=by omega
 rw[q1,q3]at a1;rw[q2]at a2;refine wpG Tryz.func68 ((PS ..).mpr ?_);exact⟨_,_,_,a1,Qd (λ_=>⟨_,_,_,a2,Qd (λ_=>rfl) (λh=>by simp at h)⟩) (λh=>by simp at h)⟩
theorem MX {n:Int} (hn:Sm n):Gives CC 139 [qL n,qL 1] [xv (n:Rat),.c (.int .i64 0)]:=by
 have s1:Sm (1:Int):=zM (n:=1) (by decide);have g1:=Eng.up (QY 1);have g2:=kv wS hn s1 (by omega);rw[show Rat.divInt n 1=(n:Rat)from Rat.ext (by rw[Rat.num_divInt];simp) (by rw[Rat.den_divInt];simp)]at g2;refine wpG Tryz.func139 ((PU ..).mpr ?_);exact⟨_,g1,brb (λh=>by cases h) λ_=>⟨q4 (n:Rat),g2,rfl⟩⟩
end
end Eng
end
section
namespace Eng
open Go Go.Proofs Rl
section
variable {ρ:Nat->Rat} {bd:Pol->Nat->Int}
def GI (ρ:Nat->Rat):List Pol->List D
 |[]=>[]
 |p::r=>yY (evP ρ p) 0::yY (evP ρ p) 1::yY (evP ρ p) 2::yY (evP ρ p) 3::GI ρ r
theorem GJ (p:Pol) (r:List Pol):tkR (p::r)= .tok p 0:: .tok p 1:: .tok p 2:: .tok p 3::tkR r:=rfl
theorem bp {w:World} {F:Nat->Prop}:∀{l:List Pol} {vs:List Value},All2 (@CD (envP ρ bd) w F) (tkR l) vs↔All2 (@CD (envP ρ bd) w F) (GI ρ l) vs
 |[],vs=>Lm
 |p::r,vs=>by
  rw[GJ];unfold GI
  match vs with
  |[]=>exact⟨λh=>h.elim,λh=>h.elim⟩
  |[_]=>exact⟨λh=>h.2.elim,λh=>h.2.elim⟩
  |[_,_]=>exact⟨λh=>h.2.2.elim,λh=>h.2.2.elim⟩
  |[_,_,_]=>exact⟨λh=>h.2.2.2.elim,λh=>h.2.2.2.elim⟩
  |a::b::c::d::vs=>
   exact⟨λ⟨h1,h2,h3,h4,h5⟩=>⟨(J1 rfl).1 h1,(J1 rfl).1 h2,(J1 rfl).1 h3,(J1 rfl).1 h4,bp.1 h5⟩,
    λ⟨h1,h2,h3,h4,h5⟩=>⟨(J1 rfl).2 h1,(J1 rfl).2 h2,(J1 rfl).2 h3,(J1 rfl).2 h4,bp.2 h5⟩⟩
theorem bq {w:World} {F:Nat->Prop} {l:List Pol} {v:Value}: @CA (envP ρ bd) w F (.ag (tkR l)) v↔ @CA (envP ρ bd) w F (.ag (GI ρ l)) v:=by
 unfold CA;exact⟨λ⟨vs,e,h⟩=>⟨vs,e,bp.1 h⟩,λ⟨vs,e,h⟩=>⟨vs,e,bp.2 h⟩⟩
theorem Z0:∀{n:Nat} {ds:List D} {l:List Pol},M8 n ds=some l->ds=tkR l
 |0,ds,l,h=>by
  unfold M8 at h;split at h
  .obtain rfl:=gr h;rfl
  .rename_i e;cases e
  .cases h
 |n+1,ds,l,h=>by
  unfold M8 at h;split at h
  .rename_i e;cases e
  .rename_i m a b c d r e;obtain rfl:n=m:=by cases e;rfl
   split at h
   .rename_i p l' hp hl;obtain rfl:=gr h;rw[GJ,<-Z0 hl];have:=Vl hp;unfold tk at this;simp only[ec,and_true]at this;obtain⟨rfl,rfl,rfl,rfl⟩:=this;rfl
   .cases h
  .cases h
theorem v6 (h:∀i,Hz 20 (ρ i)) {p:Pol} (hs:wt p=true):Hz 70000 (evP ρ p):=by
 unfold wt at hs;rw[Aw,decide_eq_true_eq]at hs;exact(G6 h p hs.1).mono hs.2
theorem kz (h:∀i,Hz 20 (ρ i)) {k:Nat} {p:Pol} (hs:QI k p=true):Hz k (evP ρ p):=by
 unfold QI at hs;rw[Aw,decide_eq_true_eq]at hs;exact(G6 h p hs.1).mono hs.2
def CZ (ρ:Nat->Rat):Prop:=∀p∈whL,∃n:Int,evP ρ p=(n:Rat)
theorem Z1 {p:Pol}:∀{l:List Pol},Ax l p=true->p∈l
 |[],h=>by cases h
 |q::r,h=>by
  unfold Ax at h;split at h
  .rename_i e;rw[wX e];exact List.mem_cons_self
  .exact dc _ (Z1 h)
theorem Xg (hw:CZ ρ) {p:Pol} (h:jo p=true):∃n:Int,evP ρ p=(n:Rat):=by
 unfold jo at h;split at h
 .rename_i e;exact hw _ (Z1 e)
 .obtain⟨n,e⟩:=hw _ (Z1 h);rw[yi]at e;exact⟨-n,by rw[h6];grind⟩
theorem MY {ds:List D} {p:Pol} (h:unI ds=some p):ds=tkI p/\jo p=true:=by
 unfold unI at h;split at h
 .split at h
  .rename_i e;rw[Aw]at e;obtain rfl:=gr h;obtain rfl:=wX e.1;exact⟨rfl,e.2⟩
  .cases h
 .cases h
theorem AB {w:World} {F:Nat->Prop} {p:Pol} {n:Int} {v:Value} (e:evP ρ p=(n:Rat)): @CA (envP ρ bd) w F (.ag (tkI p)) v↔ @CA (envP ρ bd) w F (qL n) v:=by
 have e0:yY (evP ρ p) 0= .bool (decide (n<0)):=by rw[e];show Hu (decide ((n:Rat).num<0))=_;rw[h9]
 have e1:yY (evP ρ p) 1= .sl (raw (lim n.natAbs)):=by rw[e];show Hv (raw (lim (n:Rat).num.natAbs))=_;rw[h9]
 unfold qL cI tkI CA;constructor
 .rintro⟨vs,rfl,h⟩;refine⟨vs,rfl,?_⟩;generalize vs.toList=l at h ⊢
  match l,h with
  |[a,b],⟨h1,h2,_⟩=>exact⟨e0▸(J1 rfl).1 h1,e1▸(J1 rfl).1 h2,trivial⟩
 .rintro⟨vs,rfl,h⟩;refine⟨vs,rfl,?_⟩;generalize vs.toList=l at h ⊢
  match l,h with
  |[a,b],⟨h1,h2,_⟩=>exact⟨(J1 rfl).2 (e0.symm▸h1),(J1 rfl).2 (e1.symm▸h2),trivial⟩
theorem GK {sg:Pol->Option Int} (hb:∀p s,sg p=some s->sr (evP ρ p)=s) {p r:Pol} (h:PC sg p=some r):evP ρ p=evP ρ r*evP ρ r/\0<=evP ρ r:=by
 unfold PC at h;split at h
 .obtain rfl:=gr h;exact⟨by show(0:Rat)=0*0;grind,Rat.le_refl⟩
 .split at h
  .split at h
   .rename_i n hs he;obtain rfl:=gr h;have e:=congrArg (evP ρ) (wX he);rw[zx]at e;refine⟨e.symm,?_⟩;have:=hb _ _ hs;unfold sr at this;split at this
    .rename_i q;exact Rat.le_of_lt q
    .split at this
     .have h0:(-1:Int)=((n:Nat):Int):=this;omega
     .rename_i q1 q2;exact Rat.not_lt.1 q2
   .cases h
  .cases h
 .cases h
theorem KD (hz:∀i,Hz 20 (ρ i)) {p:Pol} (hs:wt p=true) {n:Int} (e:evP ρ p=(n:Rat)):Sm n:=by
 have:=(yZ hz hs).1.sm;rw[e,h9]at this;exact this
theorem MZ (a b:Int):kd a b=sr ((a:Rat)-(b:Rat)):=by
 have e:(a:Rat)-(b:Rat)=((a-b:Int):Rat):=by rw[Rat.intCast_sub]
 rw[e];unfold kd sr;by_cases h:a<b
 .rw[if_pos h,if_neg (by rw[show(0:Rat)=((0:Int):Rat)from rfl,gu];omega),if_pos (by rw[show(0:Rat)=((0:Int):Rat)from rfl,gu];omega)]
 .rw[if_neg h];by_cases h2:a>b
  .rw[if_pos h2,if_pos (by rw[show(0:Rat)=((0:Int):Rat)from rfl,gu];omega)]
  .rw[if_neg h2,if_neg (by rw[show(0:Rat)=((0:Int):Rat)from rfl,gu];omega),if_neg (by rw[show(0:Rat)=((0:Int):Rat)from rfl,gu];omega)]
theorem Da {w:World} {F:Nat->Prop} {p:Pol} {x:A} {v:Value} (h: @vO (envP ρ bd) w F [xv (evP ρ p),x] v): @vO (envP ρ bd) w F [.ag (tk p),x] v:=by
 obtain⟨vs,rfl,h⟩:=h;refine⟨vs,rfl,?_⟩;generalize vs.toList=l at h ⊢
 match l,h with
 |[u,v],h=>exact⟨EE.2 h.1,h.2⟩
theorem allI {w:World} {F:Nat->Prop} {p:Pol} {n:Int} (e:evP ρ p=(n:Rat)) {vs:List Value} (h:All2 (@CA (envP ρ bd) w F) [.ag (tkI p)] vs):All2 (@CA (envP ρ bd) w F) [qL n] vs:=by
 match vs,h with
 |[v],h=>exact⟨(AB e).1 h.1,trivial⟩
theorem dC {w:World} {F:Nat->Prop} {p:Pol} {n:Int} (e:evP ρ p=(n:Rat)) {v:Value} (h: @vO (envP ρ bd) w F [qL n] v): @vO (envP ρ bd) w F [.ag (tkI p)] v:=(AB e).2 h
theorem dD {sg:Pol->Option Int} (hz:∀i,Hz 20 (ρ i)) (hb:∀p s,sg p=some s->sr (evP ρ p)=s) (hw:CZ ρ) (f:Nat) (x:List D) (rs:List A) (h:t1 sg f x=some rs): @Gives (envP ρ bd) CC f [.ag x] rs:=by
 letI:Env:=envP ρ bd
 unfold t1 at h;split at h
 .rename_i p hp;obtain rfl:=Vl hp;split at h
  .rename_i e;rw[Bx]at e;split at h
   .rename_i hs;obtain rfl:=gr h;have a3:=yZ hz hs;rcases e with e|e
    .obtain rfl:=eg e;exact(MD a3).conv (λ_ _ _ h=>C3 h) (λ_ _ _ h=>h)
    .obtain rfl:=eg e;exact(MB a3).conv (λ_ _ _ h=>C3 h) (λ_ _ _ h=>h)
   .cases h
  .split at h
   .rename_i e;rw[Bx]at e;split at h
    .rename_i r hr;split at h
     .rename_i hk;obtain rfl:=gr h;obtain⟨e1,e2⟩:=GK hb hr;have hh:=kz hz hk;rcases e with e|e
      .obtain rfl:=eg e;have g:=PX hh (by omega) e2;rw[<-e1]at g;exact g.conv (λ_ _ _ h=>C3 h) (λ_ _ _ h=>Da h)
      .obtain rfl:=eg e;have g:=GH hh (by omega) e2;rw[<-e1]at g;exact g.conv (λ_ _ _ h=>C3 h) (λ_ _ _ h=>Da h)
     .cases h
    .cases h
   .split at h
    .rename_i e;obtain rfl:=gr h;rw[Aw,Aw]at e;obtain⟨e,a0,hs⟩:=e;obtain⟨n,en⟩:=Xg hw a0;have fl:(evP ρ p).floor=n:=by rw[en,Rat.floor_intCast]
     obtain rfl:=eg e;have g:=Vo (v6 hz hs);rw[fl]at g;exact g.conv (λ_ _ _ h=>C3 h) (λ_ _ _ h=>dC en h)
    .cases h
 .split at h
  .rename_i p hp;obtain⟨rfl,a0⟩:=MY hp;obtain⟨n,en⟩:=Xg hw a0;split at h
   .rename_i hs;have a2:=KD hz hs en;split at h
    .rename_i e;rw[Bx]at e;obtain rfl:=gr h;have a1:evP ρ (Qf p)=((-n:Int):Rat):=by rw[yi,en,h6]
     rcases e with e|e
     .obtain rfl:=eg e;exact(Eng.up (Qq a2)).conv (λ_ _ _ h=>allI en h) (λ_ _ _ h=>dC a1 h)
     .obtain rfl:=eg e;exact(Zr a2).conv (λ_ _ _ h=>allI en h) (λ_ _ _ h=>dC a1 h)
    .cases h
   .cases h
  .cases h
theorem dE {sg:Pol->Option Int} (hz:∀i,Hz 20 (ρ i)) (hb:∀p s,sg p=some s->sr (evP ρ p)=s) (hw:CZ ρ) (f:Nat) (x y:List D) (rs:List A) (h:t2 sg f x y=some rs): @Gives (envP ρ bd) CC f [.ag x,.ag y] rs:=by
 letI:Env:=envP ρ bd
 unfold t2 at h;split at h
 .rename_i p hp;obtain⟨rfl,hwh⟩:=MY hp;obtain⟨n,en⟩:=Xg hw hwh;split at h
  .rename_i hs;have a0:=KD hz hs en;split at h
   .rename_i e;rw[Aw]at e;obtain rfl:=eg e.1;obtain rfl:=zP (Zq 20) e.2;obtain rfl:=gr h;have g:=MX a0;refine g.conv (λw F vs hv=>?_) (λ_ _ _ h=>Da (by rw[en];exact h))
    match vs,hv with
    |[u,v],hv=>exact⟨(AB en).1 hv.1,hv.2.1,trivial⟩
   .split at h
    .rename_i q e hq;obtain⟨rfl,hwq⟩:=MY hq;obtain⟨m,em⟩:=Xg hw hwq;rw[Bx]at e;split at h
     .rename_i s hs2 hsg;obtain rfl:=gr h;have a1:=KD hz hs2 em;have:=hb _ _ hsg;rw[zL,en,em,<-MZ]at this;have a3:∀{g:Nat},Gives CC g [qL n,qL m] [.c (.int .i64 (kd n m))]->Gives CC g [.ag (tkI p),.ag (tkI q)] [.c (.int .i64 s)]:=λg=>by
       rw[this]at g;refine g.conv (λw F vs hv=>?_) (λ_ _ _ h=>h)
       match vs,hv with
       |[u,v],hv=>exact⟨(AB en).1 hv.1,(AB em).1 hv.2.1,trivial⟩
      rcases e with e|e
      .obtain rfl:=eg e;exact a3 (Eng.up (jK a0 a1))
      .obtain rfl:=eg e;exact a3 (Kw a0 a1)
     .cases h
    .cases h
  .cases h
 .split at h
  .rename_i e;obtain rfl:=eg e;split at h
   .rename_i s hs;obtain rfl:=gr h;unfold Ay at hs;split at hs
    .rename_i a b c x y hl hp;split at hs
     .rename_i a0;simp only[Aw]at a0;obtain⟨ha,a2,hc,hx,hy⟩:=a0;obtain rfl:=Z0 hl;obtain rfl:=Z0 hp;have:=A8 (v6 hz ha) (v6 hz a2) (v6 hz hc) (v6 hz hx) (v6 hz hy);have e:=hb _ _ hs;rw[zL,xT,zx,zx]at e;rw[e]at this;refine this.conv (λw F vs hv=>?_) (λ_ _ _ h=>h)
      match vs,hv with
      |[u,v],hv=>exact⟨bq.1 hv.1,bq.1 hv.2.1,trivial⟩
     .cases hs
    .cases hs
   .cases h
  .split at h
   .rename_i e;obtain rfl:=eg e;split at h
    .rename_i s hs;obtain rfl:=gr h;unfold insT at hs;split at hs
     .rename_i a b c x y hl hp;split at hs
      .rename_i a0;simp only[Aw]at a0;obtain⟨ha,a2,hc,hx,hy⟩:=a0;obtain rfl:=Z0 hl;obtain rfl:=Z0 hp;have:=PN (kz hz ha) (kz hz a2) (kz hz hc) (kz hz hx) (kz hz hy);have e:=hb _ _ hs;rw[zL,xT,zx,zx,zL,zL]at e;rw[e]at this;refine this.conv (λw F vs hv=>?_) (λ_ _ _ h=>h)
       match vs,hv with
       |[u,v],hv=>exact⟨bq.1 hv.1,bq.1 hv.2.1,trivial⟩
      .cases hs
     .cases hs
    .cases h
   .cases h
theorem PY {sg:Pol->Option Int} (hz:∀i,Hz 20 (ρ i)) (hb:∀p s,sg p=some s->sr (evP ρ p)=s) (hw:CZ ρ) (f:Nat) (al rs:List A) (h:C7 sg f al=some rs): @Gives (envP ρ bd) CC f al rs:=by
 unfold C7 at h;split at h
 .exact dD hz hb hw f _ _ h
 .exact dE hz hb hw f _ _ _ h
 .cases h
theorem Db {sg:Pol->Option Int} (hz:∀i,Hz 20 (ρ i)) (hb:∀p s,sg p=some s->sr (evP ρ p)=s) (hw:CZ ρ) (f:Nat) (al rs:List A) (h:bk sg f al=some rs): @Gives (envP ρ bd) CC f al rs:=by
 letI:Env:=envP ρ bd
 unfold bk at h;split at h
 .rename_i h1;obtain rfl:=gr h;exact M4 numK_G hz hb f al _ h1
 .split at h
  .rename_i h1;obtain rfl:=gr h;exact M4 A1 hz hb f al _ h1
  .split at h
   .rename_i h1;obtain rfl:=gr h;exact PY hz hb hw f al _ h1
   .exact C6 f al rs h
theorem dF (hz:∀i,Hz 20 (ρ i)) (hp:Ue ρ bsT) (ha:ρ 2=ρ 9+1000) (hb:ρ 3=ρ 10+1000) (hw:CZ ρ): @xr (envP ρ bd):=by
 letI:Env:=envP ρ bd
 refine⟨λf al rs h=>Db hz (λp s hs=>Si ρ hp ?_ p s hs) hw f al rs h⟩;have l1:∀i,evP ρ (lt i)=ρ i:=λi=>by
  show(1:Rat)*evE ρ 0 (zE i [1])+0=_;rw[P9,Nat.zero_add];show(1:Rat)*(ρ i*1*1)+0=_
  grind
 have k1:evP ρ (kP 1000)=1000:=by
  show((1000:Int):Rat)*1+0=1000
  grind
 intro j q h;unfold sgT at h
 match j,h with
 |0,h=>obtain rfl:=gr h;exact l1 0
 |1,h=>obtain rfl:=gr h;exact l1 1
 |2,h=>obtain rfl:=gr h;rw[xT,l1,k1,ha]
 |3,h=>obtain rfl:=gr h;rw[xT,l1,k1,hb]
 |4,h=>obtain rfl:=gr h;exact l1 4
 |5,h=>obtain rfl:=gr h;exact l1 5
 |6,h=>obtain rfl:=gr h;exact l1 6
 |7,h=>obtain rfl:=gr h;exact l1 7
 |8,h=>obtain rfl:=gr h;exact l1 8
 |9,h=>obtain rfl:=gr h;exact l1 9
 |10,h=>obtain rfl:=gr h;exact l1 10
 |n+11,h=>cases h
end
end Eng
end
section
namespace Eng
open Go
section
variable {E:Env}
def evD (E:Env):D->D
 | .tok p i=>E.E p i
 |d=>d
theorem Ys {w:World} {F:Nat->Prop} {d:D} {v:Value}: @CD E w F d v↔ @CD E w F (evD E d) v:=by
 cases d with
 |tok p i=>exact⟨λh=>by cases h;assumption,λh=> @CD.tok E w F p i v h⟩
 |_=>exact Lm
theorem Yt {w:World} {F:Nat->Prop}:∀{ds:List D} {vs:List Value},All2 (@CD E w F) ds vs↔All2 (@CD E w F) (ds.map (evD E)) vs
 |[],_=>Lm
 |_::_,[]=>Lm
 |_::_,_::_=>and_congr Ys Yt
theorem KE {w:World} {F:Nat->Prop} {ds:List D} {v:Value}: @CA E w F (.ag ds) v↔ @CA E w F (.ag (ds.map (evD E))) v:=by
 unfold CA;exact⟨λ⟨vs,e,h⟩=>⟨vs,e,Yt.1 h⟩,λ⟨vs,e,h⟩=>⟨vs,e,Yt.2 h⟩⟩
end
end Eng
end
section
namespace Eng
open Go
def evX (E:Env):D->D
 | .tok p i=>E.E p i
 | .sl es=> .sl (es.map (cg (evD E)))
 |d=>d
def evR (E:Env) (ds:List D):List D:=ds.map (evX E)
def evA (E:Env):A->A
 | .c d=> .c (evX E d)
 | .ag ds=> .ag (evR E ds)
section
variable {E:Env} {w:World} {F:Nat->Prop}
theorem GL (f:D->D):∀es:List (List D),(es.map (cg f)).flatten=es.flatten.map f
 |[]=>rfl
 |e::es=>by simp only[bx,dv,ea,GL f es]
theorem Row.ev {es:List (List D)} {b o s:Nat}: @Row E w F es b o s↔ @Row E w F (es.map (cg (evD E))) b o s:=by
 have hn:∀j,nth .undef (es.map (cg (evD E))).flatten j=evD E (nth .undef es.flatten j):=λj=>by rw[GL];exact ya (evD E) .undef es.flatten j
 constructor
 .rintro⟨h1,h2,h3⟩;refine⟨λe he=>?_,h2,λj hj=>?_⟩
  .obtain⟨e',he',rfl⟩:=bs.1 he;rw[a7];exact h1 _ he'
  .rw[a7]at hj;obtain⟨v,q1,q2⟩:=h3 j hj;exact⟨v,q1,by rw[hn];exact Ys.1 q2⟩
 .rintro⟨h1,h2,h3⟩;refine⟨λe he=>?_,h2,λj hj=>?_⟩
  .have:=h1 _ (bs.2 ⟨e,he,rfl⟩)
   rwa [a7]at this
  .obtain⟨v,q1,q2⟩:=h3 j (by rw[a7];exact hj);exact⟨v,q1,Ys.2 (by rw[<-hn];exact q2)⟩
theorem Na {d:D} {v:Value}: @CD E w F d v↔ @CD E w F (evX E d) v:=by
 cases d with
 |tok p i=>exact⟨λh=>by cases h;assumption,λh=> @CD.tok E w F p i v h⟩
 |sl es=>
  show @CD E w F (.sl es) v↔ @CD E w F (.sl (es.map (cg (evD E)))) v;constructor
  .intro h;obtain⟨ad,c,rfl,hc,h⟩:= @CD.slice_inv E F w _ _ h;rcases h with rfl|⟨b,o,s,rfl,hr⟩
   .exact @CD.nil E w F _ _
   .have:= @Row.CD E F w _ b o s c (Row.ev.1 hr) (by rw[a7];exact hc)
    rwa [a7]at this
  .intro h;obtain⟨ad,c,rfl,hc,h⟩:= @CD.slice_inv E F w _ _ h;rw[a7]at hc ⊢;rcases h with h|⟨b,o,s,rfl,hr⟩
   .obtain rfl:=List.map_eq_nil_iff.1 h;exact @CD.nil E w F _ _
   .exact @Row.CD E F w _ b o s c (Row.ev.2 hr) hc
 |_=>exact Lm
theorem Yu:∀{ds:List D} {vs:List Value},All2 (@CD E w F) ds vs↔All2 (@CD E w F) (evR E ds) vs
 |[],_=>Lm
 |_::_,[]=>Lm
 |_::_,_::_=>and_congr Na Yu
theorem GM {a:A} {v:Value}: @CA E w F a v↔ @CA E w F (evA E a) v:=by
 cases a with
 |c d=>exact Na
 |ag ds=>show @CA E w F (.ag ds) v↔ @CA E w F (.ag (evR E ds)) v;unfold CA;exact⟨λ⟨vs,e,h⟩=>⟨vs,e,Yu.1 h⟩,λ⟨vs,e,h⟩=>⟨vs,e,Yu.2 h⟩⟩
theorem Xh:∀{al:List A} {vs:List Value},All2 (@CA E w F) al vs↔All2 (@CA E w F) (al.map (evA E)) vs
 |[],_=>Lm
 |_::_,[]=>Lm
 |_::_,_::_=>and_congr GM Xh
theorem Dc {rs:List A} {v:Value}: @vO E w F rs v↔ @vO E w F (rs.map (evA E)) v:=by
 match rs with
 |[]=>exact Lm
 |[a]=>exact GM
 |a::b::r=>show(∃vs:Array Value,v= .tuple vs/\All2 (@CA E w F) (a::b::r) vs.toList)↔∃vs:Array Value,v= .tuple vs/\All2 (@CA E w F) ((a::b::r).map (evA E)) vs.toList;exact⟨λ⟨vs,e,h⟩=>⟨vs,e,Xh.1 h⟩,λ⟨vs,e,h⟩=>⟨vs,e,Xh.2 h⟩⟩
theorem KH {C:Cx} {f:Nat} {al rs:List A} (h: @Gives E C f al rs): @Gives E C f (al.map (evA E)) (rs.map (evA E)):=
 @Gives.conv E C f al _ rs _ (λ_ _ _ q=>Xh.2 q) (λ_ _ _ q=>Dc.1 q) h
end
def plD:Nat->D->Prop
 |0,_=>False
 |n+1,.sl es=>∀e∈es,∀d∈e,plD n d
 |_+1,.tok _ _=>False
 |_+1,.ptr _=>False
 |_+1,.clo _ _=>False
 |_+1,.map _=>False
 |_+1,_=>True
def plA (n:Nat):A->Prop
 | .c d=>plD n d
 | .ag ds=>∀d∈ds,plD n d
section
variable {E E':Env} {w:World} {F:Nat->Prop}
theorem PZ {l:List D} {P:D->Prop} (h:∀d∈l,P d) {j:Nat} (hj:j<l.length):P (nth .undef l j):=by
 rw[qk _ hj];exact h _ (c3 hj)
theorem GN {s:Nat}:∀{es:List (List D)},(∀e∈es,e.length=s)->es.flatten.length=es.length*s
 |[],_=>by simp
 |e::es,h=>by rw[dv,cm,h e (by simp),GN λx hx=>h x (by simp[hx]),cv,Nat.succ_mul,Nat.add_comm]
theorem Yv:∀{n:Nat} {d:D} {v:Value},plD n d-> @CD E w F d v-> @CD E' w F d v
 |0,_,_,h,_=>h.elim
 |n+1,d,v,hp,h=>by
  cases d with
  |sl es=>
   obtain⟨ad,c,rfl,hc,h⟩:= @CD.slice_inv E F w _ _ h;rcases h with rfl|⟨b,o,s,rfl,hr⟩
   .exact @CD.nil E' w F _ _
   .refine @Row.CD E' F w _ b o s c ?_ hc;obtain⟨h1,h2,h3⟩:=hr;refine⟨h1,h2,λj hj=>?_⟩;obtain⟨u,q1,q2⟩:=h3 j hj;refine⟨u,q1,Yv (n:=n) (PZ (P:=plD n) (λd hd=>?_) ?_) q2⟩
    .obtain⟨e,he,hd⟩:=List.mem_flatten.1 hd;exact hp e he d hd
    .rw[GN h1];exact hj
  |tok p i=>exact hp.elim
  |ptr cs=>exact hp.elim
  |clo f ps=>exact hp.elim
  |map l=>exact hp.elim
  |undef=>cases h with|undef v h=>exact @CD.undef E' w F v h
  |bool b=>cases h;exact @CD.bool E' w F b
  |int k n=>cases h;exact @CD.int E' w F k n
  |str s=>cases h;exact @CD.str E' w F s
  |ifc b=>cases h with
   |nilI=>exact @CD.nilI E' w F
   |someI t v h=>exact @CD.someI E' w F t v h
  |nilP=>cases h;exact @CD.nilP E' w F
  |fn f=>cases h;exact @CD.fn E' w F f
theorem Nb {n:Nat}:∀{ds:List D} {vs:List Value},(∀d∈ds,plD n d)->All2 (@CD E w F) ds vs->All2 (@CD E' w F) ds vs
 |[],[],_,_=>trivial
 |_::_,_::_,h,k=>⟨Yv (h _ (by simp)) k.1,Nb (λd hd=>h d (by simp[hd])) k.2⟩
 |[],_::_,_,k=>k.elim
 |_::_,[],_,k=>k.elim
theorem Nc {n:Nat} {a:A} {v:Value} (h:plA n a) (k: @CA E w F a v): @CA E' w F a v:=by
 cases a with
 |c d=>exact Yv (n:=n) (d:=d) h k
 |ag ds=>unfold CA at k ⊢;obtain⟨vs,e,k⟩:=k;exact⟨vs,e,Nb (n:=n) h k⟩
theorem KI {n:Nat}:∀{al:List A} {vs:List Value},(∀a∈al,plA n a)->All2 (@CA E w F) al vs->All2 (@CA E' w F) al vs
 |[],[],_,_=>trivial
 |_::_,_::_,h,k=>⟨Nc (h _ (by simp)) k.1,KI (λd hd=>h d (by simp[hd])) k.2⟩
 |[],_::_,_,k=>k.elim
 |_::_,[],_,k=>k.elim
theorem De {n:Nat} {rs:List A} {v:Value} (h:∀a∈rs,plA n a) (k: @vO E w F rs v): @vO E' w F rs v:=by
 match rs,k with
 |[],k=>obtain⟨vs,e,k⟩:=k;exact⟨vs,e,KI (n:=n) h k⟩
 |[a],k=>exact Nc (h a (by simp)) k
 |a::b::r,k=>obtain⟨vs,e,k⟩:=k;exact⟨vs,e,KI (n:=n) h k⟩
theorem Z2 {C:Cx} (hC:∀F w, @Inv E C F w↔ @Inv E' C F w) {n f:Nat} {al rs:List A} (ha:∀a∈al,plA n a) (hr:∀a∈rs,plA n a) (h: @Gives E C f al rs): @Gives E' C f al rs:=by
 intro w F vs hF hi hv;refine(h w F vs hF ((hC F w).2 hi) (KI ha hv)).mono λe w' he=>?_
 obtain⟨hb,v,rfl,k⟩:=he;exact⟨hb,v,rfl,De hr k⟩
theorem Nd {E E':Env} (F:Nat->Prop) (w:World): @Inv E CC F w↔ @Inv E' CC F w:=⟨λ_ _ _ hg=>(by cases hg),λ_ _ _ hg=>(by cases hg)⟩
end
end Eng
end
section
namespace Eng
open Go Go.Proofs
def bu:IntKind->Bool
 | .i64=>true
 |_=>false
theorem Yw {k:IntKind} (h:bu k=true):k= .i64:=by cases k<;>first|rfl|cases h
def clT (c:Int):List D:=[.tok [(c,[])] 9]
def clR (l:List Int):List (List D):=l.map clT
def inO (b:List (List D)):List (List Int)->Option (List Int)
 |[]=>none
 |o::r=>match eqL (eqL (eqD 3)) b (iR o)with
  |true=>some o
  |false=>inO b r
theorem Sx {b:List (List D)}:∀{l:List (List Int)} {o:List Int},inO b l=some o->b=iR o/\o∈l
 |o'::r,o,h=>by
  unfold inO at h;split at h
  .rename_i e;cases h;exact⟨zP (λ_ _ h=>zP (Zq 3) h) e,by simp⟩
  .obtain⟨h1,h2⟩:=Sx h;exact⟨h1,dc _ h2⟩
noncomputable def wY (n:Nat) (needs:List (Int×Int)) (first:List Int) (ords:List (List Int)) (cls:List Int):Bool:=
 match wv Ud CB9 1000 40 13 [.c (.int .i64 (n:Int)),.c (.sl (prD needs)),.c (.sl (clR cls))]with
 |some [.c (.sl b),.c (.int k c),.c (.int k2 e)]=>match bu k&&(bu k2&&decide (e=0)),inO b ords with
  |true,some _=>match wv Ud CB0 1000 40 15 [.c (.sl (iR first)),.c (.sl (clR cls))]with
   |some [.c (.int k3 m)]=>bu k3&&decide (c<=m)
   |_=>false
  |_,_=>false
 |_=>false
theorem Df [Env] {n:Nat} {needs:List (Int×Int)} {first:List Int} {ords:List (List Int)} {cls:List Int} (h:wY n needs first ords cls=true):∃(o:List Int) (c m:Int),o∈ords/\c<=m/\
 Gives CC 13 [.c (.int .i64 (n:Int)),.c (.sl (prD needs)),.c (.sl (clR cls))] [.c (.sl (iR o)),.c (.int .i64 c),.c (.int .i64 0)]/\Gives CC 15 [.c (.sl (iR first)),.c (.sl (clR cls))] [.c (.int .i64 m)]:=by
 unfold wY at h;split at h
 .rename_i b k c k2 e hr;split at h
  .rename_i o hc ho;simp only[Aw,decide_eq_true_eq]at hc;obtain⟨h1,h2,rfl⟩:=hc;obtain rfl:=Yw h1;obtain rfl:=Yw h2;obtain⟨hbo,ho2⟩:=Sx ho;subst hbo;split at h
   .rename_i k3 m hr2;simp only[Aw,decide_eq_true_eq]at h;obtain rfl:=Yw h.1;exact⟨o,c,m,ho2,h.2,yk (C:=CB9) rfl rfl hr,yk (C:=CB0) rfl rfl hr2⟩
   .cases h
  .cases h
 .cases h
@[reducible] def envN (v:Int->Int) (hv:∀c c':Int,0<=c->c<4->0<=c'->c'<4->v c=v c'->c=c'):Env:=⟨λp i=>match ft i 9,nmT p with
  |true,some c=> .int .i64 (v c)
  |_,_=> .int .i64 0,λp i _=>by
   cases ft i 9<;>cases nmT p<;>exact .inr ⟨_,_,rfl⟩,λc c' h1 h2 h3 h4=>by
   have e:∀c:Int,0<=c->c<4->nmT [(c,[])]=some c:=λc h1 h2=>by
    show(match decide (0<=c)&&decide (c<4)with|true=>some c|false=>none)=some c;rw[decide_eq_true h1,decide_eq_true h2]
    try rfl
   refine⟨v c,v c',?_,?_,⟨λq=>hv c c' h1 h2 h3 h4 q,λq=>by rw[q]⟩⟩
   .show(match ft 9 9,nmT [(c,[])]with|true,some c=>Hx .i64 (v c)|_,_=> .int .i64 0)=_;rw[e c h1 h2]
   .show(match ft 9 9,nmT [(c',[])]with|true,some c=>Hx .i64 (v c)|_,_=> .int .i64 0)=_;rw[e c' h3 h4]⟩
theorem AC (E:Env) (l:List Int):(iR l).map (cg (evD E))=iR l:=by
 unfold iR;rw[bF];rfl
theorem AD (E:Env) (l:List (Int×Int)):(prD l).map (cg (evD E))=prD l:=by
 unfold prD;rw[bF];rfl
theorem Sy {v:Int->Int} {hv:∀c c':Int,0<=c->c<4->0<=c'->c'<4->v c=v c'->c=c'} {l:List Int} (h:∀c∈l,0<=c/\c<4):(clR l).map (cg (evD (envN v hv)))=iR (l.map v):=by
 unfold clR iR;rw[bF,bF];refine dl λc hc=>?_
 obtain⟨h1,h2⟩:=h c hc;show [(envN v hv).E [(c,[])] 9]=[Hx .i64 (v c)];have e:nmT [(c,[])]=some c:=by
  show(match decide (0<=c)&&decide (c<4)with|true=>some c|false=>none)=some c;rw[decide_eq_true h1,decide_eq_true h2]
  try rfl
 show [match ft 9 9,nmT [(c,[])]with|true,some c=>Hx .i64 (v c)|_,_=> .int .i64 0]=_;rw[e]
theorem Ra (l:List Int):plA 3 (.c (.sl (iR l))):=λe he d hd=>by
 obtain⟨x,_,rfl⟩:=bs.1 he;simp only[cb]at hd;subst hd;trivial
theorem AE (l:List (Int×Int)):plA 3 (.c (.sl (prD l))):=λe he d hd=>by
 obtain⟨x,_,rfl⟩:=bs.1 he;simp only[an,be,or_false]at hd;rcases hd with rfl|rfl<;>trivial
theorem Dg {n:Nat} {needs:List (Int×Int)} {first:List Int} {ords:List (List Int)} {cls:List Int} (h:wY n needs first ords cls=true) (hc:∀c∈cls,0<=c/\c<4) (v:Int->Int) (hv:∀c c':Int,0<=c->c<4->0<=c'->c'<4->v c=v c'->c=c') (E:Env):∃(o:List Int) (c m:Int),o∈ords/\c<=m/\
 @Gives E CC 13 [.c (.int .i64 (n:Int)),.c (.sl (prD needs)),.c (.sl (iR (cls.map v)))] [.c (.sl (iR o)),.c (.int .i64 c),.c (.int .i64 0)]/\ @Gives E CC 15 [.c (.sl (iR first)),.c (.sl (iR (cls.map v)))] [.c (.int .i64 m)]:=by
 obtain⟨o,c,m,h1,h2,h3,h4⟩:= @Df (envN v hv) _ _ _ _ _ h;refine⟨o,c,m,h1,h2,?_,?_⟩
 .have q:=KH h3;simp only[bx,cL,evA,evX,AD,AC,Sy hc]at q;refine Z2 Nd (n:=3) (λa ha=>?_) (λa ha=>?_) q
  .simp only[an,be,or_false]at ha;rcases ha with rfl|rfl|rfl
   .trivial
   .exact AE _
   .exact Ra _
  .simp only[an,be,or_false]at ha;rcases ha with rfl|rfl|rfl
   .exact Ra _
   .trivial
   .trivial
 .have q:=KH h4;simp only[bx,cL,evA,evX,AC,Sy hc]at q;refine Z2 Nd (n:=3) (λa ha=>?_) (λa ha=>?_) q
  .simp only[an,be,or_false]at ha;rcases ha with rfl|rfl
   .exact Ra _
   .exact Ra _
  .simp only[an,be,or_false]at ha;subst ha;trivial
end Eng
end
section
namespace Eng
open Go Go.Proofs
def rgs:Nat->Nat->List (List Nat)
 |0,_=>[[]]
 |n+1,m=>(List.range (m+1)).flatMap λc=>(rgs n (max m (c+1))).map (c:: ·)
theorem S1:∀(n m:Nat) (cls:List Nat),cls∈rgs n m->∀c∈cls,c<m+n
 |0,m,cls,h,c,hc=>by simp only[rgs,cb]at h;subst h;simp at hc
 |n+1,m,cls,h,c,hc=>by
  simp only[rgs,cp,cF,bs]at h;obtain⟨k,hk,r,hr,rfl⟩:=h;rcases an.1 hc with rfl|hc
  .omega
  .have:=S1 n _ r hr c hc;omega
theorem Nf:∀(l vs:List Int),vs.Nodup->∃(cls:List Nat) (ws:List Int),cls∈rgs l.length vs.length/\(vs++ws).Nodup/\l=cls.map (λc=>(vs++ws).getD c 0)/\∀c∈cls,c<(vs++ws).length
 |[],vs,h=>⟨[],[],by simp[rgs],by simpa using h,rfl,by simp⟩
 |x::r,vs,h=>by
  by_cases hx:x∈vs
  .obtain⟨i,hi,e⟩:=List.getElem_of_mem hx;obtain⟨cls,ws,h1,h2,h3,h4⟩:=Nf r vs h;refine⟨i::cls,ws,?_,h2,?_,?_⟩
   .simp only[cv,rgs,cp,cF,bs];refine⟨i,by omega,cls,?_,rfl⟩
    rwa [Nat.max_eq_left (by omega)]
   .rw[bx,<-h3,cc,List.getElem?_append_left hi,cH hi,e];rfl
   .intro c hc;rcases an.1 hc with rfl|hc
    .rw[cm];omega
    .exact h4 c hc
  .have hn:(vs++[x]).Nodup:=by rw[List.nodup_append];refine⟨h,by simp,λa ha b hb=>?_⟩;simp only[cb]at hb;rintro rfl;exact hx (hb▸ha)
   obtain⟨cls,ws,h1,h2,h3,h4⟩:=Nf r (vs++[x]) hn;have e:vs++[x]++ws=vs++x::ws:=by simp
   rw[e]at h2 h3 h4;refine⟨vs.length::cls,x::ws,?_,h2,?_,?_⟩
   .simp only[cv,rgs,cp,cF,bs];refine⟨vs.length,by omega,cls,?_,rfl⟩;rw[Nat.max_eq_right (by omega)]
    simpa using h1
   .rw[bx,<-h3,cc,List.getElem?_append_right (et _)];simp
   .intro c hc;rcases an.1 hc with rfl|hc
    .simp
    .exact h4 c hc
def bgN:List Int->Int
 |[]=>0
 |x::r=>Int.natAbs x+bgN r
theorem GO:∀{l:List Int} {x:Int},x∈l->x<=bgN l/\0<=bgN l
 |y::r,x,h=>by
  have h0:0<=bgN r:=by
   cases r with
   |nil=>exact Int.le_refl _
   |cons z r=>exact(GO (l:=z::r) (x:=z) (by simp)).2
  unfold bgN;rcases an.1 h with rfl|h
  .omega
  .have:=GO h;omega
def Dh (vs:List Int) (x:Int):Int:=if x.toNat<vs.length then vs.getD x.toNat 0 else bgN vs+1+x
theorem KJ {vs:List Int} {i:Nat} (h:i<vs.length):vs.getD i 0=vs[i]:=by
 rw[cc,cH h];rfl
theorem Di {vs:List Int} (hd:vs.Nodup) {c c':Int} (h1:0<=c) (h3:0<=c') (h:Dh vs c=Dh vs c'):c=c':=by
 unfold Dh at h;split at h<;>split at h
 .rename_i p q;rw[KJ p,KJ q]at h;have:=(List.getElem_inj hd).1 h;omega
 .rename_i p q;rw[KJ p]at h;have:=GO (c3 p);omega
 .rename_i p q;rw[KJ q]at h;have:=GO (c3 q);omega
 .omega
theorem J6 [E:Env] {n:Nat} {needs:List (Int×Int)} {first:List Int} {ords:List (List Int)} {cut:Bool} (hn:n<=4) (hO:Gives CC 12 [.c (.int .i64 (n:Int)),.c (.sl (prD needs))] [.c (.sl (iR first)),.c (.int .i64 0)])
 (hL:∀o∈ords,Gives CC 14 [.c (.int .i64 (n:Int)),.c (.sl (prD needs)),.c (.sl (iR o))] [.c (.bool true)])
 (hB:∀cls∈rgs n 0,wY n needs first ords (cls.map Ls)=true)
 (hC:cut=true->∀o∈ords,o.length=n/\o.getD (n-1) 0=((n-1:Nat):Int)) {nums:List Int} (h:nums.length=n):PrcOk n needs cut nums:=by
 obtain⟨cls,vs,h1,h2,h3,h4⟩:=Nf nums [] List.nodup_nil;rw[h]at h1;simp only[List.nil_append]at h2 h3 h4;have hb:=hB cls h1;have hc:∀c∈cls.map Ls,0<=c/\c<4:=λc hc=>by obtain⟨k,hk,rfl⟩:=bs.1 hc;have:=S1 n 0 cls h1 k hk;simp only[Lv];omega
 have a0:(cls.map Ls).map (Dh vs)=nums:=by
  rw[h3,bF];refine dl λc hc=>?_
  have:=h4 c hc;show Dh vs (Ls c)=_;unfold Dh;simp only[Lv,M2];rw[if_pos this]
 obtain⟨o,c,m,q1,q2,q3,q4⟩:=Dg hb hc (Dh vs) (λc c' a1 _ a3 _ e=>Di h2 a1 a3 e) E;rw[a0]at q3 q4;exact⟨first,o,c,m,hO,q3,hL o q1,q4,q2,λhcut=>hC hcut o q1⟩
end Eng
end
section
namespace Eng
open Go Go.Proofs
section
variable [Env]
theorem Ng (x0 x1 y0 y1 a b c d:Int) (k:Bool):WG CB 373 [.int .i64 x0,.int .i64 x1,.int .i64 y0,.int .i64 y1,.bool k] [.ag [.int .i64 a,.int .i64 b],.ag [.int .i64 c,.int .i64 d]] []
 [.int .i64 (mnI a x0),.int .i64 (mxI x1 b),.int .i64 (mnI c y0),.int .i64 (mxI y1 d),.bool k]:=by
 refine OB (tab:=noT) (lim:=1000) (n:=40) mixedT (λ_ _ _ h=>by simp[noT]at h) rfl λg=>?_
 kernel_rfl
end
def S2:List D->List A->Bool
 |[.int .i64 _,.int .i64 _,.int .i64 _,.int .i64 _,.bool _],[.ag [.int .i64 _,.int .i64 _],.ag [.int .i64 _,.int .i64 _]]=>true
 |_,_=>false
def dG:List D->List A->List D
 |[.int .i64 x0,.int .i64 x1,.int .i64 y0,.int .i64 y1,.bool k],[.ag [.int .i64 a,.int .i64 b],.ag [.int .i64 c,.int .i64 d]]=>[.int .i64 (mnI a x0),.int .i64 (mxI x1 b),.int .i64 (mnI c y0),.int .i64 (mxI y1 d),.bool k]
 |_,_=>[]
noncomputable def CDL:List (Nat×wq):=[(373,TR S2 dG (λ_ _=>[]))]
noncomputable def CSp:Cx:=CX CDL
instance [Env]:EffOk CSp:=xd (zK ⟨OC (C:=CX CDL) Tryz.func373 (by simp[Tryz.f373]) (by decide) λds al h=>by
 unfold S2 at h;split at h
 .exact TP rfl rfl (Ng _ _ _ _ _ _ _ _ _)
 .simp at h,trivial⟩)
end Eng
end
section
open Go Go.Proofs Eng
namespace Eng
theorem AF (Gv:Nat->List A->List A->Prop) (I0:List D->List D->Prop) (M0:List D->Nat) (r0 r1 r2 r3 r4 r5:R4) (p0 p1:P20) (Q:List A->Prop):wpF CSp Gv (λ_=>⟨[.slot 22 (.int .i64 0),.box 3 [(.int .i64 0),(.int .i64 0),(.int .i64 0),(.int .i64 0),(.bool false)]],[],I0,M0⟩) Tryz.f326 [.ag (.bool false::rk r0 (rk r1 (rk r2 (rk r3 (rk r4 (rk r5 (.bool false::pk p0 (pk p1 []))))))))] Q=(I0 [] [dI (0:Int),dI (4611686018427387904:Int),dI (-4611686018427387904:Int),dI (4611686018427387904:Int),dI (-4611686018427387904:Int),Hu true]/\∀(i i_1 i_2 i_3 i_4:Int) (b:Bool),I0 [] [dI i,dI i_1,dI i_2,dI i_3,dI i_4,Hu b]->bB (decide (i<2)) ((0<=i/\i<2)/\∃x,cut (nth [] [(pk p0 []),(pk p1 [])] (No i)) 0 20 (pk x [])/\∃x1 x2 x3,Gv 133 [aP x] [aT x1 x2 x3]/\∃i_5 i_6 b1,Gv 331 [aT x1 x2 x3] [F0 [dI i_5,dI i_6],aB b1]/\∃x4 x5 x6,Gv 134 [aP x] [aT x4 x5 x6]/\∃i_7 i_8 b2,Gv 331 [aT x4 x5 x6] [F0 [dI i_7,dI i_8],aB b2]/\bB (!b1) (Q [F0 [dI (0:Int),dI (0:Int),dI (0:Int),dI (0:Int),Hu false]]) (bB (!b2) (Q [F0 [dI (0:Int),dI (0:Int),dI (0:Int),dI (0:Int),Hu false]]) (true=true/\I0 [] [dI (Hy .i64 (i+1)),dI (mnI i_5 i_1),dI (mxI i_2 i_6),dI (mnI i_7 i_3),dI (mxI i_4 i_8),Hu b]/\M0 [dI (Hy .i64 (i+1)),dI (mnI i_5 i_1),dI (mxI i_2 i_6),dI (mnI i_7 i_3),dI (mxI i_4 i_8),Hu b]<M0 [dI i,dI i_1,dI i_2,dI i_3,dI i_4,Hu b]))) (Q [F0 [dI i_1,dI i_2,dI i_3,dI i_4,Hu b]])):=by kernel_rfl
end Eng
end
section
namespace Eng
open Go Go.Proofs Rl
section
variable [Env]
theorem Rb:Gives CC 260 [] [.ag (rk (q4 0) [])]:=by
 refine z9 (C:=CC) (tab:=RX) (lim:=1000) mixedT (λf al rs h=>K0 f al rs h) 40 _ _ _ ?_
 kernel_rfl
theorem S3 (x:Rat):Gives CC 204 [.ag (rk (q4 x) []),.ag (rk (q4 0) []),.ag (rk (q4 0) [])] [.ag (rk (q4 x) (rk (q4 0) (rk (q4 0) [])))]:=by
 refine wpG Tryz.func204 ((MG ..).mpr ?_);exact⟨_,Uf 0,brb (λ_=>⟨_,Rb,rfl⟩) (λh=>by simp[sr]at h)⟩
theorem pXQ (x y:Rat):Gives CC 133 [.ag (kPt x y)] [.ag (rk (q4 x) (rk (q4 0) (rk (q4 0) [])))]:=by
 unfold kPt;refine wpG Tryz.func133 ((dx ..).mpr ?_);exact⟨_,_,_,S3 x,rfl⟩
theorem pYQ (x y:Rat):Gives CC 134 [.ag (kPt x y)] [.ag (rk (q4 y) (rk (q4 0) (rk (q4 0) [])))]:=by
 unfold kPt;refine wpG Tryz.func134 ((dy ..).mpr ?_);exact⟨_,_,_,S3 y,rfl⟩
structure Fr where
 lo:Int
 hi:Int
 ok:Bool
structure FrOk (x:Rat) (f:Fr):Prop where
 g:Gives CC 331 [.ag (rk (q4 x) (rk (q4 0) (rk (q4 0) [])))] [eIv f.lo f.hi,eOk f.ok]
 iv:IvB f.lo f.hi
def GP (f g:Fr) (n:Nat) (l:Int×Int):Int×Int:=match n with
 |0=>l
 |1=>(mnI f.lo l.1,mxI l.2 f.hi)
 |_=>(mnI g.lo (mnI f.lo l.1),mxI (mxI l.2 f.hi) g.hi)
def GQ:Int×Int:=(4611686018427387904, -4611686018427387904)
def Dj (fx fy gx gy:Fr):List D:=match fx.ok&&(fy.ok&&(gx.ok&&gy.ok))with
 |true=>[.int .i64 (GP fx gx 2 GQ).1,.int .i64 (GP fx gx 2 GQ).2,.int .i64 (GP fy gy 2 GQ).1,.int .i64 (GP fy gy 2 GQ).2,.bool true]
 |false=>[.int .i64 0,.int .i64 0,.int .i64 0,.int .i64 0,.bool false]
theorem AG {r0 r1 r2 r3 r4 r5:R4} {x1 y1 x2 y2:Rat} {fx fy gx gy:Fr} (h1:FrOk x1 fx) (h2:FrOk y1 fy) (h3:FrOk x2 gx) (h4:FrOk y2 gy):
 Gives CC 326 [.ag (.bool false::rk r0 (rk r1 (rk r2 (rk r3 (rk r4 (rk r5 (.bool false::pk ⟨q4 x1,q4 0,q4 y1,q4 0,q4 0⟩ (pk ⟨q4 x2,q4 0,q4 y2,q4 0,q4 0⟩ []))))))))] [.ag (Dj fx fy gx gy)]:=by
 refine xP (C:=CSp) rfl rfl ?_;refine qm (C:=CSp) (anns:=λ_=>⟨[.slot 22 (.int .i64 0),.box 3 [(.int .i64 0),(.int .i64 0),(.int .i64 0),(.int .i64 0),(.bool false)]],[],
  λ_ ds=>∃n:Nat,n<=2/\(0<n->fx.ok=true/\fy.ok=true)/\(1<n->gx.ok=true/\gy.ok=true)/\ds=[.int .i64 (n:Int),.int .i64 (GP fx gx n GQ).1,.int .i64 (GP fx gx n GQ).2,.int .i64 (GP fy gy n GQ).1,.int .i64 (GP fy gy n GQ).2,.bool true],
  λds=>(2-toI (nth .undef ds 0)).toNat⟩) mixedT Tryz.func326 ?_
 rw[AF];have a0:∀{f:Nat} {al rs:List A},Gives CC f al rs->Gives CSp f al rs:=λh=>xP (C:=CC) (C':=CSp) rfl rfl h
 refine⟨⟨0,by omega,λh=>by omega,λh=>by omega,rfl⟩,?_⟩;rintro i a b c d k ⟨n,hn,e1,e2,he⟩;simp only[ec,D.int.injEq,D.bool.injEq,and_true,true_and]at he;obtain⟨rfl,rfl,rfl,rfl,rfl,rfl⟩:=he;refine brd (λh=>?_) (λh=>?_)
 .refine⟨⟨by omega,h⟩,?_⟩;rcases(by omega:n=0\/n=1)with rfl|rfl
  .refine⟨_,⟨rfl,et 20⟩,_,_,_,a0 (pXQ x1 y1),_,_,_,a0 h1.g,_,_,_,a0 (pYQ x1 y1),_,_,_,a0 h2.g,?_⟩;cases o1:fx.ok with
   |false=>exact brb (λ_=>by unfold Dj;rw[o1];rfl) (λh=>by simp at h)
   |true=>
    refine brb (λh=>by simp at h) (λ_=>?_);cases o2:fy.ok with
    |false=>exact brb (λ_=>by unfold Dj;rw[o1,o2];rfl) (λh=>by simp at h)
    |true=>refine brb (λh=>by simp at h) (λ_=>⟨rfl,⟨1,by omega,λ_=>⟨rfl,rfl⟩,λh=>by omega,rfl⟩,?_⟩);exact(show(1:Nat)<2 by omega)
  .obtain⟨o1,o2⟩:=e1 (by omega);refine⟨_,⟨rfl,et 20⟩,_,_,_,a0 (pXQ x2 y2),_,_,_,a0 h3.g,_,_,_,a0 (pYQ x2 y2),_,_,_,a0 h4.g,?_⟩;cases o3:gx.ok with
   |false=>exact brb (λ_=>by unfold Dj;rw[o1,o2,o3];rfl) (λh=>by simp at h)
   |true=>
    refine brb (λh=>by simp at h) (λ_=>?_);cases o4:gy.ok with
    |false=>exact brb (λ_=>by unfold Dj;rw[o1,o2,o3,o4];rfl) (λh=>by simp at h)
    |true=>refine brb (λh=>by simp at h) (λ_=>⟨rfl,⟨2,by omega,λ_=>⟨o1,o2⟩,λ_=>⟨rfl,rfl⟩,rfl⟩,?_⟩);exact(show(0:Nat)<1 by omega)
 .obtain rfl:n=2:=by omega
  obtain⟨o1,o2⟩:=e1 (by omega);obtain⟨o3,o4⟩:=e2 (by omega);unfold Dj;rw[o1,o2,o3,o4];rfl
end
end Eng
end
section
namespace Eng
open Go Go.Proofs Rl
def prF (a b:Int):Fr:=match decide (a< -2305843009213693952)||decide (b>2305843009213693952)with
 |true=>⟨0,0,false⟩
 |false=>⟨a,b,true⟩
def frF (x:Rat):Fr:=match(Vt (x*65536).floor).2&&(Vt (-(-(x*65536)).floor)).2 with
 |true=>prF (x*65536).floor (-(-(x*65536)).floor)
 |false=>⟨0,0,false⟩
section
variable [Env]
theorem GR (a b:Int):Gives CC 409 [.c (.int .i64 a),.c (.int .i64 b)] [eIv (prF a b).lo (prF a b).hi,eOk (prF a b).ok]:=by
 by_cases h:a< -2305843009213693952
 .have e:prF a b=⟨0,0,false⟩:=by unfold prF;rw[decide_eq_true h];rfl
  rw[e];refine wpG Tryz.func409 ((j9 ..).mpr ?_);exact brd (λ_=>rfl) (λk=>absurd h k)
 by_cases h2:b>2305843009213693952
 .have e:prF a b=⟨0,0,false⟩:=by unfold prF;rw[decide_eq_true h2,Bool.or_true]
  rw[e];refine wpG Tryz.func409 ((j9 ..).mpr ?_);exact brd (λk=>absurd k h) (λ_=>brd (λ_=>rfl) (λk=>absurd h2 k))
 .have e:prF a b=⟨a,b,true⟩:=by unfold prF;rw[decide_eq_false h,decide_eq_false h2];rfl
  rw[e];refine wpG Tryz.func409 ((j9 ..).mpr ?_);exact brd (λk=>absurd k h) (λ_=>brd (λk=>absurd k h2) (λ_=>rfl))
theorem Z3 {x:Rat} {k:Nat} (hx:Hz k x) (h:k<300000:=by omega):Gives CC 374 [.ag (rk (q4 x) [])] [eIv (frF x).lo (frF x).hi,eOk (frF x).ok]:=by
 have h0:=bInt (n:=65536) (by omega) (by omega);have hz:Hz 5 ((65536:Int):Rat):=Hz.int (by decide);have hm:=hx.mul hz (l:=k+5);have h1:=dz hx hz (by omega);have h2:=Vo hm (by omega);have h3:=bNeg hm (by omega);have h4:=Vo hm.neg (by omega);have e:x*((65536:Int):Rat)=x*65536:=by rfl
 rw[e]at h1 h2 h3 h4 hm;have sf:∀{y:Rat} {j:Nat},Hz j y->j<300010->Sm y.floor:=λ{y j} hy hj=>by have hs:=(hy.sr (by omega)).1.sm;rw[hA];exact ei (Ts _ _) hs
 have s1:=sf hm (by omega);have s2:=sf hm.neg (by omega);unfold frF;generalize (x*65536).floor=f at *;generalize (-(x*65536)).floor=g at *;have s3:Sm (-g):=by unfold Sm at s2 ⊢;rw[Tk];exact s2
 have h5:=up (Qq s2);have g1:=EF s1;have g2:=EF s3;rw[qX]at h2 h4 h5 g1 g2;rw[qX]at h5;have p1:=GR f (-g);by_cases o1: -9223372036854775808<=f/\f<=9223372036854775807
 .have i1:Vt f=(f,true):=if_pos o1;rw[i1]at g1 ⊢;by_cases o2: -9223372036854775808<= -g/\ -g<=9223372036854775807
  .have i2:Vt (-g)=(-g,true):=if_pos o2;rw[i2]at g2 ⊢;refine wpG Tryz.func374 ((jf ..).mpr ?_);exact⟨_,h0,_,h1,_,_,h2,_,_,g1,_,h3,_,_,h4,_,_,h5,_,_,g2,brT (brT ⟨_,_,_,p1,rfl⟩)⟩
  .have i2:Vt (-g)=(0,false):=if_neg o2;rw[i2]at g2 ⊢;refine wpG Tryz.func374 ((jf ..).mpr ?_);exact⟨_,h0,_,h1,_,_,h2,_,_,g1,_,h3,_,_,h4,_,_,h5,_,_,g2,brT (brF rfl)⟩
 .have i1:Vt f=(0,false):=if_neg o1;rw[i1]at g1 ⊢;refine wpG Tryz.func374 ((jf ..).mpr ?_);exact⟨_,h0,_,h1,_,_,h2,_,_,g1,_,h3,_,_,h4,_,_,h5,_,_,g2,brF rfl⟩
omit [Env] in
theorem AH (x:Rat):IvB (frF x).lo (frF x).hi:=by
 have f1:=h8 (x*65536);have f2:=h8 (-(x*65536));unfold frF;generalize (x*65536).floor=f at *;generalize (-(x*65536)).floor=g at *;have fg:f<= -g:=by
  have:(f:Rat)<=((-g:Int):Rat):=by rw[h6];grind
  exact hD.1 this
 split
 .unfold prF;split
  .exact .zero
  .rename_i h;rw[Bool.or_eq_false_iff,decide_eq_false_iff_not,decide_eq_false_iff_not]at h;unfold IvB FB;show(_<=f/\f<=_)/\(_<= -g/\ -g<=_)/\f<= -g;omega
 .exact .zero
theorem AI {x:Rat} {k:Nat} (hx:Hz k x) (h:k<300000:=by omega):FrOk x (frF x):=by
 have ga:=Z3 hx;refine⟨?_,AH x⟩;refine wpG Tryz.func331 ((G9 ..).mpr ?_);cases e:(frF x).ok with
 |false=>rw[e]at ga;exact⟨_,_,_,ga,brF rfl⟩
 |true=>rw[e]at ga;exact⟨_,_,_,ga,brT ⟨_,Uf 0,brb (λ_=>rfl) (λh=>by simp[sr]at h)⟩⟩
end
end Eng
end
section
namespace Eng
open Go Go.Proofs
variable [Env] [xr]
noncomputable def T1L:List (Nat×wq):=[(392,xC jO CB 392 22),
 (398,xC jO CB 398 66),
 (444,xC jO CB 444 20)]
noncomputable def T1:Cx:=CX (T1L)
instance:EffOk (T1):=xd (zK ⟨qy (C:=CB) (C':=CX (T1L)) mixedT qu rfl rfl Tryz.func392 (by simp[Tryz.f392]) (by decide),
 qy (C:=CB) (C':=CX (T1L)) mixedT qu rfl rfl Tryz.func398 (by simp[Tryz.f398]) (by decide),
 qy (C:=CB) (C':=CX (T1L)) mixedT qu rfl rfl Tryz.func444 (by simp[Tryz.f444]) (by decide),trivial⟩)
noncomputable def T2L:List (Nat×wq):=[(365,xC jO T1 365 22),
 (370,xC jO T1 370 66),
 (420,xC jO T1 420 20),
 (372,xC jO T1 372 66)]
noncomputable def T2:Cx:=CX (T2L)
instance:EffOk (T2):=xd (zK ⟨qy (C:=T1) (C':=CX (T2L)) mixedT qu rfl rfl Tryz.func365 (by simp[Tryz.f365]) (by decide),
 qy (C:=T1) (C':=CX (T2L)) mixedT qu rfl rfl Tryz.func370 (by simp[Tryz.f370]) (by decide),
 qy (C:=T1) (C':=CX (T2L)) mixedT qu rfl rfl Tryz.func420 (by simp[Tryz.f420]) (by decide),
 qy (C:=T1) (C':=CX (T2L)) mixedT qu rfl rfl Tryz.func372 (by simp[Tryz.f372]) (by decide),trivial⟩)
noncomputable def T3L:List (Nat×wq):=[(316,xC jO T2 316 22),
 (322,xC jO T2 322 66),
 (394,zm (zC jO CB CB 394) (xC jO T2 394 20)),
 (325,xC jO T2 325 66),
 (377,zm (zC jO CB CB 377) (vK jO T2 377 20)),
 (397,zm (zC jO CB CB 397) (wQ jO T2 397 20)),
 (318,zm (zC jO CB CB 318) (WI jO T2 318 20))]
noncomputable def T3:Cx:=CX (T3L)
instance:EffOk (T3):=xd (zK ⟨qy (C:=T2) (C':=CX (T3L)) mixedT qu rfl rfl Tryz.func316 (by simp[Tryz.f316]) (by decide),
 qy (C:=T2) (C':=CX (T3L)) mixedT qu rfl rfl Tryz.func322 (by simp[Tryz.f322]) (by decide),
 qN (qO (C:=CB) (C':=CX (T3L)) mixedT qu rfl rfl) (qy (C:=T2) (C':=CX (T3L)) mixedT qu rfl rfl Tryz.func394 (by simp[Tryz.f394]) (by decide)),
 qy (C:=T2) (C':=CX (T3L)) mixedT qu rfl rfl Tryz.func325 (by simp[Tryz.f325]) (by decide),
 qN (qO (C:=CB) (C':=CX (T3L)) mixedT qu rfl rfl) (zD (C:=T2) (C':=CX (T3L)) mixedT qu rfl rfl Tryz.func377 (by simp[Tryz.f377]) (by decide)),
 qN (qO (C:=CB) (C':=CX (T3L)) mixedT qu rfl rfl) (zn (C:=T2) (C':=CX (T3L)) mixedT qu rfl rfl Tryz.func397 (by simp[Tryz.f397]) (by decide)),
 qN (qO (C:=CB) (C':=CX (T3L)) mixedT qu rfl rfl) (kS (C:=T2) (C':=CX (T3L)) mixedT qu rfl rfl Tryz.func318 (by simp[Tryz.f318]) (by decide)),trivial⟩)
noncomputable def T4L:List (Nat×wq):=[(316,xC jO T2 316 22),
 (322,xC jO T2 322 66),
 (394,zm (zC jO CB CB 394) (xC jO T2 394 20)),
 (325,xC jO T2 325 66),
 (377,zm (zC jO CB CB 377) (vK jO T2 377 20)),
 (397,zm (zC jO CB CB 397) (wQ jO T2 397 20)),
 (318,zm (zC jO CB CB 318) (WI jO T2 318 20)),
 (320,HD jO T3 320)]
noncomputable def T4:Cx:=CX (T4L)
instance:EffOk (T4):=xd (zK ⟨qy (C:=T2) (C':=CX (T4L)) mixedT qu rfl rfl Tryz.func316 (by simp[Tryz.f316]) (by decide),
 qy (C:=T2) (C':=CX (T4L)) mixedT qu rfl rfl Tryz.func322 (by simp[Tryz.f322]) (by decide),
 qN (qO (C:=CB) (C':=CX (T4L)) mixedT qu rfl rfl) (qy (C:=T2) (C':=CX (T4L)) mixedT qu rfl rfl Tryz.func394 (by simp[Tryz.f394]) (by decide)),
 qy (C:=T2) (C':=CX (T4L)) mixedT qu rfl rfl Tryz.func325 (by simp[Tryz.f325]) (by decide),
 qN (qO (C:=CB) (C':=CX (T4L)) mixedT qu rfl rfl) (zD (C:=T2) (C':=CX (T4L)) mixedT qu rfl rfl Tryz.func377 (by simp[Tryz.f377]) (by decide)),
 qN (qO (C:=CB) (C':=CX (T4L)) mixedT qu rfl rfl) (zn (C:=T2) (C':=CX (T4L)) mixedT qu rfl rfl Tryz.func397 (by simp[Tryz.f397]) (by decide)),
 qN (qO (C:=CB) (C':=CX (T4L)) mixedT qu rfl rfl) (kS (C:=T2) (C':=CX (T4L)) mixedT qu rfl rfl Tryz.func318 (by simp[Tryz.f318]) (by decide)),
 yH (C:=T3) (C':=CX (T4L)) mixedT qu rfl rfl Tryz.func320 (by simp[Tryz.f320]) (by decide),trivial⟩)
noncomputable def KTL:List (Nat×wq):=[(316,xC jO T2 316 22),
 (322,xC jO T2 322 66),
 (394,zm (zC jO CB CB 394) (xC jO T2 394 20)),
 (325,xC jO T2 325 66),
 (377,zm (zC jO CB CB 377) (vK jO T2 377 20)),
 (397,zm (zC jO CB CB 397) (wQ jO T2 397 20)),
 (318,zm (zC jO CB CB 318) (WI jO T2 318 20)),
 (320,HD jO T3 320),
 (256,vK jO T4 256 66),
 (255,wQ jO T4 255 66)]
noncomputable def KT:Cx:=CX (KTL)
instance:EffOk (KT):=xd (zK ⟨qy (C:=T2) (C':=CX (KTL)) mixedT qu rfl rfl Tryz.func316 (by simp[Tryz.f316]) (by decide),
 qy (C:=T2) (C':=CX (KTL)) mixedT qu rfl rfl Tryz.func322 (by simp[Tryz.f322]) (by decide),
 qN (qO (C:=CB) (C':=CX (KTL)) mixedT qu rfl rfl) (qy (C:=T2) (C':=CX (KTL)) mixedT qu rfl rfl Tryz.func394 (by simp[Tryz.f394]) (by decide)),
 qy (C:=T2) (C':=CX (KTL)) mixedT qu rfl rfl Tryz.func325 (by simp[Tryz.f325]) (by decide),
 qN (qO (C:=CB) (C':=CX (KTL)) mixedT qu rfl rfl) (zD (C:=T2) (C':=CX (KTL)) mixedT qu rfl rfl Tryz.func377 (by simp[Tryz.f377]) (by decide)),
 qN (qO (C:=CB) (C':=CX (KTL)) mixedT qu rfl rfl) (zn (C:=T2) (C':=CX (KTL)) mixedT qu rfl rfl Tryz.func397 (by simp[Tryz.f397]) (by decide)),
 qN (qO (C:=CB) (C':=CX (KTL)) mixedT qu rfl rfl) (kS (C:=T2) (C':=CX (KTL)) mixedT qu rfl rfl Tryz.func318 (by simp[Tryz.f318]) (by decide)),
 yH (C:=T3) (C':=CX (KTL)) mixedT qu rfl rfl Tryz.func320 (by simp[Tryz.f320]) (by decide),
 zD (C:=T4) (C':=CX (KTL)) mixedT qu rfl rfl Tryz.func256 (by simp[Tryz.f256]) (by decide),
 zn (C:=T4) (C':=CX (KTL)) mixedT qu rfl rfl Tryz.func255 (by simp[Tryz.f255]) (by decide),trivial⟩)
end Eng
end
section
namespace Eng
def vcT (x y:Pol):List D:=tkR [x,y]
def pol0:List A:=[.c (.sl [vcT lX0 lY0,vcT lX1 lY0,vcT lX1 lY1,vcT lX0 lY1])]
def pol1:List A:=[.c (.sl [vcT lX0 lY0,vcT lX1 lY0,vcT lX1 lYm,vcT lXm lY1,vcT lX0 lY1])]
def pol2:List A:=[.c (.sl [vcT lX0 lY0,vcT lX1 lY0,vcT lX0 lY1])]
def dH:List D:=tkR [lt 4,lt 5,ZA (lt 6) (lt 6)]
end Eng
end
section
open Go Go.Proofs Eng
namespace Eng
theorem Dk (Gv:Nat->List A->List A->Prop) (I0:List D->List D->Prop) (M0:List D->Nat) (r0 r1 r2 r3 r4 r5:R4) (cw:Bool) (p0 p1:P20) (Q:List A->Prop):wpF CSp Gv (λ_=>⟨[.slot 22 (.int .i64 0),.box 3 [(.int .i64 0),(.int .i64 0),(.int .i64 0),(.int .i64 0),(.bool false)]],[],I0,M0⟩) Tryz.f326 [.ag (.bool true::rk r0 (rk r1 (rk r2 (rk r3 (rk r4 (rk r5 (.bool cw::pk p0 (pk p1 []))))))))] Q=(I0 [] [dI (0:Int),dI (4611686018427387904:Int),dI (-4611686018427387904:Int),dI (4611686018427387904:Int),dI (-4611686018427387904:Int),Hu true]/\∀(i i_1 i_2 i_3 i_4:Int) (b:Bool),I0 [] [dI i,dI i_1,dI i_2,dI i_3,dI i_4,Hu b]->bB (decide (i<2)) ((0<=i/\i<2)/\∃x,cut (nth [] [(pk p0 []),(pk p1 [])] (No i)) 0 20 (pk x [])/\∃x1 x2 x3,Gv 133 [aP x] [aT x1 x2 x3]/\∃i_5 i_6 b1,Gv 331 [aT x1 x2 x3] [F0 [dI i_5,dI i_6],aB b1]/\∃x4 x5 x6,Gv 134 [aP x] [aT x4 x5 x6]/\∃i_7 i_8 b2,Gv 331 [aT x4 x5 x6] [F0 [dI i_7,dI i_8],aB b2]/\bB (!b1) (Q [F0 [dI (0:Int),dI (0:Int),dI (0:Int),dI (0:Int),Hu false]]) (bB (!b2) (Q [F0 [dI (0:Int),dI (0:Int),dI (0:Int),dI (0:Int),Hu false]]) (true=true/\I0 [] [dI (Hy .i64 (i+1)),dI (mnI i_5 i_1),dI (mxI i_2 i_6),dI (mnI i_7 i_3),dI (mxI i_4 i_8),Hu b]/\M0 [dI (Hy .i64 (i+1)),dI (mnI i_5 i_1),dI (mxI i_2 i_6),dI (mnI i_7 i_3),dI (mxI i_4 i_8),Hu b]<M0 [dI i,dI i_1,dI i_2,dI i_3,dI i_4,Hu b]))) (∃i i_5 b1,Gv 374 [aR r4] [F0 [dI i,dI i_5],aB b1]/\∃i_6 i_7 b2,Gv 374 [aR r5] [F0 [dI i_6,dI i_7],aB b2]/\bB (!b1) (Q [F0 [dI (0:Int),dI (0:Int),dI (0:Int),dI (0:Int),Hu false]]) (bB (!b2) (Q [F0 [dI (0:Int),dI (0:Int),dI (0:Int),dI (0:Int),Hu false]]) (∃i_8 i_9 b3,Gv 375 [F0 [dI i_6,dI i_7]] [F0 [dI i_8,dI i_9],aB b3]/\bB (!b3) (Q [F0 [dI (0:Int),dI (0:Int),dI (0:Int),dI (0:Int),Hu false]]) (br cw (Q [F0 [dI i_1,dI i_2,dI i_3,dI (match decide (i_4<Hy .i64 (i_5+i_9))with|true=>Hy .i64 (i_5+i_9)|false=>i_4),Hu b]]) (Q [F0 [dI i_1,dI i_2,dI (match decide (Hy .i64 (i-i_9)<i_3)with|true=>Hy .i64 (i-i_9)|false=>i_3),dI i_4,Hu b]])))))):=by kernel_rfl
end Eng
end
section
namespace Eng
end Eng
end
section
namespace Eng
def tkE (p:Pol) (x:List D):List D:= .tok p 0:: .tok p 1:: .tok p 2:: .tok p 3::x
def zrE (x:List D):List D:= .bool false:: .sl []:: .bool false:: .sl []::x
def Dl:List D:= .cons (.bool false)<|tkE []<|tkE [(3,[0,0,1])]<|tkE [(3,[0,1,1])]<|zrE<|zrE<|zrE<|.cons (.bool false)<|tkE [(1,[1])]<|tkE []<|tkE [(1,[0,1])]<|tkE []<|tkE []<|tkE [(3,[0,0,1]),(1,[1])]<|tkE []<|tkE [(1,[0,1])]<|tkE []<|tkE []<|[]
def Dm:List D:= .cons (.bool false)<|tkE [(2,[0,0,0,1])]<|tkE []<|tkE [(2,[1,0,0,1])]<|zrE<|zrE<|zrE<|.cons (.bool false)<|tkE [(1,[1])]<|tkE []<|tkE [(1,[0,1])]<|tkE []<|tkE []<|tkE [(1,[1])]<|tkE []<|tkE [(2,[0,0,0,1]),(1,[0,1])]<|tkE []<|tkE []<|[]
def Dn:List D:= .cons (.bool false)<|tkE []<|tkE [(-3,[0,0,1])]<|tkE [(-6,[0,0,1,1]),(-3,[0,1,1])]<|zrE<|zrE<|zrE<|.cons (.bool false)<|tkE [(1,[1])]<|tkE []<|tkE [(2,[0,0,0,1]),(1,[0,1])]<|tkE []<|tkE []<|tkE [(3,[0,0,1]),(1,[1])]<|tkE []<|tkE [(2,[0,0,0,1]),(1,[0,1])]<|tkE []<|tkE []<|[]
def Do:List D:= .cons (.bool false)<|tkE [(-2,[0,0,0,1])]<|tkE []<|tkE [(-6,[0,0,1,1]),(-2,[1,0,0,1])]<|zrE<|zrE<|zrE<|.cons (.bool false)<|tkE [(3,[0,0,1]),(1,[1])]<|tkE []<|tkE [(1,[0,1])]<|tkE []<|tkE []<|tkE [(3,[0,0,1]),(1,[1])]<|tkE []<|tkE [(2,[0,0,0,1]),(1,[0,1])]<|tkE []<|tkE []<|[]
def Dp:List D:= .cons (.bool false)<|tkE []<|tkE [(3,[0,0,1])]<|tkE [(3,[0,1,1])]<|zrE<|zrE<|zrE<|.cons (.bool false)<|tkE [(1,[1])]<|tkE []<|tkE [(1,[0,1])]<|tkE []<|tkE []<|tkE [(3,[0,0,1]),(1,[1])]<|tkE []<|tkE [(1,[0,1])]<|tkE []<|tkE []<|[]
def Dq:List D:= .cons (.bool false)<|tkE [(2,[0,0,0,1])]<|tkE []<|tkE [(2,[1,0,0,1])]<|zrE<|zrE<|zrE<|.cons (.bool false)<|tkE [(1,[1])]<|tkE []<|tkE [(1,[0,1])]<|tkE []<|tkE []<|tkE [(1,[1])]<|tkE []<|tkE [(2,[0,0,0,1]),(1,[0,1])]<|tkE []<|tkE []<|[]
def Dr:List D:= .cons (.bool false)<|tkE [(-2,[0,0,0,1])]<|tkE [(-3,[0,0,1])]<|tkE [(-6,[0,0,1,1]),(-3,[0,1,1]),(-2,[1,0,0,1])]<|zrE<|zrE<|zrE<|.cons (.bool false)<|tkE [(1,[1])]<|tkE []<|tkE [(2,[0,0,0,1]),(1,[0,1])]<|tkE []<|tkE []<|tkE [(3,[0,0,1]),(1,[1])]<|tkE []<|tkE [(1,[0,1])]<|tkE []<|tkE []<|[]
def AJ:List D:= .cons (.bool true)<|zrE<|zrE<|zrE<|tkE [(1,[0,0,0,0,1])]<|tkE [(1,[0,0,0,0,0,1])]<|tkE [(1,[0,0,0,0,0,0,2])]<|.cons (.bool false)<|tkE [(-1,[0,0,0,0,0,0,1]),(1,[0,0,0,0,1])]<|tkE []<|tkE [(1,[0,0,0,0,0,1])]<|tkE []<|tkE []<|tkE [(1,[0,0,0,0,0,0,1]),(1,[0,0,0,0,1])]<|tkE []<|tkE [(1,[0,0,0,0,0,1])]<|tkE []<|tkE []<|[]
def AK:List D:= .cons (.bool true)<|zrE<|zrE<|zrE<|tkE [(1,[0,0,0,0,1])]<|tkE [(1,[0,0,0,0,0,1])]<|tkE [(1,[0,0,0,0,0,0,2])]<|.cons (.bool true)<|tkE [(-1,[0,0,0,0,0,0,1]),(1,[0,0,0,0,1])]<|tkE []<|tkE [(1,[0,0,0,0,0,1])]<|tkE []<|tkE []<|tkE [(1,[0,0,0,0,0,0,1]),(1,[0,0,0,0,1])]<|tkE []<|tkE [(1,[0,0,0,0,0,1])]<|tkE []<|tkE []<|[]
def Ds:List D:= .cons (.bool false)<|tkE []<|tkE [(3,[0,0,1])]<|tkE [(3,[0,1,1])]<|zrE<|zrE<|zrE<|.cons (.bool false)<|tkE [(1,[1])]<|tkE []<|tkE [(1,[0,1])]<|tkE []<|tkE []<|tkE [(3,[0,0,1]),(1,[1])]<|tkE []<|tkE [(1,[0,1])]<|tkE []<|tkE []<|[]
def Dt:List D:= .cons (.bool false)<|tkE [(2,[0,0,0,1])]<|tkE []<|tkE [(2,[1,0,0,1])]<|zrE<|zrE<|zrE<|.cons (.bool false)<|tkE [(1,[1])]<|tkE []<|tkE [(1,[0,1])]<|tkE []<|tkE []<|tkE [(1,[1])]<|tkE []<|tkE [(2,[0,0,0,1]),(1,[0,1])]<|tkE []<|tkE []<|[]
def Du:List D:= .cons (.bool false)<|tkE []<|tkE [(3000,[]),(-3,[0,0,1])]<|tkE [(6000,[0,0,0,1]),(-6,[0,0,1,1]),(3000,[0,1]),(-3,[0,1,1])]<|zrE<|zrE<|zrE<|.cons (.bool false)<|tkE [(1,[1])]<|tkE []<|tkE [(2,[0,0,0,1]),(1,[0,1])]<|tkE []<|tkE []<|tkE [(-3000,[]),(3,[0,0,1]),(1,[1])]<|tkE []<|tkE [(2,[0,0,0,1]),(1,[0,1])]<|tkE []<|tkE []<|[]
def Dv:List D:= .cons (.bool false)<|tkE [(-2000,[])]<|tkE [(-3000,[])]<|tkE [(6000000,[]),(-6000,[0,0,0,1]),(-6000,[0,0,1]),(-3000,[0,1]),(-2000,[1])]<|zrE<|zrE<|zrE<|.cons (.bool false)<|tkE [(-3000,[]),(3,[0,0,1]),(1,[1])]<|tkE []<|tkE [(2,[0,0,0,1]),(1,[0,1])]<|tkE []<|tkE []<|tkE [(3,[0,0,1]),(1,[1])]<|tkE []<|tkE [(-2000,[]),(2,[0,0,0,1]),(1,[0,1])]<|tkE []<|tkE []<|[]
def Dw:List D:= .cons (.bool false)<|tkE [(2000,[]),(-2,[0,0,0,1])]<|tkE []<|tkE [(6000,[0,0,1]),(-6,[0,0,1,1]),(2000,[1]),(-2,[1,0,0,1])]<|zrE<|zrE<|zrE<|.cons (.bool false)<|tkE [(3,[0,0,1]),(1,[1])]<|tkE []<|tkE [(1,[0,1])]<|tkE []<|tkE []<|tkE [(3,[0,0,1]),(1,[1])]<|tkE []<|tkE [(-2000,[]),(2,[0,0,0,1]),(1,[0,1])]<|tkE []<|tkE []<|[]
def AL:List D:= .cons (.bool true)<|tkE []<|tkE []<|tkE []<|tkE [(1,[0,0,0,0,1])]<|tkE [(1,[0,0,0,0,0,1])]<|tkE [(1,[0,0,0,0,0,0,2])]<|.cons (.bool false)<|tkE [(-1,[0,0,0,0,0,0,1]),(1,[0,0,0,0,1])]<|tkE []<|tkE [(1,[0,0,0,0,0,1])]<|tkE []<|tkE []<|tkE [(1,[0,0,0,0,0,0,1]),(1,[0,0,0,0,1])]<|tkE []<|tkE [(1,[0,0,0,0,0,1])]<|tkE []<|tkE []<|[]
def AM:List D:= .cons (.bool true)<|tkE []<|tkE []<|tkE []<|tkE [(1,[0,0,0,0,1])]<|tkE [(1,[0,0,0,0,0,1])]<|tkE [(1,[0,0,0,0,0,0,2])]<|.cons (.bool true)<|tkE [(-1,[0,0,0,0,0,0,1]),(1,[0,0,0,0,1])]<|tkE []<|tkE [(1,[0,0,0,0,0,1])]<|tkE []<|tkE []<|tkE [(1,[0,0,0,0,0,0,1]),(1,[0,0,0,0,1])]<|tkE []<|tkE [(1,[0,0,0,0,0,1])]<|tkE []<|tkE []<|[]
end Eng
end
section
namespace Eng
def rg0:List A:=[.ag [.sl [Dl,Dm,Dn,Do]]]
def rg1:List A:=[.ag [.sl [Ds,Dt,Du,Dv,Dw]]]
def rg2:List A:=[.ag [.sl [Dp,Dq,Dr]]]
def rgD:List A:=[.ag [.sl [AJ,AK]]]
end Eng
end
section
open Go Go.Proofs Eng
namespace Eng
theorem Nh (Gv:Nat->List A->List A->Prop) (I0:List D->List D->Prop) (M0:List D->Nat) (a0 a1 a2 a3 co h0 h1 h2 fr ha d0 d1 c0 c1 c2 m0 m1 m2 dr to:Int) (Q:List A->Prop):B1 CC Gv (λ_=>⟨[.own 3 46 8,.slot 4 (.int .i64 0)],[],I0,M0⟩) (λn=>match n with|0=>4|_=>0) Tryz.f7 [.ag (.int .u8 a0:: .int .u8 a1:: .int .u8 a2:: .int .u8 a3:: .int .u8 co:: .int .u8 h0:: .int .u8 h1:: .int .u8 h2:: .int .u8 fr:: .int .u8 ha:: .int .u8 d0:: .int .u8 d1:: .int .u8 c0:: .int .u8 c1:: .int .u8 c2:: .int .u8 m0:: .int .u8 m1:: .int .u8 m2:: .int .u8 dr:: .int .u8 to::[])] Q=((6:Int)≠(0:Int)/\∃i i_1 i_2 i_3 i_4 i_5 i_6 i_7,Gv 26 [aI (1:Int),aI (Hy .i64 (2500+Hy .i64 (500*Hy .i64 (Lr m0 (6:Int)))))] [F0 [dI i,dI i_1,dI i_2,dI i_3,dI i_4,dI i_5,dI i_6,dI i_7]]/\(room 1/\lens 8 [[dI i,dI i_1,dI i_2,dI i_3,dI i_4,dI (2000:Int),dI i_6,dI i_7]])/\(6:Int)≠(0:Int)/\∃i_8 i_9 i_10 i_11 i_12 i_13 i_14 i_15,Gv 26 [aI (2:Int),aI (Hy .i64 (2500+Hy .i64 (500*Hy .i64 (Lr m1 (6:Int)))))] [F0 [dI i_8,dI i_9,dI i_10,dI i_11,dI i_12,dI i_13,dI i_14,dI i_15]]/\(room 2/\lens 8 [[dI i_8,dI i_9,dI i_10,dI (4000:Int),dI i_12,dI (2000:Int),dI i_14,dI i_15]])/\(6:Int)≠(0:Int)/\∃i_16 i_17 i_18 i_19 i_20 i_21 i_22 i_23,Gv 26 [aI (3:Int),aI (Hy .i64 (2500+Hy .i64 (500*Hy .i64 (Lr m2 (6:Int)))))] [F0 [dI i_16,dI i_17,dI i_18,dI i_19,dI i_20,dI i_21,dI i_22,dI i_23]]/\(room 3/\lens 8 [[dI i_16,dI i_17,dI i_18,dI i_19,dI i_20,dI (2000:Int),dI i_22,dI i_23]])/\(5:Int)≠(0:Int)/\∃i_24 i_25 i_26 i_27 i_28 i_29 i_30 i_31,Gv 26 [aI (4:Int),aI (Hy .i64 (1000*Hy .i64 (1+Hy .i64 (Lr dr (5:Int)))))] [F0 [dI i_24,dI i_25,dI i_26,dI i_27,dI i_28,dI i_29,dI i_30,dI i_31]]/\∃i_32 i_33 i_34 i_35 i_36 i_37 i_38 i_39,Gv 26 [aI (5:Int),aI (1500:Int)] [F0 [dI i_32,dI i_33,dI i_34,dI i_35,dI i_36,dI i_37,dI i_38,dI i_39]]/\(room 5/\lens 8 [[dI i_24,dI (2:Int),dI i_26,dI i_27,dI i_28,dI i_29,dI i_30,dI i_31],[dI i_32,dI (3:Int),dI i_34,dI i_35,dI i_36,dI i_37,dI i_38,dI i_39]])/\Q [aL [[dI i,dI i_1,dI i_2,dI i_3,dI i_4,dI (2000:Int),dI i_6,dI i_7],[dI i_8,dI i_9,dI i_10,dI (4000:Int),dI i_12,dI (2000:Int),dI i_14,dI i_15],[dI i_16,dI i_17,dI i_18,dI i_19,dI i_20,dI (2000:Int),dI i_22,dI i_23],[dI i_24,dI (2:Int),dI i_26,dI i_27,dI i_28,dI i_29,dI i_30,dI i_31],[dI i_32,dI (3:Int),dI i_34,dI i_35,dI i_36,dI i_37,dI i_38,dI i_39]]]):=by kernel_rfl
end Eng
end
section
open Go Go.Proofs Eng
namespace Eng
theorem Rc (Gv:Nat->List A->List A->Prop) (i0:Int) (i1:Int) (Q:List A->Prop):wpF CC Gv an0 Tryz.f112 [.c (.int .i64 i0),.c (.int .i64 i1)] Q=(∃x,Gv 63 [aI i0] [aR x]/\∃x1,Gv 63 [aI i1] [aR x1]/\Q [aV x x1]):=by kernel_rfl
end Eng
end
section
namespace Eng
open Go Go.Proofs
theorem Rd {n:Nat} (h:n<=1000000):room n:=by unfold room;omega
def Ui (m:Int):Int:=2500+500*Lr m 6
def t0S (m:Int):TL:=⟨1,1,Ui m,20000,Ui m+7000,2000,20000,5000⟩
def t1S (m:Int):TL:=⟨2,1,Ui m,4000,Ui m+7000,2000,20000,5000⟩
def t2S (m:Int):TL:=⟨3,1,Ui m,20000,Ui m+7000,2000,20000,5000⟩
def t3S (d:Int):TL:=⟨4,2,1000*(1+Lr d 5),20000,1000*(1+Lr d 5)+7000,1500,20000,5000⟩
def t4S:TL:=⟨5,3,1500,20000,8500,1500,20000,5000⟩
theorem J7 {m:Int} (h:0<=m):2500<=Ui m/\Ui m<=5000:=by
 have:=xt (b:=6) h (by omega);unfold Ui;omega
section
variable {m0 m1 m2 dr:Int}
theorem dJ (h0:0<=m0) (h1:0<=m1) (h2:0<=m2) (h3:0<=dr):MagOk [t0S m0,t1S m1,t2S m2,t3S dr,t4S]:=by
 have b0:=J7 h0;have b1:=J7 h1;have b2:=J7 h2;have b3:=xt (b:=5) h3 (by omega);refine⟨λt ht=>?_,by simp,?_⟩
 .simp only[an,be,or_false]at ht;rcases ht with rfl|rfl|rfl|rfl|rfl
  all_goals
   refine⟨?_,?_,?_,?_,?_,?_,?_,?_,?_⟩<;>(try unfold lnI)<;>simp only[t0S,t1S,t2S,t3S,t4S]<;>omega
 .intro i j hi hj e;have hi5:i<5:=by simpa using hi
  have hj5:j<5:=by simpa using hj
  have hi':i=0\/i=1\/i=2\/i=3\/i=4:=by omega
  have hj':j=0\/j=1\/j=2\/j=3\/j=4:=by omega
  rcases hi' with rfl|rfl|rfl|rfl|rfl<;>rcases hj' with rfl|rfl|rfl|rfl|rfl<;>first|rfl|(simp[t0S,t1S,t2S,t3S,t4S]at e)
theorem dK:∀t∈[t0S m0,t1S m1,t2S m2,t3S dr,t4S],Ps t.s:=λt ht=>by
 simp only[an,be,or_false]at ht;unfold Ps;rcases ht with rfl|rfl|rfl|rfl|rfl<;>simp[t0S,t1S,t2S,t3S,t4S]
end
theorem dL (x:List D) (h:x.length=8):lens 8 [x]:=by intro y hy;simp at hy;subst hy;exact h
theorem AN (x y:List D) (h:x.length=8) (k:y.length=8):lens 8 [x,y]:=by
 intro z hz;simp at hz;rcases hz with rfl|rfl
 .exact h
 .exact k
section
variable [Env]
theorem Z4 {n r:Int} (h:0<=r/\r<=1000000):Gives CC 26 [.c (.int .i64 n),.c (.int .i64 r)] [.ag [.int .i64 n,.int .i64 1,.int .i64 r,.int .i64 20000,.int .i64 (r+7000),.int .i64 1500,.int .i64 20000,.int .i64 5000]]:=by
 refine qm (C:=CC) (anns:=an0) mixedT Tryz.func26 ?_;rw[Cu,xb (n:=r+7000) (by omega) (by omega)]
theorem Dx {C:Cx} [EffOk C] {anns:Nat->Ann} {un:Nat->Nat} {f:Nat} {fn:Func} {args res:List A} {P:Prop} (hm:C.P.follows .mixedOrders=true) (hf:C.P.funcs[f]? =some fn) (e:B1 C (Gives C) anns un fn args (λr=>r=res)=P) (h:P):Gives C f args res:=by
 subst e;exact TT hm hf h
theorem Re (R:List A) (a0 a1 a2 a3 co h0 h1 h2 fr ha d0 d1 c0 c1 c2 m0 m1 m2 dr to:Int) (g0:0<=m0) (g1:0<=m1) (g2:0<=m2) (g3:0<=dr) (hR:[A.c (.sl (mgD [t0S m0,t1S m1,t2S m2,t3S dr,t4S]))]=R):
 Gives CC 7 [.ag (.int .u8 a0:: .int .u8 a1:: .int .u8 a2:: .int .u8 a3:: .int .u8 co:: .int .u8 h0:: .int .u8 h1:: .int .u8 h2:: .int .u8 fr:: .int .u8 ha:: .int .u8 d0:: .int .u8 d1:: .int .u8 c0:: .int .u8 c1:: .int .u8 c2:: .int .u8 m0:: .int .u8 m1:: .int .u8 m2:: .int .u8 dr:: .int .u8 to::[])] R:=by
 have hv:=Nh (Gives CC) (λ_ _=>True) (λ_=>0) a0 a1 a2 a3 co h0 h1 h2 fr ha d0 d1 c0 c1 c2 m0 m1 m2 dr to (· =R);refine Dx (C:=CC) mixedT Tryz.func7 hv ?_;clear hv;have r0:=J7 g0;have r1:=J7 g1;have r2:=J7 g2;have b0:=xt (b:=6) g0 (by omega);have b1:=xt (b:=6) g1 (by omega);have b2:=xt (b:=6) g2 (by omega);have b3:=xt (b:=5) g3 (by omega);have w6:∀{m:Int},0<=Lr m 6/\Lr m 6<6->Hy .i64 (2500+Hy .i64 (500*Hy .i64 (Lr m 6)))=Ui m:=λ{m} h=>by rw[xb (n:=Lr m 6) (by omega) (by omega),xb (n:=500*Lr m 6) (by omega) (by omega),xb (by omega) (by omega)];rfl
 have w5:Hy .i64 (1000*Hy .i64 (1+Hy .i64 (Lr dr 5)))=1000*(1+Lr dr 5):=by rw[xb (n:=Lr dr 5) (by omega) (by omega),xb (n:=1+Lr dr 5) (by omega) (by omega),xb (by omega) (by omega)]
 rw[w6 b0,w6 b1,w6 b2,w5];have s0:=Z4 (n:=1) (r:=Ui m0) ⟨by omega,by omega⟩;have s1:=Z4 (n:=2) (r:=Ui m1) ⟨by omega,by omega⟩;have s2:=Z4 (n:=3) (r:=Ui m2) ⟨by omega,by omega⟩;have s3:=Z4 (n:=4) (r:=1000*(1+Lr dr 5)) ⟨by omega,by omega⟩;have s4:=Z4 (n:=5) (r:=1500) ⟨by omega,by omega⟩;have l8:∀a b c d e f g h:Int,lens 8 [[Hx .i64 a,.int .i64 b,.int .i64 c,.int .i64 d,.int .i64 e,.int .i64 f,.int .i64 g,.int .i64 h]]:=λa b c d e f g h=>dL _ rfl
 refine⟨by omega,_,_,_,_,_,_,_,_,s0,⟨Rd (by omega),l8 _ _ _ _ _ _ _ _⟩,by omega,_,_,_,_,_,_,_,_,s1,⟨Rd (by omega),l8 _ _ _ _ _ _ _ _⟩,by omega,_,_,_,_,_,_,_,_,s2,⟨Rd (by omega),l8 _ _ _ _ _ _ _ _⟩,by omega,
  _,_,_,_,_,_,_,_,s3,_,_,_,_,_,_,_,_,s4,⟨Rd (by omega),AN _ _ rfl rfl⟩,?_⟩
 rw[<-hR];unfold mgD tlD t0S t1S t2S t3S t4S;simp only[bx,cL];rfl
theorem Ni (a0 a1 a2 a3 co h0 h1 h2 fr ha d0 d1 c0 c1 c2 m0 m1 m2 dr to:Int) (g0:0<=m0) (g1:0<=m1) (g2:0<=m2) (g3:0<=dr):Gives CC 7 [.ag (.int .u8 a0:: .int .u8 a1:: .int .u8 a2:: .int .u8 a3:: .int .u8 co:: .int .u8 h0:: .int .u8 h1:: .int .u8 h2:: .int .u8 fr:: .int .u8 ha:: .int .u8 d0:: .int .u8 d1:: .int .u8 c0:: .int .u8 c1:: .int .u8 c2:: .int .u8 m0:: .int .u8 m1:: .int .u8 m2:: .int .u8 dr:: .int .u8 to::[])] [.c (.sl (mgD [t0S m0,t1S m1,t2S m2,t3S dr,t4S]))]:=Re _ a0 a1 a2 a3 co h0 h1 h2 fr ha d0 d1 c0 c1 c2 m0 m1 m2 dr to g0 g1 g2 g3 rfl
def vI (x y:Int):List D:=rk (q4 (x:Rat)) (rk (q4 (y:Rat)) [])
def Dy (x0 y0 x1 y1:Int):Nat->List (List D)
 |0=>[vI x0 y0,vI x1 y0,vI x1 y1,vI x0 y1]
 |1=>[vI x0 y0,vI x1 y0,vI x1 (y1-2000),vI (x1-3000) y1,vI x0 y1]
 |_=>[vI x0 y0,vI x1 y0,vI x0 y1]
def kOf (co:Int):Nat:=match Lr co 3==1 with
 |true=>1
 |false=>match Lr co 3==2 with
  |true=>2
  |false=>0
def loI (a:Int):Int:=1000*Lr a 12
def siI (a:Int):Int:=6000+1000*Lr a 5
theorem J8 {x y:Int} (hx:0<=x/\x<=1000) (hy:0<=y/\y<=1000):Gives CC 60 [.c (.int .i64 x),.c (.int .i64 y)] [.ag (vI (1000*x) (1000*y))]:=by
 have g:Gives CC 112 [.c (.int .i64 (1000*x)),.c (.int .i64 (1000*y))] [.ag (vI (1000*x) (1000*y))]:=by refine qm (C:=CC) (anns:=an0) mixedT Tryz.func112 ?_;rw[Rc];exact⟨_,zJ (by omega) (by omega),_,zJ (by omega) (by omega),rfl⟩
 refine qm (C:=CC) (anns:=an0) mixedT Tryz.func60 ?_;rw[Ae,xb (n:=1000*x) (by omega) (by omega),xb (n:=1000*y) (by omega) (by omega)];exact⟨_,_,g,rfl⟩
theorem Rf (a0 a1 a2 a3 co h0 h1 h2 fr ha d0 d1 c0 c1 c2 m0 m1 m2 dr to:Int) (g0:0<=a0) (g1:0<=a1) (g2:0<=a2) (g3:0<=a3):
 Gives CC 22 [.ag (.int .u8 a0:: .int .u8 a1:: .int .u8 a2:: .int .u8 a3:: .int .u8 co:: .int .u8 h0:: .int .u8 h1:: .int .u8 h2:: .int .u8 fr:: .int .u8 ha:: .int .u8 d0:: .int .u8 d1:: .int .u8 c0:: .int .u8 c1:: .int .u8 c2:: .int .u8 m0:: .int .u8 m1:: .int .u8 m2:: .int .u8 dr:: .int .u8 to::[])] [.c (.sl (Dy (loI a0) (loI a1) (loI a0+siI a2) (loI a1+siI a3) (kOf co)))]:=by
 have b0:=xt (b:=12) g0 (by omega);have b1:=xt (b:=12) g1 (by omega);have b2:=xt (b:=5) g2 (by omega);have b3:=xt (b:=5) g3 (by omega);refine qm (C:=CC) (anns:=an0) mixedT Tryz.func22 ?_;rw[P6];unfold loI siI kOf;generalize Lr a0 12=p at *;generalize Lr a1 12=q at *;generalize Lr a2 5=u at *;generalize Lr a3 5=v at *;have e1:1000*p+(6000+1000*u)=1000*(p+6+u):=by omega
 have e2:1000*q+(6000+1000*v)=1000*(q+6+v):=by omega
 have e3:1000*(p+6+u)-3000=1000*(p+6+u-3):=by omega
 have e4:1000*(q+6+v)-2000=1000*(q+6+v-2):=by omega
 have w:∀n:Int,0<=n->n<=1000->Hy .i64 n=n:=λn h1 h2=>xb (by omega) (by omega)
 rw[w p (by omega) (by omega),w q (by omega) (by omega),w u (by omega) (by omega),w v (by omega) (by omega),w (p+6) (by omega) (by omega),w (q+6) (by omega) (by omega),w (p+6+u) (by omega) (by omega),w (q+6+v) (by omega) (by omega),
  w (p+6+u-3) (by omega) (by omega),w (q+6+v-2) (by omega) (by omega),e1,e2]
 have a4:=J8 (x:=p) (y:=q) (by omega) (by omega);have a6:=J8 (x:=p+6+u) (y:=q) (by omega) (by omega);have g11:=J8 (x:=p+6+u) (y:=q+6+v) (by omega) (by omega);have a5:=J8 (x:=p) (y:=q+6+v) (by omega) (by omega);have g1m:=J8 (x:=p+6+u) (y:=q+6+v-2) (by omega) (by omega);have gm1:=J8 (x:=p+6+u-3) (y:=q+6+v) (by omega) (by omega);refine⟨by omega,by omega,by omega,by omega,by omega,brb (λh=>?_) λh=>⟨by omega,brb (λk=>?_) λk=>?_⟩⟩
 .rw[h];refine⟨_,_,a4,_,_,a6,_,_,g1m,_,_,gm1,_,_,a5,?_⟩;show _=[A.c (.sl [_,_,vI (1000*(p+6+u)) (1000*(q+6+v)-2000),vI (1000*(p+6+u)-3000) _,_])];rw[e3,e4];rfl
 .rw[h,k];exact⟨_,_,a4,_,_,a6,_,_,a5,rfl⟩
 .rw[h,k];exact⟨_,_,a4,_,_,a6,_,_,g11,_,_,a5,rfl⟩
end
end Eng
end
