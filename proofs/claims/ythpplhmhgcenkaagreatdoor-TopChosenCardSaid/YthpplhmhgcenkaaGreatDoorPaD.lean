import Derived.Test.YthpplhmhgcenkaaGreatDoorPaC
import Derived.Laws.Bits64b
import Derived.Lib.Mul64
import Derived.KernelRfl
open Bool renaming and_eq_true->Aw, or_eq_true->Bx, false_and->Dd
open Eng.A renaming ag->F0, c->Hu
open Eng.D renaming bool->Hv, sl->Hx, int->Hy
open Eng.D.int renaming injEq->J3
open Go.IntKind renaming wrap->J4, signed->Lm, bits->Lr, u64->Ls, u32->Lv
open Go.Lib renaming half_mul_le->No
open Iff renaming rfl->Pl
open Int renaming ofNat->P1, toNat->Sz, toNat_natCast->Tk, ofNat_eq_natCast->Ts, tdiv->U0, natCast_mul->U3, natAbs_natCast->V1, lt_or_le->W0, tdiv_eq_ediv_of_nonneg->W1, natAbs_neg->W2, natAbs_ediv_le_natAbs->an, natAbs_mul_self'->a6, fdiv->a7, natAbs_mul->be, zero_sub->bs
open LawfulBEq renaming eq_of_beq->bv
open List renaming replicate->bx, length->b7, length_map->b8, getElem?_eq_getElem->b9, length_replicate->bF, length_append->cb, getElem_mem->cc, eq_nil_of_length_eq_zero->cg, map->cm, getD_eq_getElem?_getD->cp, flatten_cons->cv, length_take->c0, length_cons->c3, map_append->c4, mem_map->c5
open List.cons renaming injEq->c6
open Nat renaming eq_of_beq_eq_true->cF, pow_lt_pow_right->cH, lt_of_le_of_lt->cL, le_refl->dc, lt_trans->dl, pow_le_pow_right->dv, eq_zero_or_pos->ea, mul_self_lt_mul_self_iff->eb, lt_or_ge->ec, and_two_pow_sub_one_eq_mod->el, le_mul_of_pos_right->ep, exists_eq_add_of_le->ey, le_trans->e7, zero_le->eU, lt_of_lt_of_le->fe, lt_of_not_le->fk, div_le_self->fs, pow_succ->ft, mul_comm->fz, pow_pos->fR
open Option.some renaming inj->fS
open Rat renaming intCast_lt_intCast->gd, intCast_neg->gk, floor_def->gn, sub_eq_add_neg->gp, floor_le->gq, num_intCast->gr, intCast_le_intCast->gu, num_nonneg->gv, mul_zero->h6, add_zero->h7
set_option maxRecDepth 1000000
section
namespace Eng
open Go Go.Proofs Rl
section
variable [Env]
def eI (n:Int):A:= .c (.int .i64 n)
theorem U5 (x:Rat):Gives CC 103 [.ag (rk (q4 x) [])] [.c (.int .i64 (sr x))]:=by
 rw[<-Ma];exact v8 x
theorem bNeg {x:Rat} {k:Nat} (hx:Hz k x) (h:k<360000:=by omega):Gives CC 101 [.ag (rk (q4 x) [])] [.ag (rk (q4 (-x)) [])]:=K7 (hx.sr h)
theorem bAdd {x y:Rat} {j k:Nat} (hx:Hz j x) (hy:Hz k y) (h:j<360000/\k<360000:=by omega):Gives CC 100 [.ag (rk (q4 x) []),.ag (rk (q4 y) [])] [.ag (rk (q4 (x+y)) [])]:=K8 wY (hx.sr h.1) (hy.sr h.2)
theorem bSub {x y:Rat} {j k:Nat} (hx:Hz j x) (hy:Hz k y) (h:j<360000/\k<360000:=by omega):Gives CC 48 [.ag (rk (q4 x) []),.ag (rk (q4 y) [])] [.ag (rk (q4 (x-y)) [])]:=Yr wY (hx.sr h.1) (hy.sr h.2)
theorem hI {x y:Rat} {j k:Nat} (hx:Hz j x) (hy:Hz k y) (h:j<360000/\k<360000:=by omega):Gives CC 146 [.ag (rk (q4 x) []),.ag (rk (q4 y) [])] [.ag (rk (q4 (x*y)) [])]:=Yq wY (hx.sr h.1) (hy.sr h.2)
theorem bInt {n:Int} (h1: -9223372036854775808<=n) (h2:n<9223372036854775808):Gives CC 97 [.c (.int .i64 n)] [.ag (rk (q4 (n:Rat)) [])]:=wc h1 h2
theorem Vs {x:Rat} {k:Nat} (hx:Hz k x) (h:k<360000:=by omega):Gives CC 328 [.ag (rk (q4 x) [])] [qN x.floor]:=by
 refine wpG Tryz.func328 ((Mf ..).mpr ?_);have hp:=x.den_pos;have hs:=hx.sr h;have h:=kx wY hs.1.sm hs.2.sm (by omega);have e:x.num/(x.den:Int)=x.floor:=by rw[gn]
 rw[e]at h;exact⟨_,_,_,_,_,h,rfl⟩
def FB (x:Int):Prop:= -2305843009213693952<=x/\x<=2305843009213693952
def eIv (a b:Int):A:= .ag [.int .i64 a,.int .i64 b]
def eOk (b:Bool):A:= .c (.bool b)
theorem DN {a b:Int}:∃c d ok,Gives CC 453 [.c (.int .i64 a),.c (.int .i64 b)] [eIv c d,eOk ok]/\(ok=true->c=a/\d=b/\ -2305843009213693952<=c/\d<=2305843009213693952)/\(ok=false->c=0/\d=0):=by
 by_cases h:a< -2305843009213693952
 .refine⟨0,0,false,?_,by simp,by simp⟩;refine wpG Tryz.func453 ((jE ..).mpr ?_);exact brd (λ_=>rfl) (λk=>absurd h k)
 by_cases h2:b>2305843009213693952
 .refine⟨0,0,false,?_,by simp,by simp⟩;refine wpG Tryz.func453 ((jE ..).mpr ?_);exact brd (λk=>absurd k h) (λ_=>brd (λ_=>rfl) (λk=>absurd h2 k))
 .refine⟨a,b,true,?_,λ_=>⟨rfl,rfl,by omega,by omega⟩,by simp⟩;refine wpG Tryz.func453 ((jE ..).mpr ?_);exact brd (λk=>absurd k h) (λ_=>brd (λk=>absurd k h2) (λ_=>rfl))
omit [Env] in
theorem Rg (x:Nat) (r:List Nat):val r<=val (x::r):=by
 show val r<=x+1000000000*val r;omega
omit [Env] in
theorem Z6:∀(l:List Nat) (k:Nat),val (l.drop k)<=val l
 |[],k=>by simp
 |x::r,0=>dc _
 |x::r,k+1=>e7 (Z6 r k) (Rg x r)
def V8 (z:Int):Int×Bool:=if-9223372036854775808<=z/\z<=9223372036854775807 then(z,true)else(0,false)
omit [Env] in
theorem By {z:Int} (h1: -9223372036854775808<=z) (h2:z<=9223372036854775808):Sm z:=by
 unfold Sm K3;have h3:z.natAbs<1000000000^3:=by omega
 exact fe h3 (Lx (by omega) (by omega))
theorem Az {z:Int} (hz:Sm z):Gives CC 170 [qN z] [.c (.int .i64 (V8 z).1),.c (.bool (V8 z).2)]:=by
 have hlen:=hz.len;refine qj (anns:=λ_=>⟨[.slot 4 (.int .u64 0),.slot 5 (.int .i64 0)],[],λ_ ds=> -9223372036854775808<=z/\z<=9223372036854775807/\∃k:Nat,k<=(lim z.natAbs).length/\ds=[.int .u64 (val ((lim z.natAbs).drop k):Int),.int .i64 ((k:Int)-1)],λds=>(toI (nth .undef ds 1)+1).toNat⟩) mixedT Tryz.func170 ?_;have s1:Sm (-9223372036854775808):=By (by omega) (by omega);have s2:Sm 9223372036854775807:=By (by omega) (by omega);have h1:=up (xu (n:= -9223372036854775808) (by omega) (by omega));have h2:=up (xu (n:=9223372036854775807) (by omega) (by omega));have c1:=up (jP hz s1);have c2:=up (jP hz s2);rw[qI]at h1 h2 c1 c2;rw[qI (-9223372036854775808)]at c1;rw[qI 9223372036854775807]at c2;rw[qI,Mh];have l1:kh z (-9223372036854775808)<0↔z< -9223372036854775808:=by unfold kh;split<;>(try split)<;>omega
 have l2:kh z 9223372036854775807>0↔9223372036854775807<z:=by unfold kh;split<;>(try split)<;>omega
 unfold V8;refine⟨_,_,h1,_,c1,brd (λh=>?_) (λh=>⟨_,_,h2,_,c2,brd (λg=>?_) (λg=>?_)⟩)⟩
 .have:=l1.1 h;rw[if_neg (by omega)]
 .have:=l2.1 g;rw[if_neg (by omega)]
 .have h:=mt l1.2 h;have g:=mt l2.2 g;rw[if_pos ⟨by omega,by omega⟩];have hl:=qc z.natAbs;have hv:=qh z.natAbs;generalize lim z.natAbs=l at *;simp only[Ts,qg];refine⟨⟨by omega,by omega,l.length,dc _,by rw[List.drop_length,qR];rfl⟩,?_⟩;rintro n m ⟨_,_,k,hk,he⟩;simp only[c6,J3,true_and,and_true]at he;obtain⟨rfl,rfl⟩:=he;refine brd (λh=>?_) (λh=>?_)
  .have a0:k-1<l.length:=by omega
   have ht:((k:Int)-1).toNat=k-1:=by omega
   rw[ht];have hd:val (l.drop (k-1))=l[k-1]+1000000000*val (l.drop k):=by rw[List.drop_eq_getElem_cons a0,show k-1+1=k by omega];rfl
   have hle:=Z6 l (k-1);have hx:=hl.get a0;have hw:J4 .u64 (J4 .u64 ((val (l.drop k):Int)*1000000000)+J4 .u64 (l[k-1]:Int))=(val (l.drop (k-1)):Int):=by rw[xI (n:=(val (l.drop k):Int)*1000000000),xI (n:=(l[k-1]:Int)),xI];omega
   have a1:J4 .i64 ((k:Int)-1-1)=((k-1:Nat):Int)-1:=by rw[qR];omega
   refine⟨⟨by omega,by omega,qw a0⟩,_,qz a0,⟨by omega,by omega,k-1,by omega,by rw[hw,a1]⟩,?_⟩;rw[a1];simp only[nth,toI];omega
  .have a0:k=0:=by omega
   subst a0;rw[List.drop_zero,hv];by_cases hn:z<0
   .rw[decide_eq_true hn];refine js (λ_=>?_) (λh=>by simp at h);have e:J4 .i64 (J4 .u64 (0-((z.natAbs:Nat):Int)))=z:=by simp[J4,Lr,Lm];omega
    rw[e]
   .rw[decide_eq_false hn];refine js (λh=>by simp at h) (λ_=>?_);have e:J4 .i64 ((z.natAbs:Nat):Int)=z:=by rw[qR];omega
    rw[e]
omit [Env] in
theorem fdN (a m:Nat):a7 (a:Int) (m:Int)=((a/m:Nat):Int):=by
 rw[Int.fdiv_eq_ediv_of_nonneg _ (by omega)];exact(Int.natCast_ediv a m).symm
omit [Env] in
theorem fd32 (a:Nat):a7 (a:Int) 4294967296=((a/4294967296:Nat):Int):=fdN a 4294967296
omit [Env] in
theorem fd16 (a:Nat):a7 (a:Int) 65536=((a/65536:Nat):Int):=fdN a 65536
omit [Env] in
theorem Mk (a:Nat) (ha:a<18446744073709551616):bits .and .u64 (a:Int) 4294967295=((a%4294967296:Nat):Int):=by
 have h:=bits_and_u64_nat a 4294967295 ha (by omega);have e:a&&&4294967295=a%4294967296:=el a 32;rw[e]at h;exact h
omit [Env] in
theorem IX (a:Nat) (ha:a<18446744073709551616):bits .and .u64 (a:Int) 65535=((a%65536:Nat):Int):=by
 have h:=bits_and_u64_nat a 65535 ha (by omega);have e:a&&&65535=a%65536:=el a 16;rw[e]at h;exact h
omit [Env] in
theorem or48 {a b:Nat} (ha:a<65536) (hb:b<281474976710656):bits .or .u64 (J4 .u64 ((a:Int)*281474976710656)) (b:Int)=((a*281474976710656+b:Nat):Int):=by
 rw[xI];have e:(a:Int)*281474976710656=((a*281474976710656:Nat):Int):=by omega
 rw[e,bits_or_u64_nat _ _ (by omega) (by omega)];have h:=Nat.two_pow_add_eq_or_of_lt (i:=48) (b:=b) hb a;rw[fz a,show(281474976710656:Nat)=2^48 from rfl,<-h]
theorem IY {x y:Nat} (hx:x<18446744073709551616) (hy:y<18446744073709551616):Gives CC 485 [.c (.int .u64 (x:Int)),.c (.int .u64 (y:Int))] [.c (.int .u64 ((x*y/18446744073709551616:Nat):Int)),.c (.int .u64 ((x*y%18446744073709551616:Nat):Int))]:=by
 refine wpG Tryz.func485 ((Mi ..).mpr ?_);obtain⟨bd,bt,bw,hhi⟩:=Go.Lib.mul64_hi x y hx hy;have ba:=No (a:=x/4294967296) (b:=y/4294967296) (by omega) (by omega);have bb:=No (a:=x/4294967296) (b:=y%4294967296) (by omega) (by omega);have bc:=No (a:=x%4294967296) (b:=y/4294967296) (by omega) (by omega);have wN:∀a:Nat,a<18446744073709551616->Ls.wrap (a:Int)=(a:Int):=λa h=>xI
 have wM:∀a:Nat,Ls.wrap (a:Int)=((a%18446744073709551616:Nat):Int):=λa=>by simp[J4,Lr,Lm]
 have a1:∀a b:Nat,(a:Int)*(b:Int)=((a*b:Nat):Int):=λa b=>(U3 a b).symm
 have a0:∀a b:Nat,(a:Int)+(b:Int)=((a+b:Nat):Int):=λa b=>(Int.natCast_add a b).symm
 have bb':x/4294967296*(y%4294967296)<18446744073709551616:=by omega
 have bc':x%4294967296*(y/4294967296)<18446744073709551616:=by omega
 have ba':x/4294967296*(y/4294967296)<18446744073709551616:=by omega
 have bh1:x/4294967296*(y/4294967296)+(x/4294967296*(y%4294967296)+x%4294967296*(y%4294967296)/4294967296)/4294967296<18446744073709551616:=by omega
 have bh:x/4294967296*(y/4294967296)+(x/4294967296*(y%4294967296)+x%4294967296*(y%4294967296)/4294967296)/4294967296+((x/4294967296*(y%4294967296)+x%4294967296*(y%4294967296)/4294967296)%4294967296+x%4294967296*(y/4294967296))/4294967296<18446744073709551616:=by omega
 refine⟨by omega,by omega,by omega,by omega,by omega,?_⟩;simp only[fd32,Mk x hx,Mk y hy,a1,a0,wN _ bd,wN _ bb',wN _ bt,Mk _ bt,wN _ bc',wN _ bw,wN _ ba',wN _ bh1,wN _ bh,wM (x*y)];rw[hhi]
theorem cAbs {x:Int} (hx:FB x):Gives CC 486 [.c (.int .i64 x)] [.c (.int .u64 (x.natAbs:Int))]:=by
 refine wpG Tryz.func486 ((DJ ..).mpr ?_);unfold FB at hx;refine brd (λh=>?_) (λh=>?_)
 .have e:J4 .u64 (0-J4 .u64 x)=(x.natAbs:Int):=by simp[J4,Lr,Lm];omega
  rw[e]
 .have e:J4 .u64 x=(x.natAbs:Int):=by rw[xI];omega
  rw[e]
omit [Env] in
theorem Ml {x y:Int} (h:decide (x<0)=decide (y<0)):x*y=((x.natAbs*y.natAbs:Nat):Int):=by
 rw[<-be];have h:=decide_eq_decide.1 h;have h2:0<=x*y:=by
  rcases W0 x 0 with k|k
  .exact Int.mul_nonneg_of_nonpos_of_nonpos (by omega) (by have:=h.1 k;omega)
  .exact Int.mul_nonneg k (by
    rcases W0 y 0 with l|l
    .have:=h.2 l;omega
    .exact l)
 omega
omit [Env] in
theorem Rh {x y:Int} (h:¬decide (x<0)=decide (y<0)):x*y= -((x.natAbs*y.natAbs:Nat):Int):=by
 have h1:decide (-x<0)=decide (y<0)\/x=0:=by
  by_cases k:x=0
  .exact .inr k
  .refine .inl (decide_eq_decide.2 ?_);have h:¬(x<0↔y<0):=λe=>h (decide_eq_decide.2 e)
   constructor<;>intro l
   .rcases W0 y 0 with m|m
    .exact m
    .exact absurd ⟨λa=>by omega,λa=>by omega⟩ h
   .rcases W0 x 0 with m|m
    .exact absurd ⟨λ_=>l,λ_=>m⟩ h
    .omega
 rcases h1 with h1|h1
 .have:=Ml h1;rw[Int.neg_mul,W2]at this;omega
 .subst h1;simp
omit [Env] in
theorem nq {q:Nat} (k:¬q>2305843009213693952):¬((q:Int)>2305843009213693952):=by omega
omit [Env] in
theorem yq {q:Nat} (k:q>2305843009213693952):(q:Int)>2305843009213693952:=by omega
omit [Env] in
theorem ne0 {a:Nat} {X:Prop} (k:a=0) (h:((a:Int) !=0)=true):X:=by subst k;simp at h
omit [Env] in
theorem eq0 {a:Nat} {X:Prop} (k:¬a=0) (h:((a:Int) !=0)=false):X:=by
 simp at h;omega
omit [Env] in
theorem ar0 {P q:Nat} (hq:P/65536=q) (hr:P%65536=0):(q:Int)*65536<=(P:Int)/\(P:Int)<=(q:Int)*65536:=by omega
omit [Env] in
theorem ar1 {P q:Nat} (hq:P/65536=q):(q:Int)*65536<=(P:Int)/\(P:Int)<=((q:Int)+1)*65536:=by omega
omit [Env] in
theorem ar2 {P q:Nat} (hq:P/65536=q) (hr:P%65536=0): -(q:Int)*65536<= -(P:Int)/\ -(P:Int)<= -(q:Int)*65536:=by omega
omit [Env] in
theorem ar3 {P q:Nat} (hq:P/65536=q): -((q:Int)+1)*65536<= -(P:Int)/\ -(P:Int)<= -(q:Int)*65536:=by omega
omit [Env] in
theorem wq1 {q:Nat} (k:¬q>2305843009213693952):J4 .i64 (q:Int)=q:=qR
omit [Env] in
theorem wq2 {q:Nat} (k:¬q>2305843009213693952):J4 .i64 ((q:Int)+1)=q+1:=qR
omit [Env] in
theorem wq3 {q:Nat} (k:¬q>2305843009213693952):J4 .i64 (0-(q:Int))= -q:=by rw[qR];omega
omit [Env] in
theorem wq4 {q:Nat} (k:¬q>2305843009213693952):J4 .i64 (0-((q:Int)+1))= -(q+1):=by rw[qR];omega
omit [Env] in
theorem eJ {q:Nat} {l u Z:Int} (_:l= -(q+1)/\u= -q\/l= -q/\u= -q\/l=q/\u=q+1\/l=q/\u=q) (hb:l*65536<=Z/\Z<=u*65536)
 (hk:(decide (l>= -2305843009213693952)&&decide (u<=2305843009213693952))=true):FB l/\FB u/\l<=u/\l*65536<=Z/\Z<=u*65536:=by
 simp only[Aw,decide_eq_true_eq]at hk;unfold FB;omega
omit [Env] in
theorem eK (l u:Int):br (toB (Hv (decide (l>= -2305843009213693952)))) ([Hu (.int .i64 l),Hu (.int .i64 u),Hu (.bool (decide (u<=2305843009213693952)))]=[.c (.int .i64 l),.c (.int .i64 u),eOk (decide (l>= -2305843009213693952)&&decide (u<=2305843009213693952))])
 ([Hu (.int .i64 l),Hu (.int .i64 u),Hu (.bool false)]=[.c (.int .i64 l),.c (.int .i64 u),eOk (decide (l>= -2305843009213693952)&&decide (u<=2305843009213693952))]):=by
 refine brd (λh=>?_) (λh=>?_)
 .rw[decide_eq_true h,Bool.true_and];rfl
 .rw[decide_eq_false h,Dd];rfl
theorem KO {x y:Int} (hx:FB x) (hy:FB y):∃l u ok,Gives CC 462 [.c (.int .i64 x),.c (.int .i64 y)] [.c (.int .i64 l),.c (.int .i64 u),eOk ok]/\(ok=true->FB l/\FB u/\l<=u/\l*65536<=x*y/\x*y<=u*65536):=by
 have h1:=cAbs hx;have h2:=cAbs hy;have h3:=IY (x:=x.natAbs) (y:=y.natAbs) (by unfold FB at hx;omega) (by unfold FB at hy;omega);have s1:= @Ml x y;have s2:= @Rh x y;generalize x.natAbs*y.natAbs=P at h3 s1 s2;have e1:=fd16 (P/18446744073709551616);have e2:=fd16 (P%18446744073709551616);have e4:bits .and .u64 ((P%18446744073709551616:Nat):Int) 65535=((P%65536:Nat):Int):=by rw[IX _ (by omega)];congr 1;omega
 by_cases k1:¬P/18446744073709551616/65536=0
 .refine⟨0,0,false,?_,by simp⟩;refine wpG Tryz.func462 ((jF ..).mpr ?_);refine⟨_,h1,_,h2,_,_,h3,by omega,?_⟩;rw[e1];exact brb (λ_=>rfl) (λh=>eq0 k1 h)
 have k1:=Classical.not_not.1 k1;have e3:bits .or .u64 (J4 .u64 (((P/18446744073709551616:Nat):Int)*281474976710656)) (((P%18446744073709551616/65536:Nat)):Int)=((P/65536:Nat):Int):=by rw[or48 (by omega) (by omega)];congr 1;omega
 by_cases k2:P/65536>2305843009213693952
 .refine⟨0,0,false,?_,by simp⟩;refine wpG Tryz.func462 ((jF ..).mpr ?_);refine⟨_,h1,_,h2,_,_,h3,by omega,?_⟩;simp only[e1,e2,e3,e4];exact brb (λh=>ne0 k1 h) (λ_=>⟨by decide,by decide,brd (λ_=>rfl) (λh=>absurd (yq k2) h)⟩)
 generalize hq:P/65536=q at *;have w1:=wq1 k2;have w2:=wq2 k2;have w3:=wq3 k2;have w4:=wq4 k2;have k3:=nq k2;by_cases hr:P%65536=0
 .by_cases hs:decide (x<0)=decide (y<0)
  .refine⟨q,q,_,?_,eJ (.inr (.inr (.inr ⟨rfl,rfl⟩))) (by rw[s1 hs];exact ar0 hq hr)⟩;refine wpG Tryz.func462 ((jF ..).mpr ?_);refine⟨_,h1,_,h2,_,_,h3,by omega,?_⟩;simp only[e1,e2,e3,e4,w1,w2,w3,w4];refine brb (λh=>ne0 k1 h) (λ_=>⟨by decide,by decide,brd (λh=>absurd h k3) (λ_=>brb (λh=>ne0 hr h) (λ_=>brb (λh=>by rw[hs]at h;simp at h) (λ_=>eK _ _)))⟩)
  .refine⟨-q, -q,_,?_,eJ (.inr (.inl ⟨rfl,rfl⟩)) (by rw[s2 hs];exact ar2 hq hr)⟩;refine wpG Tryz.func462 ((jF ..).mpr ?_);refine⟨_,h1,_,h2,_,_,h3,by omega,?_⟩;simp only[e1,e2,e3,e4,w1,w2,w3,w4];refine brb (λh=>ne0 k1 h) (λ_=>⟨by decide,by decide,brd (λh=>absurd h k3) (λ_=>brb (λh=>ne0 hr h) (λ_=>brb (λ_=>eK _ _) (λh=>absurd (by simpa using h) hs)))⟩)
 .by_cases hs:decide (x<0)=decide (y<0)
  .refine⟨q,q+1,_,?_,eJ (.inr (.inr (.inl ⟨rfl,rfl⟩))) (by rw[s1 hs];exact ar1 hq)⟩;refine wpG Tryz.func462 ((jF ..).mpr ?_);refine⟨_,h1,_,h2,_,_,h3,by omega,?_⟩;simp only[e1,e2,e3,e4,w1,w2,w3,w4];refine brb (λh=>ne0 k1 h) (λ_=>⟨by decide,by decide,brd (λh=>absurd h k3) (λ_=>brb (λ_=>brb (λh=>by rw[hs]at h;simp at h) (λ_=>eK _ _)) (λh=>eq0 hr h))⟩)
  .refine⟨-(q+1), -q,_,?_,eJ (.inl ⟨rfl,rfl⟩) (by rw[s2 hs];exact ar3 hq)⟩;refine wpG Tryz.func462 ((jF ..).mpr ?_);refine⟨_,h1,_,h2,_,_,h3,by omega,?_⟩;simp only[e1,e2,e3,e4,w1,w2,w3,w4];refine brb (λh=>ne0 k1 h) (λ_=>⟨by decide,by decide,?_⟩);refine brd (λh=>absurd h k3) (λ_=>?_);refine brb (λ_=>?_) (λh=>eq0 hr h);refine brb (λ_=>?_) (λh=>absurd (by simpa using h) hs);generalize-((q:Int)+1)=l;generalize-(q:Int)=u;exact eK l u
omit [Env] in
theorem brF {X Y:Prop} (h:X):br (toB (Hv !false)) X Y:=h
omit [Env] in
theorem brT {X Y:Prop} (h:Y):br (toB (Hv !true)) X Y:=h
def IvB (a b:Int):Prop:=FB a/\FB b/\a<=b
omit [Env] in
theorem IvB.zero:IvB 0 0:=⟨⟨by omega,by omega⟩,⟨by omega,by omega⟩,by omega⟩
theorem IZ {a b:Int} (hab:a<=b):∃c d ok,Gives CC 453 [.c (.int .i64 a),.c (.int .i64 b)] [eIv c d,eOk ok]/\IvB c d/\(ok=true->c=a/\d=b):=by
 obtain⟨c,d,ok,h1,h2,h3⟩:=DN (a:=a) (b:=b);refine⟨c,d,ok,h1,?_,λh=>⟨(h2 h).1,(h2 h).2.1⟩⟩;cases ok with
 |true=>obtain⟨rfl,rfl,k1,k2⟩:=h2 rfl;exact⟨⟨k1,by omega⟩,⟨by omega,k2⟩,hab⟩
 |false=>obtain⟨rfl,rfl⟩:=h3 rfl;exact .zero
theorem aa {a0 b0 a1 b1:Int} (h:IvB a0 b0) (k:IvB a1 b1):∃c d ok,Gives CC 428 [eIv a0 b0,eIv a1 b1] [eIv c d,eOk ok]/\IvB c d/\(ok=true->∀x y,inQ a0 b0 x->inQ a1 b1 y->inQ c d (x+y)):=by
 obtain⟨c,d,ok,h1,h2,h3⟩:=IZ (a:=a0+a1) (b:=b0+b1) (by have:=h.2.2;have:=k.2.2;omega);refine⟨c,d,ok,?_,h2,λe x y hx hy=>?_⟩
 .obtain⟨h,h',_⟩:=h;obtain⟨k,k',_⟩:=k;unfold FB at h h' k k';refine wpG Tryz.func428 ((DH ..).mpr ?_);rw[qR (n:=a0+a1),qR (n:=b0+b1)];exact⟨_,_,_,h1,rfl⟩
 .obtain⟨rfl,rfl⟩:=h3 e;exact DF hx hy
theorem cSgn (a b:Int):∃n ok,Gives CC 430 [eIv a b] [eI n,eOk ok]/\(ok=true->∀x,inQ a b x->n=sr x):=by
 by_cases h1:a>0
 .refine⟨1,true,?_,λ_ x hx=>((Me hx).1 h1).symm⟩;refine wpG Tryz.func430 ((Xs ..).mpr ?_);exact brd (λ_=>rfl) (λk=>absurd h1 k)
 by_cases h2:b<0
 .refine⟨-1,true,?_,λ_ x hx=>((Me hx).2.1 h2).symm⟩;refine wpG Tryz.func430 ((Xs ..).mpr ?_);exact brd (λk=>absurd k h1) (λ_=>brd (λ_=>rfl) (λk=>absurd h2 k))
 by_cases h3:a=0
 .refine⟨0,b==0,?_,λe x hx=>?_⟩
  .refine wpG Tryz.func430 ((Xs ..).mpr ?_);exact brd (λk=>absurd k h1) (λ_=>brd (λk=>absurd k h2) (λ_=>brb (λ_=>rfl) (λk=>by subst h3;simp at k)))
  .have e:=bv e;subst h3 e;exact((Me hx).2.2 rfl rfl).symm
 .refine⟨0,false,?_,by simp⟩;refine wpG Tryz.func430 ((Xs ..).mpr ?_);exact brd (λk=>absurd k h1) (λ_=>brd (λk=>absurd k h2) (λ_=>brb (λk=>absurd (bv k) h3) (λ_=>rfl)))
theorem Ql {x:Rat} {k:Nat} (hx:Hz k x) (h:k<300000:=by omega):∃c d ok,Gives CC 419 [.ag (rk (q4 x) [])] [eIv c d,eOk ok]/\IvB c d/\(ok=true->inQ c d x):=by
 have h0:=bInt (n:=65536) (by omega) (by omega);have hz:Hz 5 ((65536:Int):Rat):=Hz.int (by decide);have hm:=hx.mul hz (l:=k+5);have h1:=hI hx hz (by omega);have h2:=Vs hm (by omega);have h3:=bNeg hm (by omega);have h4:=Vs hm.neg (by omega);have e:x*((65536:Int):Rat)=x*65536:=by rfl
 rw[e]at h1 h2 h3 h4 hm;have f1:=gq (x*65536);have f2:=gq (-(x*65536));have sf:∀{y:Rat} {j:Nat},Hz j y->j<300010->Sm y.floor:=λ{y j} hy hj=>by have hs:=(hy.sr (by omega)).1.sm;rw[gn];exact cL (an _ _) hs
 have s1:=sf hm (by omega);have s2:=sf hm.neg (by omega);generalize (x*65536).floor=f at *;generalize (-(x*65536)).floor=g at *;have s3:Sm (-g):=by unfold Sm at s2 ⊢;rw[W2];exact s2
 have h5:=up (Q9 s2);have g1:=Az s1;have g2:=Az s3;rw[qI]at h2 h4 h5 g1 g2;rw[qI]at h5;have fg:f<= -g:=by
  have:(f:Rat)<=((-g:Int):Rat):=by rw[gk];grind
  exact gu.1 this
 by_cases o1: -9223372036854775808<=f/\f<=9223372036854775807
 .have i1:V8 f=(f,true):=if_pos o1;rw[i1]at g1;by_cases o2: -9223372036854775808<= -g/\ -g<=9223372036854775807
  .have i2:V8 (-g)=(-g,true):=if_pos o2;rw[i2]at g2;obtain⟨c,d,ok,p1,p2,p3⟩:=IZ fg;refine⟨c,d,ok,?_,p2,λe=>?_⟩
   .refine wpG Tryz.func419 ((ji ..).mpr ?_);exact⟨_,h0,_,h1,_,_,h2,_,_,g1,_,h3,_,_,h4,_,_,h5,_,_,g2,brT (brT ⟨_,_,_,p1,rfl⟩)⟩
   .obtain⟨rfl,rfl⟩:=p3 e;exact⟨f1,by rw[gk];grind⟩
  .have i2:V8 (-g)=(0,false):=if_neg o2;rw[i2]at g2;refine⟨0,0,false,?_,.zero,by simp⟩;refine wpG Tryz.func419 ((ji ..).mpr ?_);exact⟨_,h0,_,h1,_,_,h2,_,_,g1,_,h3,_,_,h4,_,_,h5,_,_,g2,brT (brF rfl)⟩
 .have i1:V8 f=(0,false):=if_neg o1;rw[i1]at g1;refine⟨0,0,false,?_,.zero,by simp⟩;refine wpG Tryz.func419 ((ji ..).mpr ?_);exact⟨_,h0,_,h1,_,_,h2,_,_,g1,_,h3,_,_,h4,_,_,h5,_,_,g2,brF rfl⟩
def mnI (a b:Int):Int:=match decide (a<b)with
 |true=>a
 |false=>b
def mxI (a b:Int):Int:=match decide (a<b)with
 |true=>b
 |false=>a
omit [Env] in
theorem Mm (a b:Int):mnI a b=min a b:=by
 unfold mnI;cases h:decide (a<b)with
 |true=>have:=of_decide_eq_true h;show a=_;omega
 |false=>have:=of_decide_eq_false h;show b=_;omega
omit [Env] in
theorem Mn (a b:Int):mxI a b=max a b:=by
 unfold mxI;cases h:decide (a<b)with
 |true=>have:=of_decide_eq_true h;show b=_;omega
 |false=>have:=of_decide_eq_false h;show a=_;omega
def loN (s:Nat->Int×Int×Bool):Nat->Int
 |0=>2305843009213693952
 |n+1=>mnI (s n).1 (loN s n)
def hiN (s:Nat->Int×Int×Bool):Nat->Int
 |0=> -2305843009213693952
 |n+1=>mxI (hiN s n) (s n).2.1
theorem ab {a0 b0 a1 b1:Int} {s:Nat->Int×Int×Bool}
 (hs:∀k j,k<2->j<2->Gives CC 462 [.c (.int .i64 (if k=0 then a0 else b0)),.c (.int .i64 (if j=0 then a1 else b1))] [.c (.int .i64 (s (2*k+j)).1),.c (.int .i64 (s (2*k+j)).2.1),eOk (s (2*k+j)).2.2])
 {R:List A} (hR:((∀m<4,(s m).2.2=true)->R=[eIv (loN s 4) (hiN s 4),eOk true])) (hR':(¬(∀m<4,(s m).2.2=true)->R=[eIv 0 0,eOk false])):
 Gives CC 427 [eIv a0 b0,eIv a1 b1] R:=by
 refine qj (anns:=Kt ⟨[.slot 21 (.int .i64 0),.slot 6 (.int .i64 0),.slot 7 (.int .i64 0)],[],λ_ ds=>∃k:Nat,k<=2/\ds=[.int .i64 (k:Int),.int .i64 (loN s (2*k)),.int .i64 (hiN s (2*k))]/\∀m<2*k,(s m).2.2=true,λds=>(2-toI (nth .undef ds 0)).toNat⟩
  ⟨[.slot 31 (.int .i64 0),.slot 6 (.int .i64 0),.slot 7 (.int .i64 0)],[.slot 21 (.int .i64 0)],λgs ds=>∃k j:Nat,k<2/\j<=2/\gs=[.int .i64 (k:Int)]/\ds=[.int .i64 (j:Int),.int .i64 (loN s (2*k+j)),.int .i64 (hiN s (2*k+j))]/\∀m<2*k+j,(s m).2.2=true,λds=>(2-toI (nth .undef ds 0)).toNat⟩) mixedT Tryz.func427 ?_
 show wpF _ _ _ _ [.ag [.int .i64 a0,.int .i64 b0],.ag [.int .i64 a1,.int .i64 b1]] _;rw[DM];refine⟨⟨0,by omega,rfl,by omega⟩,?_⟩;rintro i p q ⟨k,hk,he,a5⟩;simp only[c6,J3,true_and,and_true]at he;obtain⟨rfl,rfl,rfl⟩:=he;refine brd (λh=>?_) (λh=>?_)
 .have a2:k<2:=by omega
  refine⟨⟨by omega,h⟩,(if k=0 then a0 else b0),?_,⟨k,0,a2,by omega,rfl,rfl,a5⟩,?_⟩
  .rw[Tk];rcases(by omega:k=0\/k=1)with rfl|rfl
   .exact⟨rfl,dc 1⟩
   .exact⟨rfl,dc 1⟩
  .rintro j p q ⟨k',j',hk',hj',hg,he,a3⟩;simp only[c6,J3,true_and,and_true]at he hg;obtain⟨rfl,rfl,rfl⟩:=he;obtain rfl:k=k':=by omega
   refine brd (λh=>?_) (λh=>?_)
   .have a4:j'<2:=by omega
    refine⟨⟨by omega,h⟩,(if j'=0 then a1 else b1),?_,_,_,_,hs k j' a2 a4,?_⟩
    .rw[Tk];rcases(by omega:j'=0\/j'=1)with rfl|rfl
     .exact⟨rfl,dc 1⟩
     .exact⟨rfl,dc 1⟩
    .have w:J4 .i64 ((j':Int)+1)=((j'+1:Nat):Int):=by rw[qR];omega
     rw[w];cases hb:(s (2*k+j')).2.2 with
     |false=>refine brb (λ_=>?_) (λh=>by simp at h);exact(hR' (λg=>by rw[g _ (by omega)]at hb;simp at hb)).symm
     |true=>
      refine brb (λh=>by simp at h) (λ_=>⟨⟨k,j'+1,a2,by omega,rfl,rfl,λm hm=>?_⟩,?_⟩)
      .rcases(by omega:m<2*k+j'\/m=2*k+j')with g|rfl
       .exact a3 m g
       .exact hb
      .simp only[nth,toI];omega
   .have a4:j'=2:=by omega
    subst a4;have w:J4 .i64 ((k:Int)+1)=((k+1:Nat):Int):=by rw[qR];omega
    rw[w];exact⟨⟨k+1,by omega,rfl,a3⟩,by simp only[nth,toI];omega⟩
 .have a2:k=2:=by omega
  subst a2;exact(hR a5).symm
theorem hJ {a0 b0 a1 b1:Int} (h:IvB a0 b0) (k:IvB a1 b1):∃c d ok,Gives CC 427 [eIv a0 b0,eIv a1 b1] [eIv c d,eOk ok]/\IvB c d/\(ok=true->∀x y,inQ a0 b0 x->inQ a1 b1 y->inQ c d (x*y)):=by
 obtain⟨l0,u0,o0,g0,f0⟩:=KO h.1 k.1;obtain⟨l1,u1,o1,g1,f1⟩:=KO h.1 k.2.1;obtain⟨l2,u2,o2,g2,f2⟩:=KO h.2.1 k.1;obtain⟨l3,u3,o3,g3,f3⟩:=KO h.2.1 k.2.1;obtain⟨s,a2,a3,a4,a5⟩:∃s:Nat->Int×Int×Bool,s 0=(l0,u0,o0)/\s 1=(l1,u1,o1)/\s 2=(l2,u2,o2)/\s 3=(l3,u3,o3):=
  ⟨λn=>if n=0 then(l0,u0,o0)else if n=1 then(l1,u1,o1)else if n=2 then(l2,u2,o2)else(l3,u3,o3),rfl,rfl,rfl,rfl⟩
 have hs:∀k j,k<2->j<2->Gives CC 462 [.c (.int .i64 (if k=0 then a0 else b0)),.c (.int .i64 (if j=0 then a1 else b1))] [.c (.int .i64 (s (2*k+j)).1),.c (.int .i64 (s (2*k+j)).2.1),eOk (s (2*k+j)).2.2]:=by
  intro k j hk hj;rcases(by omega:k=0\/k=1)with rfl|rfl<;>rcases(by omega:j=0\/j=1)with rfl|rfl
  .show Gives _ _ _ [.c (.int .i64 (s 0).1),.c (.int .i64 (s 0).2.1),eOk (s 0).2.2];rw[a2];exact g0
  .show Gives _ _ _ [.c (.int .i64 (s 1).1),.c (.int .i64 (s 1).2.1),eOk (s 1).2.2];rw[a3];exact g1
  .show Gives _ _ _ [.c (.int .i64 (s 2).1),.c (.int .i64 (s 2).2.1),eOk (s 2).2.2];rw[a4];exact g2
  .show Gives _ _ _ [.c (.int .i64 (s 3).1),.c (.int .i64 (s 3).2.1),eOk (s 3).2.2];rw[a5];exact g3
 by_cases ha:∀m<4,(s m).2.2=true
 .have e0:=f0 (by have:=ha 0 (by omega);rwa [a2]at this);have e1:=f1 (by have:=ha 1 (by omega);rwa [a3]at this);have e2:=f2 (by have:=ha 2 (by omega);rwa [a4]at this);have e3:=f3 (by have:=ha 3 (by omega);rwa [a5]at this);have eL:loN s 4=min l3 (min l2 (min l1 (min l0 2305843009213693952))):=by simp only[loN,Mm,a2,a3,a4,a5]
  have eH:hiN s 4=max (max (max (max (-2305843009213693952) u0) u1) u2) u3:=by simp only[hiN,Mn,a2,a3,a4,a5]
  refine⟨loN s 4,hiN s 4,true,ab hs (λ_=>rfl) (λg=>absurd ha g),?_,λ_ x y hx hy=>?_⟩
  .rw[eL,eH];unfold IvB FB at *;omega
  .rw[eL,eH];refine DG hx hy ?_ ?_
   .rintro p q (rfl|rfl) (rfl|rfl)<;>omega
   .rintro p q (rfl|rfl) (rfl|rfl)<;>omega
 .exact⟨0,0,false,ab hs (λg=>absurd g ha) (λ_=>rfl),.zero,by simp⟩
theorem hO {a b:Int} (h:IvB a b):Gives CC 434 [eIv a b] [eIv (-b) (-a)]/\IvB (-b) (-a):=by
 obtain⟨ha,hb,hab⟩:=h;unfold FB at ha hb;refine⟨?_,⟨by unfold FB;omega,by unfold FB;omega,by omega⟩⟩;refine wpG Tryz.func434 ((DI ..).mpr ?_);rw[qR (n:=0-b),qR (n:=0-a),bs,bs];rfl
theorem Bz {n:Rat} {k:Nat} (hn:Hz k n) {a b:Int} (h:IvB a b) (o:Bool) (hk:k<300000:=by omega):∃c d ok,Gives CC 435 [.ag (rk (q4 n) []),eIv a b,eOk o] [eIv c d,eOk ok]/\IvB c d/\(ok=true->o=true/\∀x,inQ a b x->inQ c d (n*x)):=by
 obtain⟨b1,b2,ob,gb,bb,ib⟩:=Ql hn;obtain⟨m1,m2,om,gm,bm,im⟩:=hJ bb h;cases o with
 |false=>refine⟨0,0,false,?_,.zero,by simp⟩;refine wpG Tryz.func435 ((Z5 ..).mpr ?_);exact⟨_,_,_,gb,brF rfl⟩
 |true=>
 cases ob with
 |false=>refine⟨0,0,false,?_,.zero,by simp⟩;refine wpG Tryz.func435 ((Z5 ..).mpr ?_);exact⟨_,_,_,gb,brT (brF rfl)⟩
 |true=>refine⟨m1,m2,om,?_,bm,λe=>⟨rfl,λx hx=>im e _ _ (ib rfl) hx⟩⟩;refine wpG Tryz.func435 ((Z5 ..).mpr ?_);exact⟨_,_,_,gb,brT (brT ⟨_,_,_,gm,rfl⟩)⟩
theorem Mo {x:Rat} {k:Nat} (hx:Hz k x) (h:k<300000:=by omega):∃c d ok,Gives CC 383 [.ag (rk (q4 x) (rk (q4 0) (rk (q4 0) [])))] [eIv c d,eOk ok]/\IvB c d/\(ok=true->inQ c d x):=by
 obtain⟨a1,a2,oa,ga,ba,ia⟩:=Ql hx;refine⟨a1,a2,oa,?_,ba,ia⟩;refine wpG Tryz.func383 ((GT ..).mpr ?_);cases oa with
 |false=>exact⟨_,_,_,ga,brF rfl⟩
 |true=>exact⟨_,_,_,ga,brT ⟨_,U5 0,brb (λ_=>rfl) (λh=>by simp[sr]at h)⟩⟩
end
end Eng
end
section
namespace Eng
open Go Go.Proofs
section
variable [Env]
theorem Mp (x0 x1 y0 y1 a b c d:Int) (k:Bool):WX CB 418 [.int .i64 x0,.int .i64 x1,.int .i64 y0,.int .i64 y1,.bool k] [.ag [.int .i64 a,.int .i64 b],.ag [.int .i64 c,.int .i64 d]] []
 [.int .i64 (mnI a x0),.int .i64 (mxI x1 b),.int .i64 (mnI c y0),.int .i64 (mxI y1 d),.bool k]:=by
 refine Pw (tab:=noT) (lim:=1000) (n:=40) mixedT (λ_ _ _ h=>by simp[noT]at h) rfl λg=>?_
 kernel_rfl
end
def B0:List D->List A->Bool
 |[.int .i64 _,.int .i64 _,.int .i64 _,.int .i64 _,.bool _],[.ag [.int .i64 _,.int .i64 _],.ag [.int .i64 _,.int .i64 _]]=>true
 |_,_=>false
def hY:List D->List A->List D
 |[.int .i64 x0,.int .i64 x1,.int .i64 y0,.int .i64 y1,.bool k],[.ag [.int .i64 a,.int .i64 b],.ag [.int .i64 c,.int .i64 d]]=>[.int .i64 (mnI a x0),.int .i64 (mxI x1 b),.int .i64 (mnI c y0),.int .i64 (mxI y1 d),.bool k]
 |_,_=>[]
noncomputable def CDL:List (Nat×k9):=[(418,Li B0 hY (λ_ _=>[]))]
noncomputable def CSp:Cx:=CX CDL
instance [Env]:EffOk CSp:=qV (zh ⟨Px (C:=CX CDL) Tryz.func418 (by simp[Tryz.f418]) (by decide) λds al h=>by
 unfold B0 at h;split at h
 .exact Lg rfl rfl (Mp _ _ _ _ _ _ _ _ _)
 .simp at h,trivial⟩)
end Eng
end
section
open Go Go.Proofs Eng
namespace Eng
section
variable (Gv:Nat->List A->List A->Prop) (I0:List D->List D->Prop) (M0:List D->Nat) (I1:List D->List D->Prop) (M1:List D->Nat) (I2:List D->List D->Prop) (M2:List D->Nat) (I3:List D->List D->Prop) (M3:List D->Nat) (Q:List A->Prop)
theorem ac (r0 r1 r2 r3 r4 r5:R4) (p0 p1:P20):wpF CSp Gv (λ_=>⟨[.slot 22 (.int .i64 0),.box 3 [(.int .i64 0),(.int .i64 0),(.int .i64 0),(.int .i64 0),(.bool false)]],[],I0,M0⟩) Tryz.f378 [.ag (.bool false::rk r0 (rk r1 (rk r2 (rk r3 (rk r4 (rk r5 (.bool false::pk p0 (pk p1 []))))))))] Q=(I0 [] [dI (0:Int),dI (4611686018427387904:Int),dI (-4611686018427387904:Int),dI (4611686018427387904:Int),dI (-4611686018427387904:Int),Hv true]/\∀(i i_1 i_2 i_3 i_4:Int) (b:Bool),I0 [] [dI i,dI i_1,dI i_2,dI i_3,dI i_4,Hv b]->bB (decide (i<2)) ((0<=i/\i<2)/\∃x,cut (nth [] [(pk p0 []),(pk p1 [])] (Sz i)) 0 20 (pk x [])/\∃x1 x2 x3,Gv 180 [aP x] [aT x1 x2 x3]/\∃i_5 i_6 b1,Gv 383 [aT x1 x2 x3] [F0 [dI i_5,dI i_6],aB b1]/\∃x4 x5 x6,Gv 181 [aP x] [aT x4 x5 x6]/\∃i_7 i_8 b2,Gv 383 [aT x4 x5 x6] [F0 [dI i_7,dI i_8],aB b2]/\bB (!b1) (Q [F0 [dI (0:Int),dI (0:Int),dI (0:Int),dI (0:Int),Hv false]]) (bB (!b2) (Q [F0 [dI (0:Int),dI (0:Int),dI (0:Int),dI (0:Int),Hv false]]) (true=true/\I0 [] [dI (J4 .i64 (i+1)),dI (mnI i_5 i_1),dI (mxI i_2 i_6),dI (mnI i_7 i_3),dI (mxI i_4 i_8),Hv b]/\M0 [dI (J4 .i64 (i+1)),dI (mnI i_5 i_1),dI (mxI i_2 i_6),dI (mnI i_7 i_3),dI (mxI i_4 i_8),Hv b]<M0 [dI i,dI i_1,dI i_2,dI i_3,dI i_4,Hv b]))) (Q [F0 [dI i_1,dI i_2,dI i_3,dI i_4,Hv b]])):=by kernel_rfl
end
end Eng
end
section
namespace Eng
open Go Go.Proofs Rl
section
variable [Env]
def kLn (a b c:Rat):List D:=rk (q4 a) (rk (q4 b) (rk (q4 c) []))
def kPt (x y:Rat):List D:=pk ⟨q4 x,q4 0,q4 y,q4 0,q4 0⟩ []
theorem ae {a b c x y:Rat} {k:Nat} (ha:Hz k a) (hb:Hz k b) (hc:Hz k c) (hx:Hz k x) (hy:Hz k y) (hk:k<80000:=by omega):∃n ok,Gives CC 409 [.ag (kLn a b c),.ag (kPt x y)] [eI n,eOk ok]/\(ok=true->n=sr (a*x+b*y-c)):=by
 obtain⟨_,_,o1,g1,k1,i1⟩:=Mo hx;obtain⟨_,_,o2,g2,k2,i2⟩:=Bz ha k1 o1;obtain⟨_,_,o3,g3,k3,i3⟩:=Mo hy;obtain⟨_,_,o4,g4,k4,i4⟩:=Bz hb k3 o3;obtain⟨_,_,o5,g5,k5,i5⟩:=Ql hc;obtain⟨_,_,o6,g6,k6,i6⟩:=aa k2 k4;obtain⟨g7,k7⟩:=hO k5;obtain⟨_,_,o8,g8,k8,i8⟩:=aa k6 k7;obtain⟨z,oz,gz,iz⟩:=cSgn _ _;refine⟨if(o2&&o4&&o5&&o6&&o8)=true then z else 0,o2&&o4&&o5&&o6&&o8&&oz,?_,λe=>?_⟩
 .unfold kLn kPt;refine wpG Tryz.func409 ((Rc ..).mpr ?_);refine⟨_,_,_,g1,_,_,_,g2,_,_,_,g3,_,_,_,g4,_,_,_,g5,?_⟩;cases o2
  .rfl
  cases o4
  .rfl
  cases o5
  .rfl
  refine⟨_,_,_,g6,?_⟩;cases o6
  .rfl
  refine⟨_,_,g7,_,_,_,g8,?_⟩;cases o8
  .rfl
  exact⟨_,_,gz,rfl⟩
 .simp only[Aw]at e;obtain⟨⟨⟨⟨⟨e2,e4⟩,e5⟩,e6⟩,e8⟩,ez⟩:=e;obtain⟨e1,j2⟩:=i2 e2;obtain⟨e3,j4⟩:=i4 e4;rw[e2,e4,e5,e6,e8];have:=iz ez _ (i8 e8 _ _ (i6 e6 _ _ (j2 _ (i1 e1)) (j4 _ (i3 e3))) (Y3 (i5 e5)));rw[<-gp]at this;exact this
theorem Qm {x y:Rat} {j k:Nat} (hx:Hz j x) (hy:Hz k y) (h:j<360000/\k<360000:=by omega):Gives CC 407 [.ag (rk (q4 x) []),.ag (rk (q4 y) [])] [.ag (rk (q4 (x+y)) [])]:=by
 refine wpG Tryz.func407 ((DK ..).mpr ?_);exact⟨_,bAdd hx hy h,rfl⟩
theorem Xt {x y:Rat} {j k:Nat} (hx:Hz j x) (hy:Hz k y) (h:j<360000/\k<360000:=by omega):Gives CC 406 [.ag (rk (q4 x) []),.ag (rk (q4 y) [])] [.ag (rk (q4 (x-y)) [])]:=by
 refine wpG Tryz.func406 ((DL ..).mpr ?_);exact⟨_,bSub hx hy h,rfl⟩
theorem j7 {x y:Rat} {j k:Nat} (hx:Hz j x) (hy:Hz k y) (h:j<360000/\k<360000:=by omega):Gives CC 382 [.ag (rk (q4 x) []),.ag (rk (q4 y) [])] [.ag (rk (q4 (x*y)) [])]:=by
 refine wpG Tryz.func382 ((Rd ..).mpr ?_);exact⟨_,hI hx hy h,rfl⟩
theorem B1 (a:Rat):Gives CC 408 [.ag (rk (q4 a) []),.ag (rk (q4 0) []),.ag (rk (q4 0) [])] [.c (.int .i64 (sr a))]:=by
 refine wpG Tryz.func408 ((Re ..).mpr ?_);refine⟨_,U5 a,_,U5 0,_,U5 0,?_⟩;refine brb (λ_=>rfl) (λh1=>?_);simp[sr]at h1;exact absurd rfl h1
theorem af {a b c x y:Rat} {k:Nat} (ha:Hz k a) (hb:Hz k b) (hc:Hz k c) (hx:Hz k x) (hy:Hz k y) (hk:k<80000:=by omega):Gives CC 367 [.ag (kLn a b c),.ag (kPt x y)] [.c (.int .i64 (sr (a*x+b*y-c)))]:=by
 obtain⟨z,oz,gz,iz⟩:=ae ha hb hc hx hy;have m1:=ha.mul hx (l:=2*k);have m2:=hb.mul hy (l:=2*k);have s1:=m1.add m2 (l:=4*k+1);have z0:Hz 0 (0:Rat):=Hz.zero;have g1:=j7 ha z0;have g2:=j7 hb z0;have g3:=Qm z0 z0;rw[h6]at g1 g2;rw[h7]at g3;unfold kLn kPt at gz ⊢;refine wpG Tryz.func367 ((Rf ..).mpr ?_);refine⟨_,_,gz,js (λe=>by rw[iz e]) (λ_=>?_)⟩;exact⟨_,j7 ha hx,_,j7 hb hy,_,Qm m1 m2,_,Xt s1 hc,_,g1,_,g2,_,g3,_,B1 _,rfl⟩
end
end Eng
end
section
namespace Eng
open Go Go.Proofs Rl
section
variable [Env]
theorem Ri:Gives CC 322 [] [.ag (rk (q4 0) [])]:=by
 refine z2 (C:=CC) (tab:=U2) (lim:=1000) mixedT (λf al rs h=>yw f al rs h) 40 _ _ _ ?_
 kernel_rfl
theorem B2 (x:Rat):Gives CC 264 [.ag (rk (q4 x) []),.ag (rk (q4 0) []),.ag (rk (q4 0) [])] [.ag (rk (q4 x) (rk (q4 0) (rk (q4 0) [])))]:=by
 refine wpG Tryz.func264 ((Mg ..).mpr ?_);exact⟨_,U5 0,brb (λ_=>⟨_,Ri,rfl⟩) (λh=>by simp[sr]at h)⟩
theorem pXQ (x y:Rat):Gives CC 180 [.ag (kPt x y)] [.ag (rk (q4 x) (rk (q4 0) (rk (q4 0) [])))]:=by
 unfold kPt;refine wpG Tryz.func180 ((gY ..).mpr ?_);exact⟨_,_,_,B2 x,rfl⟩
theorem pYQ (x y:Rat):Gives CC 181 [.ag (kPt x y)] [.ag (rk (q4 y) (rk (q4 0) (rk (q4 0) [])))]:=by
 unfold kPt;refine wpG Tryz.func181 ((gZ ..).mpr ?_);exact⟨_,_,_,B2 y,rfl⟩
structure Fr where
 lo:Int
 hi:Int
 ok:Bool
structure FrOk (x:Rat) (f:Fr):Prop where
 g:Gives CC 383 [.ag (rk (q4 x) (rk (q4 0) (rk (q4 0) [])))] [eIv f.lo f.hi,eOk f.ok]
 iv:IvB f.lo f.hi
def GU (f g:Fr) (n:Nat) (l:Int×Int):Int×Int:=match n with
 |0=>l
 |1=>(mnI f.lo l.1,mxI l.2 f.hi)
 |_=>(mnI g.lo (mnI f.lo l.1),mxI (mxI l.2 f.hi) g.hi)
def GV:Int×Int:=(4611686018427387904, -4611686018427387904)
def DO (fx fy gx gy:Fr):List D:=match fx.ok&&(fy.ok&&(gx.ok&&gy.ok))with
 |true=>[.int .i64 (GU fx gx 2 GV).1,.int .i64 (GU fx gx 2 GV).2,.int .i64 (GU fy gy 2 GV).1,.int .i64 (GU fy gy 2 GV).2,.bool true]
 |false=>[.int .i64 0,.int .i64 0,.int .i64 0,.int .i64 0,.bool false]
theorem ah {r0 r1 r2 r3 r4 r5:R4} {x1 y1 x2 y2:Rat} {fx fy gx gy:Fr} (h1:FrOk x1 fx) (h2:FrOk y1 fy) (h3:FrOk x2 gx) (h4:FrOk y2 gy):
 Gives CC 378 [.ag (.bool false::rk r0 (rk r1 (rk r2 (rk r3 (rk r4 (rk r5 (.bool false::pk ⟨q4 x1,q4 0,q4 y1,q4 0,q4 0⟩ (pk ⟨q4 x2,q4 0,q4 y2,q4 0,q4 0⟩ []))))))))] [.ag (DO fx fy gx gy)]:=by
 refine qL (C:=CSp) rfl rfl ?_;refine qj (C:=CSp) (anns:=λ_=>⟨[.slot 22 (.int .i64 0),.box 3 [(.int .i64 0),(.int .i64 0),(.int .i64 0),(.int .i64 0),(.bool false)]],[],
  λ_ ds=>∃n:Nat,n<=2/\(0<n->fx.ok=true/\fy.ok=true)/\(1<n->gx.ok=true/\gy.ok=true)/\ds=[.int .i64 (n:Int),.int .i64 (GU fx gx n GV).1,.int .i64 (GU fx gx n GV).2,.int .i64 (GU fy gy n GV).1,.int .i64 (GU fy gy n GV).2,.bool true],
  λds=>(2-toI (nth .undef ds 0)).toNat⟩) mixedT Tryz.func378 ?_
 rw[ac];have a0:∀{f:Nat} {al rs:List A},Gives CC f al rs->Gives CSp f al rs:=λh=>qL (C:=CC) (C':=CSp) rfl rfl h
 refine⟨⟨0,by omega,λh=>by omega,λh=>by omega,rfl⟩,?_⟩;rintro i a b c d k ⟨n,hn,e1,e2,he⟩;simp only[c6,J3,D.bool.injEq,and_true,true_and]at he;obtain⟨rfl,rfl,rfl,rfl,rfl,rfl⟩:=he;refine brd (λh=>?_) (λh=>?_)
 .refine⟨⟨by omega,h⟩,?_⟩;rcases(by omega:n=0\/n=1)with rfl|rfl
  .refine⟨_,⟨rfl,dc 20⟩,_,_,_,a0 (pXQ x1 y1),_,_,_,a0 h1.g,_,_,_,a0 (pYQ x1 y1),_,_,_,a0 h2.g,?_⟩;cases o1:fx.ok with
   |false=>exact brb (λ_=>by unfold DO;rw[o1];rfl) (λh=>by simp at h)
   |true=>
    refine brb (λh=>by simp at h) (λ_=>?_);cases o2:fy.ok with
    |false=>exact brb (λ_=>by unfold DO;rw[o1,o2];rfl) (λh=>by simp at h)
    |true=>refine brb (λh=>by simp at h) (λ_=>⟨rfl,⟨1,by omega,λ_=>⟨rfl,rfl⟩,λh=>by omega,rfl⟩,?_⟩);exact(show(1:Nat)<2 by omega)
  .obtain⟨o1,o2⟩:=e1 (by omega);refine⟨_,⟨rfl,dc 20⟩,_,_,_,a0 (pXQ x2 y2),_,_,_,a0 h3.g,_,_,_,a0 (pYQ x2 y2),_,_,_,a0 h4.g,?_⟩;cases o3:gx.ok with
   |false=>exact brb (λ_=>by unfold DO;rw[o1,o2,o3];rfl) (λh=>by simp at h)
   |true=>
    refine brb (λh=>by simp at h) (λ_=>?_);cases o4:gy.ok with
    |false=>exact brb (λ_=>by unfold DO;rw[o1,o2,o3,o4];rfl) (λh=>by simp at h)
    |true=>refine brb (λh=>by simp at h) (λ_=>⟨rfl,⟨2,by omega,λ_=>⟨o1,o2⟩,λ_=>⟨rfl,rfl⟩,rfl⟩,?_⟩);exact(show(0:Nat)<1 by omega)
 .obtain rfl:n=2:=by omega
  obtain⟨o1,o2⟩:=e1 (by omega);obtain⟨o3,o4⟩:=e2 (by omega);unfold DO;rw[o1,o2,o3,o4];rfl
end
end Eng
end
section
namespace Eng
open Go Go.Proofs Rl
def prF (a b:Int):Fr:=match decide (a< -2305843009213693952)||decide (b>2305843009213693952)with
 |true=>⟨0,0,false⟩
 |false=>⟨a,b,true⟩
def frF (x:Rat):Fr:=match(V8 (x*65536).floor).2&&(V8 (-(-(x*65536)).floor)).2 with
 |true=>prF (x*65536).floor (-(-(x*65536)).floor)
 |false=>⟨0,0,false⟩
section
variable [Env]
theorem GW (a b:Int):Gives CC 453 [.c (.int .i64 a),.c (.int .i64 b)] [eIv (prF a b).lo (prF a b).hi,eOk (prF a b).ok]:=by
 by_cases h:a< -2305843009213693952
 .have e:prF a b=⟨0,0,false⟩:=by unfold prF;rw[decide_eq_true h];rfl
  rw[e];refine wpG Tryz.func453 ((jE ..).mpr ?_);exact brd (λ_=>rfl) (λk=>absurd h k)
 by_cases h2:b>2305843009213693952
 .have e:prF a b=⟨0,0,false⟩:=by unfold prF;rw[decide_eq_true h2,Bool.or_true]
  rw[e];refine wpG Tryz.func453 ((jE ..).mpr ?_);exact brd (λk=>absurd k h) (λ_=>brd (λ_=>rfl) (λk=>absurd h2 k))
 .have e:prF a b=⟨a,b,true⟩:=by unfold prF;rw[decide_eq_false h,decide_eq_false h2];rfl
  rw[e];refine wpG Tryz.func453 ((jE ..).mpr ?_);exact brd (λk=>absurd k h) (λ_=>brd (λk=>absurd k h2) (λ_=>rfl))
theorem Z7 {x:Rat} {k:Nat} (hx:Hz k x) (h:k<300000:=by omega):Gives CC 419 [.ag (rk (q4 x) [])] [eIv (frF x).lo (frF x).hi,eOk (frF x).ok]:=by
 have h0:=bInt (n:=65536) (by omega) (by omega);have hz:Hz 5 ((65536:Int):Rat):=Hz.int (by decide);have hm:=hx.mul hz (l:=k+5);have h1:=hI hx hz (by omega);have h2:=Vs hm (by omega);have h3:=bNeg hm (by omega);have h4:=Vs hm.neg (by omega);have e:x*((65536:Int):Rat)=x*65536:=by rfl
 rw[e]at h1 h2 h3 h4 hm;have sf:∀{y:Rat} {j:Nat},Hz j y->j<300010->Sm y.floor:=λ{y j} hy hj=>by have hs:=(hy.sr (by omega)).1.sm;rw[gn];exact cL (an _ _) hs
 have s1:=sf hm (by omega);have s2:=sf hm.neg (by omega);unfold frF;generalize (x*65536).floor=f at *;generalize (-(x*65536)).floor=g at *;have s3:Sm (-g):=by unfold Sm at s2 ⊢;rw[W2];exact s2
 have h5:=up (Q9 s2);have g1:=Az s1;have g2:=Az s3;rw[qI]at h2 h4 h5 g1 g2;rw[qI]at h5;have p1:=GW f (-g);by_cases o1: -9223372036854775808<=f/\f<=9223372036854775807
 .have i1:V8 f=(f,true):=if_pos o1;rw[i1]at g1 ⊢;by_cases o2: -9223372036854775808<= -g/\ -g<=9223372036854775807
  .have i2:V8 (-g)=(-g,true):=if_pos o2;rw[i2]at g2 ⊢;refine wpG Tryz.func419 ((ji ..).mpr ?_);exact⟨_,h0,_,h1,_,_,h2,_,_,g1,_,h3,_,_,h4,_,_,h5,_,_,g2,brT (brT ⟨_,_,_,p1,rfl⟩)⟩
  .have i2:V8 (-g)=(0,false):=if_neg o2;rw[i2]at g2 ⊢;refine wpG Tryz.func419 ((ji ..).mpr ?_);exact⟨_,h0,_,h1,_,_,h2,_,_,g1,_,h3,_,_,h4,_,_,h5,_,_,g2,brT (brF rfl)⟩
 .have i1:V8 f=(0,false):=if_neg o1;rw[i1]at g1 ⊢;refine wpG Tryz.func419 ((ji ..).mpr ?_);exact⟨_,h0,_,h1,_,_,h2,_,_,g1,_,h3,_,_,h4,_,_,h5,_,_,g2,brF rfl⟩
omit [Env] in
theorem ai (x:Rat):IvB (frF x).lo (frF x).hi:=by
 have f1:=gq (x*65536);have f2:=gq (-(x*65536));unfold frF;generalize (x*65536).floor=f at *;generalize (-(x*65536)).floor=g at *;have fg:f<= -g:=by
  have:(f:Rat)<=((-g:Int):Rat):=by rw[gk];grind
  exact gu.1 this
 split
 .unfold prF;split
  .exact .zero
  .rename_i h;rw[Bool.or_eq_false_iff,decide_eq_false_iff_not,decide_eq_false_iff_not]at h;unfold IvB FB;show(_<=f/\f<=_)/\(_<= -g/\ -g<=_)/\f<= -g;omega
 .exact .zero
theorem aj {x:Rat} {k:Nat} (hx:Hz k x) (h:k<300000:=by omega):FrOk x (frF x):=by
 have ga:=Z7 hx;refine⟨?_,ai x⟩;refine wpG Tryz.func383 ((GT ..).mpr ?_);cases e:(frF x).ok with
 |false=>rw[e]at ga;exact⟨_,_,_,ga,brF rfl⟩
 |true=>rw[e]at ga;exact⟨_,_,_,ga,brT ⟨_,U5 0,brb (λ_=>rfl) (λh=>by simp[sr]at h)⟩⟩
end
end Eng
end
section
open Go Go.Proofs Eng
namespace Eng
section
variable (Gv:Nat->List A->List A->Prop) (I0:List D->List D->Prop) (M0:List D->Nat) (I1:List D->List D->Prop) (M1:List D->Nat) (I2:List D->List D->Prop) (M2:List D->Nat) (I3:List D->List D->Prop) (M3:List D->Nat) (Q:List A->Prop)
theorem KP (r0:R4) (r1:R4) (r2:R4) (r3:R4):wpF CC Gv an0 Tryz.f433 [.ag (rk r0 []),.ag (rk r1 []),.ag (rk r2 []),.ag (rk r3 [])] Q=(∃i i_1 b,Gv 383 [aT r0 r1 r2] [F0 [dI i,dI i_1],aB b]/\∃i_2 i_3 b1,Gv 419 [aR r3] [F0 [dI i_2,dI i_3],aB b1]/\bB (!b) (Q [F0 [dI (0:Int),dI (0:Int)],aB false]) (bB (!b1) (Q [F0 [dI (0:Int),dI (0:Int)],aB false]) (∃i_4 i_5,Gv 434 [F0 [dI i_2,dI i_3]] [F0 [dI i_4,dI i_5]]/\∃i_6 i_7 b,Gv 428 [F0 [dI i,dI i_1],F0 [dI i_4,dI i_5]] [F0 [dI i_6,dI i_7],aB b]/\Q [F0 [dI i_6,dI i_7],aB b]))):=by kernel_rfl
theorem Mq (r0:R4) (r1:R4) (r2:R4) (p0:P20):wpF CC Gv an0 Tryz.f405 [.ag (rk r0 (rk r1 (rk r2 []))),.ag (pk p0 [])] Q=(∃i i_1 b,Gv 433 [aR (P20.x p0),aR (P20.u p0),aR (P20.c p0),aR r0] [F0 [dI i,dI i_1],aB b]/\∃i_2 i_3 b1,Gv 433 [aR (P20.y p0),aR (P20.v p0),aR (P20.c p0),aR r1] [F0 [dI i_2,dI i_3],aB b1]/\∃i_4 i_5 b2,Gv 419 [aR r2] [F0 [dI i_4,dI i_5],aB b2]/\bB (!b) (Q [aI (0:Int),aB false]) (bB (!b1) (Q [aI (0:Int),aB false]) (bB (!b2) (Q [aI (0:Int),aB false]) (∃i_6 i_7 b,Gv 427 [F0 [dI i,dI i_1],F0 [dI i,dI i_1]] [F0 [dI i_6,dI i_7],aB b]/\∃i i_8 b3,Gv 427 [F0 [dI i_2,dI i_3],F0 [dI i_2,dI i_3]] [F0 [dI i,dI i_8],aB b3]/\bB (!b) (Q [aI (0:Int),aB false]) (bB (!b3) (Q [aI (0:Int),aB false]) (∃i_9 i_10 b,Gv 428 [F0 [dI i_6,dI i_7],F0 [dI i,dI i_8]] [F0 [dI i_9,dI i_10],aB b]/\bB (!b) (Q [aI (0:Int),aB false]) (∃i i_11,Gv 434 [F0 [dI i_4,dI i_5]] [F0 [dI i,dI i_11]]/\∃i_12 i_13 b,Gv 428 [F0 [dI i_9,dI i_10],F0 [dI i,dI i_11]] [F0 [dI i_12,dI i_13],aB b]/\bB (!b) (Q [aI (0:Int),aB false]) (∃i b,Gv 430 [F0 [dI i_12,dI i_13]] [aI i,aB b]/\Q [aI i,aB b])))))))):=by kernel_rfl
theorem U6 (r0:R4) (r1:R4) (r2:R4) (p0:P20):wpF CC Gv an0 Tryz.f366 [.ag (rk r0 (rk r1 (rk r2 []))),.ag (pk p0 [])] Q=(∃i b,Gv 405 [aT r0 r1 r2,aP p0] [aI i,aB b]/\br b (Q [aI (J4 .i64 (0-i))]) (∃x,Gv 406 [aR (P20.x p0),aR r0] [aR x]/\∃x1,Gv 406 [aR (P20.y p0),aR r1] [aR x1]/\∃x2,Gv 382 [aR x,aR x] [aR x2]/\∃x3,Gv 382 [aR x1,aR x1] [aR x3]/\∃x4,Gv 407 [aR x2,aR x3] [aR x4]/\∃x5,Gv 382 [aR (P20.u p0),aR (P20.u p0)] [aR x5]/\∃x6,Gv 382 [aR (P20.v p0),aR (P20.v p0)] [aR x6]/\∃x7,Gv 407 [aR x5,aR x6] [aR x7]/\∃x8,Gv 382 [aR (P20.c p0),aR x7] [aR x8]/\∃x9,Gv 407 [aR x4,aR x8] [aR x9]/\∃x10,Gv 382 [aR x,aR (P20.u p0)] [aR x10]/\∃x,Gv 382 [aR x1,aR (P20.v p0)] [aR x]/\∃x11,Gv 407 [aR x10,aR x] [aR x11]/\∃x,Gv 406 [aR x9,aR r2] [aR x]/\∃x12,Gv 407 [aR x11,aR x11] [aR x12]/\∃i,Gv 408 [aR x,aR x12,aR (P20.c p0)] [aI i]/\Q [aI (J4 .i64 (0-i))])):=by kernel_rfl
end
end Eng
end
section
namespace Eng
open Go Go.Proofs Rl
section
variable [Env]
def kCi (x y q:Rat):List D:=rk (q4 x) (rk (q4 y) (rk (q4 q) []))
theorem B3 {a f:Rat} {k:Nat} (ha:Hz k a) (hf:Hz k f) (h:k<300000:=by omega):∃l u ok,Gives CC 433 [.ag (rk (q4 a) []),.ag (rk (q4 0) []),.ag (rk (q4 0) []),.ag (rk (q4 f) [])] [eIv l u,eOk ok]/\IvB l u/\(ok=true->inQ l u (a-f)):=by
 obtain⟨_,_,o1,g1,k1,i1⟩:=Mo ha;obtain⟨_,_,o2,g2,k2,i2⟩:=Ql hf;obtain⟨g3,k3⟩:=hO k2;obtain⟨s,t,o4,g4,k4,i4⟩:=aa k1 k3;cases o1 with
 |false=>refine⟨0,0,false,?_,.zero,by simp⟩;refine wpG Tryz.func433 ((KP ..).mpr ?_);exact⟨_,_,_,g1,_,_,_,g2,brF rfl⟩
 |true=>
 cases o2 with
 |false=>refine⟨0,0,false,?_,.zero,by simp⟩;refine wpG Tryz.func433 ((KP ..).mpr ?_);exact⟨_,_,_,g1,_,_,_,g2,brT (brF rfl)⟩
 |true=>
  refine⟨s,t,o4,?_,k4,λe=>?_⟩
  .refine wpG Tryz.func433 ((KP ..).mpr ?_);exact⟨_,_,_,g1,_,_,_,g2,brT (brT ⟨_,_,g3,_,_,_,g4,rfl⟩)⟩
  .rw[gp];exact i4 e _ _ (i1 rfl) (Y3 (i2 rfl))
theorem DP {x y q u v:Rat} {k:Nat} (hx:Hz k x) (hy:Hz k y) (hq:Hz k q) (hu:Hz k u) (hv:Hz k v) (hk:k<80000:=by omega):
 ∃n ok,Gives CC 405 [.ag (kCi x y q),.ag (kPt u v)] [eI n,eOk ok]/\(ok=true->n=sr ((u-x)*(u-x)+(v-y)*(v-y)-q)):=by
 obtain⟨_,_,o1,g1,k1,i1⟩:=B3 hu hx;obtain⟨_,_,o2,g2,k2,i2⟩:=B3 hv hy;obtain⟨_,_,o3,g3,k3,i3⟩:=Ql hq;obtain⟨_,_,o4,g4,k4,i4⟩:=hJ k1 k1;obtain⟨_,_,o5,g5,k5,i5⟩:=hJ k2 k2;obtain⟨_,_,o6,g6,k6,i6⟩:=aa k4 k5;obtain⟨g7,k7⟩:=hO k3;obtain⟨_,_,o8,g8,k8,i8⟩:=aa k6 k7;obtain⟨z,oz,gz,iz⟩:=cSgn _ _;refine⟨if(o1&&o2&&o3&&o4&&o5&&o6&&o8)=true then z else 0,o1&&o2&&o3&&o4&&o5&&o6&&o8&&oz,?_,λe=>?_⟩
 .unfold kCi kPt;refine wpG Tryz.func405 ((Mq ..).mpr ?_);refine⟨_,_,_,g1,_,_,_,g2,_,_,_,g3,?_⟩;cases o1
  .rfl
  cases o2
  .rfl
  cases o3
  .rfl
  refine⟨_,_,_,g4,_,_,_,g5,?_⟩;cases o4
  .rfl
  cases o5
  .rfl
  refine⟨_,_,_,g6,?_⟩;cases o6
  .rfl
  refine⟨_,_,g7,_,_,_,g8,?_⟩;cases o8
  .rfl
  exact⟨_,_,gz,rfl⟩
 .simp only[Aw]at e;obtain⟨⟨⟨⟨⟨⟨⟨e1,e2⟩,e3⟩,e4⟩,e5⟩,e6⟩,e8⟩,ez⟩:=e;rw[e1,e2,e3,e4,e5,e6,e8,gp _ q];exact iz ez _ (i8 e8 _ _ (i6 e6 _ _ (i4 e4 _ _ (i1 e1) (i1 e1)) (i5 e5 _ _ (i2 e2) (i2 e2))) (Y3 (i3 e3)))
theorem Rj {x y q u v:Rat} {k:Nat} (hx:Hz k x) (hy:Hz k y) (hq:Hz k q) (hu:Hz k u) (hv:Hz k v) (hk:k<40000:=by omega):
 Gives CC 366 [.ag (kCi x y q),.ag (kPt u v)] [.c (.int .i64 (-sr ((u-x)*(u-x)+(v-y)*(v-y)-q)))]:=by
 obtain⟨z,oz,gz,iz⟩:=DP hx hy hq hu hv;have wn:∀x:Rat,J4 .i64 (0-sr x)= -sr x:=λx=>by
  have:sr x=1\/sr x= -1\/sr x=0:=by
   unfold sr;split
   .exact .inl rfl
   .split
    .exact .inr (.inl rfl)
    .exact .inr (.inr rfl)
  rw[qR]<;>omega
 have u1:=hu.sub hx (l:=2*k+1);have v1:=hv.sub hy (l:=2*k+1);have uu:=u1.mul u1 (l:=4*k+2);have vv:=v1.mul v1 (l:=4*k+2);have q1:=uu.add vv (l:=8*k+5);have z0:Hz 0 (0:Rat):=Hz.zero;have m0:=j7 z0 z0;have a0:=Qm z0 z0;have mu:=j7 u1 z0;have mv:=j7 v1 z0;have s1:=Qm q1 z0;rw[h6]at m0 mu mv;rw[h7]at a0 s1;unfold kCi kPt at gz ⊢;refine wpG Tryz.func366 ((U6 ..).mpr ?_);refine⟨_,_,gz,js (λe=>by rw[iz e,wn]) (λ_=>?_)⟩;refine⟨_,Xt hu hx,_,Xt hv hy,_,j7 u1 u1,_,j7 v1 v1,_,Qm uu vv,_,m0,_,m0,_,a0,_,m0,_,s1,_,mu,_,mv,_,a0,_,Xt q1 hq,_,a0,_,B1 _,?_⟩;rw[wn]
end
end Eng
end
section
namespace Eng
def V9 (a x:Nat):Nat:=if x<=(x+a/x)/2 then x else V9 a ((x+a/x)/2)
 termination_by x
 decreasing_by omega
theorem Mr (a x:Nat) (hx:0<x):a<((x+a/x)/2+1)*((x+a/x)/2+1):=by
 generalize hq:a/x=q;have h1:a<(q+1)*x:=by rw[<-hq];exact Nat.lt_of_lt_of_eq (Nat.lt_mul_div_succ a hx) (fz _ _)
 generalize hy:(x+q)/2=y;have h2:x+q+1<=2*(y+1):=by omega
 have h3:(x+q+1)*(x+q+1)<=(2*(y+1))*(2*(y+1)):=Nat.mul_le_mul h2 h2;have h4:4*((q+1)*x)<=(x+q+1)*(x+q+1):=by
  rcases Nat.le_total x (q+1)with h|h
  .obtain⟨d,hd⟩:=ey h;have e:x+q+1=2*x+d:=by omega
   rw[e,hd];have:(2*x+d)*(2*x+d)=4*((x+d)*x)+d*d:=by grind
   omega
  .obtain⟨d,hd⟩:=ey h;have e:x+q+1=2*(q+1)+d:=by omega
   rw[e,hd];have:(2*(q+1)+d)*(2*(q+1)+d)=4*((q+1)*(q+1+d))+d*d:=by grind
   omega
 have h5:(2*(y+1))*(2*(y+1))=4*((y+1)*(y+1)):=by grind
 omega
theorem GX {a x:Nat} (ha:0<a) (hx:0<x):0<(x+a/x)/2:=by
 by_cases h:x=1
 .subst h;rw[Nat.div_one];omega
 .have:2<=x:=by omega
  generalize a/x=q;omega
theorem Y4 (a:Nat):∀x:Nat,a<(x+1)*(x+1)->V9 a x*V9 a x<=a/\a<(V9 a x+1)*(V9 a x+1):=by
 intro x
 induction x using Nat.strongRecOn with
 |_ x ih=>
  intro h;rw[V9];by_cases hs:x<=(x+a/x)/2
  .rw[if_pos hs];refine⟨?_,h⟩;rcases ea x with hx|hx
   .subst hx;omega
   .have h1:x<=a/x:=by omega
    exact(Nat.le_div_iff_mul_le hx).1 h1
  .rw[if_neg hs];exact ih _ (fk hs) (Mr a x (cL (eU _) (fk hs)))
theorem DQ {r n:Nat} (h1:r*r<=n*n) (h2:n*n<(r+1)*(r+1)):r=n:=by
 have a:r<=n:=Nat.mul_self_le_mul_self_iff.1 h1;have b:n<r+1:=eb.1 h2;omega
theorem B4 (q:Rat):(q*q).num=q.num*q.num/\(q*q).den=q.den*q.den:=by
 have hc:Nat.Coprime (q.num*q.num).natAbs (q.den*q.den):=by rw[be];exact(q.reduced.mul_left q.reduced).mul_right (q.reduced.mul_left q.reduced)
 have hz:q.den*q.den≠0:=Nat.mul_ne_zero q.den_nz q.den_nz;have h:q*q=Rat.mk' (q.num*q.num) (q.den*q.den) hz hc:=by rw[Rat.mul_def,<-Rat.normalize_eq_mk' _ _ hz hc]
 rw[h];exact⟨rfl,rfl⟩
theorem U7 {a n:Nat} (h:a<10^(9*n)):a<(10^(9*((n+1)/2))+1)*(10^(9*((n+1)/2))+1):=by
 have h1:10^(9*n)<=10^(9*((n+1)/2)+9*((n+1)/2)):=dv (by omega) (by omega);rw[Nat.pow_add]at h1;generalize 10^(9*((n+1)/2))=x at *;have h2:(x+1)*(x+1)=x*x+2*x+1:=by grind
 omega
def zu (a:Nat):Nat:=V9 a a
theorem vC (a:Nat):zu a*zu a<=a/\a<(zu a+1)*(zu a+1):=Y4 a a (by
 have:(a+1)*(a+1)=a*a+2*a+1:=by grind
 have:=eU (a*a);omega)
theorem Ms {a r t:Nat} (h1:r*r<=a) (h2:a<(r+1)*(r+1)) (h3:t*t<=a) (h4:a<(t+1)*(t+1)):r=t:=by
 have a1:r<t+1:=eb.1 (cL h1 h4);have a2:t<r+1:=eb.1 (cL h3 h2);omega
theorem Mt {a x:Nat} (h:a<(x+1)*(x+1)):V9 a x=zu a:=
 Ms (Y4 a x h).1 (Y4 a x h).2 (vC a).1 (vC a).2
theorem JF {a n:Nat} (h:a<10^(9*n)):V9 a (10^(9*((n+1)/2)))=zu a:=Mt (U7 h)
theorem KQ (m:Nat):zu (m*m)=m:=DQ (vC (m*m)).1 (vC (m*m)).2
theorem GY (a x:Nat):V9 a x=if x<=(x+a/x)/2 then x else V9 a ((x+a/x)/2):=by rw[V9]
end Eng
end
section
open Go Go.Proofs Eng
namespace Eng
section
variable (Gv:Nat->List A->List A->Prop) (I0:List D->List D->Prop) (M0:List D->Nat) (I1:List D->List D->Prop) (M1:List D->Nat) (I2:List D->List D->Prop) (M2:List D->Nat) (I3:List D->List D->Prop) (M3:List D->Nat) (Q:List A->Prop)
theorem Rk (z0:Bool) (l0:List (List D)):wpF CC Gv an0 Tryz.f278 [.ag [.bool z0,.sl l0]] Q=(∃b es i,Gv 300 [aZ z0 l0] [aZ b es,aI i]/\bB (i==0) (∃b1 e1,Gv 88 [aZ b es,aZ b es] [aZ b1 e1]/\∃b2,Gv 226 [aZ b1 e1,aZ z0 l0] [aB b2]/\Q [aZ b es,aB b2]) (Q [aZ b es,aB false])):=by kernel_rfl
theorem Rm (r0:R4):wpF CC Gv an0 Tryz.f208 [.ag (rk r0 [])] Q=(∃b es b1,Gv 278 [aZ (R4.b r0) (R4.l r0)] [aZ b es,aB b1]/\∃b2 e1 b3,Gv 278 [aZ (R4.c r0) (R4.m r0)] [aZ b2 e1,aB b3]/\bB (!b1) (Q [F0 [Hv false,Hx [],Hv false,Hx []],aB false]) (bB (!b3) (Q [F0 [Hv false,Hx [],Hv false,Hx []],aB false]) (Q [F0 [Hv b,Hx es,Hv b2,Hx e1],aB true]))):=by kernel_rfl
theorem Mu (z0:Bool) (l0:List (List D)):wpF CC Gv (λ_=>⟨[.box 4 [(.bool false),(.slice none 0 0)]],[],I0,M0⟩) Tryz.f300 [.ag [.bool z0,.sl l0]] Q=(br z0 (Q [aZ false [],aI (7:Int)]) (bB ((P1 l0.length)==0) (Q [aZ false [],aI (0:Int)]) ((2:Int)≠(0:Int)/\(0<=J4 .i64 (U0 (J4 .i64 ((P1 l0.length)+1)) (2:Int))/\J4 .i64 (U0 (J4 .i64 ((P1 l0.length)+1)) (2:Int))<=J4 .i64 (U0 (J4 .i64 ((P1 l0.length)+1)) (2:Int))/\room (Sz (J4 .i64 (U0 (J4 .i64 ((P1 l0.length)+1)) (2:Int)))))/\(room (b7 (bx (Sz (J4 .i64 (U0 (J4 .i64 ((P1 l0.length)+1)) (2:Int)))) [Hy .u32 0])+1)/\lens 1 [[Hy .u32 1]])/\∃b es,Gv 85 [aI (2:Int)] [aZ b es]/\I0 [] [Hv false,Hx (bx (Sz (J4 .i64 (U0 (J4 .i64 ((P1 l0.length)+1)) (2:Int)))) [Hy .u32 0]++[[Hy .u32 1]])]/\∀(b1:Bool) (e1:List (List D)),I0 [] [Hv b1,Hx e1]->∃b2 e2 b3 e3 i,Gv 238 [aZ z0 l0,aZ b1 e1] [aZ b2 e2,aZ b3 e3,aI i]/\∃b4 e4,Gv 157 [aZ b1 e1,aZ b2 e2] [aZ b4 e4]/\∃b5 e5 b6 e6 i,Gv 238 [aZ b4 e4,aZ b es] [aZ b5 e5,aZ b6 e6,aI i]/\∃i,Gv 87 [aZ b5 e5,aZ b1 e1] [aI i]/\bB (decide (i>=0)) (Q [aZ b1 e1,aI (0:Int)]) (I0 [] [Hv b5,Hx e5]/\M0 [Hv b5,Hx e5]<M0 [Hv b1,Hx e1])))):=by kernel_rfl
theorem Rn (z0:Bool) (l0:List (List D)):wpF CC Gv (λ_=>⟨[.box 5 [(.bool false),(.slice none 0 0)]],[],I0,M0⟩) Tryz.f251 [.ag [.bool z0,.sl l0]] Q=(br z0 (Q [aZ false [],aI (7:Int)]) (bB ((P1 l0.length)==0) (Q [aZ false [],aI (0:Int)]) ((2:Int)≠(0:Int)/\(0<=J4 .i64 (U0 (J4 .i64 ((P1 l0.length)+1)) (2:Int))/\J4 .i64 (U0 (J4 .i64 ((P1 l0.length)+1)) (2:Int))<=J4 .i64 (U0 (J4 .i64 ((P1 l0.length)+1)) (2:Int))/\room (Sz (J4 .i64 (U0 (J4 .i64 ((P1 l0.length)+1)) (2:Int)))))/\(room (b7 (bx (Sz (J4 .i64 (U0 (J4 .i64 ((P1 l0.length)+1)) (2:Int)))) [Hy .u32 0])+1)/\lens 1 [[Hy .u32 1]])/\∃b es,Gv 193 [aB false,aL (bx (Sz (J4 .i64 (U0 (J4 .i64 ((P1 l0.length)+1)) (2:Int)))) [Hy .u32 0]++[[Hy .u32 1]])] [aZ b es]/\∃b1 e1,Gv 179 [aI (2:Int)] [aZ b1 e1]/\I0 [] [Hv b,Hx es]/\∀(b:Bool) (es:List (List D)),I0 [] [Hv b,Hx es]->∃b2 e2 b3 e3 i,Gv 308 [aZ z0 l0,aZ b es] [aZ b2 e2,aZ b3 e3,aI i]/\∃b4 e4,Gv 188 [aZ b es,aZ b2 e2] [aZ b4 e4]/\∃b5 e5 b6 e6 i,Gv 308 [aZ b4 e4,aZ b1 e1] [aZ b5 e5,aZ b6 e6,aI i]/\∃i,Gv 104 [aZ b5 e5,aZ b es] [aI i]/\bB (decide (i>=0)) (Q [aZ b es,aI (0:Int)]) (I0 [] [Hv b5,Hx e5]/\M0 [Hv b5,Hx e5]<M0 [Hv b,Hx es])))):=by kernel_rfl
theorem Ro (z0:Bool) (l0:List (List D)):wpF CC Gv an0 Tryz.f172 [.ag [.bool z0,.sl l0]] Q=(∃b es i,Gv 251 [aZ z0 l0] [aZ b es,aI i]/\bB (i==0) (∃b1 e1,Gv 105 [aZ b es,aZ b es] [aZ b1 e1]/\∃i,Gv 104 [aZ b1 e1,aZ z0 l0] [aI i]/\Q [aZ b es,aB (i==0)]) (Q [aZ b es,aB false])):=by kernel_rfl
theorem Rp (r0:R4):wpF CC Gv an0 Tryz.f93 [.ag (rk r0 [])] Q=(∃b es b1,Gv 172 [aZ (R4.b r0) (R4.l r0)] [aZ b es,aB b1]/\br b1 (∃b2 e1 b3,Gv 172 [aZ (R4.c r0) (R4.m r0)] [aZ b2 e1,aB b3]/\br b3 (Q [F0 [Hv b,Hx es,Hv b2,Hx e1],aB true]) (Q [F0 [Hv false,Hx [],Hv false,Hx []],aB false])) (Q [F0 [Hv false,Hx [],Hv false,Hx []],aB false])):=by kernel_rfl
theorem Mv (r0:R4):wpF CC Gv an0 Tryz.f298 [.ag (rk r0 [])] Q=(∃b es b1 e1 i,Gv 238 [aZ (R4.b r0) (R4.l r0),aZ (R4.c r0) (R4.m r0)] [aZ b es,aZ b1 e1,aI i]/\Q [aZ b es]):=by kernel_rfl
theorem Y5 (z0:Bool) (l0:List (List D)):wpF CC Gv an0 Tryz.f149 [.ag [.bool z0,.sl l0]] Q=(∃b es,Gv 86 [] [aZ b es]/\Q [F0 [Hv z0,Hx l0,Hv b,Hx es]]):=by kernel_rfl
theorem Mw (i0:Int):wpF CC Gv an0 Tryz.f454 [.c (.int .i64 i0)] Q=(∃b es,Gv 179 [aI i0] [aZ b es]/\∃b1 e1,Gv 179 [aI (65536:Int)] [aZ b1 e1]/\∃b2 e2,Gv 105 [aZ b es,aZ b1 e1] [aZ b2 e2]/\∃b es i,Gv 251 [aZ b2 e2] [aZ b es,aI i]/\∃i b3,Gv 170 [aZ b es] [aI i,aB b3]/\∃b4 e3,Gv 105 [aZ b es,aZ b es] [aZ b4 e3]/\∃i_1,Gv 104 [aZ b4 e3,aZ b2 e2] [aI i_1]/\Q [aI i,aB (i_1==0)]):=by kernel_rfl
theorem Rq (a0:Int) (b0:Int):wpF CC Gv an0 Tryz.f420 [.ag [.int .i64 a0,.int .i64 b0]] Q=(bB (decide (b0<0)) (Q [F0 [dI (0:Int),dI (0:Int)],aB false]) (∃i b,Gv 454 [aI (match decide (a0<0)with|true=>(0:Int)|false=>a0)] [aI i,aB b]/\∃i_1 b,Gv 454 [aI b0] [aI i_1,aB b]/\bB (!b) (∃i_2 i_3 b,Gv 453 [aI i,aI (J4 .i64 (i_1+1))] [F0 [dI i_2,dI i_3],aB b]/\Q [F0 [dI i_2,dI i_3],aB b]) (∃i_2 i_3 b,Gv 453 [aI i,aI i_1] [F0 [dI i_2,dI i_3],aB b]/\Q [F0 [dI i_2,dI i_3],aB b]))):=by kernel_rfl
end
end Eng
end
section
open Go Go.Proofs Eng
namespace Eng
section
variable (Gv:Nat->List A->List A->Prop) (I0:List D->List D->Prop) (M0:List D->Nat) (I1:List D->List D->Prop) (M1:List D->Nat) (I2:List D->List D->Prop) (M2:List D->Nat) (I3:List D->List D->Prop) (M3:List D->Nat) (Q:List A->Prop)
theorem Rr (z0:Bool) (l0:List (List D)) (z1:Bool) (l1:List (List D)):wpF CC Gv an0 Tryz.f186 [.ag [.bool z0,.sl l0],.ag [.bool z1,.sl l1]] Q=(∃i,Gv 191 [aZ z1 l1] [aI i]/\bB (i==0) (Q [F0 [Hv false,Hx [],Hv false,Hx []],aI (6:Int)]) (∃x,Gv 187 [aZ z0 l0,aZ z1 l1] [aR x]/\Q [aR x,aI (0:Int)])):=by kernel_rfl
end
end Eng
end
section
namespace Eng
open Go Go.Proofs Rl
theorem DR (a b:List Nat):raw (a++b)=raw a++raw b:=by unfold raw;rw[c4]
theorem DS (k:Nat):raw (bx k 0)=bx k [Hy .u32 0]:=by unfold raw;rw[List.map_replicate];rfl
theorem GZ (k:Nat):bx k [Hy Lv (0:Int)]++[[Hy Lv (1:Int)]]=raw (bx k 0++[1]):=by
 rw[DR,DS];rfl
theorem JG (k:Nat):Limbs (bx k 0++[1]):=by
 intro x hx;rw[List.mem_append]at hx;rcases hx with h|h
 .rw[(List.mem_replicate.1 h).2];omega
 .rw[List.mem_singleton.1 h];omega
theorem Ha (k:Nat):val (bx k 0++[1])=1000000000^k:=by
 rw[qU,kY,bF];show 0+1000000000^k*1=_;omega
theorem zO {n:Nat} (h:n<1000000000^200):Sm (n:Int):=by
 unfold Sm K3;rw[V1];exact fe h (Lx (by omega) (by omega))
theorem Qn (n:Nat):cI (n:Int)=[.bool false,.sl (raw (lim n))]:=by
 unfold cI;rw[V1,decide_eq_false (by omega)]
theorem qG (n:Nat):qN (n:Int)= .ag [.bool false,.sl (raw (lim n))]:=by unfold qN;rw[Qn]
def unr (l:List (List D)):Nat:=val (l.map λr=>(toI (nth .undef r 0)).toNat)
theorem DT (l:List Nat):unr (raw l)=val l:=by
 unfold unr raw;rw[List.map_map];congr 1;have:((λr:List D=>(toI (nth .undef r 0)).toNat)∘λ(x:Nat)=>[Hy .u32 (x:Int)])=id:=by funext x;rfl
 rw[this,List.map_id]
def msZ:List D->Nat
 |[_,.sl l]=>unr l
 |_=>0
theorem KR (x:Nat):msZ (cI (x:Int))=x:=by
 rw[Qn];show unr (raw (lim x))=x;rw[DT,qh]
theorem ak {b:Bool} {es:List (List D)} {x:Nat} (h:[Hv b,Hx es]=cI (x:Int)):b=false/\es=raw (lim x):=by
 rw[Qn]at h;simp only[c6,D.bool.injEq,D.sl.injEq,and_true]at h;exact h
theorem Mx (l:List Nat):(raw l).length=l.length:=by unfold raw;rw[b8]
theorem am (n:Nat):1000000000^n=10^(9*n):=by
 rw[show(1000000000:Nat)=10^9 from rfl,<-Nat.pow_mul]
theorem Rs (k:Nat):lim (1000000000^k)=bx k 0++[1]:=by
 rw[<-Ha];exact v5 (JG k) (.inr (by rw[List.getLast?_append];show(some 1:Option Nat)≠some 0;decide))
theorem DU {n a b:Nat} (h:n<=10^a) (k:a<9*b):n<1000000000^b:=by
 rw[am];exact cL h (cH (by omega) k)
theorem yx {n:Nat} (h:n<=10^1300):n<1000000000^190:=DU h (by omega)
theorem Rt (a:Nat):zu a<=a:=by
 have h:=(vC a).1;rcases ea (zu a)with h0|h0
 .omega
 .exact e7 (ep _ h0) h
section
variable [Env]
theorem My {a:Nat} (ha:a<1000000000^190):Gives CC 300 [qN (a:Int)] [qN (zu a:Int),.c (.int .i64 0)]:=by
 refine qj (anns:=λ_=>⟨[.box 4 [(.bool false),(.slice none 0 0)]],[],λ_ ds=>∃x:Nat,0<x/\x<1000000000^191/\ds=cI (x:Int)/\V9 a x=zu a,msZ⟩) mixedT Tryz.func300 ?_;rw[qG,Mu,Mx];have hL:(lim a).length<=190:=qp ha;have hav:a<10^(9*(lim a).length):=by
  have:=qX (qc a)
  rwa [qh,am]at this
 refine js (λh=>by simp at h) (λ_=>?_);refine brb (λh=>?_) (λh=>?_)
 .have h0:lim a=[]:=by apply cg;have:=bv h;simp only[Ts]at this;omega
  obtain rfl:=yt.1 h0;have:zu 0=0:=by unfold zu;rw[V9];rfl
  rw[this];rfl
 .have hp:0<(lim a).length:=by
   rcases ea (lim a).length with h0|h0
   .rw[h0]at h;simp at h
   .exact h0
  have ap:0<a:=qC.1 hp;have hk:J4 .i64 (U0 (J4 .i64 ((P1 (lim a).length)+1)) 2)=(((lim a).length+1)/2:Nat):=by simp only[Ts];rw[qR (n:=(((lim a).length:Nat):Int)+1),W1 (by omega),qR];omega
  rw[hk,Tk,GZ];generalize hkk:((lim a).length+1)/2=k at *;have h2:=zM (n:=2) (by omega) (by omega);have a0:1000000000^k<1000000000^191:=cH (by omega) (by omega);refine⟨by omega,⟨by omega,by omega,by unfold room;omega⟩,⟨by rw[bF];unfold room;omega,λe he=>by simp at he;subst he;rfl⟩,_,_,h2,⟨1000000000^k,fR (by omega),a0,by rw[Qn,Rs],?_⟩,?_⟩
  .rw[am,<-hkk];exact JF hav
  .rintro b es ⟨x,hx0,hx,he,hn⟩;obtain⟨rfl,rfl⟩:=ak he;have sx:Sm (x:Int):=zO (dl hx (cH (by omega) (by omega)));have sa:Sm (a:Int):=zO (dl ha (cH (by omega) (by omega)));have hq:=jC jg sa sx (by omega);have eq1:(a:Int)/(x:Int)=((a/x:Nat):Int):=rfl;have eq2:(a:Int)%(x:Int)=((a%x:Nat):Int):=rfl;rw[eq1,eq2]at hq;have hqa:a/x<=a:=fs _ _;have sq:Sm ((a/x:Nat):Int):=zO (cL hqa (dl ha (cH (by omega) (by omega))));have a2:=Zz sx sq;have e1:(x:Int)+((a/x:Nat):Int)=((x+a/x:Nat):Int):=by omega
   rw[e1]at a2;have hb:x+a/x<1000000000^200:=by have h3:1000000000^190<=1000000000^191:=dv (by omega) (by omega);have h4:1000000000^191*1000000000=1000000000^192:=(ft ..).symm;have h5:1000000000^192<=1000000000^200:=dv (by omega) (by omega);omega
   have a1:=jC jg (zO hb) (zO (n:=2) (by decide)) (by omega);have eq3:((x+a/x:Nat):Int)/((2:Nat):Int)=(((x+a/x)/2:Nat):Int):=rfl;have eq4:((x+a/x:Nat):Int)%((2:Nat):Int)=(((x+a/x)%2:Nat):Int):=rfl;rw[eq3,eq4]at a1;have sy:Sm (((x+a/x)/2:Nat):Int):=zO (by omega);have hc:=KC sy sx;rw[GY]at hn;generalize hy:(x+a/x)/2=y at *;rw[qG,qG,qG,qG]at hq;rw[qG,qG,qG]at a2;rw[qG,qG,qG,qG]at a1;rw[qG,qG]at hc;refine⟨_,_,_,_,_,hq,_,_,a2,_,_,_,_,_,a1,_,hc,?_⟩;unfold kh;refine brd (λh3=>?_) (λh3=>?_)
   .have:x<=y:=by
     rcases ec y x with h4|h4
     .rw[if_pos (by omega)]at h3;omega
     .exact h4
    rw[if_pos this]at hn;rw[<-hn,qG]
   .have h4:y<x:=by
     rcases ec y x with h4|h4
     .exact h4
     .exfalso;apply h3;rw[if_neg (by omega)];split<;>omega
    rw[if_neg (by omega)]at hn;have yp:0<y:=by rw[<-hy];exact GX ap hx0
    refine⟨⟨y,yp,by omega,(Qn y).symm,hn⟩,?_⟩;have m1:=KR y;have m2:=KR x;rw[Qn]at m1 m2;rw[m1,m2];exact h4
theorem Hb {a:Nat} (ha:a<=10^1300):Gives CC 278 [qN (a:Int)] [qN (zu a:Int),.c (.bool (decide (zu a*zu a=a)))]:=by
 have h1:=My (yx ha);have sa:Sm (a:Int):=zO (dl (yx ha) (cH (by omega) (by omega)));have hr:zu a<=a:=Rt a;have sr:Sm (zu a:Int):=zO (dl (yx (e7 hr ha)) (cH (by omega) (by omega)));have srr:Sm ((zu a*zu a:Nat):Int):=zO (cL (vC a).1 (dl (yx ha) (cH (by omega) (by omega))));have h2:=jf sr sr;have e:(zu a:Int)*(zu a:Int)=((zu a*zu a:Nat):Int):=(U3 _ _).symm;rw[e]at h2;have h3:=GS srr sa;have e2:decide (((zu a*zu a:Nat):Int)=(a:Int))=decide (zu a*zu a=a):=decide_eq_decide.2 (by omega);rw[e2]at h3;rw[qG,qG]at *;refine wpG Tryz.func278 ((Rk ..).mpr ?_);refine⟨_,_,_,h1,?_⟩;refine brb (λ_=>?_) (λh=>by simp at h);exact⟨_,_,h2,_,h3,rfl⟩
theorem B5 {a:Nat} (ha:a<1000000000^190):Gives CC 251 [qN (a:Int)] [qN (zu a:Int),.c (.int .i64 0)]:=by
 refine qj (anns:=λ_=>⟨[.box 5 [(.bool false),(.slice none 0 0)]],[],λ_ ds=>∃x:Nat,0<x/\x<1000000000^191/\ds=cI (x:Int)/\V9 a x=zu a,msZ⟩) mixedT Tryz.func251 ?_;rw[qG,Rn,Mx];have hL:(lim a).length<=190:=qp ha;have hav:a<10^(9*(lim a).length):=by
  have:=qX (qc a)
  rwa [qh,am]at this
 refine js (λh=>by simp at h) (λ_=>?_);refine brb (λh=>?_) (λh=>?_)
 .have h0:lim a=[]:=by apply cg;have:=bv h;simp only[Ts]at this;omega
  obtain rfl:=yt.1 h0;have:zu 0=0:=by unfold zu;rw[V9];rfl
  rw[this];rfl
 .have hp:0<(lim a).length:=by
   rcases ea (lim a).length with h0|h0
   .rw[h0]at h;simp at h
   .exact h0
  have ap:0<a:=qC.1 hp;have hk:J4 .i64 (U0 (J4 .i64 ((P1 (lim a).length)+1)) 2)=(((lim a).length+1)/2:Nat):=by simp only[Ts];rw[qR (n:=(((lim a).length:Nat):Int)+1),W1 (by omega),qR];omega
  rw[hk,Tk,GZ];generalize hkk:((lim a).length+1)/2=k at *;have h2:=up (xu (n:=2) (by omega) (by omega));have hg:=up (J6 false (JG k) (by rw[cb,bF];simp;omega));rw[Ha,Dd]at hg;have a0:1000000000^k<1000000000^191:=cH (by omega) (by omega);refine⟨by omega,⟨by omega,by omega,by unfold room;omega⟩,⟨by rw[bF];unfold room;omega,λe he=>by simp at he;subst he;rfl⟩,_,_,hg,_,_,h2,⟨1000000000^k,fR (by omega),a0,by rw[Qn],?_⟩,?_⟩
  .rw[am,<-hkk];exact JF hav
  .rintro b es ⟨x,hx0,hx,he,hn⟩;obtain⟨rfl,rfl⟩:=ak he;have sx:Sm (x:Int):=zO (dl hx (cH (by omega) (by omega)));have sa:Sm (a:Int):=zO (dl ha (cH (by omega) (by omega)));have hq:=kx wY sa sx (by omega);have eq1:(a:Int)/(x:Int)=((a/x:Nat):Int):=rfl;have eq2:(a:Int)%(x:Int)=((a%x:Nat):Int):=rfl;rw[eq1,eq2]at hq;have hqa:a/x<=a:=fs _ _;have sq:Sm ((a/x:Nat):Int):=zO (cL hqa (dl ha (cH (by omega) (by omega))));have a2:=up (QA sx sq);have e1:(x:Int)+((a/x:Nat):Int)=((x+a/x:Nat):Int):=by omega
   rw[e1]at a2;have hb:x+a/x<1000000000^200:=by have h3:1000000000^190<=1000000000^191:=dv (by omega) (by omega);have h4:1000000000^191*1000000000=1000000000^192:=(ft ..).symm;have h5:1000000000^192<=1000000000^200:=dv (by omega) (by omega);omega
   have a1:=kx wY (zO hb) (zO (n:=2) (by decide)) (by omega);have eq3:((x+a/x:Nat):Int)/((2:Nat):Int)=(((x+a/x)/2:Nat):Int):=rfl;have eq4:((x+a/x:Nat):Int)%((2:Nat):Int)=(((x+a/x)%2:Nat):Int):=rfl;rw[eq3,eq4]at a1;have sy:Sm (((x+a/x)/2:Nat):Int):=zO (by omega);have hc:=up (jP sy sx);rw[GY]at hn;generalize hy:(x+a/x)/2=y at *;rw[qG,qG,qG,qG]at hq;rw[qG,qG,qG]at a2;rw[qG,qG,qG,qG]at a1;rw[qG,qG]at hc;refine⟨_,_,_,_,_,hq,_,_,a2,_,_,_,_,_,a1,_,hc,?_⟩;unfold kh;refine brd (λh3=>?_) (λh3=>?_)
   .have:x<=y:=by
     rcases ec y x with h4|h4
     .rw[if_pos (by omega)]at h3;omega
     .exact h4
    rw[if_pos this]at hn;rw[<-hn,qG]
   .have h4:y<x:=by
     rcases ec y x with h4|h4
     .exact h4
     .exfalso;apply h3;rw[if_neg (by omega)];split<;>omega
    rw[if_neg (by omega)]at hn;have yp:0<y:=by rw[<-hy];exact GX ap hx0
    refine⟨⟨y,yp,by omega,(Qn y).symm,hn⟩,?_⟩;have m1:=KR y;have m2:=KR x;rw[Qn]at m1 m2;rw[m1,m2];exact h4
theorem Ru {s:Rat} {k:Nat} (hs:Hz k s) (hk:2*k<=1300) (h0:0<=s):Gives CC 208 [.ag (rk (q4 (s*s)) [])] [.ag (rk (q4 s) []),.c (.bool true)]:=by
 obtain⟨e1,e2⟩:=B4 s;have hc:=hs.mul hs (l:=1300) (by omega);have hn0:0<=s.num:=gv.2 h0;have f1:(s*s).num=((s.num.natAbs*s.num.natAbs:Nat):Int):=by rw[e1,U3,a6]
 have b1:s.num.natAbs*s.num.natAbs<=10^1300:=by have:=hc.1;rw[f1,V1]at this;exact this
 have b2:s.den*s.den<=10^1300:=by have:=hc.2;rw[e2]at this;exact this
 have a1:=Hb b1;have a2:=Hb b2;rw[KQ,decide_eq_true rfl]at a1 a2;have q1:qN (((s.num.natAbs*s.num.natAbs:Nat)):Int)= .ag [.bool (R4.b (q4 (s*s))),.sl (R4.l (q4 (s*s)))]:=by rw[<-f1];rfl
 have q2:qN ((s.den*s.den:Nat):Int)= .ag [.bool (R4.c (q4 (s*s))),.sl (R4.m (q4 (s*s)))]:=by rw[<-e2];rfl
 have q3:(s.num.natAbs:Int)=s.num:=by omega
 rw[q1,q3]at a1;rw[q2]at a2;refine wpG Tryz.func208 ((Rm ..).mpr ?_);exact⟨_,_,_,a1,_,_,_,a2,brb (λh=>by simp at h) (λ_=>brb (λh=>by simp at h) (λ_=>rfl))⟩
theorem Hc {m:Nat} (hm:m*m<=10^1300):Gives CC 172 [qN ((m*m:Nat):Int)] [qN (m:Int),.c (.bool true)]:=by
 have h1:=B5 (yx hm);rw[KQ]at h1;have a0:Sm ((m*m:Nat):Int):=zO (dl (yx hm) (cH (by omega) (by omega)));have hmm:m<=m*m:=by
  rcases ea m with h|h
  .subst h;exact eU _
  .exact ep _ h
 have sm:Sm (m:Int):=zO (cL hmm (dl (yx hm) (cH (by omega) (by omega))));have h2:=Eng.up (je sm sm);have e:(m:Int)*(m:Int)=((m*m:Nat):Int):=(U3 m m).symm;rw[e]at h2;have h3:=Eng.up (jP a0 a0);rw[qG]at *;refine wpG Tryz.func172 ((Ro ..).mpr ?_);refine⟨_,_,_,h1,?_⟩;refine brb (λ_=>?_) (λh=>by simp at h);refine⟨_,_,h2,_,h3,?_⟩;unfold kh;rw[if_neg (by omega),if_neg (by omega)];rw[qG];rfl
theorem Hd {s:Rat} {k:Nat} (hs:Hz k s) (hk:2*k<=1300) (h0:0<=s):Gives CC 93 [.ag (rk (q4 (s*s)) [])] [.ag (rk (q4 s) []),.c (.bool true)]:=by
 obtain⟨e1,e2⟩:=B4 s;have hc:=hs.mul hs (l:=1300) (by omega);have hn0:0<=s.num:=gv.2 h0;have f1:(s*s).num=((s.num.natAbs*s.num.natAbs:Nat):Int):=by rw[e1,U3,a6]
 have b1:s.num.natAbs*s.num.natAbs<=10^1300:=by have:=hc.1;rw[f1,V1]at this;exact this
 have b2:s.den*s.den<=10^1300:=by have:=hc.2;rw[e2]at this;exact this
 have a1:=Hc b1;have a2:=Hc b2;have q1:qN (((s.num.natAbs*s.num.natAbs:Nat)):Int)= .ag [.bool (R4.b (q4 (s*s))),.sl (R4.l (q4 (s*s)))]:=by rw[<-f1];rfl
 have q2:qN ((s.den*s.den:Nat):Int)= .ag [.bool (R4.c (q4 (s*s))),.sl (R4.m (q4 (s*s)))]:=by rw[<-e2];rfl
 have q3:(s.num.natAbs:Int)=s.num:=by omega
 rw[q1,q3]at a1;rw[q2]at a2;refine wpG Tryz.func93 ((Rp ..).mpr ?_);exact⟨_,_,_,a1,js (λ_=>⟨_,_,_,a2,js (λ_=>rfl) (λh=>by simp at h)⟩) (λh=>by simp at h)⟩
theorem Mz {x:Rat} (hx:Sr x):Gives CC 298 [xy x] [qN x.floor]:=by
 refine qj (anns:=an0) mixedT Tryz.func298 ?_;have hp:=x.den_pos;have h:=jC jg hx.1.sm hx.2.sm (by omega);have e:x.num/(x.den:Int)=x.floor:=by rw[gn]
 rw[e]at h;rw[show xy x= .ag (rk (q4 x) [])from rfl,Mv];rw[qI,qI,qI,qI]at h;rw[qI];exact⟨_,_,_,_,_,h,rfl⟩
theorem M4 {n:Int} (hn:Sm n):Gives CC 186 [qN n,qN 1] [xy (n:Rat),.c (.int .i64 0)]:=by
 have s1:Sm (1:Int):=zO (n:=1) (by decide);have g1:=Eng.up (Xn 1);have g2:=kz wY hn s1 (by omega);rw[show Rat.divInt n 1=(n:Rat)from Rat.ext (by rw[Rat.num_divInt];simp) (by rw[Rat.den_divInt];simp)]at g2;refine wpG Tryz.func186 ((Rr ..).mpr ?_);exact⟨_,g1,brb (λh=>by cases h) λ_=>⟨q4 (n:Rat),g2,rfl⟩⟩
theorem Y6 {n:Int}:Gives CC 149 [qN n] [xy (n:Rat)]:=by
 have h:=Xp;refine wpG Tryz.func149 ((Y5 ..).mpr ?_);refine⟨_,_,h,?_⟩;rfl
end
end Eng
end
section
namespace Eng
open Go Go.Proofs Rl
section
variable {ρ:Nat->Rat} {bd:Pol->Nat->Int}
def He (ρ:Nat->Rat):List Pol->List D
 |[]=>[]
 |p::r=>Qk (evP ρ p) 0::Qk (evP ρ p) 1::Qk (evP ρ p) 2::Qk (evP ρ p) 3::He ρ r
theorem Hf (p:Pol) (r:List Pol):tkR (p::r)= .tok p 0:: .tok p 1:: .tok p 2:: .tok p 3::tkR r:=rfl
theorem eM {w:World} {F:Nat->Prop}:∀{l:List Pol} {vs:List Value},All2 (@CD (envP ρ bd) w F) (tkR l) vs↔All2 (@CD (envP ρ bd) w F) (He ρ l) vs
 |[],vs=>Pl
 |p::r,vs=>by
  rw[Hf];unfold He
  match vs with
  |[]=>exact⟨λh=>h.elim,λh=>h.elim⟩
  |[_]=>exact⟨λh=>h.2.elim,λh=>h.2.elim⟩
  |[_,_]=>exact⟨λh=>h.2.2.elim,λh=>h.2.2.elim⟩
  |[_,_,_]=>exact⟨λh=>h.2.2.2.elim,λh=>h.2.2.2.elim⟩
  |a::b::c::d::vs=>
   exact⟨λ⟨h1,h2,h3,h4,h5⟩=>⟨(JE rfl).1 h1,(JE rfl).1 h2,(JE rfl).1 h3,(JE rfl).1 h4,eM.1 h5⟩,
    λ⟨h1,h2,h3,h4,h5⟩=>⟨(JE rfl).2 h1,(JE rfl).2 h2,(JE rfl).2 h3,(JE rfl).2 h4,eM.2 h5⟩⟩
theorem eN {w:World} {F:Nat->Prop} {l:List Pol} {v:Value}: @CA (envP ρ bd) w F (.ag (tkR l)) v↔ @CA (envP ρ bd) w F (.ag (He ρ l)) v:=by
 unfold CA;exact⟨λ⟨vs,e,h⟩=>⟨vs,e,eM.1 h⟩,λ⟨vs,e,h⟩=>⟨vs,e,eM.2 h⟩⟩
theorem Z8:∀{n:Nat} {ds:List D} {l:List Pol},LZ n ds=some l->ds=tkR l
 |0,ds,l,h=>by
  unfold LZ at h;split at h
  .obtain rfl:=fS h;rfl
  .rename_i e;cases e
  .cases h
 |n+1,ds,l,h=>by
  unfold LZ at h;split at h
  .rename_i e;cases e
  .rename_i m a b c d r e;obtain rfl:n=m:=by cases e;rfl
   split at h
   .rename_i p l' hp hl;obtain rfl:=fS h;rw[Hf,<-Z8 hl];have:=Vp hp;unfold tk at this;simp only[c6,and_true]at this;obtain⟨rfl,rfl,rfl,rfl⟩:=this;rfl
   .cases h
  .cases h
theorem vD (h:∀i,Hz 20 (ρ i)) {p:Pol} (hs:wC p=true):Hz 70000 (evP ρ p):=by
 unfold wC at hs;rw[Aw,decide_eq_true_eq]at hs;exact(GP h p hs.1).mono hs.2
theorem kA (h:∀i,Hz 20 (ρ i)) {k:Nat} {p:Pol} (hs:QZ k p=true):Hz k (evP ρ p):=by
 unfold QZ at hs;rw[Aw,decide_eq_true_eq]at hs;exact(GP h p hs.1).mono hs.2
def DV (ρ:Nat->Rat):Prop:=∀p∈whL,∃n:Int,evP ρ p=(n:Rat)
theorem Z9 {p:Pol}:∀{l:List Pol},IT l p=true->p∈l
 |[],h=>by cases h
 |q::r,h=>by
  unfold IT at h;split at h
  .rename_i e;rw[vd e];exact List.mem_cons_self
  .exact List.mem_cons_of_mem _ (Z9 h)
theorem Xu (hw:DV ρ) {p:Pol} (h:jh p=true):∃n:Int,evP ρ p=(n:Rat):=by
 unfold jh at h;split at h
 .rename_i e;exact hw _ (Z9 e)
 .obtain⟨n,e⟩:=hw _ (Z9 h);rw[yu]at e;exact⟨-n,by rw[gk];grind⟩
theorem M5 {ds:List D} {p:Pol} (h:unI ds=some p):ds=tkI p/\jh p=true:=by
 unfold unI at h;split at h
 .split at h
  .rename_i e;rw[Aw]at e;obtain rfl:=fS h;obtain rfl:=vd e.1;exact⟨rfl,e.2⟩
  .cases h
 .cases h
theorem ao {w:World} {F:Nat->Prop} {p:Pol} {n:Int} {v:Value} (e:evP ρ p=(n:Rat)): @CA (envP ρ bd) w F (.ag (tkI p)) v↔ @CA (envP ρ bd) w F (qN n) v:=by
 have e0:Qk (evP ρ p) 0= .bool (decide (n<0)):=by rw[e];show Hv (decide ((n:Rat).num<0))=_;rw[gr]
 have e1:Qk (evP ρ p) 1= .sl (raw (lim n.natAbs)):=by rw[e];show Hx (raw (lim (n:Rat).num.natAbs))=_;rw[gr]
 unfold qN cI tkI CA;constructor
 .rintro⟨vs,rfl,h⟩;refine⟨vs,rfl,?_⟩;generalize vs.toList=l at h ⊢
  match l,h with
  |[a,b],⟨h1,h2,_⟩=>exact⟨e0▸(JE rfl).1 h1,e1▸(JE rfl).1 h2,trivial⟩
 .rintro⟨vs,rfl,h⟩;refine⟨vs,rfl,?_⟩;generalize vs.toList=l at h ⊢
  match l,h with
  |[a,b],⟨h1,h2,_⟩=>exact⟨(JE rfl).2 (e0.symm▸h1),(JE rfl).2 (e1.symm▸h2),trivial⟩
theorem Hg {sg:Pol->Option Int} (hb:∀p s,sg p=some s->sr (evP ρ p)=s) {p r:Pol} (h:PX sg p=some r):evP ρ p=evP ρ r*evP ρ r/\0<=evP ρ r:=by
 unfold PX at h;split at h
 .obtain rfl:=fS h;exact⟨by show(0:Rat)=0*0;grind,Rat.le_refl⟩
 .split at h
  .split at h
   .rename_i n hs he;obtain rfl:=fS h;have e:=congrArg (evP ρ) (vd he);rw[z3]at e;refine⟨e.symm,?_⟩;have:=hb _ _ hs;unfold sr at this;split at this
    .rename_i q;exact Rat.le_of_lt q
    .split at this
     .have h0:(-1:Int)=((n:Nat):Int):=this;omega
     .rename_i q1 q2;exact Rat.not_lt.1 q2
   .cases h
  .cases h
 .cases h
theorem KS (hz:∀i,Hz 20 (ρ i)) {p:Pol} (hs:wC p=true) {n:Int} (e:evP ρ p=(n:Rat)):Sm n:=by
 have:=(v9 hz hs).1.sm;rw[e,gr]at this;exact this
theorem M6 (a b:Int):kh a b=sr ((a:Rat)-(b:Rat)):=by
 have e:(a:Rat)-(b:Rat)=((a-b:Int):Rat):=by rw[Rat.intCast_sub]
 rw[e];unfold kh sr;by_cases h:a<b
 .rw[if_pos h,if_neg (by rw[show(0:Rat)=((0:Int):Rat)from rfl,gd];omega),if_pos (by rw[show(0:Rat)=((0:Int):Rat)from rfl,gd];omega)]
 .rw[if_neg h];by_cases h2:a>b
  .rw[if_pos h2,if_pos (by rw[show(0:Rat)=((0:Int):Rat)from rfl,gd];omega)]
  .rw[if_neg h2,if_neg (by rw[show(0:Rat)=((0:Int):Rat)from rfl,gd];omega),if_neg (by rw[show(0:Rat)=((0:Int):Rat)from rfl,gd];omega)]
theorem DW {w:World} {F:Nat->Prop} {p:Pol} {x:A} {v:Value} (h: @Qv (envP ρ bd) w F [xy (evP ρ p),x] v): @Qv (envP ρ bd) w F [.ag (tk p),x] v:=by
 obtain⟨vs,rfl,h⟩:=h;refine⟨vs,rfl,?_⟩;generalize vs.toList=l at h ⊢
 match l,h with
 |[u,v],h=>exact⟨Av.2 h.1,h.2⟩
theorem hZ {w:World} {F:Nat->Prop} {p:Pol} {n:Int} (e:evP ρ p=(n:Rat)) {vs:List Value} (h:All2 (@CA (envP ρ bd) w F) [.ag (tkI p)] vs):All2 (@CA (envP ρ bd) w F) [qN n] vs:=by
 match vs,h with
 |[v],h=>exact⟨(ao e).1 h.1,trivial⟩
theorem eO {w:World} {F:Nat->Prop} {p:Pol} {n:Int} (e:evP ρ p=(n:Rat)) {v:Value} (h: @Qv (envP ρ bd) w F [qN n] v): @Qv (envP ρ bd) w F [.ag (tkI p)] v:=(ao e).2 h
theorem ic {sg:Pol->Option Int} (hz:∀i,Hz 20 (ρ i)) (hb:∀p s,sg p=some s->sr (evP ρ p)=s) (hw:DV ρ) (f:Nat) (x:List D) (rs:List A) (h:t1 sg f x=some rs): @Gives (envP ρ bd) CC f [.ag x] rs:=by
 letI:Env:=envP ρ bd
 unfold t1 at h;split at h
 .rename_i p hp;obtain rfl:=Vp hp;split at h
  .rename_i e;rw[Bx]at e;split at h
   .rename_i hs;obtain rfl:=fS h;have a0:=v9 hz hs;rcases e with e|e
    .obtain rfl:=cF e;exact(Md a0).conv (λ_ _ _ h=>Bw h) (λ_ _ _ h=>h)
    .obtain rfl:=cF e;exact(Mc a0).conv (λ_ _ _ h=>Bw h) (λ_ _ _ h=>h)
   .cases h
  .split at h
   .rename_i e;rw[Bx]at e;split at h
    .rename_i r hr;split at h
     .rename_i hk;obtain rfl:=fS h;obtain⟨e1,e2⟩:=Hg hb hr;have hh:=kA hz hk;rcases e with e|e
      .obtain rfl:=cF e;have g:=Ru hh (by omega) e2;rw[<-e1]at g;exact g.conv (λ_ _ _ h=>Bw h) (λ_ _ _ h=>DW h)
      .obtain rfl:=cF e;have g:=Hd hh (by omega) e2;rw[<-e1]at g;exact g.conv (λ_ _ _ h=>Bw h) (λ_ _ _ h=>DW h)
     .cases h
    .cases h
   .split at h
    .rename_i e;obtain rfl:=fS h;rw[Aw,Aw,Bx]at e;obtain⟨e,a1,hs⟩:=e;obtain⟨n,en⟩:=Xu hw a1;have a0:=v9 hz hs;have fl:(evP ρ p).floor=n:=by rw[en,Rat.floor_intCast]
     rcases e with e|e
     .obtain rfl:=cF e;have g:=Vs (vD hz hs);rw[fl]at g;exact g.conv (λ_ _ _ h=>Bw h) (λ_ _ _ h=>eO en h)
     .obtain rfl:=cF e;have g:=Mz a0;rw[fl]at g;exact g.conv (λ_ _ _ h=>Bw h) (λ_ _ _ h=>eO en h)
    .cases h
 .split at h
  .rename_i p hp;obtain⟨rfl,a1⟩:=M5 hp;obtain⟨n,en⟩:=Xu hw a1;split at h
   .rename_i hs;have a3:=KS hz hs en;split at h
    .rename_i e;rw[Bx]at e;obtain rfl:=fS h;have a2:evP ρ (vZ p)=((-n:Int):Rat):=by rw[yu,en,gk]
     rcases e with e|e
     .obtain rfl:=cF e;exact(Eng.up (Q9 a3)).conv (λ_ _ _ h=>hZ en h) (λ_ _ _ h=>eO a2 h)
     .obtain rfl:=cF e;exact(Zy a3).conv (λ_ _ _ h=>hZ en h) (λ_ _ _ h=>eO a2 h)
    .split at h
     .rename_i e;obtain rfl:=cF e;obtain rfl:=fS h;refine(Y6 (n:=n)).conv (λ_ _ _ h=>hZ en h) (λ_ _ _ h=>Ax (by rw[en];exact h))
     .cases h
   .cases h
  .cases h
theorem ig {sg:Pol->Option Int} (hz:∀i,Hz 20 (ρ i)) (hb:∀p s,sg p=some s->sr (evP ρ p)=s) (hw:DV ρ) (f:Nat) (x y:List D) (rs:List A) (h:t2 sg f x y=some rs): @Gives (envP ρ bd) CC f [.ag x,.ag y] rs:=by
 letI:Env:=envP ρ bd
 unfold t2 at h;split at h
 .rename_i p hp;obtain⟨rfl,hwh⟩:=M5 hp;obtain⟨n,en⟩:=Xu hw hwh;split at h
  .rename_i hs;have a0:=KS hz hs en;split at h
   .rename_i e;rw[Aw]at e;obtain rfl:=cF e.1;obtain rfl:=j0 (JD 20) e.2;obtain rfl:=fS h;have g:=M4 a0;refine g.conv (λw F vs hv=>?_) (λ_ _ _ h=>DW (by rw[en];exact h))
    match vs,hv with
    |[u,v],hv=>exact⟨(ao en).1 hv.1,hv.2.1,trivial⟩
   .split at h
    .rename_i q e hq;obtain⟨rfl,hwq⟩:=M5 hq;obtain⟨m,em⟩:=Xu hw hwq;rw[Bx]at e;split at h
     .rename_i s hs2 hsg;obtain rfl:=fS h;have a1:=KS hz hs2 em;have:=hb _ _ hsg;rw[zm,en,em,<-M6]at this;have a3:∀{g:Nat},Gives CC g [qN n,qN m] [.c (.int .i64 (kh n m))]->Gives CC g [.ag (tkI p),.ag (tkI q)] [.c (.int .i64 s)]:=λg=>by
       rw[this]at g;refine g.conv (λw F vs hv=>?_) (λ_ _ _ h=>h)
       match vs,hv with
       |[u,v],hv=>exact⟨(ao en).1 hv.1,(ao em).1 hv.2.1,trivial⟩
      rcases e with e|e
      .obtain rfl:=cF e;exact a3 (Eng.up (jP a0 a1))
      .obtain rfl:=cF e;exact a3 (KC a0 a1)
     .cases h
    .cases h
  .cases h
 .split at h
  .rename_i e;obtain rfl:=cF e;split at h
   .rename_i s hs;obtain rfl:=fS h;unfold IU at hs;split at hs
    .rename_i a b c x y hl hp;split at hs
     .rename_i a0;simp only[Aw]at a0;obtain⟨ha,a2,hc,hx,hy⟩:=a0;obtain rfl:=Z8 hl;obtain rfl:=Z8 hp;have:=af (vD hz ha) (vD hz a2) (vD hz hc) (vD hz hx) (vD hz hy);have e:=hb _ _ hs;rw[zm,xM,z3,z3]at e;rw[e]at this;refine this.conv (λw F vs hv=>?_) (λ_ _ _ h=>h)
      match vs,hv with
      |[u,v],hv=>exact⟨eN.1 hv.1,eN.1 hv.2.1,trivial⟩
     .cases hs
    .cases hs
   .cases h
  .split at h
   .rename_i e;obtain rfl:=cF e;split at h
    .rename_i s hs;obtain rfl:=fS h;unfold insT at hs;split at hs
     .rename_i a b c x y hl hp;split at hs
      .rename_i a0;simp only[Aw]at a0;obtain⟨ha,a2,hc,hx,hy⟩:=a0;obtain rfl:=Z8 hl;obtain rfl:=Z8 hp;have:=Rj (kA hz ha) (kA hz a2) (kA hz hc) (kA hz hx) (kA hz hy);have e:=hb _ _ hs;rw[zm,xM,z3,z3,zm,zm]at e;rw[e]at this;refine this.conv (λw F vs hv=>?_) (λ_ _ _ h=>h)
       match vs,hv with
       |[u,v],hv=>exact⟨eN.1 hv.1,eN.1 hv.2.1,trivial⟩
      .cases hs
     .cases hs
    .cases h
   .cases h
theorem Rv {sg:Pol->Option Int} (hz:∀i,Hz 20 (ρ i)) (hb:∀p s,sg p=some s->sr (evP ρ p)=s) (hw:DV ρ) (f:Nat) (al rs:List A) (h:DC sg f al=some rs): @Gives (envP ρ bd) CC f al rs:=by
 unfold DC at h;split at h
 .exact ic hz hb hw f _ _ h
 .exact ig hz hb hw f _ _ _ h
 .cases h
theorem DX {sg:Pol->Option Int} (hz:∀i,Hz 20 (ρ i)) (hb:∀p s,sg p=some s->sr (evP ρ p)=s) (hw:DV ρ) (f:Nat) (al rs:List A) (h:eG sg f al=some rs): @Gives (envP ρ bd) CC f al rs:=by
 letI:Env:=envP ρ bd
 unfold eG at h;split at h
 .rename_i h1;obtain rfl:=fS h;exact LU numK_G hz hb f al _ h1
 .split at h
  .rename_i h1;obtain rfl:=fS h;exact LU GR hz hb f al _ h1
  .split at h
   .rename_i h1;obtain rfl:=fS h;exact Rv hz hb hw f al _ h1
   .exact DB f al rs h
theorem ii (hz:∀i,Hz 20 (ρ i)) (hp:Uw ρ bsT) (ha:ρ 2=ρ 9+1000) (hb:ρ 3=ρ 10+1000) (hw:DV ρ): @xx (envP ρ bd):=by
 letI:Env:=envP ρ bd
 refine⟨λf al rs h=>DX hz (λp s hs=>Bl ρ hp ?_ p s hs) hw f al rs h⟩;have l1:∀i,evP ρ (lt i)=ρ i:=λi=>by
  show(1:Rat)*evE ρ 0 (zE i [1])+0=_;rw[PK,Nat.zero_add];show(1:Rat)*(ρ i*1*1)+0=_
  grind
 have k1:evP ρ (kP 1000)=1000:=by
  show((1000:Int):Rat)*1+0=1000
  grind
 intro j q h;unfold sgT at h
 match j,h with
 |0,h=>obtain rfl:=fS h;exact l1 0
 |1,h=>obtain rfl:=fS h;exact l1 1
 |2,h=>obtain rfl:=fS h;rw[xM,l1,k1,ha]
 |3,h=>obtain rfl:=fS h;rw[xM,l1,k1,hb]
 |4,h=>obtain rfl:=fS h;exact l1 4
 |5,h=>obtain rfl:=fS h;exact l1 5
 |6,h=>obtain rfl:=fS h;exact l1 6
 |7,h=>obtain rfl:=fS h;exact l1 7
 |8,h=>obtain rfl:=fS h;exact l1 8
 |9,h=>obtain rfl:=fS h;exact l1 9
 |10,h=>obtain rfl:=fS h;exact l1 10
 |n+11,h=>cases h
end
end Eng
end
section
namespace Eng
open Go
section
variable {E:Env}
def evD (E:Env):D->D
 | .tok p i=>E.E p i
 |d=>d
theorem Y7 {w:World} {F:Nat->Prop} {d:D} {v:Value}: @CD E w F d v↔ @CD E w F (evD E d) v:=by
 cases d with
 |tok p i=>exact⟨λh=>by cases h;assumption,λh=> @CD.tok E w F p i v h⟩
 |_=>exact Pl
theorem Y8 {w:World} {F:Nat->Prop}:∀{ds:List D} {vs:List Value},All2 (@CD E w F) ds vs↔All2 (@CD E w F) (ds.map (evD E)) vs
 |[],_=>Pl
 |_::_,[]=>Pl
 |_::_,_::_=>and_congr Y7 Y8
theorem KU {w:World} {F:Nat->Prop} {ds:List D} {v:Value}: @CA E w F (.ag ds) v↔ @CA E w F (.ag (ds.map (evD E))) v:=by
 unfold CA;exact⟨λ⟨vs,e,h⟩=>⟨vs,e,Y8.1 h⟩,λ⟨vs,e,h⟩=>⟨vs,e,Y8.2 h⟩⟩
end
end Eng
end
section
namespace Eng
open Go Go.Proofs
variable [Env] [xx]
noncomputable def T1L:List (Nat×k9):=[(436,xG jS CB 436 22),
 (442,xG jS CB 442 66),
 (488,xG jS CB 488 20)]
noncomputable def T1:Cx:=CX (T1L)
instance:EffOk (T1):=qV (zh ⟨qx (C:=CB) (C':=CX (T1L)) mixedT qq rfl rfl Tryz.func436 (by simp[Tryz.f436]) (by decide),
 qx (C:=CB) (C':=CX (T1L)) mixedT qq rfl rfl Tryz.func442 (by simp[Tryz.f442]) (by decide),
 qx (C:=CB) (C':=CX (T1L)) mixedT qq rfl rfl Tryz.func488 (by simp[Tryz.f488]) (by decide),trivial⟩)
noncomputable def T2L:List (Nat×k9):=[(410,xG jS T1 410 22),
 (415,xG jS T1 415 66),
 (464,xG jS T1 464 20),
 (417,xG jS T1 417 66)]
noncomputable def T2:Cx:=CX (T2L)
instance:EffOk (T2):=qV (zh ⟨qx (C:=T1) (C':=CX (T2L)) mixedT qq rfl rfl Tryz.func410 (by simp[Tryz.f410]) (by decide),
 qx (C:=T1) (C':=CX (T2L)) mixedT qq rfl rfl Tryz.func415 (by simp[Tryz.f415]) (by decide),
 qx (C:=T1) (C':=CX (T2L)) mixedT qq rfl rfl Tryz.func464 (by simp[Tryz.f464]) (by decide),
 qx (C:=T1) (C':=CX (T2L)) mixedT qq rfl rfl Tryz.func417 (by simp[Tryz.f417]) (by decide),trivial⟩)
noncomputable def T3L:List (Nat×k9):=[(368,xG jS T2 368 22),
 (374,xG jS T2 374 66),
 (438,zp (zH jS CB CB 438) (xG jS T2 438 20)),
 (377,xG jS T2 377 66),
 (422,zp (zH jS CB CB 422) (vX jS T2 422 20)),
 (441,zp (zH jS CB CB 441) (wV jS T2 441 20)),
 (370,zp (zH jS CB CB 370) (WZ jS T2 370 20))]
noncomputable def T3:Cx:=CX (T3L)
instance:EffOk (T3):=qV (zh ⟨qx (C:=T2) (C':=CX (T3L)) mixedT qq rfl rfl Tryz.func368 (by simp[Tryz.f368]) (by decide),
 qx (C:=T2) (C':=CX (T3L)) mixedT qq rfl rfl Tryz.func374 (by simp[Tryz.f374]) (by decide),
 qP (qQ (C:=CB) (C':=CX (T3L)) mixedT qq rfl rfl) (qx (C:=T2) (C':=CX (T3L)) mixedT qq rfl rfl Tryz.func438 (by simp[Tryz.f438]) (by decide)),
 qx (C:=T2) (C':=CX (T3L)) mixedT qq rfl rfl Tryz.func377 (by simp[Tryz.f377]) (by decide),
 qP (qQ (C:=CB) (C':=CX (T3L)) mixedT qq rfl rfl) (zI (C:=T2) (C':=CX (T3L)) mixedT qq rfl rfl Tryz.func422 (by simp[Tryz.f422]) (by decide)),
 qP (qQ (C:=CB) (C':=CX (T3L)) mixedT qq rfl rfl) (zq (C:=T2) (C':=CX (T3L)) mixedT qq rfl rfl Tryz.func441 (by simp[Tryz.f441]) (by decide)),
 qP (qQ (C:=CB) (C':=CX (T3L)) mixedT qq rfl rfl) (kW (C:=T2) (C':=CX (T3L)) mixedT qq rfl rfl Tryz.func370 (by simp[Tryz.f370]) (by decide)),trivial⟩)
noncomputable def T4L:List (Nat×k9):=[(368,xG jS T2 368 22),
 (374,xG jS T2 374 66),
 (438,zp (zH jS CB CB 438) (xG jS T2 438 20)),
 (377,xG jS T2 377 66),
 (422,zp (zH jS CB CB 422) (vX jS T2 422 20)),
 (441,zp (zH jS CB CB 441) (wV jS T2 441 20)),
 (370,zp (zH jS CB CB 370) (WZ jS T2 370 20)),
 (372,Up jS T3 372)]
noncomputable def T4:Cx:=CX (T4L)
instance:EffOk (T4):=qV (zh ⟨qx (C:=T2) (C':=CX (T4L)) mixedT qq rfl rfl Tryz.func368 (by simp[Tryz.f368]) (by decide),
 qx (C:=T2) (C':=CX (T4L)) mixedT qq rfl rfl Tryz.func374 (by simp[Tryz.f374]) (by decide),
 qP (qQ (C:=CB) (C':=CX (T4L)) mixedT qq rfl rfl) (qx (C:=T2) (C':=CX (T4L)) mixedT qq rfl rfl Tryz.func438 (by simp[Tryz.f438]) (by decide)),
 qx (C:=T2) (C':=CX (T4L)) mixedT qq rfl rfl Tryz.func377 (by simp[Tryz.f377]) (by decide),
 qP (qQ (C:=CB) (C':=CX (T4L)) mixedT qq rfl rfl) (zI (C:=T2) (C':=CX (T4L)) mixedT qq rfl rfl Tryz.func422 (by simp[Tryz.f422]) (by decide)),
 qP (qQ (C:=CB) (C':=CX (T4L)) mixedT qq rfl rfl) (zq (C:=T2) (C':=CX (T4L)) mixedT qq rfl rfl Tryz.func441 (by simp[Tryz.f441]) (by decide)),
 qP (qQ (C:=CB) (C':=CX (T4L)) mixedT qq rfl rfl) (kW (C:=T2) (C':=CX (T4L)) mixedT qq rfl rfl Tryz.func370 (by simp[Tryz.f370]) (by decide)),
 yX (C:=T3) (C':=CX (T4L)) mixedT qq rfl rfl Tryz.func372 (by simp[Tryz.f372]) (by decide),trivial⟩)
noncomputable def KTL:List (Nat×k9):=[(368,xG jS T2 368 22),
 (374,xG jS T2 374 66),
 (438,zp (zH jS CB CB 438) (xG jS T2 438 20)),
 (377,xG jS T2 377 66),
 (422,zp (zH jS CB CB 422) (vX jS T2 422 20)),
 (441,zp (zH jS CB CB 441) (wV jS T2 441 20)),
 (370,zp (zH jS CB CB 370) (WZ jS T2 370 20)),
 (372,Up jS T3 372),
 (318,vX jS T4 318 66),
 (317,wV jS T4 317 66)]
noncomputable def KT:Cx:=CX (KTL)
instance:EffOk (KT):=qV (zh ⟨qx (C:=T2) (C':=CX (KTL)) mixedT qq rfl rfl Tryz.func368 (by simp[Tryz.f368]) (by decide),
 qx (C:=T2) (C':=CX (KTL)) mixedT qq rfl rfl Tryz.func374 (by simp[Tryz.f374]) (by decide),
 qP (qQ (C:=CB) (C':=CX (KTL)) mixedT qq rfl rfl) (qx (C:=T2) (C':=CX (KTL)) mixedT qq rfl rfl Tryz.func438 (by simp[Tryz.f438]) (by decide)),
 qx (C:=T2) (C':=CX (KTL)) mixedT qq rfl rfl Tryz.func377 (by simp[Tryz.f377]) (by decide),
 qP (qQ (C:=CB) (C':=CX (KTL)) mixedT qq rfl rfl) (zI (C:=T2) (C':=CX (KTL)) mixedT qq rfl rfl Tryz.func422 (by simp[Tryz.f422]) (by decide)),
 qP (qQ (C:=CB) (C':=CX (KTL)) mixedT qq rfl rfl) (zq (C:=T2) (C':=CX (KTL)) mixedT qq rfl rfl Tryz.func441 (by simp[Tryz.f441]) (by decide)),
 qP (qQ (C:=CB) (C':=CX (KTL)) mixedT qq rfl rfl) (kW (C:=T2) (C':=CX (KTL)) mixedT qq rfl rfl Tryz.func370 (by simp[Tryz.f370]) (by decide)),
 yX (C:=T3) (C':=CX (KTL)) mixedT qq rfl rfl Tryz.func372 (by simp[Tryz.f372]) (by decide),
 zI (C:=T4) (C':=CX (KTL)) mixedT qq rfl rfl Tryz.func318 (by simp[Tryz.f318]) (by decide),
 zq (C:=T4) (C':=CX (KTL)) mixedT qq rfl rfl Tryz.func317 (by simp[Tryz.f317]) (by decide),trivial⟩)
end Eng
end
section
namespace Eng
def vcT (x y:Pol):List D:=tkR [x,y]
def pol0:List A:=[.c (.sl [vcT lX0 lY0,vcT lX1 lY0,vcT lX1 lY1,vcT lX0 lY1])]
def pol1:List A:=[.c (.sl [vcT lX0 lY0,vcT lX1 lY0,vcT lX1 lYm,vcT lXm lY1,vcT lX0 lY1])]
def pol2:List A:=[.c (.sl [vcT lX0 lY0,vcT lX1 lY0,vcT lX0 lY1])]
def ij:List D:=tkR [lt 4,lt 5,ZO (lt 6) (lt 6)]
end Eng
end
section
open Go Go.Proofs Eng
namespace Eng
section
variable (Gv:Nat->List A->List A->Prop) (I0:List D->List D->Prop) (M0:List D->Nat) (I1:List D->List D->Prop) (M1:List D->Nat) (I2:List D->List D->Prop) (M2:List D->Nat) (I3:List D->List D->Prop) (M3:List D->Nat) (Q:List A->Prop)
theorem DY (r0 r1 r2 r3 r4 r5:R4) (cw:Bool) (p0 p1:P20):wpF CSp Gv (λ_=>⟨[.slot 22 (.int .i64 0),.box 3 [(.int .i64 0),(.int .i64 0),(.int .i64 0),(.int .i64 0),(.bool false)]],[],I0,M0⟩) Tryz.f378 [.ag (.bool true::rk r0 (rk r1 (rk r2 (rk r3 (rk r4 (rk r5 (.bool cw::pk p0 (pk p1 []))))))))] Q=(I0 [] [dI (0:Int),dI (4611686018427387904:Int),dI (-4611686018427387904:Int),dI (4611686018427387904:Int),dI (-4611686018427387904:Int),Hv true]/\∀(i i_1 i_2 i_3 i_4:Int) (b:Bool),I0 [] [dI i,dI i_1,dI i_2,dI i_3,dI i_4,Hv b]->bB (decide (i<2)) ((0<=i/\i<2)/\∃x,cut (nth [] [(pk p0 []),(pk p1 [])] (Sz i)) 0 20 (pk x [])/\∃x1 x2 x3,Gv 180 [aP x] [aT x1 x2 x3]/\∃i_5 i_6 b1,Gv 383 [aT x1 x2 x3] [F0 [dI i_5,dI i_6],aB b1]/\∃x4 x5 x6,Gv 181 [aP x] [aT x4 x5 x6]/\∃i_7 i_8 b2,Gv 383 [aT x4 x5 x6] [F0 [dI i_7,dI i_8],aB b2]/\bB (!b1) (Q [F0 [dI (0:Int),dI (0:Int),dI (0:Int),dI (0:Int),Hv false]]) (bB (!b2) (Q [F0 [dI (0:Int),dI (0:Int),dI (0:Int),dI (0:Int),Hv false]]) (true=true/\I0 [] [dI (J4 .i64 (i+1)),dI (mnI i_5 i_1),dI (mxI i_2 i_6),dI (mnI i_7 i_3),dI (mxI i_4 i_8),Hv b]/\M0 [dI (J4 .i64 (i+1)),dI (mnI i_5 i_1),dI (mxI i_2 i_6),dI (mnI i_7 i_3),dI (mxI i_4 i_8),Hv b]<M0 [dI i,dI i_1,dI i_2,dI i_3,dI i_4,Hv b]))) (∃i i_5 b1,Gv 419 [aR r4] [F0 [dI i,dI i_5],aB b1]/\∃i_6 i_7 b2,Gv 419 [aR r5] [F0 [dI i_6,dI i_7],aB b2]/\bB (!b1) (Q [F0 [dI (0:Int),dI (0:Int),dI (0:Int),dI (0:Int),Hv false]]) (bB (!b2) (Q [F0 [dI (0:Int),dI (0:Int),dI (0:Int),dI (0:Int),Hv false]]) (∃i_8 i_9 b3,Gv 420 [F0 [dI i_6,dI i_7]] [F0 [dI i_8,dI i_9],aB b3]/\bB (!b3) (Q [F0 [dI (0:Int),dI (0:Int),dI (0:Int),dI (0:Int),Hv false]]) (br cw (Q [F0 [dI i_1,dI i_2,dI i_3,dI (match decide (i_4<J4 .i64 (i_5+i_9))with|true=>J4 .i64 (i_5+i_9)|false=>i_4),Hv b]]) (Q [F0 [dI i_1,dI i_2,dI (match decide (J4 .i64 (i-i_9)<i_3)with|true=>J4 .i64 (i-i_9)|false=>i_3),dI i_4,Hv b]])))))):=by kernel_rfl
end
end Eng
end
section
namespace Eng
open Go
def evX (E:Env):D->D
 | .tok p i=>E.E p i
 | .sl es=> .sl (es.map (cm (evD E)))
 |d=>d
def evR (E:Env) (ds:List D):List D:=ds.map (evX E)
def evA (E:Env):A->A
 | .c d=> .c (evX E d)
 | .ag ds=> .ag (evR E ds)
section
variable {E:Env} {w:World} {F:Nat->Prop}
theorem Hh (f:D->D):∀es:List (List D),(es.map (cm f)).flatten=es.flatten.map f
 |[]=>rfl
 |e::es=>by simp only[List.map_cons,cv,c4,Hh f es]
theorem Row.ev {es:List (List D)} {b o s:Nat}: @Row E w F es b o s↔ @Row E w F (es.map (cm (evD E))) b o s:=by
 have hn:∀j,nth .undef (es.map (cm (evD E))).flatten j=evD E (nth .undef es.flatten j):=λj=>by rw[Hh];exact Zg (evD E) .undef es.flatten j
 constructor
 .rintro⟨h1,h2,h3⟩;refine⟨λe he=>?_,h2,λj hj=>?_⟩
  .obtain⟨e',he',rfl⟩:=c5.1 he;rw[b8];exact h1 _ he'
  .rw[b8]at hj;obtain⟨v,q1,q2⟩:=h3 j hj;exact⟨v,q1,by rw[hn];exact Y7.1 q2⟩
 .rintro⟨h1,h2,h3⟩;refine⟨λe he=>?_,h2,λj hj=>?_⟩
  .have:=h1 _ (c5.2 ⟨e,he,rfl⟩)
   rwa [b8]at this
  .obtain⟨v,q1,q2⟩:=h3 j (by rw[b8];exact hj);exact⟨v,q1,Y7.2 (by rw[<-hn];exact q2)⟩
theorem M7 {d:D} {v:Value}: @CD E w F d v↔ @CD E w F (evX E d) v:=by
 cases d with
 |tok p i=>exact⟨λh=>by cases h;assumption,λh=> @CD.tok E w F p i v h⟩
 |sl es=>
  show @CD E w F (.sl es) v↔ @CD E w F (.sl (es.map (cm (evD E)))) v;constructor
  .intro h;obtain⟨ad,c,rfl,hc,h⟩:= @CD.slice_inv E F w _ _ h;rcases h with rfl|⟨b,o,s,rfl,hr⟩
   .exact @CD.nil E w F _ _
   .have:= @Row.CD E F w _ b o s c (Row.ev.1 hr) (by rw[b8];exact hc)
    rwa [b8]at this
  .intro h;obtain⟨ad,c,rfl,hc,h⟩:= @CD.slice_inv E F w _ _ h;rw[b8]at hc ⊢;rcases h with h|⟨b,o,s,rfl,hr⟩
   .obtain rfl:=List.map_eq_nil_iff.1 h;exact @CD.nil E w F _ _
   .exact @Row.CD E F w _ b o s c (Row.ev.2 hr) hc
 |_=>exact Pl
theorem Y9:∀{ds:List D} {vs:List Value},All2 (@CD E w F) ds vs↔All2 (@CD E w F) (evR E ds) vs
 |[],_=>Pl
 |_::_,[]=>Pl
 |_::_,_::_=>and_congr M7 Y9
theorem Hi {a:A} {v:Value}: @CA E w F a v↔ @CA E w F (evA E a) v:=by
 cases a with
 |c d=>exact M7
 |ag ds=>show @CA E w F (.ag ds) v↔ @CA E w F (.ag (evR E ds)) v;unfold CA;exact⟨λ⟨vs,e,h⟩=>⟨vs,e,Y9.1 h⟩,λ⟨vs,e,h⟩=>⟨vs,e,Y9.2 h⟩⟩
theorem Xv:∀{al:List A} {vs:List Value},All2 (@CA E w F) al vs↔All2 (@CA E w F) (al.map (evA E)) vs
 |[],_=>Pl
 |_::_,[]=>Pl
 |_::_,_::_=>and_congr Hi Xv
theorem DZ {rs:List A} {v:Value}: @Qv E w F rs v↔ @Qv E w F (rs.map (evA E)) v:=by
 match rs with
 |[]=>exact Pl
 |[a]=>exact Hi
 |a::b::r=>show(∃vs:Array Value,v= .tuple vs/\All2 (@CA E w F) (a::b::r) vs.toList)↔∃vs:Array Value,v= .tuple vs/\All2 (@CA E w F) ((a::b::r).map (evA E)) vs.toList;exact⟨λ⟨vs,e,h⟩=>⟨vs,e,Xv.1 h⟩,λ⟨vs,e,h⟩=>⟨vs,e,Xv.2 h⟩⟩
theorem Rw {C:Cx} {f:Nat} {al rs:List A} (h: @Gives E C f al rs): @Gives E C f (al.map (evA E)) (rs.map (evA E)):=
 @Gives.conv E C f al _ rs _ (λ_ _ _ q=>Xv.2 q) (λ_ _ _ q=>DZ.1 q) h
end
def plD:Nat->D->Prop
 |0,_=>False
 |n+1,.sl es=>∀e∈es,∀d∈e,plD n d
 |_+1,.tok _ _=>False
 |_+1,.ptr _=>False
 |_+1,.clo _ _=>False
 |_+1,.map _=>False
 |_+1,_=>True
def plA (n:Nat):A->Prop
 | .c d=>plD n d
 | .ag ds=>∀d∈ds,plD n d
section
variable {E E':Env} {w:World} {F:Nat->Prop}
theorem Rx {l:List D} {P:D->Prop} (h:∀d∈l,P d) {j:Nat} (hj:j<l.length):P (nth .undef l j):=by
 rw[qm _ hj];exact h _ (cc hj)
theorem Hj {s:Nat}:∀{es:List (List D)},(∀e∈es,e.length=s)->es.flatten.length=es.length*s
 |[],_=>by simp
 |e::es,h=>by rw[cv,cb,h e (by simp),Hj λx hx=>h x (by simp[hx]),c3,Nat.succ_mul,Nat.add_comm]
theorem YA:∀{n:Nat} {d:D} {v:Value},plD n d-> @CD E w F d v-> @CD E' w F d v
 |0,_,_,h,_=>h.elim
 |n+1,d,v,hp,h=>by
  cases d with
  |sl es=>
   obtain⟨ad,c,rfl,hc,h⟩:= @CD.slice_inv E F w _ _ h;rcases h with rfl|⟨b,o,s,rfl,hr⟩
   .exact @CD.nil E' w F _ _
   .refine @Row.CD E' F w _ b o s c ?_ hc;obtain⟨h1,h2,h3⟩:=hr;refine⟨h1,h2,λj hj=>?_⟩;obtain⟨u,q1,q2⟩:=h3 j hj;refine⟨u,q1,YA (n:=n) (Rx (P:=plD n) (λd hd=>?_) ?_) q2⟩
    .obtain⟨e,he,hd⟩:=List.mem_flatten.1 hd;exact hp e he d hd
    .rw[Hj h1];exact hj
  |tok p i=>exact hp.elim
  |ptr cs=>exact hp.elim
  |clo f ps=>exact hp.elim
  |map l=>exact hp.elim
  |undef=>cases h with|undef v h=>exact @CD.undef E' w F v h
  |bool b=>cases h;exact @CD.bool E' w F b
  |int k n=>cases h;exact @CD.int E' w F k n
  |str s=>cases h;exact @CD.str E' w F s
  |ifc b=>cases h with
   |nilI=>exact @CD.nilI E' w F
   |someI t v h=>exact @CD.someI E' w F t v h
  |nilP=>cases h;exact @CD.nilP E' w F
  |fn f=>cases h;exact @CD.fn E' w F f
theorem M8 {n:Nat}:∀{ds:List D} {vs:List Value},(∀d∈ds,plD n d)->All2 (@CD E w F) ds vs->All2 (@CD E' w F) ds vs
 |[],[],_,_=>trivial
 |_::_,_::_,h,k=>⟨YA (h _ (by simp)) k.1,M8 (λd hd=>h d (by simp[hd])) k.2⟩
 |[],_::_,_,k=>k.elim
 |_::_,[],_,k=>k.elim
theorem M9 {n:Nat} {a:A} {v:Value} (h:plA n a) (k: @CA E w F a v): @CA E' w F a v:=by
 cases a with
 |c d=>exact YA (n:=n) (d:=d) h k
 |ag ds=>unfold CA at k ⊢;obtain⟨vs,e,k⟩:=k;exact⟨vs,e,M8 (n:=n) h k⟩
theorem KV {n:Nat}:∀{al:List A} {vs:List Value},(∀a∈al,plA n a)->All2 (@CA E w F) al vs->All2 (@CA E' w F) al vs
 |[],[],_,_=>trivial
 |_::_,_::_,h,k=>⟨M9 (h _ (by simp)) k.1,KV (λd hd=>h d (by simp[hd])) k.2⟩
 |[],_::_,_,k=>k.elim
 |_::_,[],_,k=>k.elim
theorem Ea {n:Nat} {rs:List A} {v:Value} (h:∀a∈rs,plA n a) (k: @Qv E w F rs v): @Qv E' w F rs v:=by
 match rs,k with
 |[],k=>obtain⟨vs,e,k⟩:=k;exact⟨vs,e,KV (n:=n) h k⟩
 |[a],k=>exact M9 (h a (by simp)) k
 |a::b::r,k=>obtain⟨vs,e,k⟩:=k;exact⟨vs,e,KV (n:=n) h k⟩
theorem MA {C:Cx} (hC:∀F w, @Inv E C F w↔ @Inv E' C F w) {n f:Nat} {al rs:List A} (ha:∀a∈al,plA n a) (hr:∀a∈rs,plA n a) (h: @Gives E C f al rs): @Gives E' C f al rs:=by
 intro w F vs hF hi hv;refine(h w F vs hF ((hC F w).2 hi) (KV ha hv)).mono λe w' he=>?_
 obtain⟨hb,v,rfl,k⟩:=he;exact⟨hb,v,rfl,Ea hr k⟩
theorem aq {E E':Env} (F:Nat->Prop) (w:World): @Inv E CC F w↔ @Inv E' CC F w:=⟨λ_ _ _ hg=>(by cases hg),λ_ _ _ hg=>(by cases hg)⟩
end
end Eng
end
section
namespace Eng
def tkE (p:Pol) (x:List D):List D:= .tok p 0:: .tok p 1:: .tok p 2:: .tok p 3::x
def zrE (x:List D):List D:= .bool false:: .sl []:: .bool false:: .sl []::x
def Eb:List D:= .cons (.bool false)<|tkE []<|tkE [(3,[0,0,1])]<|tkE [(3,[0,1,1])]<|zrE<|zrE<|zrE<|.cons (.bool false)<|tkE [(1,[1])]<|tkE []<|tkE [(1,[0,1])]<|tkE []<|tkE []<|tkE [(3,[0,0,1]),(1,[1])]<|tkE []<|tkE [(1,[0,1])]<|tkE []<|tkE []<|[]
def Ec:List D:= .cons (.bool false)<|tkE [(2,[0,0,0,1])]<|tkE []<|tkE [(2,[1,0,0,1])]<|zrE<|zrE<|zrE<|.cons (.bool false)<|tkE [(1,[1])]<|tkE []<|tkE [(1,[0,1])]<|tkE []<|tkE []<|tkE [(1,[1])]<|tkE []<|tkE [(2,[0,0,0,1]),(1,[0,1])]<|tkE []<|tkE []<|[]
def Ed:List D:= .cons (.bool false)<|tkE []<|tkE [(-3,[0,0,1])]<|tkE [(-6,[0,0,1,1]),(-3,[0,1,1])]<|zrE<|zrE<|zrE<|.cons (.bool false)<|tkE [(1,[1])]<|tkE []<|tkE [(2,[0,0,0,1]),(1,[0,1])]<|tkE []<|tkE []<|tkE [(3,[0,0,1]),(1,[1])]<|tkE []<|tkE [(2,[0,0,0,1]),(1,[0,1])]<|tkE []<|tkE []<|[]
def Ee:List D:= .cons (.bool false)<|tkE [(-2,[0,0,0,1])]<|tkE []<|tkE [(-6,[0,0,1,1]),(-2,[1,0,0,1])]<|zrE<|zrE<|zrE<|.cons (.bool false)<|tkE [(3,[0,0,1]),(1,[1])]<|tkE []<|tkE [(1,[0,1])]<|tkE []<|tkE []<|tkE [(3,[0,0,1]),(1,[1])]<|tkE []<|tkE [(2,[0,0,0,1]),(1,[0,1])]<|tkE []<|tkE []<|[]
def Ef:List D:= .cons (.bool false)<|tkE []<|tkE [(3,[0,0,1])]<|tkE [(3,[0,1,1])]<|zrE<|zrE<|zrE<|.cons (.bool false)<|tkE [(1,[1])]<|tkE []<|tkE [(1,[0,1])]<|tkE []<|tkE []<|tkE [(3,[0,0,1]),(1,[1])]<|tkE []<|tkE [(1,[0,1])]<|tkE []<|tkE []<|[]
def Eg:List D:= .cons (.bool false)<|tkE [(2,[0,0,0,1])]<|tkE []<|tkE [(2,[1,0,0,1])]<|zrE<|zrE<|zrE<|.cons (.bool false)<|tkE [(1,[1])]<|tkE []<|tkE [(1,[0,1])]<|tkE []<|tkE []<|tkE [(1,[1])]<|tkE []<|tkE [(2,[0,0,0,1]),(1,[0,1])]<|tkE []<|tkE []<|[]
def Eh:List D:= .cons (.bool false)<|tkE [(-2,[0,0,0,1])]<|tkE [(-3,[0,0,1])]<|tkE [(-6,[0,0,1,1]),(-3,[0,1,1]),(-2,[1,0,0,1])]<|zrE<|zrE<|zrE<|.cons (.bool false)<|tkE [(1,[1])]<|tkE []<|tkE [(2,[0,0,0,1]),(1,[0,1])]<|tkE []<|tkE []<|tkE [(3,[0,0,1]),(1,[1])]<|tkE []<|tkE [(1,[0,1])]<|tkE []<|tkE []<|[]
def ar:List D:= .cons (.bool true)<|zrE<|zrE<|zrE<|tkE [(1,[0,0,0,0,1])]<|tkE [(1,[0,0,0,0,0,1])]<|tkE [(1,[0,0,0,0,0,0,2])]<|.cons (.bool false)<|tkE [(-1,[0,0,0,0,0,0,1]),(1,[0,0,0,0,1])]<|tkE []<|tkE [(1,[0,0,0,0,0,1])]<|tkE []<|tkE []<|tkE [(1,[0,0,0,0,0,0,1]),(1,[0,0,0,0,1])]<|tkE []<|tkE [(1,[0,0,0,0,0,1])]<|tkE []<|tkE []<|[]
def au:List D:= .cons (.bool true)<|zrE<|zrE<|zrE<|tkE [(1,[0,0,0,0,1])]<|tkE [(1,[0,0,0,0,0,1])]<|tkE [(1,[0,0,0,0,0,0,2])]<|.cons (.bool true)<|tkE [(-1,[0,0,0,0,0,0,1]),(1,[0,0,0,0,1])]<|tkE []<|tkE [(1,[0,0,0,0,0,1])]<|tkE []<|tkE []<|tkE [(1,[0,0,0,0,0,0,1]),(1,[0,0,0,0,1])]<|tkE []<|tkE [(1,[0,0,0,0,0,1])]<|tkE []<|tkE []<|[]
def MB:List D:= .cons (.bool false)<|tkE []<|tkE [(3,[0,0,1])]<|tkE [(3,[0,1,1])]<|zrE<|zrE<|zrE<|.cons (.bool false)<|tkE [(1,[1])]<|tkE []<|tkE [(1,[0,1])]<|tkE []<|tkE []<|tkE [(3,[0,0,1]),(1,[1])]<|tkE []<|tkE [(1,[0,1])]<|tkE []<|tkE []<|[]
def MD:List D:= .cons (.bool false)<|tkE [(2,[0,0,0,1])]<|tkE []<|tkE [(2,[1,0,0,1])]<|zrE<|zrE<|zrE<|.cons (.bool false)<|tkE [(1,[1])]<|tkE []<|tkE [(1,[0,1])]<|tkE []<|tkE []<|tkE [(1,[1])]<|tkE []<|tkE [(2,[0,0,0,1]),(1,[0,1])]<|tkE []<|tkE []<|[]
def ME:List D:= .cons (.bool false)<|tkE []<|tkE [(3000,[]),(-3,[0,0,1])]<|tkE [(6000,[0,0,0,1]),(-6,[0,0,1,1]),(3000,[0,1]),(-3,[0,1,1])]<|zrE<|zrE<|zrE<|.cons (.bool false)<|tkE [(1,[1])]<|tkE []<|tkE [(2,[0,0,0,1]),(1,[0,1])]<|tkE []<|tkE []<|tkE [(-3000,[]),(3,[0,0,1]),(1,[1])]<|tkE []<|tkE [(2,[0,0,0,1]),(1,[0,1])]<|tkE []<|tkE []<|[]
def MF:List D:= .cons (.bool false)<|tkE [(-2000,[])]<|tkE [(-3000,[])]<|tkE [(6000000,[]),(-6000,[0,0,0,1]),(-6000,[0,0,1]),(-3000,[0,1]),(-2000,[1])]<|zrE<|zrE<|zrE<|.cons (.bool false)<|tkE [(-3000,[]),(3,[0,0,1]),(1,[1])]<|tkE []<|tkE [(2,[0,0,0,1]),(1,[0,1])]<|tkE []<|tkE []<|tkE [(3,[0,0,1]),(1,[1])]<|tkE []<|tkE [(-2000,[]),(2,[0,0,0,1]),(1,[0,1])]<|tkE []<|tkE []<|[]
def MG:List D:= .cons (.bool false)<|tkE [(2000,[]),(-2,[0,0,0,1])]<|tkE []<|tkE [(6000,[0,0,1]),(-6,[0,0,1,1]),(2000,[1]),(-2,[1,0,0,1])]<|zrE<|zrE<|zrE<|.cons (.bool false)<|tkE [(3,[0,0,1]),(1,[1])]<|tkE []<|tkE [(1,[0,1])]<|tkE []<|tkE []<|tkE [(3,[0,0,1]),(1,[1])]<|tkE []<|tkE [(-2000,[]),(2,[0,0,0,1]),(1,[0,1])]<|tkE []<|tkE []<|[]
def av:List D:= .cons (.bool true)<|tkE []<|tkE []<|tkE []<|tkE [(1,[0,0,0,0,1])]<|tkE [(1,[0,0,0,0,0,1])]<|tkE [(1,[0,0,0,0,0,0,2])]<|.cons (.bool false)<|tkE [(-1,[0,0,0,0,0,0,1]),(1,[0,0,0,0,1])]<|tkE []<|tkE [(1,[0,0,0,0,0,1])]<|tkE []<|tkE []<|tkE [(1,[0,0,0,0,0,0,1]),(1,[0,0,0,0,1])]<|tkE []<|tkE [(1,[0,0,0,0,0,1])]<|tkE []<|tkE []<|[]
def aw:List D:= .cons (.bool true)<|tkE []<|tkE []<|tkE []<|tkE [(1,[0,0,0,0,1])]<|tkE [(1,[0,0,0,0,0,1])]<|tkE [(1,[0,0,0,0,0,0,2])]<|.cons (.bool true)<|tkE [(-1,[0,0,0,0,0,0,1]),(1,[0,0,0,0,1])]<|tkE []<|tkE [(1,[0,0,0,0,0,1])]<|tkE []<|tkE []<|tkE [(1,[0,0,0,0,0,0,1]),(1,[0,0,0,0,1])]<|tkE []<|tkE [(1,[0,0,0,0,0,1])]<|tkE []<|tkE []<|[]
end Eng
end
section
namespace Eng
def rg0:List A:=[.ag [.sl [Eb,Ec,Ed,Ee]]]
def rg1:List A:=[.ag [.sl [MB,MD,ME,MF,MG]]]
def rg2:List A:=[.ag [.sl [Ef,Eg,Eh]]]
def rgD:List A:=[.ag [.sl [ar,au]]]
end Eng
end
section
namespace Eng
end Eng
end
section
open Go Go.Proofs Eng
namespace Eng
section
variable (Gv:Nat->List A->List A->Prop) (I0:List D->List D->Prop) (M0:List D->Nat) (I1:List D->List D->Prop) (M1:List D->Nat) (I2:List D->List D->Prop) (M2:List D->Nat) (I3:List D->List D->Prop) (M3:List D->Nat) (Q:List A->Prop)
theorem U8 (l0:List (List D)):wpF CC Gv an0 Tryz.f41 [.c (.sl l0)] Q=(bB ((P1 l0.length)==0) (Q [aI (0:Int)]) (((0:Int)<=(0:Int)/\0<(P1 l0.length)/\b7 (nth [] l0 0)=1)/\∃es,cut (nth [] l0 0) 0 1 [Hx es]/\Q [aI (P1 es.length)])):=by kernel_rfl
theorem Ry (l0:List (List D)) (l1:List (List D)) (Q:List A->Prop):wpF CC Gv (Kt ⟨[.slot 9 (.slice none 0 0),.slot 10 (.int .i64 0),.slot 29 (.int .i64 0)],[],I0,M0⟩ ⟨[.own 12 31 1,.slot 13 (.int .u64 0),.slot 14 (.int .i64 0),.slot 34 (.int .i64 0)],[.slot 29 (.int .i64 0)],I1,M1⟩) Tryz.f15 [.c (.sl l0),.c (.sl l1)] Q=(∃i,Gv 52 [aL l0,aL l1,aI (12:Int),aI (64:Int)] [aI i]/\bB (i !=0) (Q [aL [],aI (0:Int),aI i]) (∃es,Gv 11 [aL l0] [aL es]/\∃i,Gv 53 [aL es] [Hu (Hy .u64 i)]/\0<=(P1 l0.length)/\I0 [] [Hx [],dI (-1:Int),dI (0:Int)]/\∀(es:List (List D)) (i_1 i_2:Int),I0 [] [Hx es,dI i_1,dI i_2]->bB (decide (i_2<J4 .i64 ((1:Int)*(2:Int)^min (Sz (P1 l0.length)) 64))) (I1 [dI i_2] [Hx [],Hy .u64 0,dI (0:Int),dI (0:Int)]/\∀(e1:List (List D)) (i_3 i_4 i_5:Int),I1 [dI i_2] [Hx e1,Hy .u64 i_3,dI i_4,dI i_5]->bB (decide (i_5<(P1 l1.length))) ((0<=i_5/\i_5<(P1 l1.length)/\b7 (nth [] l1 (Sz i_5))=1)/\∃i,cut (nth [] l1 (Sz i_5)) 0 1 [dI i]/\0<=i_5/\bB (bits .and .i64 (a7 i_2 ((2:Int)^min (Sz i_5) 64)) (1:Int)==(1:Int)) ((room (e1.length+1)/\lens 1 [[dI i_5]])/\(0<=i_5/\i_5<(P1 l0.length)/\b7 (nth [] l0 (Sz i_5))=1)/\∃es,cut (nth [] l0 (Sz i_5)) 0 1 [Hx es]/\∃i_6,Gv 53 [aL es] [Hu (Hy .u64 i_6)]/\I1 [dI i_2] [Hx (e1++[[dI i_5]]),Hy .u64 (bits .or .u64 (i_3) (i_6)),dI (J4 .i64 (i_4+i)),dI (J4 .i64 (i_5+1))]/\M1 [Hx (e1++[[dI i_5]]),Hy .u64 (bits .or .u64 (i_3) (i_6)),dI (J4 .i64 (i_4+i)),dI (J4 .i64 (i_5+1))]<M1 [Hx e1,Hy .u64 i_3,dI i_4,dI i_5]) (I1 [dI i_2] [Hx e1,Hy .u64 i_3,dI i_4,dI (J4 .i64 (i_5+1))]/\M1 [Hx e1,Hy .u64 i_3,dI i_4,dI (J4 .i64 (i_5+1))]<M1 [Hx e1,Hy .u64 i_3,dI i_4,dI i_5])) (bB (i_3==i) (bB (decide (i_1<0)) (I0 [] [Hx e1,dI i_4,dI (J4 .i64 (i_2+1))]/\M0 [Hx e1,dI i_4,dI (J4 .i64 (i_2+1))]<M0 [Hx es,dI i_1,dI i_2]) (bB (decide (i_4<i_1)) (I0 [] [Hx e1,dI i_4,dI (J4 .i64 (i_2+1))]/\M0 [Hx e1,dI i_4,dI (J4 .i64 (i_2+1))]<M0 [Hx es,dI i_1,dI i_2]) (bB (i_4==i_1) (∃i,Gv 54 [aL e1,aL es] [aI i]/\bB (decide (i<0)) (I0 [] [Hx e1,dI i_4,dI (J4 .i64 (i_2+1))]/\M0 [Hx e1,dI i_4,dI (J4 .i64 (i_2+1))]<M0 [Hx es,dI i_1,dI i_2]) (I0 [] [Hx es,dI i_1,dI (J4 .i64 (i_2+1))]/\M0 [Hx es,dI i_1,dI (J4 .i64 (i_2+1))]<M0 [Hx es,dI i_1,dI i_2])) (I0 [] [Hx es,dI i_1,dI (J4 .i64 (i_2+1))]/\M0 [Hx es,dI i_1,dI (J4 .i64 (i_2+1))]<M0 [Hx es,dI i_1,dI i_2])))) (I0 [] [Hx es,dI i_1,dI (J4 .i64 (i_2+1))]/\M0 [Hx es,dI i_1,dI (J4 .i64 (i_2+1))]<M0 [Hx es,dI i_1,dI i_2]))) (Q [aL es,aI i_1,aI (0:Int)]))):=by kernel_rfl
theorem U9 (l0:List (List D)) (l1:List (List D)) (l2:List (List D)) (Q:List A->Prop):wpF CC Gv (Pn ⟨[.slot 9 (.int .i64 0),.slot 26 (.int .i64 0)],[],I0,M0⟩ ⟨[.slot 54 (.int .i64 0)],[],I1,M1⟩ ⟨[.slot 14 (.int .i64 0),.slot 61 (.int .i64 0)],[.slot 54 (.int .i64 0),.slot 59 (.slice none 0 0)],I2,M2⟩) Tryz.f17 [.c (.sl l0),.c (.sl l1),.c (.sl l2)] Q=(∃i,Gv 41 [aL l0] [aI i]/\bB ((P1 l2.length) !=i) (Q [aI (0:Int),aB false]) (∃es,Gv 11 [aL l0] [aL es]/\I0 [] [dI (0:Int),dI (0:Int)]/\∀(i i_1:Int),I0 [] [dI i,dI i_1]->bB (decide (i_1<(P1 l2.length))) ((0<=i_1/\i_1<(P1 l2.length)/\b7 (nth [] l2 (Sz i_1))=1)/\∃i_2,cut (nth [] l2 (Sz i_1)) 0 1 [dI i_2]/\bB (decide (i_2<0)) (Q [aI (0:Int),aB false]) (bB (decide (i_2>2147483648)) (Q [aI (0:Int),aB false]) (bB (decide (i_2>0)) ((0<=i_1/\i_1<(P1 es.length)/\b7 (nth [] es (Sz i_1))=1)/\∃b,cut (nth [] es (Sz i_1)) 0 1 [Hv b]/\bB (!b) (Q [aI (0:Int),aB false]) (I0 [] [dI (J4 .i64 (i+i_2)),dI (J4 .i64 (i_1+1))]/\M0 [dI (J4 .i64 (i+i_2)),dI (J4 .i64 (i_1+1))]<M0 [dI i,dI i_1])) (I0 [] [dI (J4 .i64 (i+i_2)),dI (J4 .i64 (i_1+1))]/\M0 [dI (J4 .i64 (i+i_2)),dI (J4 .i64 (i_1+1))]<M0 [dI i,dI i_1])))) (I1 [] [dI (0:Int)]/\∀(i_2:Int),I1 [] [dI i_2]->bB (decide (i_2<(P1 l0.length))) ((0<=i_2/\i_2<(P1 l0.length)/\b7 (nth [] l0 (Sz i_2))=1)/\∃es,cut (nth [] l0 (Sz i_2)) 0 1 [Hx es]/\I2 [dI i_2,Hx es] [dI (0:Int),dI (0:Int)]/\∀(i i_3:Int),I2 [dI i_2,Hx es] [dI i,dI i_3]->bB (decide (i_3<(P1 es.length))) ((0<=i_3/\i_3<(P1 es.length)/\b7 (nth [] es (Sz i_3))=1)/\∃b,cut (nth [] es (Sz i_3)) 0 1 [Hv b]/\br b ((0<=i_3/\i_3<(P1 l2.length)/\b7 (nth [] l2 (Sz i_3))=1)/\∃i_4,cut (nth [] l2 (Sz i_3)) 0 1 [dI i_4]/\I2 [dI i_2,Hx es] [dI (J4 .i64 (i+i_4)),dI (J4 .i64 (i_3+1))]/\M2 [dI (J4 .i64 (i+i_4)),dI (J4 .i64 (i_3+1))]<M2 [dI i,dI i_3]) (I2 [dI i_2,Hx es] [dI i,dI (J4 .i64 (i_3+1))]/\M2 [dI i,dI (J4 .i64 (i_3+1))]<M2 [dI i,dI i_3])) ((0<=i_2/\i_2<(P1 l1.length)/\b7 (nth [] l1 (Sz i_2))=1)/\∃i_4,cut (nth [] l1 (Sz i_2)) 0 1 [dI i_4]/\bB (decide (i>i_4)) (Q [aI (0:Int),aB false]) (I1 [] [dI (J4 .i64 (i_2+1))]/\M1 [dI (J4 .i64 (i_2+1))]<M1 [dI i_2]))) (Q [aI i,aB true])))):=by kernel_rfl
theorem MH (l0:List (List D)) (l1:List (List D)) (i0:Int) (i1:Int):wpF CC Gv (λ_=>⟨[.slot 22 (.int .i64 0)],[],I0,M0⟩) Tryz.f52 [.c (.sl l0),.c (.sl l1),.c (.int .i64 i0),.c (.int .i64 i1)] Q=(∃b,Gv 117 [aL l0,aI i0,aI i1] [aB b]/\br b (Q [aI (3:Int)]) (bB ((P1 l0.length) !=(P1 l1.length)) (Q [aI (1:Int)]) (I0 [] [dI (0:Int)]/\∀(i:Int),I0 [] [dI i]->bB (decide (i<(P1 l0.length))) ((0<=i/\i<(P1 l0.length)/\b7 (nth [] l0 (Sz i))=1)/\∃es,cut (nth [] l0 (Sz i)) 0 1 [Hx es]/\((0:Int)<=(0:Int)/\0<(P1 l0.length)/\b7 (nth [] l0 0)=1)/\∃e1,cut (nth [] l0 0) 0 1 [Hx e1]/\bB ((P1 es.length) !=(P1 e1.length)) (Q [aI (1:Int)]) ((0<=i/\i<(P1 l1.length)/\b7 (nth [] l1 (Sz i))=1)/\∃i_1,cut (nth [] l1 (Sz i)) 0 1 [dI i_1]/\bB (decide (i_1<0)) (Q [aI (1:Int)]) ((0<=i/\i<(P1 l1.length)/\b7 (nth [] l1 (Sz i))=1)/\∃i_2,cut (nth [] l1 (Sz i)) 0 1 [dI i_2]/\bB (decide (i_2>2147483648)) (Q [aI (1:Int)]) (I0 [] [dI (J4 .i64 (i+1))]/\M0 [dI (J4 .i64 (i+1))]<M0 [dI i])))) (Q [aI (0:Int)])))):=by kernel_rfl
theorem MI (l0:List (List D)) (l1:List (List D)):wpF CC Gv an0 Tryz.f55 [.c (.sl l0),.c (.sl l1)] Q=(∃i,Gv 52 [aL l0,aL l1,aI (200:Int),aI (200:Int)] [aI i]/\Q [aI i]):=by kernel_rfl
theorem MJ (l0:List (List D)) (i0:Int) (i1:Int):wpF CC Gv an0 Tryz.f117 [.c (.sl l0),.c (.int .i64 i0),.c (.int .i64 i1)] Q=(bB (decide ((P1 l0.length)>i0)) (Q [aB true]) (∃b,Gv 200 [aL l0,Hu (D.clo 201 [D.ptr [dI i1]])] [aB b]/\Q [aB b])):=by kernel_rfl
theorem UA (l0:List (List D)) (m:Int):wpF CC Gv an0 Tryz.f201 [.c (.sl l0),.c (.ptr [.int .i64 m])] Q=(∃i,cut [dI m] 0 1 [dI i]/\Q [aB (decide ((P1 l0.length)>i))]):=by kernel_rfl
end
end Eng
end
section
open Go Go.Proofs Eng
namespace Eng
theorem Rz (Gv:Nat->List A->List A->Prop) (I0:List D->List D->Prop) (M0:List D->Nat) (I1:List D->List D->Prop) (M1:List D->Nat) (l0:List (List D)) (Q:Nat->List (List D)->Prop):In CC Gv (Kt ⟨[.own 3 37 1,.slot 13 (.int .i64 0)],[],I0,M0⟩ ⟨[.own 3 37 1,.slot 19 (.int .i64 0)],[.slot 13 (.int .i64 0),.slot 17 (.slice none 0 0),.own 3 37 1],I1,M1⟩) Tryz.f11 [.c (.sl l0)] Q=(∃i,Gv 41 [aL l0] [aI i]/\(0<=i/\i<=i/\room (Sz i))/\I0 [] [Hx (bx (Sz i) [Hv false]),dI (0:Int)]/\∀(es:List (List D)) (i:Int),I0 [] [Hx es,dI i]->bB (decide (i<(P1 l0.length))) ((0<=i/\i<(P1 l0.length)/\b7 (nth [] l0 (Sz i))=1)/\∃e1,cut (nth [] l0 (Sz i)) 0 1 [Hx e1]/\I1 [dI i,Hx e1,Hx es] [Hx es,dI (0:Int)]/\∀(e2:List (List D)) (i_1:Int),I1 [dI i,Hx e1,Hx es] [Hx e2,dI i_1]->bB (decide (i_1<(P1 e1.length))) ((0<=i_1/\i_1<(P1 e1.length)/\b7 (nth [] e1 (Sz i_1))=1)/\∃b,cut (nth [] e1 (Sz i_1)) 0 1 [Hv b]/\(0<=i_1/\i_1<(P1 e2.length))/\∃b1,cut (nth [] e2 (Sz i_1)) 0 1 [Hv b1]/\br b1 ((0<=i_1/\i_1<(P1 e2.length))/\0<1/\I1 [dI i,Hx e1,Hx es] [Hx (upd e2 (Sz i_1) (upd (nth [] e2 (Sz i_1)) 0 (Hv true))),dI (J4 .i64 (i_1+1))]/\M1 [Hx (upd e2 (Sz i_1) (upd (nth [] e2 (Sz i_1)) 0 (Hv true))),dI (J4 .i64 (i_1+1))]<M1 [Hx e2,dI i_1]) ((0<=i_1/\i_1<(P1 e2.length))/\0<1/\I1 [dI i,Hx e1,Hx es] [Hx (upd e2 (Sz i_1) (upd (nth [] e2 (Sz i_1)) 0 (Hv b))),dI (J4 .i64 (i_1+1))]/\M1 [Hx (upd e2 (Sz i_1) (upd (nth [] e2 (Sz i_1)) 0 (Hv b))),dI (J4 .i64 (i_1+1))]<M1 [Hx e2,dI i_1])) (I0 [] [Hx e2,dI (J4 .i64 (i+1))]/\M0 [Hx e2,dI (J4 .i64 (i+1))]<M0 [Hx es,dI i])) ((es≠[]/\z9 es=true)/\Q 1 es)):=by kernel_rfl
end Eng
end
section
namespace Eng
open Go Go.Proofs
def bR (l:List Bool):List (List D):=l.map λb=>[.bool b]
def tR (T:List (List Bool)):List (List D):=T.map λr=>[.sl (bR r)]
theorem ws (l:List Bool):(bR l).length=l.length:=by simp[bR]
theorem Xa (T:List (List Bool)):(tR T).length=T.length:=by simp[tR]
theorem ve {l:List Bool} {i:Nat} (h:i<l.length):nth [] (bR l) i=[.bool l[i]]:=by rw[qu];simp[bR,h]
theorem Qo {T:List (List Bool)} {i:Nat} (h:i<T.length):nth [] (tR T) i=[.sl (bR T[i])]:=by rw[qu];simp[tR,h]
theorem Hk {l:List Bool} {i:Nat} {b:Bool}:upd (bR l) i [.bool b]=bR (l.set i b):=by
 induction l generalizing i with
 |nil=>rfl
 |cons x l ih=>
  cases i with
  |zero=>rfl
  |succ i=>show [Hv x]::upd (bR l) i [.bool b]=[Hv x]::bR (l.set i b);rw[ih]
def orL:List Bool->List Bool->List Bool
 |a::x,b::y=>(a||b)::orL x y
 |_,_=>[]
theorem vf:∀{a b:List Bool},a.length=b.length->(orL a b).length=a.length
 |[],[],_=>rfl
 |_::a,_::b,h=>by simp only[orL,c3];rw[vf (by simpa using h)]
theorem YB:∀{a b:List Bool} {i:Nat} (h:i<(orL a b).length) (ha:i<a.length) (hb:i<b.length),(orL a b)[i]=(a[i]||b[i])
 |_::_,_::_,0,_,_,_=>rfl
 |_::a,_::b,i+1,h,ha,hb=>by simp only[orL,List.getElem_cons_succ];exact YB _ _ _
def wi (n:Nat):List (List Bool)->Nat->List Bool
 |_,0=>bx n false
 |T,k+1=>orL (wi n T k) (T.getD k [])
theorem jp {n:Nat} {T:List (List Bool)} (hT:∀r∈T,r.length=n):∀k,k<=T.length->(wi n T k).length=n
 |0,_=>by simp[wi]
 |k+1,h=>by
  have ih:=jp hT k (by omega);have hk:k<T.length:=by omega
  unfold wi;rw[vf,ih];rw[ih,cp,b9 hk];exact(hT _ (cc hk)).symm
def MK (a b:List Bool) (j:Nat):List Bool:=(orL a b).take j++a.drop j
theorem Hl {a b:List Bool} (h:a.length=b.length) {j:Nat} (hj:j<=a.length):(MK a b j).length=a.length:=by
 unfold MK;rw[cb,c0,List.length_drop,vf h];omega
theorem ML {a b:List Bool} (h:a.length=b.length) (j i:Nat) (hj:j<=a.length):(MK a b j)[i]? =if i<j then(orL a b)[i]? else a[i]? :=by
 unfold MK;rw[List.getElem?_append,c0,vf h,Nat.min_eq_left hj];split
 .rename_i e;rw[List.getElem?_take_of_lt e]
 .rename_i e;rw[List.getElem?_drop];congr 1;omega
theorem R0 {a b:List Bool} (h:a.length=b.length) {j:Nat} (hj:j<a.length) (h':j<(MK a b j).length):(MK a b j)[j]=a[j]:=by
 have:=ML h j j (by omega);rw[if_neg (by omega),b9 h',b9 hj]at this;exact fS this
theorem R1 {a b:List Bool} (h:a.length=b.length) {j:Nat} (hj:j<a.length) (hb:j<b.length):(MK a b j).set j (a[j]||b[j])=MK a b (j+1):=by
 have ho:=vf h;apply List.ext_getElem?;intro i;rw[List.getElem?_set,ML h j i (by omega),ML h (j+1) i (by omega),Hl h (by omega)];by_cases e:j=i
 .subst e;rw[if_pos rfl,if_pos hj,if_pos (by omega),b9 (by omega),YB (by omega) (by omega) (by omega)]
 .rw[if_neg e];by_cases hi:i<j
  .rw[if_pos hi,if_pos (by omega)]
  .rw[if_neg hi,if_neg (by omega)]
section
variable [Env]
def pcs:List (List Bool)->Nat
 |[]=>0
 |r::_=>r.length
theorem ZA (T:List (List Bool)):Gives CC 41 [.c (.sl (tR T))] [.c (.int .i64 (pcs T))]:=by
 refine qj (C:=CC) (anns:=an0) mixedT Tryz.func41 ?_;rw[U8];cases T with
 |nil=>exact brb (λ_=>rfl) (λh=>by simp[tR]at h)
 |cons r T=>
  refine brb (λh=>?_) (λ_=>⟨⟨by omega,by simp[tR],rfl⟩,_,⟨rfl,dc 1⟩,?_⟩)
  .simp[tR]at h;omega
  .rw[ws];rfl
theorem MM {n:Nat} {T:List (List Bool)} (hT:∀r∈T,r.length=n) (h0:0<n) (hn:n<=1000) (hl:T≠[]) (hl2:T.length<=1000):jn CC 11 [.c (.sl (tR T))] 1 (bR (wi n T T.length)):=by
 have hp:pcs T=n:=by
  cases T with
  |nil=>exact absurd rfl hl
  |cons r T=>exact hT r (by simp)
 have hv:=Rz (Gives CC) (λ_ ds=>∃k:Nat,k<=T.length/\ds=[.sl (bR (wi n T k)),.int .i64 (k:Int)]) (λds=>(T.length-toI (nth .undef ds 1)).toNat)
  (λgs ds=>∃k j:Nat,k<T.length/\j<=n/\nth .undef gs 0= .int .i64 (k:Int)/\ds=[.sl (bR (MK (wi n T k) (T.getD k []) j)),.int .i64 (j:Int)]) (λds=>(n-toI (nth .undef ds 1)).toNat) (tR T) (λk r=>k=1/\r=bR (wi n T T.length))
 refine Yj mixedT Tryz.func11 (hv.mpr ?_);clear hv;have a2:∀m,bx m [Hv false]=bR (bx m false):=λm=>by simp[bR]
 refine⟨_,ZA T,⟨by omega,by omega,by rw[hp];unfold room;omega⟩,⟨0,by omega,by rw[hp,Tk,a2];rfl⟩,?_⟩;rintro es i ⟨k,hk,he⟩;simp only[c6,D.sl.injEq,J3,true_and,and_true]at he;obtain⟨rfl,rfl⟩:=he;simp only[Ts,Xa,Tk];refine brd (λh=>?_) (λh=>?_)
 .have a0:k<T.length:=by omega
  have hg:T.getD k []=T[k]:=by rw[cp,b9 a0];rfl
  have la:=jp hT k (by omega);have lb:=hT _ (cc a0);have a1:(wi n T k).length=T[k].length:=by rw[la,lb]
  rw[Qo a0];refine⟨⟨by omega,by omega,rfl⟩,_,⟨rfl,dc 1⟩,⟨k,0,a0,by omega,rfl,by rw[hg];simp[MK]⟩,?_⟩;rintro es2 i2 ⟨k2,j,a3,hj,he2,he⟩;simp only[nth,J3,true_and]at he2;obtain rfl:k2=k:=by omega
  simp only[c6,D.sl.injEq,J3,true_and,and_true]at he;obtain⟨rfl,rfl⟩:=he;rw[hg];simp only[ws,Tk];refine brd (λh2=>?_) (λh2=>?_)
  .have hjn:j<n:=by omega
   have hw:J4 .i64 ((j:Int)+1)=((j+1:Nat):Int):=by rw[qR (by omega) (by omega)];omega
   have lm:=Hl a1 (j:=j) (by omega);rw[ve (by omega),ve (by omega),hw];refine⟨⟨by omega,by omega,rfl⟩,_,⟨rfl,dc 1⟩,⟨by omega,by rw[lm];omega⟩,_,⟨rfl,dc 1⟩,?_⟩;have hm:=R0 a1 (j:=j) (by omega) (by omega);have hs:=R1 a1 (j:=j) (by omega) (by omega);refine js (λh3=>?_) (λh3=>?_)
   .refine⟨⟨by omega,by rw[lm];omega⟩,by omega,⟨k2,j+1,a3,by omega,rfl,?_⟩,by simp only[nth,toI];omega⟩;show [Hx (upd _ j [Hv true]),_]=_;rw[Hk,hg,<-hs];rw[hm]at h3;rw[h3,Bool.true_or]
   .refine⟨⟨by omega,by rw[lm];omega⟩,by omega,⟨k2,j+1,a3,by omega,rfl,?_⟩,by simp only[nth,toI];omega⟩;show [Hx (upd _ j [Hv _]),_]=_;rw[Hk,hg,<-hs];rw[hm]at h3;rw[h3,Bool.false_or]
  .obtain rfl:j=n:=by omega
   have hw:J4 .i64 ((k2:Int)+1)=((k2+1:Nat):Int):=by rw[qR (by omega) (by omega)];omega
   rw[hw];refine⟨⟨k2+1,by omega,?_⟩,by simp only[nth,toI];omega⟩;unfold MK;rw[List.drop_eq_nil_of_le (by omega),List.append_nil,List.take_of_length_le (by rw[vf a1];omega)];show _=[Hx (bR (orL (wi j T k2) (T.getD k2 []))),_];rw[hg]
 .obtain rfl:k=T.length:=by omega
  refine⟨⟨?_,?_⟩,by trivial,rfl⟩
  .intro e;have:=congrArg b7 e;rw[ws,jp hT _ (dc _)]at this;simp at this;omega
  .have:∀l:List Bool,z9 (bR l)=true:=λl=>by
    induction l with
    |nil=>rfl
    |cons b l ih=>show(List.all [Hv b] Xe&&z9 (bR l))=true;rw[ih];rfl
   exact this _
theorem MN {n:Nat} {T:List (List Bool)} (hT:∀r∈T,r.length=n) (h0:0<n) (hn:n<=1000) (hl:T≠[]) (hl2:T.length<=1000):Gives CC 11 [.c (.sl (tR T))] [.c (.sl (bR (wi n T T.length)))]:=QX (MM hT h0 hn hl hl2)
end
end Eng
end
