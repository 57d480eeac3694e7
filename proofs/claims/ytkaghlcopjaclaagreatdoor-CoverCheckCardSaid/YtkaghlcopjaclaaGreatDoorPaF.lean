import Derived.Test.YtkaghlcopjaclaaGreatDoorPaE
import Derived.Test.YtkaghlcopjaclaaGreatDoorPaA
import Derived.Test.YtkaghlcopjaclaaGreatDoorEngD
import Derived.Test.YtkaghlcopjaclaaGreatDoorPaB
import Derived.Test.YtkaghlcopjaclaaGreatDoorPaC
import Derived.KernelRfl
import Derived.Calls
import GoSem.Step
import Derived.Shelf.SlSortCmp.NoneTotal
open Array renaming getElem?_append_left->B0, extract_size->Dd, getElem?_modify->F0, length_toList->F2
open Bool renaming and_eq_true->Hu, not_eq_true'->Hv, true_and->Hx
open Eng.A renaming ag->Hy, c->HZ
open Eng.D renaming sl->J3, int->J4, bool->J5, fn->J7, ptr->J8
open Eng.D.int renaming injEq->J9
open Go renaming Frame->Lm, sizeOf->Lr, Obj->Ls
open Go.IntKind renaming wrap->Lv
open Go.Proofs renaming sortWorldK->No
open Go.Proofs.SlLaysF0 renaming n6->Pl
open Go.Sem renaming run->P1, runT->Sz
open Go.Sort renaming putCells->Ts, size_flatK->T1, grow->U0, get_flatK->U3, mapBlock->V1, putRowK->W0, putRow->W1, ahead->W2, pdq->W3
open Int renaming toNat->W4, ofNat->bc, ofNat_eq_natCast->bd, toNat_natCast->be, fdiv->bh, tmod->bk, mul_pos->bm, tdiv->bs, ofNat_tmod->bv
open List renaming getElem_mem->bw, length->bx, getElem?_eq_getElem->cb, getElem_map->cc, length_map->cg, mem_singleton->ch, length_append->cp, take_succ_eq_append_getElem->cr, mem_of_getElem?->cv, all_eq_true->c3, pairwise_iff_getElem->c4, length_singleton->c7, mem_append->cH, length_nil->cL, replicate->dc, getElem_range->dn, mem_map->dp, take_length->dv, take->dA, range->ea, getElem?_eq_some_iff->eb, mem_cons_of_mem->ec, getElem_toArray->el, getElem_of_mem->en, flatMap_append->er, mem_cons_self->et, not_mem_nil->ew, mem_flatMap->ey, length_take->ez, length_cons->eH, drop->fg, map_append->fl, all_append->ft, mem_cons->fw
open List.cons renaming injEq->fx
open Nat renaming le_refl->fz, le_trans->fR, lt_of_lt_of_le->fS, eq_of_beq_eq_true->ga, zero_le->gd, mod_lt->gm, beq->gn, div_lt_of_lt_mul->gp, div_add_mod'->gq, lt_or_ge->gr, mul_le_mul_right->gz, zero_add->h9, mul_comm->hA, blt_eq->hC, gcd->hD, blt->hE, one_mul->hG, add_mul->hK, strongRecOn->hM
open Option.some renaming injEq->hP, inj->hQ
open Rat renaming num_divInt_den->hU, divInt->hV, divInt_add_divInt->hX, num_intCast->hY, divInt_mul_divInt->ia, neg_num->ib, sub_eq_add_neg->ic, den_intCast->ie, not_lt->im
set_option maxRecDepth 1000000
section
namespace Eng
open Go Go.Proofs Rl
theorem D9{all:List Cu}(ha:∀x∈all,Mo x)(i:Nat):∀x∈Zm all i,Mo x:=by
 unfold Zm;split
 .rename_i c hc;have hm:=ha c (cv hc);exact Ie hm (Zn (λx hx=>(ha x hx).1) hm.1 i all.length).1
 .simp
theorem Tu{l:List Cu}(hl:∀c∈l,Gd c):∀x∈XZ l,Mo x:=by
 rw[WQ];have h1:∀x∈l.flatMap zg,Mo x:=by intro x hx;obtain⟨c,hc,hx⟩:=ey.1 hx;exact RF (hl c hc) x hx
 intro x hx;unfold ym at hx;obtain⟨i,_,hx⟩:=ey.1 hx;exact D9 h1 i x hx
theorem WV{l:List Cu}{i k:Nat}(hik:i≠k):∀j,j<=l.length->(wt l i k j).length+(if i<j then 1 else 0)+(if k<j then 1 else 0)=j
 |0,_=>by simp[wt]
 |j+1,h=>by
  have ih:=WV (l:=l) hik j (by omega);unfold wt;rw[cp,cb (l:=l) (i:=j) (by omega)];by_cases h1:j=i
  .subst h1;rw[if_neg (show ¬(j≠j/\j≠k)by simp)];have e1:¬j<j:=by omega
   have e2:j<j+1:=by omega
   rw[if_neg e1]at ih;rw[if_pos e2];by_cases h3:k<j
   .rw[if_pos h3]at ih;rw[if_pos (show k<j+1 by omega)];simp only[cL];omega
   .rw[if_neg h3]at ih;rw[if_neg (show ¬k<j+1 by omega)];simp only[cL];omega
  .by_cases h2:j=k
   .subst h2;rw[if_neg (show ¬(j≠i/\j≠j)by simp)];have e1:¬j<j:=by omega
    have e2:j<j+1:=by omega
    rw[if_neg e1]at ih;rw[if_pos e2];by_cases h3:i<j
    .rw[if_pos h3]at ih;rw[if_pos (show i<j+1 by omega)];simp only[cL];omega
    .rw[if_neg h3]at ih;rw[if_neg (show ¬i<j+1 by omega)];simp only[cL];omega
   .rw[if_pos ⟨h1,h2⟩];have e1:(i<j+1)=(i<j):=propext ⟨λ_=>by omega,λ_=>by omega⟩;have e2:(k<j+1)=(k<j):=propext ⟨λ_=>by omega,λ_=>by omega⟩;simp only[e1,e2,Option.toList_some,eH,cL];omega
theorem WW{l:List Cu}{i k:Nat}{x:Cu}:∀{j},x∈wt l i k j->x∈l
 |0,h=>by simp[wt]at h
 |j+1,h=>by
  unfold wt at h;rcases cH.1 h with h|h
  .exact WW h
  .split at h
   .exact cv (Option.mem_toList.1 h)
   .simp at h
theorem RG{l:List Cu}{i k j:Nat}(h:j<l.length)(h1:j≠i)(h2:j≠k):wt l i k (j+1)=wt l i k j++[l[j]]:=by
 show wt l i k j++_=_;rw[if_pos ⟨h1,h2⟩,cb h];rfl
theorem Yu{l:List Cu}{i k j:Nat}(h:j=i\/j=k):wt l i k (j+1)=wt l i k j:=by
 show wt l i k j++_=_;rw[if_neg (by rcases h with h|h<;>simp[h]),List.append_nil]
theorem OP(l:List Cu)(i k:Nat):∀j,(wt l i k j).length<=j
 |0=>by simp[wt]
 |j+1=>by
  have:=OP l i k j;show(wt l i k j++_).length<=_;rw[cp];have:(if j≠i/\j≠k then l[j]?.toList else []).length<=1:=by
   split
   .cases l[j]? <;>simp
   .simp
  omega
def toT (c:Cu) (p:P5):Cu:=⟨c.arc,c.ln,c.ci,c.cw,c.fr,p,c.jk⟩
theorem Yv{l:List Cu}(hl:∀c∈l,Mo c){i:Nat}(hi:i<l.length){k:Nat}(hk:PT l i=some k):
 ∃hkl:k<l.length,i≠k/\(k:Int)=yv l l[i].tt/\Gw l i=some (wt l i k l.length++[toT l[i] l[k].tt])/\Mo (toT l[i] l[k].tt):=by
 have a5:l[i]? =some l[i]:=cb hi;have hk0:=hk;unfold PT at hk;rw[a5]at hk;simp only at hk;split at hk
 .rename_i hc;split at hk
  .rename_i d hd;split at hk
   .rename_i hs;simp only[hP]at hk;subst hk;obtain⟨hkl,a4⟩:=eb.1 hd;have a3:=Yo (f:=Sl l l[i].tt) (n:=l.length) hc.2;have a3:Sl l l[i].tt (yv l l[i].tt).toNat=true:=a3;unfold Sl at a3;rw[hd]at a3;have a3:wU d.fr l[i].tt=true:=a3;have a6:=hl _ (bw hi);have hmd:Mo d:=hl d (cv hd);refine⟨hkl,λe=>?_,by omega,?_,?_⟩
    .have:d=l[i]:=by rw[<-a4];simp only[<-e]
     rw[this]at a3;have:=a6.1.sup.2.2;rw[this]at a3;cases a3
    .unfold Gw;rw[hk0];simp only[a5,hd,a4];rfl
    .rw[a4];exact fV a6 hmd hs.1 hs.2 a3
   .cases hk
  .cases hk
 .cases hk
theorem Qs{l:List Cu}{i:Nat}(h:PT l i=none):Gw l i=none:=by unfold Gw;rw[h]
theorem Tv{l:List Cu}(h:yJ l l.length 0=none):wW l=l:=by
 unfold wW;cases hl:l.length with
 |zero=>rfl
 |succ n=>rw[QY,h]
theorem Tw{l m:List Cu}(h:yJ l l.length 0=some m)(hm:m.length+1=l.length):wW l=wW m:=by
 unfold wW;rw[<-hm,QY,h]
theorem WX{l:List Cu}{k:Nat}(h:k<l.length):yJ l (l.length-k) k=match Gw l k with
 |some m=>some m
 |none=>yJ l (l.length-(k+1)) (k+1):=by
 have e:l.length-k=(l.length-(k+1))+1:=by omega
 rw[e];rfl
def mgI0 (l:List Cu) (_ ds:List D):Prop:=∃k:Nat,k<=l.length/\ds=[.int .i64 (k:Int)]/\yJ l l.length 0=yJ l (l.length-k) k
def mgI1 (l:List Cu) (gs ds:List D):Prop:=∃j:Nat,j<=l.length/\∃n:Nat,∃z,ds=[.int .i64 (j:Int),.int .i64 (n:Int),.int .i64 z]/\∀c,l[gK gs]? =some c->n=NU l c.tt j/\z=ws (Sl l c.tt) j
def mgI2 (l:List Cu) (gs ds:List D):Prop:=∃j:Nat,j<=l.length/\∃m,ds=[.int .i64 (j:Int),.sl (kUs m)]/\∀c,l[gK gs]? =some c->m=wt l (gK gs) (yv l c.tt).toNat j
theorem mT(x:C66):cut (ck x []) 25 1 [.bool (C66.cw x)]:=⟨rfl,by show 25+1<=66;omega⟩
theorem DA{l:List Cu}{k:Nat}(h:k<l.length):cut (nth [] (kUs l) (W4 (k:Int))) 25 1 [.bool l[k].cw]:=by
 rw[be,ZP h,<-V3];exact mT _
theorem Tx:∀(n:Nat) {l:List Cu},l.length=n->(∀c∈l,Mo c)->l.length<=6000000->qa CC 99 [.c (.sl (kUs l))] [.c (.sl (kUs (wW l)))]:=by
 intro n
 induction n using hM with
 |_ n ih=>
 intro l hln hl hn;have hv:=Tt (qa CC) (mgI0 l) (jn 10000000) (mgI1 l) (jn 10000000) (mgI2 l) (jn 10000000) (kUs l) (· =[.c (.sl (kUs (wW l)))]);refine gOk Tryz.func99 hv ?_;clear hv;refine⟨⟨0,gd _,rfl,rfl⟩,?_⟩;rintro _ ⟨k,hk,he,a5⟩;simp only[fx,J9,and_true,true_and]at he;subst he;refine brd (λh=>?_) (λh=>?_)
 .have a3:k<l.length:=by rw[qu]at h;simp only[bd]at h;omega
  have a8:l[k]? =some l[k]:=cb a3;have b9:=hl _ (bw a3);have b1:=b9.1.1.2.2;have next:Gw l k=none->mgI0 l [] [.int .i64 (Lv .i64 ((k:Int)+1))]/\jn 10000000 [.int .i64 (Lv .i64 ((k:Int)+1))]<jn 10000000 [.int .i64 (k:Int)]:=by intro hj;refine⟨⟨k+1,a3,by rw[wI];rfl,?_⟩,qt⟩;rw[a5,WX a3,hj]
  refine⟨xk a3,_,Xf a3,⟨0,gd _,0, -1,rfl,λc _=>⟨rfl,rfl⟩⟩,?_⟩;rintro _ _ z ⟨j,hj,m,z',he,an⟩;simp only[fx,J9,and_true,true_and]at he;obtain⟨rfl,rfl,rfl⟩:=he;obtain⟨al,b7⟩:m=NU l l[k].tt j/\z=ws (Sl l l[k].tt) j:=an _ a8;have hnb:=MK l l[k].tt j;rw[<-al]at hnb;refine brd (λh1=>?_) (λh1=>?_)
  .have a4:j<l.length:=by rw[qu]at h1;simp only[bd]at h1;omega
   have b4:=hl _ (bw a4);have cs:=Ti l[k].tt a4;rw[<-al]at cs;have b8:Sl l l[k].tt j=wU l[j].fr l[k].tt:=by unfold Sl;rw[cb a4]
   have nx:∀(a:Nat) (b:Int),a=NU l l[k].tt (j+1)->b=ws (Sl l l[k].tt) (j+1)->mgI1 l [.int .i64 (k:Int)] [.int .i64 (Lv .i64 ((j:Int)+1)),.int .i64 (a:Int),.int .i64 b]:=by intro a b ha hb;refine⟨j+1,a4,a,b,by rw[wI];rfl,λc hc=>?_⟩;have hc:l[k]? =some c:=hc;rw[a8]at hc;obtain rfl:=hQ hc;exact⟨ha,hb⟩
   refine⟨xk a4,_,MJ a4,_,v6 b4.1.1.2.1 b1,?_⟩;refine xG (λh3=>?_) (λh3=>?_)
   .have a9:(j:Int)=ws (Sl l l[k].tt) (j+1):=by rw[v8,b8,if_pos h3]
    refine⟨xk a4,_,Xf a4,_,v6 b4.1.1.2.2 b1,?_⟩;rw[R3 (show m<=100000000 by omega),R3 (show m+1<=100000000 by omega)];refine xG (λh4=>?_) (λh4=>?_)
    .exact⟨nx _ _ (by rw[cs,if_pos h3,if_pos h4]) a9,qt⟩
    .exact⟨nx _ _ (by rw[cs,if_pos h3,if_neg (by rw[h4];simp)]) a9,qt⟩
   .have a9:z=ws (Sl l l[k].tt) (j+1):=by rw[v8,b8,if_neg (by rw[h3];simp),b7]
    refine⟨xk a4,_,Xf a4,_,v6 b4.1.1.2.2 b1,?_⟩;rw[R3 (show m<=100000000 by omega)];refine xG (λh4=>?_) (λh4=>?_)
    .exact⟨nx _ _ (by rw[cs,if_neg (by rw[h3];simp),if_pos h4]) a9,qt⟩
    .exact⟨nx _ _ (by rw[cs,if_neg (by rw[h3];simp),if_neg (by rw[h4];simp)];omega) a9,qt⟩
  .have a4:j=l.length:=by rw[qu]at h1;simp only[bd]at h1;omega
   have he2:m=wD l l[k].tt:=by rw[al,a4];rfl
   have ag:z=yv l l[k].tt:=by rw[b7,a4];rfl
   have bb:=GO (Sl l l[k].tt) l.length;have bb: -1<=z/\z<(l.length:Int):=by rw[ag];exact bb
   have jk:PT l k=if wD l l[k].tt=2/\0<=yv l l[k].tt then
    (match l[(yv l l[k].tt).toNat]? with
     |some d=>if jI l[k] d=true/\l[k].cw=d.cw then some (yv l l[k].tt).toNat else none
     |none=>none)
    else none:=by unfold PT;rw[a8];rfl
   rw[<-he2,<-ag]at jk;refine brb (λh2=>?_) (λh2=>?_)
   .have b3:m=2:=by simp only[beq_iff_eq]at h2;omega
    refine brd (λh3=>?_) (λh3=>?_)
    .obtain⟨q,rfl⟩:∃q:Nat,z=(q:Int):=⟨z.toNat,by omega⟩;have a6:q<l.length:=by omega
     have hmq:=hl _ (bw a6);rw[if_pos ⟨b3,by omega⟩,be,cb a6]at jk;simp only at jk;refine⟨xk a3,_,xh a3,xk a6,_,xh a6,_,ZM b9.1.1.1 hmq.1.1.1,?_⟩;refine xG (λh4=>?_) (λh4=>?_)
     .refine⟨xk a3,_,DA a3,xk a6,_,DA a6,?_⟩;refine brb (λh5=>?_) (λh5=>?_)
      .have ap:l[k].cw=l[q].cw:=by simpa using h5
       rw[if_pos ⟨h4,ap⟩]at jk;obtain⟨_,hne,hq2,hje,hmw⟩:=Yv hl a3 jk;have b2:=WV (l:=l) hne l.length (fz _);rw[if_pos a3,if_pos a6]at b2;refine⟨xk a3,_,xh a3,xk a6,_,Xf a6,⟨0,gd _,[],rfl,λc _=>rfl⟩,?_⟩;rintro _ _ ⟨t,ht,r,he,hr⟩;simp only[fx,J9,D.sl.injEq,and_true,true_and]at he;obtain⟨rfl,rfl⟩:=he;have hr:r=wt l k (yv l l[k].tt).toNat t:=hr _ a8;rw[<-ag,be]at hr;have hrl:=OP l k q t;rw[<-hr]at hrl;refine brd (λh6=>?_) (λh6=>?_)
       .have a7:t<l.length:=by rw[qu]at h6;simp only[bd]at h6;omega
        have b6:∀w,w=wt l k q (t+1)->mgI2 l [.int .i64 (k:Int)] [.int .i64 (Lv .i64 ((t:Int)+1)),.sl (kUs w)]:=by intro w hw;refine⟨t+1,a7,w,by rw[wI];rfl,λc hc=>?_⟩;have hc:l[k]? =some c:=hc;rw[a8]at hc;obtain rfl:=hQ hc;show w=wt l k (yv l l[k].tt).toNat (t+1);rw[<-ag,be];exact hw
        refine brb (λh7=>?_) (λh7=>?_)
        .have n1:t≠k:=λe=>by rw[e]at h7;simp at h7
         refine brb (λh8=>?_) (λh8=>?_)
         .have n2:t≠q:=λe=>by rw[e]at h8;simp at h8
          refine⟨xk a7,_,xh a7,⟨by unfold Eng.room;rw[qu];omega,λe he=>by rw[ch.1 he];rfl⟩,?_⟩;have e1:kUs r++[ck (kU l[t]) []]=kUs (r++[l[t]]):=by rw[wX];rfl
          rw[e1];exact⟨b6 _ (by rw[RG a7 n1 n2,hr]),qt⟩
         .have n2:t=q:=by
           have:¬((t:Int) !=(q:Int))=true:=by rw[h8];simp
           simp at this;omega
          exact⟨b6 _ (by rw[Yu (.inr n2),hr]),qt⟩
        .have n1:t=k:=by
          have:¬((t:Int) !=(k:Int))=true:=by rw[h7];simp
          simp at this;omega
         exact⟨b6 _ (by rw[Yu (.inl n1),hr]),qt⟩
       .have a7:t=l.length:=by rw[qu]at h6;simp only[bd]at h6;omega
        have hw:=CY l[k] l[k].fr l[q].tt;rw[<-jH l[k]]at hw;have e1:kUs r++[ck (kU {l[k]with fr:=l[k].fr,tt:=l[q].tt}) []]=kUs (r++[toT l[k] l[q].tt]):=by rw[wX];rfl
        rw[hw,e1];have ba:r=wt l k q l.length:=by rw[hr,a7]
        have ad:(r++[toT l[k] l[q].tt]).length+1=l.length:=by rw[cp,c7,ba];omega
        have hfm:yJ l l.length 0=some (r++[toT l[k] l[q].tt]):=by rw[a5,WX a3,hje,ba]
        have b5:=ih (r++[toT l[k] l[q].tt]).length (by omega) (l:=r++[toT l[k] l[q].tt]) rfl (λx hx=>by
         rcases cH.1 hx with hx|hx
         .rw[hr]at hx;exact hl x (WW hx)
         .rw[ch.1 hx];exact hmw) (by omega)
        rw[Tw hfm ad];exact⟨⟨by unfold Eng.room;rw[qu];omega,λe he=>by rw[ch.1 he];rfl⟩,_,b5,rfl⟩
      .have ap:¬l[k].cw=l[q].cw:=by simpa using h5
       rw[if_neg (λz=>ap z.2)]at jk;exact next (Qs jk)
     .rw[if_neg (λz=>by rw[h4]at z;cases z.1)]at jk;exact next (Qs jk)
    .rw[if_neg (λz=>h3 (by omega))]at jk;exact next (Qs jk)
   .have b3:m≠2:=by simp only[beq_eq_false_iff_ne,ne_eq]at h2;omega
    rw[if_neg (λz=>b3 z.1)]at jk;exact next (Qs jk)
 .have a3:k=l.length:=by rw[qu]at h;simp only[bd]at h;omega
  rw[a3,Nat.sub_self]at a5;rw[Tv a5]
end Eng
end
section
namespace Eng
open Go Go.Proofs Rl
set_option maxRecDepth 100000
theorem If{l:List Cu}(hl:∀c∈l,Mo c){i:Nat}{m:List Cu}(h:Gw l i=some m):(∀c∈m,Mo c)/\m.length+1=l.length:=by
 have hj:=h;unfold Gw at h;split at h
 .cases h
 .rename_i k hk;split at h
  .rename_i c d hc hd;obtain⟨hi,rfl⟩:=eb.1 hc;obtain⟨hkl,hne,_,he,hm⟩:=Yv hl hi hk;rw[hj,hP]at he;have a3:=WV (l:=l) hne l.length (fz _);rw[if_pos hi,if_pos hkl]at a3;subst he;refine⟨λx hx=>?_,by rw[cp,c7];omega⟩;rcases cH.1 hx with hx|hx
   .exact hl x (WW hx)
   .rw[ch.1 hx];exact hm
  .cases h
theorem Ty{l:List Cu}(hl:∀c∈l,Mo c){m:List Cu}:∀{n i:Nat},yJ l n i=some m->(∀c∈m,Mo c)/\m.length+1=l.length
 |0,_,h=>by cases h
 |n+1,i,h=>by
  unfold yJ at h;split at h
  .rename_i m' hm';cases h;exact If hl hm'
  .exact Ty hl h
theorem Yw:∀(n:Nat) {l:List Cu},(∀c∈l,Mo c)->(∀c∈QY n l,Mo c)/\(QY n l).length<=l.length
 |0,l,h=>⟨h,fz _⟩
 |n+1,l,h=>by
  unfold QY;split
  .exact⟨h,fz _⟩
  .rename_i m hm;obtain⟨h1,h2⟩:=Ty h hm;obtain⟨h3,h4⟩:=Yw n h1;exact⟨h3,by omega⟩
theorem Yx{l:List Cu}(h:∀c∈l,Mo c):(∀c∈wW l,Mo c)/\(wW l).length<=l.length:=Yw _ h
theorem DB{l:List Cu}(hl:∀c∈l,Gd c):∀c∈Jw l,Mo c:=λc hc=>
 (Yx λx hx=>Tu hl x (OA hx)).1 c (MH hc)
theorem Ig{l:List Cu}(hl:∀c∈l,Gc c):(∀c∈(Qy l).1,Mo c)/\(Qy l).1.length<=400:=by
 unfold Qy;split
 .simp
 .split
  .simp
  .split
   .simp
   .split
    .simp
    .rename_i h1 h2 h3 h4;refine⟨DB λc hc=>⟨hl c hc,?_⟩,by simpa using h4⟩;have h2:l.all Vm=true:=by simpa using h2
     exact c3.1 h2 c hc
def flI (l:List Cu) (_ ds:List D):Prop:=∃k:Nat,k<=l.length/\ds=[.int .i64 (k:Int)]/\(l.take k).all Vm=true
theorem RH{l:List Cu}(hl:∀c∈l,Gc c)(hn:l.length<=6000000):qa CC 43 [.c (.sl (kUs l))] [.ag [.sl (kUs (Qy l).1)],.c (.int .i64 (Qy l).2)]:=by
 have hv:=Rz (qa CC) (flI l) (jn 10000000) (kUs l) (· =[.ag [.sl (kUs (Qy l).1)],.c (.int .i64 (Qy l).2)]);refine gOk Tryz.func43 hv ?_;clear hv;rw[qu];refine brd (λh=>?_) (λh0=>?_)
 .have:400<l.length:=by simp only[bd]at h;omega
  unfold Qy;rw[if_pos this];rfl
 have a5:¬400<l.length:=by simp only[bd]at h0;omega
 refine⟨⟨0,gd _,rfl,rfl⟩,?_⟩;rintro _ ⟨k,hk,he,a3⟩;simp only[fx,J9,and_true,true_and]at he;subst he;refine brd (λh=>?_) (λh=>?_)
 .have a4:k<l.length:=by simp only[bd]at h;omega
  have hx:=hl _ (bw a4);have ok:=xk a4;refine⟨ok,_,xh a4,_,ML hx,?_⟩;cases hb:Vm l[k]with
  |false=>
   have:l.all Vm=false:=by
    cases h2:l.all Vm with
    |false=>rfl
    |true=>rw[c3.1 h2 _ (bw a4)]at hb;cases hb
   refine brb (λ_=>?_) (λh=>by cases h);unfold Qy;rw[if_neg a5,if_pos this];rfl
  |true=>refine brb (λh=>by cases h) (λ_=>?_);refine⟨⟨k+1,a4,by rw[wI];rfl,?_⟩,qt⟩;rw[cr a4,ft,a3,Hx];simp[hb]
 .have a4:k=l.length:=by simp only[bd]at h;omega
  rw[a4,dv]at a3;have a6:∀c∈l,Gd c:=λc hc=>⟨hl c hc,c3.1 a3 c hc⟩
  refine⟨_,R5 hl hn,?_⟩;have e1:Qy l=if Cb l=true then([],8)else if 400<(Jw l).length then([],3)else(Jw l,0):=by unfold Qy;rw[if_neg a5,if_neg (by rw[a3];simp)]
  refine xG (λh2=>?_) (λh2=>?_)
  .rw[e1,if_pos h2];rfl
  .rw[if_neg (by rw[h2];simp)]at e1;obtain⟨p1,p2⟩:=Dj a6 (by omega);have pm:=Tu a6;have om:∀c∈aK (XZ l),Mo c:=λx hx=>pm x (OA hx)
   have ol:=AX (XZ l);obtain⟨mm,ml⟩:=Yx om;refine⟨_,M9 a6 (by omega),_,Dl p1 p2,_,Tx _ rfl om (by omega),_,Th (λc hc=>(mm c hc).1) (by omega),?_⟩;show br (toB (J5 (decide ((bc (kUs (Jw l)).length)>(400:Int))))) _ _;rw[qu];refine brd (λh=>?_) (λh=>?_)
   .have:400<(Jw l).length:=by simp only[bd]at h;omega
    rw[e1,if_pos this];rfl
   .have:¬400<(Jw l).length:=by simp only[bd]at h;omega
    rw[e1,if_neg this];rfl
end Eng
end
section
open Go Go.Proofs Eng
namespace Eng
section
variable (Gv:Nat->List A->List A->Prop)(I0:List D->List D->Prop)(M0:List D->Nat)(I1:List D->List D->Prop)(M1:List D->Nat)(I2:List D->List D->Prop)(M2:List D->Nat)(I3:List D->List D->Prop)(M3:List D->Nat)(Q:List A->Prop)
theorem Ih(i0:Int)(i1:Int):wpF CC Gv an0 Tryz.f14 [.c (.int .i64 i0),.c (.int .i64 i1)] Q=(bB (i1==0) (∃b es,Gv 44 [aI (0:Int)] [aZ b es]/\∃b1 e1,Gv 44 [aI (1:Int)] [aZ b1 e1]/\∃x,Gv 24 [aZ b es,aZ b1 e1] [aR x]/\Q [aR x]) (∃b es,Gv 44 [aI i0] [aZ b es]/\∃b1 e1,Gv 44 [aI i1] [aZ b1 e1]/\∃x,Gv 24 [aZ b es,aZ b1 e1] [aR x]/\Q [aR x])):=by kernel_rfl
theorem GW(l0:List (List D))(Q:List A->Prop):wpF CC Gv (λ_=>⟨[.slot 4 (.int .i64 0),.own 3 36 66],[],I0,M0⟩) Tryz.f103 [.c (.sl l0)] Q=(I0 [] [dI (0:Int),J3 []]/\∀(i:Int) (es:List (List D)),I0 [] [dI i,J3 es]->bB (decide (i<(bc l0.length))) (rO l0 i 8/\∃x x1,cU l0 i 0 8 (rk x (rk x1 []))/\(bc l0.length)≠0/\(0<=bk (Lv .i64 (i+1)) (bc l0.length)/\bk (Lv .i64 (i+1)) (bc l0.length)<(bc l0.length)/\bx (nth [] l0 (W4 (bk (Lv .i64 (i+1)) (bc l0.length))))=8)/\∃x2 x3,cut (nth [] l0 (W4 (bk (Lv .i64 (i+1)) (bc l0.length)))) 0 8 (rk x2 (rk x3 []))/\∃x4 i_1,Gv 163 [aV x x1,aV x2 x3] [aC x4,aI i_1]/\bB (i_1==0) ((room (es.length+1)/\lens 66 [(ck x4 [])])/\I0 [] [dI (Lv .i64 (i+1)),J3 (es++[(ck x4 [])])]/\M0 [dI (Lv .i64 (i+1)),J3 (es++[(ck x4 [])])]<M0 [dI i,J3 es]) (I0 [] [dI (Lv .i64 (i+1)),J3 es]/\M0 [dI (Lv .i64 (i+1)),J3 es]<M0 [dI i,J3 es])) (Q [aL es])):=by kernel_rfl
theorem Ii(x0:Int)(y0:Int)(u0:Int):wpF CC Gv an0 Tryz.f150 [.c (.int .i8 x0),.c (.int .i8 y0),.c (.int .u8 u0)] Q=((4:Int)≠(0:Int)/\∃x,Gv 14 [aI (Lv .i64 x0),aI (Lv .i64 (Lv .i64 (bk u0 (4:Int))+1))] [aR x]/\∃x1,Gv 14 [aI (Lv .i64 y0),aI (Lv .i64 (Lv .i64 (bk u0 (4:Int))+1))] [aR x1]/\∃x2 x3,Gv 104 [aR x,aR x1] [aV x2 x3]/\Q [aV x2 x3]):=by kernel_rfl
theorem Tz(r0:R4)(r1:R4):wpF CC Gv an0 Tryz.f104 [.ag (rk r0 []),.ag (rk r1 [])] Q=(Q [aV r0 r1]):=by kernel_rfl
theorem T0(k0:Int)(u0:Int)(a0:Int)(b0:Int)(c0:Int)(d0:Int)(l0:List (List D))(Q:List A->Prop):wpF CC Gv (λ_=>⟨[.slot 6 (.int .i64 0),.own 5 81 8],[],I0,M0⟩) Tryz.f95 [.ag [.int .u8 k0,.int .u8 u0,.int .i8 a0,.int .i8 b0,.int .i8 c0,.int .i8 d0,.sl l0]] Q=(∃x x1,Gv 150 [HZ (J4 .i8 a0),HZ (J4 .i8 b0),HZ (J4 .u8 u0)] [aV x x1]/\∃x2 x3,Gv 150 [HZ (J4 .i8 c0),HZ (J4 .i8 d0),HZ (J4 .u8 u0)] [aV x2 x3]/\(3:Int)≠(0:Int)/\bB (bk k0 (3:Int)==(0:Int)) (∃x4 x5,Gv 104 [aR x2,aR x1] [aV x4 x5]/\∃x6 x7,Gv 104 [aR x,aR x3] [aV x6 x7]/\∃es,Gv 103 [aL [(rk x (rk x1 [])),(rk x4 (rk x5 [])),(rk x2 (rk x3 [])),(rk x6 (rk x7 []))]] [aL es]/\Q [aL es]) (bB (bk k0 (3:Int)==(1:Int)) (∃i,Gv 36 [aR x2] [aI i]/\bB (decide (i<=0)) (Q [aL []]) (∃es,Gv 151 [aT x x1 x2] [aL es]/\Q [aL es])) (I0 [] [dI (0:Int),J3 []]/\∀(i:Int) (es:List (List D)),I0 [] [dI i,J3 es]->bB (decide (i<(bc l0.length))) (rO l0 i 2/\∃i_1,cU l0 i 0 1 [J4 .i8 i_1]/\rO l0 i 2/\∃i_2,cU l0 i 1 1 [J4 .i8 i_2]/\∃x x4,Gv 150 [HZ (J4 .i8 i_1),HZ (J4 .i8 i_2),HZ (J4 .u8 u0)] [aV x x4]/\(room (es.length+1)/\lens 8 [(rk x (rk x4 []))])/\I0 [] [dI (Lv .i64 (i+1)),J3 (es++[(rk x (rk x4 []))])]/\M0 [dI (Lv .i64 (i+1)),J3 (es++[(rk x (rk x4 []))])]<M0 [dI i,J3 es]) (∃e1,Gv 103 [aL es] [aL e1]/\Q [aL e1])))):=by kernel_rfl
theorem DC(l0:List (List D))(i0:Int)(Q:List A->Prop):wpF CC Gv (λ_=>⟨[.slot 7 (.int .i64 0),.own 6 40 66],[],I0,M0⟩) Tryz.f42 [.c (.sl l0),.c (.int .i64 i0)] Q=(I0 [] [dI (0:Int),J3 []]/\∀(i:Int) (es:List (List D)),I0 [] [dI i,J3 es]->bB (decide (i<(bc l0.length))) (bB (decide ((bc l0.length)>i0)) (Q [aL [],aB false]) (rO l0 i 7/\∃e1,cU l0 i 6 1 [J3 e1]/\bB (decide ((bc e1.length)>i0)) (Q [aL [],aB false]) (rO l0 i 7/\∃i_1 i_2 i_3 i_4 i_5 i_6 e2,cU l0 i 0 7 [J4 .u8 i_1,J4 .u8 i_2,J4 .i8 i_3,J4 .i8 i_4,J4 .i8 i_5,J4 .i8 i_6,J3 e2]/\∃e3,Gv 95 [Hy [J4 .u8 i_1,J4 .u8 i_2,J4 .i8 i_3,J4 .i8 i_4,J4 .i8 i_5,J4 .i8 i_6,J3 e2]] [aL e3]/\(room (es.length+e3.length)/\lens 66 e3)/\I0 [] [dI (Lv .i64 (i+1)),J3 (es++e3)]/\M0 [dI (Lv .i64 (i+1)),J3 (es++e3)]<M0 [dI i,J3 es]))) (Q [aL es,aB (decide ((bc es.length)<=i0))])):=by kernel_rfl
theorem MS(l0:List (List D))(i0:Int):wpF CC Gv an0 Tryz.f13 [.c (.sl l0),.c (.int .i64 i0)] Q=(∃es b,Gv 42 [aL l0,aI i0] [aL es,aB b]/\bB (!b) (Q [Hy [J3 []],aB false]) (∃e1 i,Gv 43 [aL es] [Hy [J3 e1],aI i]/\bB (i==0) (Q [Hy [J3 e1],aB (decide ((bc e1.length)<=i0))]) (Q [Hy [J3 e1],aB false]))):=by kernel_rfl
end
end Eng
end
section
namespace Eng
open Go Go.Proofs Rl
set_option maxRecDepth 100000
theorem wG{α:Type}(f:α->List D)(l:List α):(l.map f).length=l.length:=cg ..
theorem J1{α:Type}(f:α->List D){l:List α}{i:Nat}(h:i<l.length):nth [] (l.map f) i=f l[i]:=by
 rw[qF];simp[h]
theorem Xh{α:Type}{f:α->List D}{n:Nat}(hf:∀x,(f x).length=n)(l:List α):lens n (l.map f):=by
 intro e he;obtain⟨p,_,rfl⟩:=dp.1 he;exact hf p
theorem yn{α:Type}{f:α->List D}{n:Nat}(hf:∀x,(f x).length=n){l:List α}{k:Nat}(h:k<l.length):((0:Int)<=(k:Int)/\(k:Int)<bc (l.map f).length/\bx (nth [] (l.map f) (W4 (k:Int)))=n):=by
 rw[be,J1 f h,wG,hf];exact⟨by omega,by simp only[bd];omega,rfl⟩
theorem DD:∀(l pre:List D),seg (pre++l) pre.length l.length=l
 |[],_=>rfl
 |d::l,pre=>by show nth .undef (pre++d::l) pre.length::seg (pre++d::l) (pre.length+1) l.length=d::l;have h:=DD l (pre++[d]);rw[List.append_assoc,cp,c7]at h;rw[show pre++d::l=pre++([d]++l)from rfl,h];rw[qF];simp
theorem wH{α:Type}{f:α->List D}{n:Nat}(hf:∀x,(f x).length=n){l:List α}{k:Nat}(h:k<l.length):cut (nth [] (l.map f) (W4 (k:Int))) 0 n (f l[k]):=by
 rw[be,J1 f h];have:=hf l[k];refine⟨?_,by omega⟩;rw[<-this];exact DD (f l[k]) []
def V4 (a b:Vc):Prop:=a.y-b.y=0/\b.x-a.x=0
instance (a b:Vc):Decidable (V4 a b):=inferInstanceAs (Decidable (_/\_))
theorem MT{a b:Vc}(ha:HV a)(hb:HV b):HL (JR a b):=by
 have h1:Hz 41 (a.y-b.y):=ha.2.sub hb.2 (by omega);have h2:Hz 41 (b.x-a.x):=hb.1.sub ha.1 (by omega);exact⟨h1.mono (by omega),h2.mono (by omega),(h1.mul ha.1 (l:=61)).add (h2.mul ha.2 (l:=61)) (by omega)⟩
theorem T2{a b:Vc}(ha:HV a)(hb:HV b)(h:¬V4 a b):qa CC 228 [.ag (kV a),.ag (kV b)] [.ag (kL (JR a b) []),.c (.int .i64 0)]:=by
 refine wpG Tryz.func228 ((Jx ..).mpr ?_);have h1:Hz 41 (a.y-b.y):=ha.2.sub hb.2 (by omega);have h2:Hz 41 (b.x-a.x):=hb.1.sub ha.1 (by omega);have m1:Hz 61 ((a.y-b.y)*a.x):=h1.mul ha.1 (by omega);have m2:Hz 61 ((b.x-a.x)*a.y):=h2.mul ha.2 (by omega);refine⟨_,Zg ha.2 hb.2,_,Zg hb.1 ha.1,_,z8 _,brb (λe=>?_) (λe=>?_)⟩
 .refine⟨_,z8 _,brb (λe2=>?_) (λe2=>?_)⟩
  .exact absurd ⟨Wl.1 (by simpa using e),Wl.1 (by simpa using e2)⟩ h
  .exact⟨_,zt h1 ha.1,_,zt h2 ha.2,_,JY m1 m2,rfl⟩
 .exact⟨_,zt h1 ha.1,_,zt h2 ha.2,_,JY m1 m2,rfl⟩
theorem T3{a b:Vc}(ha:HV a)(hb:HV b)(h:V4 a b):∃x0 x1 x2,qa CC 228 [.ag (kV a),.ag (kV b)] [.ag (rk x0 (rk x1 (rk x2 []))),.c (.int .i64 6)]:=by
 refine⟨z4A,z4A,z4A,?_⟩;refine wpG Tryz.func228 ((Jx ..).mpr ?_);refine⟨_,Zg ha.2 hb.2,_,Zg hb.1 ha.1,_,z8 _,brb (λe=>?_) (λe=>?_)⟩
 .refine⟨_,z8 _,brb (λe2=>?_) (λe2=>?_)⟩
  .rfl
  .have:¬sr (b.x-a.x)=0:=by simpa using e2
   exact absurd (Wl.2 h.2) this
 .have:¬sr (a.y-b.y)=0:=by simpa using e
  exact absurd (Wl.2 h.1) this
def mU (a b:Vc):Cu:=⟨false,JR a b,⟨0,0,0⟩,false,atV a,atV b,Z4⟩
theorem OQ{a b:Vc}(h:¬V4 a b):oD a b=some (mU a b):=if_neg h
theorem DE{a b:Vc}(h:V4 a b):oD a b=none:=if_pos h
theorem RI{v:Vc}(h:HV v):Gp (atV v):=⟨⟨h.1.mono (by omega),Hz.zero,h.2.mono (by omega),Hz.zero,Hz.zero⟩,NW v⟩
theorem fW{a b:Vc}(ha:HV a)(hb:HV b)(h:¬V4 a b):Gc (mU a b):=
 ⟨⟨rfl,.inr ⟨rfl,MT ha hb,h⟩⟩,RI ha,RI hb⟩
theorem GX{a b:Vc}(ha:HV a)(hb:HV b)(h:¬V4 a b):qa CC 163 [.ag (kV a),.ag (kV b)] [.ag (ck (kU (mU a b)) []),.c (.int .i64 0)]:=by
 refine wpG Tryz.func163 ((Ze ..).mpr ?_);refine⟨_,_,_,_,T2 ha hb h,brb (λe=>by simp at e) (λ_=>?_)⟩;exact⟨_,ZK a,_,ZK b,rfl⟩
theorem GY{a b:Vc}(ha:HV a)(hb:HV b)(h:V4 a b):∃x,qa CC 163 [.ag (kV a),.ag (kV b)] [.ag (ck x []),.c (.int .i64 6)]:=by
 refine⟨⟨false,z4A,z4A,z4A,z4A,z4A,z4A,false,⟨z4A,z4A,z4A,z4A,z4A⟩,⟨z4A,z4A,z4A,z4A,z4A⟩⟩,?_⟩;obtain⟨x0,x1,x2,hx⟩:=T3 ha hb h;refine wpG Tryz.func163 ((Ze ..).mpr ?_);refine⟨_,_,_,_,hx,brb (λ_=>rfl) (λe=>by simp at e)⟩
theorem Ij{c:Ci}(hc:HC c)(h:0<c.q):∀x∈Ca c,Gc x:=by
 obtain⟨l,r⟩:=Kb hc h;intro x hx;simp only[Ca,fw,ew,or_false]at hx;rcases hx with rfl|rfl
 .exact⟨⟨rfl,.inl ⟨rfl,hc,h⟩⟩,l,r⟩
 .exact⟨⟨rfl,.inl ⟨rfl,hc,h⟩⟩,r,l⟩
theorem RJ{c:Ci}(hc:HC c)(h:0<c.q):qa CC 151 [.ag (kC c [])] [.c (.sl (kUs (Ca c)))]:=by
 refine wpG Tryz.func151 ((Rk ..).mpr ?_);exact⟨_,_,Zh hc h,rfl⟩
noncomputable def MU (l:List Vc) (i:Nat):List Cu:=match l[i]?,l[(i+1)%l.length]? with
 |some a,some b=>(oD a b).toList
 |_,_=>[]
noncomputable def yU (l:List Vc) (k:Nat):List Cu:=(ea k).flatMap (MU l)
noncomputable def Ik (l:List Vc):List Cu:=yU l l.length
theorem Xi(l:List Vc)(k:Nat):yU l (k+1)=yU l k++MU l k:=by
 unfold yU;rw[List.range_succ,er];simp
theorem Il{l:List Vc}{i:Nat}(h:i<l.length):MU l i=(oD l[i] (l[(i+1)%l.length]'(gm _ (by omega)))).toList:=by
 unfold MU;rw[cb h,cb (gm _ (by omega))]
theorem Im{l:List Vc}(hl:∀v∈l,HV v)(i:Nat):(∀c∈MU l i,Gc c)/\(MU l i).length<=1:=by
 unfold MU;split
 .rename_i a b ha hb;by_cases h:V4 a b
  .rw[DE h];simp
  .rw[OQ h];simp only[Option.toList_some,ch,c7];exact⟨λc hc=>by rw[hc];exact fW (hl a (cv ha)) (hl b (cv hb)) h,fz _⟩
 .simp
theorem Zp{l:List Vc}(hl:∀v∈l,HV v):∀k,(∀c∈yU l k,Gc c)/\(yU l k).length<=k
 |0=>by simp[yU]
 |k+1=>by
  obtain⟨h1,h2⟩:=Zp hl k;obtain⟨h3,h4⟩:=Im hl k;rw[Xi];refine⟨λc hc=>?_,by rw[cp];omega⟩;rcases cH.1 hc with h|h
  .exact h1 c h
  .exact h3 c h
def pgI (l:List Vc) (_ ds:List D):Prop:=∃k:Nat,k<=l.length/\ds=[.int .i64 (k:Int),.sl (kUs (yU l k))]
theorem OR(v:Vc):(kV v).length=8:=rfl
theorem Zq{l:List Vc}(hl:∀v∈l,HV v)(hn:l.length<=1000000):qa CC 103 [.c (.sl (l.map kV))] [.c (.sl (kUs (Ik l)))]:=by
 have hv:=GW (qa CC) (pgI l) (jn 10000000) (l.map kV) (· =[.c (.sl (kUs (Ik l)))]);refine gOk Tryz.func103 hv ?_;clear hv;refine⟨⟨0,gd _,rfl⟩,?_⟩;rintro _ _ ⟨k,hk,he⟩;simp only[fx,J9,D.sl.injEq,and_true,true_and]at he;obtain⟨rfl,rfl⟩:=he;refine brd (λh=>?_) (λh=>?_)
 .have a3:k<l.length:=by rw[wG]at h;simp only[bd]at h;omega
  obtain⟨m,hm⟩:∃m,(k+1)%l.length=m:=⟨_,rfl⟩;have a4:m<l.length:=by rw[<-hm];exact gm _ (by omega)
  have a5:bk (Lv .i64 ((k:Int)+1)) (bc (l.map kV).length)=(m:Int):=by rw[wI,wG,<-hm];show bk ((k+1:Nat):Int) (l.length:Int)=_;rw[<-bv]
  have sa:=Il a3;have sm:(l[(k+1)%l.length]'(gm _ (by omega)))=l[m]:=by simp only[hm]
  rw[sm]at sa;obtain⟨g1,g2⟩:=Zp hl k;rw[a5];refine⟨yn OR a3,_,_,wH OR a3,by rw[wG];simp only[bd];omega,yn OR a4,_,_,wH OR a4,?_⟩;have ha:=hl _ (bw a3);have hb:=hl _ (bw a4);have nx:∀w,w=yU l (k+1)->pgI l [] [.int .i64 (Lv .i64 ((k:Int)+1)),.sl (kUs w)]:=by intro w hw;exact⟨k+1,a3,by rw[wI,hw];rfl⟩
  by_cases hs:V4 l[k] l[m]
  .obtain⟨x,hx⟩:=GY ha hb hs;refine⟨_,_,hx,brb (λe=>by simp at e) (λ_=>?_)⟩;refine⟨nx _ (by rw[Xi,sa,DE hs];simp),qt⟩
  .refine⟨_,_,GX ha hb hs,brb (λ_=>?_) (λe=>by simp at e)⟩;refine⟨⟨by unfold Eng.room;rw[qu];omega,λe he=>by rw[ch.1 he];rfl⟩,?_⟩;have e1:kUs (yU l k)++[ck (kU (mU l[k] l[m])) []]=kUs (yU l k++[mU l[k] l[m]]):=by rw[wX];rfl
   rw[e1];exact⟨nx _ (by rw[Xi,sa,OQ hs];rfl),qt⟩
 .have a3:k=l.length:=by rw[wG]at h;simp only[bd]at h;omega
  rw[a3];rfl
end Eng
end
section
namespace Eng
open Go Go.Proofs Rl
set_option maxRecDepth 100000
structure Fm where
 k:Nat
 u:Nat
 a:Int
 b:Int
 c:Int
 d:Int
 cs:List (Int×Int)
def sm8 (z:Int):Prop:= -128<=z/\z<128
def Fm.ok (f:Fm):Prop:=f.k<256/\f.u<256/\sm8 f.a/\sm8 f.b/\sm8 f.c/\sm8 f.d/\∀p∈f.cs,sm8 p.1/\sm8 p.2
def kPr (p:Int×Int):List D:=[.int .i8 p.1,.int .i8 p.2]
def kFm (f:Fm):List D:=[.int .u8 f.k,.int .u8 f.u,.int .i8 f.a,.int .i8 f.b,.int .i8 f.c,.int .i8 f.d,.sl (f.cs.map kPr)]
theorem DF(p:Int×Int):(kPr p).length=2:=rfl
theorem DG(f:Fm):(kFm f).length=7:=rfl
def vtR (x y:Int) (u:Nat):Vc:=⟨hV x ((u%4:Nat)+1),hV y ((u%4:Nat)+1)⟩
theorem wJ{x n:Int}(hx:x.natAbs<=100000)(h0:0<n)(hn:n<=100000):qa CC 14 [.c (.int .i64 x),.c (.int .i64 n)] [.ag (rk (q4 (hV x n)) [])]:=by
 refine wpG Tryz.func14 ((Ih ..).mpr ?_);have s:∀z:Int,z.natAbs<=100000->Sm z:=λz hz=>by have h:Hz 5 (z:Rat):=Hz.int (by rw[show(10:Nat)^5=100000 by decide];exact hz);have:=(h.sr (by omega)).1;rw[hY]at this;unfold Sm;exact fS this (by unfold VX ZE;exact Nat.pow_le_pow_right (by omega) (by omega))
 refine brb (λe=>?_) (λe=>?_)
 .simp at e;omega
 .exact⟨_,_,zd (by omega) (by omega),_,_,zd (by omega) (by omega),q4 (hV x n),NK jT (s x hx) (s n (by omega)) (by omega),rfl⟩
theorem yV{x:Int}{u:Nat}(hx:sm8 x):Hz 3 (hV x ((u%4:Nat)+1)):=by
 have:=gm u (show 4>0 by omega);refine Hz.divInt (by omega) ?_ ?_
 .rw[show(10:Nat)^3=1000 by decide];obtain⟨h1,h2⟩:=hx;omega
 .rw[show(10:Nat)^3=1000 by decide];omega
theorem DH{x y:Int}{u:Nat}(hx:sm8 x)(hy:sm8 y):HV (vtR x y u):=⟨(yV hx).mono (by omega),(yV hy).mono (by omega)⟩
theorem yW(x y:Rat):qa CC 104 [.ag (rk (q4 x) []),.ag (rk (q4 y) [])] [.ag (kV ⟨x,y⟩)]:=by
 refine wpG Tryz.func104 ((Tz ..).mpr ?_);rfl
theorem GZ{x y:Int}{u:Nat}(hx:sm8 x)(hy:sm8 y):qa CC 150 [.c (.int .i8 x),.c (.int .i8 y),.c (.int .u8 u)] [.ag (kV (vtR x y u))]:=by
 refine wpG Tryz.func150 ((Ii ..).mpr ?_);obtain⟨x1,x2⟩:=hx;obtain⟨y1,y2⟩:=hy;have e:bk (u:Int) 4=((u%4:Nat):Int):=by rw[show(4:Int)=((4:Nat):Int)from rfl,<-bv]
 have hm:=gm u (show 4>0 by omega);rw[e,wI (n:=x) (by omega),wI (n:=y) (by omega),wI (n:=((u%4:Nat):Int)) (by omega),wI];exact⟨by omega,_,wJ (by omega) (by omega) (by omega),_,wJ (by omega) (by omega) (by omega),_,_,yW _ _,rfl⟩
noncomputable def wz (f:Fm):List Cu:=
 if f.k%3=0 then Ik [vtR f.a f.b f.u,⟨(vtR f.c f.d f.u).x,(vtR f.a f.b f.u).y⟩,vtR f.c f.d f.u,⟨(vtR f.a f.b f.u).x,(vtR f.c f.d f.u).y⟩]
 else if f.k%3=1 then(if sr (vtR f.c f.d f.u).x<=0 then []else Ca ⟨(vtR f.a f.b f.u).x,(vtR f.a f.b f.u).y,(vtR f.c f.d f.u).x⟩)
 else Ik (f.cs.map λp=>vtR p.1 p.2 f.u)
theorem bO{f:Fm}(h:f.ok):∀v∈f.cs.map (λp=>vtR p.1 p.2 f.u),HV v:=by
 intro v hv;obtain⟨p,hp,rfl⟩:=dp.1 hv;obtain⟨h1,h2⟩:=h.2.2.2.2.2.2 p hp;exact DH h1 h2
theorem bP{f:Fm}(h:f.ok):∀v∈[vtR f.a f.b f.u,⟨(vtR f.c f.d f.u).x,(vtR f.a f.b f.u).y⟩,vtR f.c f.d f.u,⟨(vtR f.a f.b f.u).x,(vtR f.c f.d f.u).y⟩],HV v:=by
 obtain⟨_,_,ha,hb,hc,hd,_⟩:=h;have p:=DH (u:=f.u) ha hb;have q:=DH (u:=f.u) hc hd;intro v hv;simp only[fw,ew,or_false]at hv;rcases hv with rfl|rfl|rfl|rfl
 .exact p
 .exact⟨q.1,p.2⟩
 .exact q
 .exact⟨p.1,q.2⟩
theorem Yy{f:Fm}(h:f.ok):(∀c∈wz f,Gc c)/\(wz f).length<=f.cs.length+4:=by
 unfold wz;split
 .obtain⟨h1,h2⟩:=Zp (bP h) 4;exact⟨h1,fR h2 (by omega)⟩
 .split
  .split
   .simp
   .rename_i _ _ h0;obtain⟨_,_,ha,hb,hc,hd,_⟩:=h;refine⟨Ij ⟨(yV ha).mono (by omega),(yV hb).mono (by omega),(yV hc).mono (by omega)⟩ (show 0<(vtR f.c f.d f.u).x from Yd.1 (by omega)),by simp[Ca]⟩
  .obtain⟨h1,h2⟩:=Zp (bO h) (f.cs.map λp=>vtR p.1 p.2 f.u).length;exact⟨h1,fR h2 (by rw[cg];omega)⟩
def cvI (f:Fm) (_ ds:List D):Prop:=∃k:Nat,k<=f.cs.length/\ds=[.int .i64 (k:Int),.sl (((f.cs.take k).map λp=>vtR p.1 p.2 f.u).map kV)]
theorem fX{l:List (Int×Int)}{k:Nat}(h:k<l.length):cut (nth [] (l.map kPr) (W4 (k:Int))) 0 1 [.int .i8 l[k].1]:=by
 rw[be,J1 kPr h];exact⟨rfl,by show 0+1<=2;omega⟩
theorem fY{l:List (Int×Int)}{k:Nat}(h:k<l.length):cut (nth [] (l.map kPr) (W4 (k:Int))) 1 1 [.int .i8 l[k].2]:=by
 rw[be,J1 kPr h];exact⟨rfl,by show 1+1<=2;omega⟩
theorem T4{f:Fm}(h:f.ok)(hn:f.cs.length<=1000):qa CC 95 [.ag (kFm f)] [.c (.sl (kUs (wz f)))]:=by
 have hv:=T0 (qa CC) (cvI f) (jn 10000000) f.k f.u f.a f.b f.c f.d (f.cs.map kPr) (· =[.c (.sl (kUs (wz f)))]);refine gOk Tryz.func95 hv ?_;clear hv;have hk:=h;obtain⟨h1,h2,ha,hb,hc,hd,hcs⟩:=hk;have a4:bk (f.k:Int) 3=((f.k%3:Nat):Int):=by rw[show(3:Int)=((3:Nat):Int)from rfl,<-bv]
 have hm:=gm f.k (show 3>0 by omega);rw[a4];refine⟨_,_,GZ ha hb,_,_,GZ hc hd,by omega,brb (λe=>?_) (λe=>?_)⟩
 .have e:f.k%3=0:=by simp only[beq_iff_eq]at e;omega
  refine⟨_,_,yW _ _,_,_,yW _ _,_,Zq (bP h) (by simp),?_⟩;unfold wz;rw[if_pos e]
 .have e:¬f.k%3=0:=by simp only[beq_eq_false_iff_ne,ne_eq]at e;omega
  refine brb (λe2=>?_) (λe2=>?_)
  .have e2:f.k%3=1:=by simp only[beq_iff_eq]at e2;omega
   refine⟨_,z8 _,brd (λe3=>?_) (λe3=>?_)⟩
   .unfold wz;rw[if_neg e,if_pos e2,if_pos e3];rfl
   .refine⟨_,RJ (c:=⟨(vtR f.a f.b f.u).x,(vtR f.a f.b f.u).y,(vtR f.c f.d f.u).x⟩) ⟨(yV ha).mono (by omega),(yV hb).mono (by omega),(yV hc).mono (by omega)⟩ (show 0<(vtR f.c f.d f.u).x from Yd.1 (by omega)),?_⟩;unfold wz;rw[if_neg e,if_pos e2,if_neg e3]
  .have e2:¬f.k%3=1:=by simp only[beq_eq_false_iff_ne,ne_eq]at e2;omega
   refine⟨⟨0,gd _,rfl⟩,?_⟩;rintro _ _ ⟨k,hk,he⟩;simp only[fx,J9,D.sl.injEq,and_true,true_and]at he;obtain⟨rfl,rfl⟩:=he;refine brd (λh3=>?_) (λh3=>?_)
   .have a3:k<f.cs.length:=by rw[wG]at h3;simp only[bd]at h3;omega
    obtain⟨p1,p2⟩:=hcs _ (bw a3);refine⟨yn DF a3,_,fX a3,yn DF a3,_,fY a3,_,_,GZ p1 p2,⟨by unfold Eng.room;rw[wG,cg,ez];omega,λe he=>by rw[ch.1 he];rfl⟩,?_,qt⟩;refine⟨k+1,a3,?_⟩;rw[wI,cr a3,fl,fl];rfl
   .have a3:k=f.cs.length:=by rw[wG]at h3;simp only[bd]at h3;omega
    rw[a3,dv];refine⟨_,Zq (bO h) (by rw[cg];omega),?_⟩;unfold wz;rw[if_neg e,if_neg e2]
noncomputable def In (s:List Fm):List Cu:=s.flatMap wz
def mV (s:List Fm) (m:Nat):Bool:=s.all λf=>decide (s.length<=m)&&decide (f.cs.length<=m)
noncomputable def jF (s:List Fm) (m:Nat):List Cu×Bool:=if mV s m=true then(In s,decide ((In s).length<=m))else([],false)
noncomputable def yX (s:List Fm) (m:Nat):List Cu×Bool:=
 if(jF s m).2=true then((Qy (jF s m).1).1,decide ((Qy (jF s m).1).2=0/\(Qy (jF s m).1).1.length<=m))else([],false)
theorem DI{s:List Fm}(hs:∀f∈s,f.ok){m:Nat}:(∀c∈In s,Gc c)/\((∀f∈s,f.cs.length<=m)->(In s).length<=s.length*(m+4)):=by
 unfold In
 induction s with
 |nil=>simp
 |cons f r ih=>
  obtain⟨h1,h2⟩:=ih λx hx=>hs x (ec _ hx)
  obtain⟨h3,h4⟩:=Yy (hs f (et ..));rw[List.flatMap_cons];refine⟨λc hc=>?_,λhm=>?_⟩
  .rcases cH.1 hc with h|h
   .exact h3 c h
   .exact h1 c h
  .have:=h2 λx hx=>hm x (ec _ hx)
   have h5:=hm f (et ..);rw[cp,eH,hK,hG];omega
def alI (s:List Fm) (m:Nat) (_ ds:List D):Prop:=∃k:Nat,k<=s.length/\ds=[.int .i64 (k:Int),.sl (kUs (In (s.take k)))]/\(s.take k).all (λf=>decide (s.length<=m)&&decide (f.cs.length<=m))=true
theorem fZ{l:List Fm}{k:Nat}(h:k<l.length):cut (nth [] (l.map kFm) (W4 (k:Int))) 6 1 [.sl (l[k].cs.map kPr)]:=by
 rw[be,J1 kFm h];exact⟨rfl,by show 6+1<=7;omega⟩
theorem DJ{s:List Fm}(hs:∀f∈s,f.ok){m:Nat}(hm:m<=400):qa CC 42 [.c (.sl (s.map kFm)),.c (.int .i64 m)] [.c (.sl (kUs (jF s m).1)),.c (.bool (jF s m).2)]:=by
 have hv:=DC (qa CC) (alI s m) (jn 10000000) (s.map kFm) m (· =[.c (.sl (kUs (jF s m).1)),.c (.bool (jF s m).2)]);refine gOk Tryz.func42 hv ?_;clear hv;have a6:mV s m=false->[HZ (J3 []),HZ (J5 false)]=[.c (.sl (kUs (jF s m).1)),.c (.bool (jF s m).2)]:=by intro h;unfold jF;rw[if_neg (by rw[h];simp)];rfl
 refine⟨⟨0,gd _,rfl,rfl⟩,?_⟩;rintro _ _ ⟨k,hk,he,a4⟩;simp only[fx,J9,D.sl.injEq,and_true,true_and]at he;obtain⟨rfl,rfl⟩:=he;rw[wG];have a5:∀h:k<s.length,(decide (s.length<=m)&&decide (s[k].cs.length<=m))=false->mV s m=false:=by
  intro h hb;cases hh:mV s m with
  |false=>rfl
  |true=>have:=c3.1 hh _ (bw h);rw[this]at hb;cases hb
 refine brd (λh3=>?_) (λh3=>?_)
 .have a3:k<s.length:=by simp only[bd]at h3;omega
  have hf:=hs _ (bw a3);have ok:=yn DG a3;refine brd (λh4=>?_) (λh4=>?_)
  .have:¬s.length<=m:=by simp only[bd]at h4;omega
   exact a6 (a5 a3 (by simp[this]))
  .have h4:s.length<=m:=by simp only[bd]at h4;omega
   refine⟨ok,_,fZ a3,brd (λh5=>?_) (λh5=>?_)⟩
   .have:¬s[k].cs.length<=m:=by rw[wG]at h5;simp only[bd]at h5;omega
    exact a6 (a5 a3 (by simp[this]))
   .have h5:s[k].cs.length<=m:=by rw[wG]at h5;simp only[bd]at h5;omega
    have hsk:∀f∈s.take k,f.ok:=λf hf=>hs f (List.mem_of_mem_take hf)
    have hkm:∀f∈s.take k,f.cs.length<=m:=λf hf=>by have:=c3.1 a4 f hf;simp only[Hu,decide_eq_true_eq]at this;exact this.2
    have l1:=(DI hsk).2 hkm;have l2:=(Yy hf).2;have l3:(s.take k).length*(m+4)<=400*404:=Nat.mul_le_mul (by rw[ez];omega) (by omega);refine⟨ok,_,_,_,_,_,_,_,wH DG a3,_,T4 hf (by omega),⟨by unfold Eng.room;rw[qu,qu];omega,yl _⟩,?_,qt⟩;refine⟨k+1,a3,?_,?_⟩
    .rw[wI,<-wX,cr a3];have:In (s.take k++[s[k]])=In (s.take k)++wz s[k]:=by unfold In;rw[er];simp
     rw[this];rfl
    .rw[cr a3,ft,a4,Hx];simp[h4,h5]
 .have a3:k=s.length:=by simp only[bd]at h3;omega
  rw[a3,dv]at a4 ⊢;have e:mV s m=true:=a4;unfold jF;rw[if_pos e,qu];simp only[fx,A.c.injEq,D.bool.injEq,true_and,and_true,decide_eq_decide];simp only[bd];omega
theorem T5{s:List Fm}(hs:∀f∈s,f.ok)(m:Nat):∀c∈(jF s m).1,Gc c:=by
 unfold jF;split
 .exact(DI hs (m:=m)).1
 .simp
theorem MV{s:List Fm}(hs:∀f∈s,f.ok){m:Nat}(hm:m<=400):qa CC 13 [.c (.sl (s.map kFm)),.c (.int .i64 m)] [.ag [.sl (kUs (yX s m).1)],.c (.bool (yX s m).2)]:=by
 refine wpG Tryz.func13 ((MS ..).mpr ?_);refine⟨_,_,DJ hs hm,?_⟩;cases hb:(jF s m).2 with
 |false=>refine brb (λ_=>?_) (λh=>by cases h);unfold yX;rw[if_neg (by rw[hb];simp)];rfl
 |true=>
  refine brb (λh=>by cases h) (λ_=>?_);have hl:(jF s m).1.length<=m:=by
   unfold jF at hb ⊢;split at hb
   .rename_i h1;rw[if_pos h1];simpa using hb
   .cases hb
  refine⟨_,_,RH (T5 hs m) (by omega),?_⟩;unfold yX;rw[if_pos hb,qu];refine brb (λh=>?_) (λh=>?_)
  .have h:(Qy (jF s m).1).2=0:=by simpa using h
   simp only[h,true_and,bd,Int.ofNat_le]
  .have h:¬(Qy (jF s m).1).2=0:=by simpa using h
   simp only[h,false_and,decide_false]
theorem DK{s:List Fm}(hs:∀f∈s,f.ok)(m:Nat):(∀c∈(yX s m).1,Mo c)/\(yX s m).1.length<=400:=by
 unfold yX;split
 .exact Ig (T5 hs m)
 .simp
end Eng
end
section
namespace Eng
open Go Go.Proofs Rl
set_option maxRecDepth 100000
theorem Io{b:Bx}(h:HB 50 b):qa CC 142 [.ag (kB b [])] [.c (.bool true)]:=by
 refine wpG Tryz.func142 ((MN ..).mpr ?_);exact⟨_,xl h.1,_,xl h.2.1,_,xl h.2.2.1,_,xl h.2.2.2,rfl⟩
theorem T6{b:Bx}(h:HB 50 b):qa CC 82 [.ag (kB b [])] [.c (.bool b.ok)]:=by
 refine wpG Tryz.func82 ((Dw ..).mpr ?_);refine⟨_,Io h,_,JA h.1 h.2.2.1,brb (λe=>⟨_,JA h.2.1 h.2.2.2,?_⟩) λe=>?_⟩<;>rw[dl]at e<;>unfold Bx.ok<;>rw[e]
 .rw[dl];rfl
 .rfl
theorem aSq{x:Rat}{k:Nat}(hx:Hz k x)(h:k<360000:=by omega):qa CC 86 [.ag (rk (q4 x) [])] [.ag (rk (q4 (x*x)) [])]:=by
 refine wpG Tryz.func86 ((RA ..).mpr ?_);exact⟨_,Zd hx hx,rfl⟩
theorem Jc{x y:Rat}(hx:Hz 20 x)(hy:Hz 20 y):qa CC 83 [.ag (rk (q4 x) []),.ag (rk (q4 y) [])] [.ag (rk (q4 (sqd x y)) [])]:=by
 refine wpG Tryz.func83 ((R9 ..).mpr ?_);exact⟨_,Sn hx hy,_,aSq (hx.sub hy (l:=41)),rfl⟩
theorem Yz{x lo hi:Rat}(hx:Hz 20 x)(hl:Hz 20 lo)(hh:Hz 20 hi):qa CC 84 [.ag (rk (q4 x) []),.ag (rk (q4 lo) []),.ag (rk (q4 hi) [])] [.ag (rk (q4 (clR x lo hi)) [])]:=by
 refine wpG Tryz.func84 ((Dx ..).mpr ?_);refine⟨_,JA hx hl,brd (λh=>?_) λh=>⟨_,JA hx hh,brd (λh'=>?_) λh'=>?_⟩⟩<;>rw[srl]at h<;>unfold clR
 .rw[if_pos h]
 all_goals rw[srg]at h'
 .rw[if_neg h,if_pos h']
 .rw[if_neg h,if_neg h']
theorem aMax{x y:Rat}{j k:Nat}(hx:Hz j x)(hy:Hz k y)(h:j<360000/\k<360000:=by omega):qa CC 89 [.ag (rk (q4 x) []),.ag (rk (q4 y) [])] [.ag (rk (q4 (mxR x y)) [])]:=by
 refine wpG Tryz.func89 ((fC ..).mpr ?_);refine⟨_,JA hx hy,brd (λh=>?_) λh=>?_⟩<;>rw[srl]at h<;>unfold mxR
 .rw[if_pos h]
 .rw[if_neg h]
theorem mW{b:Bx}{v:Vc}{r:Rat}(hb:HB 20 b)(hv:HV v)(hr:Hz 20 r):qa CC 37 [.ag (kB b []),.ag (kV v),.ag (rk (q4 r) [])] [.c (.bool (bG b v r))]:=by
 have h1:=hv.1.cl hb.1 hb.2.2.1;have h2:=hv.2.cl hb.2.1 hb.2.2.2;refine wpG Tryz.func37 ((fD ..).mpr ?_);refine⟨_,T6 hb.m,brb (λh=>?_) λh=>⟨_,z8 r,brd (λh'=>?_) λh'=>⟨_,Yz hv.1 hb.1 hb.2.2.1,_,Jc h1 hv.1,_,Yz hv.2 hb.2.1 hb.2.2.2,_,Jc h2 hv.2,_,V2 (h1.sqd hv.1) (h2.sqd hv.2),_,aSq hr,
  _,JA ((h1.sqd hv.1).add (h2.sqd hv.2) (l:=165)) (hr.mul hr (l:=40)),?_⟩⟩⟩<;>unfold bG
 .rw[show b.ok=false by simpa using h];rfl
 all_goals rw[show b.ok=true by simpa using h]
 .rw[kv]at h';rw[decide_eq_true h'];rfl
 .rw[kv]at h';rw[decide_eq_false h',dg];unfold frV;rw[Kd v.x,Kd v.y];rfl
theorem mX{b:Bx}{v:Vc}{r:Rat}(hb:HB 20 b)(hv:HV v)(hr:Hz 20 r):qa CC 39 [.ag (kB b []),.ag (kV v),.ag (rk (q4 r) [])] [.c (.bool (jC b v r))]:=by
 have s1:=hb.1.sqd hv.1;have s2:=hb.2.2.1.sqd hv.1;have s3:=hb.2.1.sqd hv.2;have s4:=hb.2.2.2.sqd hv.2;refine wpG Tryz.func39 ((Id ..).mpr ?_);refine⟨_,T6 hb.m,brb (λh=>?_) λh=>⟨_,z8 r,brd (λh'=>?_) λh'=>⟨_,Jc hb.1 hv.1,_,Jc hb.2.2.1 hv.1,_,aMax s1 s2,_,Jc hb.2.1 hv.2,_,Jc hb.2.2.2 hv.2,_,aMax s3 s4,
  _,V2 (s1.mx s2) (s3.mx s4),_,aSq hr,_,JA ((s1.mx s2).add (s3.mx s4) (l:=165)) (hr.mul hr (l:=40)),?_⟩⟩⟩<;>unfold jC
 .rw[show b.ok=false by simpa using h];rfl
 all_goals rw[show b.ok=true by simpa using h]
 .rw[kv]at h';rw[decide_eq_true h'];rfl
 .rw[kv]at h';rw[decide_eq_false h',dl];rfl
def hlf:Rat:=hV 1 2
theorem DL:Hz 1 hlf:=Hz.divInt (by omega) (by decide) (by decide)
def mdR (a b:Rat):Rat:=(a+b)*hlf
theorem Ha{a b:Rat}{k:Nat}(ha:Hz k a)(hb:Hz k b)(hk:k<100000:=by omega):qa CC 93 [.ag (rk (q4 a) []),.ag (rk (q4 b) [])] [.ag (rk (q4 (mdR a b)) [])]:=by
 refine wpG Tryz.func93 ((RB ..).mpr ?_);exact⟨_,V2 ha hb,_,wJ (x:=1) (n:=2) (by omega) (by omega) (by omega),_,Zd (ha.add hb (l:=k+k+1)) DL,rfl⟩
def qrB (b:Bx):List Bx:=[⟨b.x0,b.y0,mdR b.x0 b.x1,mdR b.y0 b.y1⟩,⟨mdR b.x0 b.x1,b.y0,b.x1,mdR b.y0 b.y1⟩,⟨b.x0,mdR b.y0 b.y1,mdR b.x0 b.x1,b.y1⟩,⟨mdR b.x0 b.x1,mdR b.y0 b.y1,b.x1,b.y1⟩]
def kBs (l:List Bx):List (List D):=l.map λb=>kB b []
theorem OS{b:Bx}(h:HB 20 b):qa CC 54 [.ag (kB b [])] [.c (.sl (kBs (if b.ok then qrB b else [])))]:=by
 refine wpG Tryz.func54 ((MO ..).mpr ?_);refine⟨_,T6 h.m,brb (λe=>?_) λe=>⟨_,Ha h.1 h.2.2.1,_,Ha h.2.1 h.2.2.2,?_⟩⟩
 .rw[show b.ok=false by simpa using e];rfl
 .rw[show b.ok=true by simpa using e];rfl
theorem MW{v:Vc}{r:Rat}(hv:HV v)(hr:Hz 20 r):qa CC 22 [.ag (kV v),.ag (rk (q4 r) [])] [.ag (kB (arB v r) [])]:=by
 refine wpG Tryz.func22 ((RC ..).mpr ?_);exact⟨_,Sn hv.1 hr,_,Sn hv.2 hr,_,V2 hv.1 hr,_,V2 hv.2 hr,rfl⟩
def oI (b:Bx) (x y:Rat):Bool:=decide (b.x0<=x)&&(decide (x<=b.x1)&&(decide (b.y0<=y)&&decide (y<=b.y1)))
theorem dle(x y:Rat):decide (sr (x-y)<=0)=decide (x<=y):=by
 rw[decide_eq_decide];have:= @srg x y;constructor
 .intro h;exact im.1 (mt this.2 (by omega))
 .intro h;have:=mt this.1 (im.2 h);omega
theorem eHas{b:Bx}{x y:Rat}{k:Nat}(hb:HB k b)(hx:Hz k x)(hy:Hz k y)(hk:k<100000:=by omega):qa CC 94 [.ag (kB b []),.ag (rk (q4 x) []),.ag (rk (q4 y) [])] [.c (.bool (oI b x y))]:=by
 refine wpG Tryz.func94 ((fF ..).mpr ?_);refine⟨_,JA hb.1 hx,brb (λh=>⟨_,JA hx hb.2.2.1,brb (λh=>⟨_,JA hb.2.1 hy,brb (λh=>⟨_,JA hy hb.2.2.2,?_⟩) λh=>?_⟩) λh=>?_⟩) λh=>?_⟩<;>simp only[dle]at * <;>unfold oI<;>simp[*]
end Eng
end
section
open Go Go.Proofs Eng
namespace Eng
section
variable (Gv:Nat->List A->List A->Prop)(I0:List D->List D->Prop)(M0:List D->Nat)(I1:List D->List D->Prop)(M1:List D->Nat)(I2:List D->List D->Prop)(M2:List D->Nat)(I3:List D->List D->Prop)(M3:List D->Nat)(Q:List A->Prop)
theorem RK(l0:List (List D))(r0:R4)(Q:List A->Prop):wpF CC Gv (λ_=>⟨[.slot 9 (.int .i64 0),.slot 10 (.int .i64 0)],[],I0,M0⟩) Tryz.f136 [.c (.sl l0),.ag (rk r0 []),.c (.fn 65)] Q=(I0 [] [dI (0:Int),dI (bc l0.length)]/\∀(i i_1:Int),I0 [] [dI i,dI i_1]->bB (decide (i<i_1)) ((0:Int)<=(1:Int)/\(0<=Lv .i64 (bh (Lv .u64 (Lv .i64 (i+i_1))) (2:Int))/\Lv .i64 (bh (Lv .u64 (Lv .i64 (i+i_1))) (2:Int))<(bc l0.length)/\bx (nth [] l0 (W4 (Lv .i64 (bh (Lv .u64 (Lv .i64 (i+i_1))) (2:Int)))))=4)/\∃x,cut (nth [] l0 (W4 (Lv .i64 (bh (Lv .u64 (Lv .i64 (i+i_1))) (2:Int))))) 0 4 (rk x [])/\∃i_2,Gv 65 [aR x,aR r0] [aI i_2]/\bB (decide (i_2<0)) (I0 [] [dI (Lv .i64 (Lv .i64 (bh (Lv .u64 (Lv .i64 (i+i_1))) (2:Int))+1)),dI i_1]/\M0 [dI (Lv .i64 (Lv .i64 (bh (Lv .u64 (Lv .i64 (i+i_1))) (2:Int))+1)),dI i_1]<M0 [dI i,dI i_1]) (I0 [] [dI i,dI (Lv .i64 (bh (Lv .u64 (Lv .i64 (i+i_1))) (2:Int)))]/\M0 [dI i,dI (Lv .i64 (bh (Lv .u64 (Lv .i64 (i+i_1))) (2:Int)))]<M0 [dI i,dI i_1])) (bB (decide (i<(bc l0.length))) ((0<=i/\i<(bc l0.length)/\bx (nth [] l0 (W4 i))=4)/\∃x,cut (nth [] l0 (W4 i)) 0 4 (rk x [])/\∃i_2,Gv 65 [aR x,aR r0] [aI i_2]/\Q [aI i,aB (i_2==0)]) (Q [aI i,aB false]))):=by kernel_rfl
theorem Ip(l0:List (List D))(r0:R4):wpF CC Gv an0 Tryz.f77 [.c (.sl l0),.ag (rk r0 [])] Q=(∃i b,Gv 136 [aL l0,aR r0,HZ (J7 65)] [aI i,aB b]/\Q [aI i]):=by kernel_rfl
theorem gf(r0:R4)(r1:R4)(r2:R4)(r3:R4):wpF CC Gv an0 Tryz.f74 [.ag (rk r0 (rk r1 (rk r2 (rk r3 []))))] Q=(∃b,Gv 28 [Hy (rk r0 (rk r1 (rk r2 (rk r3 []))))] [aB b]/\Q [aB (!b)]):=by kernel_rfl
theorem DM(l0:List (List D))(Q:List A->Prop):wpF CC Gv (λ_=>⟨[.slot 8 (.int .i64 0)],[],I0,M0⟩) Tryz.f131 [.c (.sl l0),.c (.fn 74)] Q=(I0 [] [dI (0:Int)]/\∀(i:Int),I0 [] [dI i]->bB (decide (i<(bc l0.length))) ((0<=i/\i<(bc l0.length)/\bx (nth [] l0 (W4 i))=16)/\∃x x1 x2 x3,cut (nth [] l0 (W4 i)) 0 16 (rk x (rk x1 (rk x2 (rk x3 []))))/\∃b,Gv 74 [Hy (rk x (rk x1 (rk x2 (rk x3 []))))] [aB b]/\br b (Q [aI i]) (I0 [] [dI (Lv .i64 (i+1))]/\M0 [dI (Lv .i64 (i+1))]<M0 [dI i])) (Q [aI (-1:Int)])):=by kernel_rfl
theorem Iq(l0:List (List D)):wpF CC Gv an0 Tryz.f73 [.c (.sl l0),.c (.fn 74)] Q=(∃i,Gv 131 [aL l0,HZ (J7 74)] [aI i]/\Q [aB (decide (i>=0))]):=by kernel_rfl
theorem gg(r0:R4)(r1:R4)(r2:R4)(r3:R4)(xs:List (List D))(ys:List (List D)):wpF CC Gv an0 Tryz.f76 [.ag (rk r0 (rk r1 (rk r2 (rk r3 [])))),.c (.ptr [.sl xs]),.c (.ptr [.sl ys])] Q=(∃es,cut [J3 xs] 0 1 [J3 es]/\∃i,Gv 77 [aL es,aR r0] [aI i]/\∃es,cut [J3 ys] 0 1 [J3 es]/\∃i_1,Gv 77 [aL es,aR r1] [aI i_1]/\∃es,cut [J3 xs] 0 1 [J3 es]/\∃i_2,Gv 77 [aL es,aR r2] [aI i_2]/\∃es,cut [J3 ys] 0 1 [J3 es]/\∃i_3,Gv 77 [aL es,aR r3] [aI i_3]/\Q [Hy [dI i,dI i_1,dI i_2,dI i_3]]):=by kernel_rfl
theorem gi(a0 a1 a2 a3:Int)(b0 b1 b2 b3:Int):wpF CC Gv an0 Tryz.f79 [.ag [.int .i64 a0,.int .i64 a1,.int .i64 a2,.int .i64 a3],.ag [.int .i64 b0,.int .i64 b1,.int .i64 b2,.int .i64 b3]] Q=(Q [aI (Lv .i64 (a1-b1))]):=by kernel_rfl
theorem gj(r0:R4)(r1:R4):wpF CC Gv an0 Tryz.f135 [.ag (rk r0 []),.ag (rk r1 [])] Q=(∃i,Gv 65 [aR r0,aR r1] [aI i]/\Q [aB (i==0)]):=by kernel_rfl
end
end Eng
end
section
namespace Eng
open Go Go.Proofs Rl
set_option maxRecDepth 100000
def kR (r:Rat):List D:=rk (q4 r) []
def xJ (rs:List Rat):List (List D):=rs.map kR
theorem xq(rs:List Rat):(xJ rs).length=rs.length:=wG ..
theorem DN(r:Rat):(kR r).length=4:=rfl
theorem Qt{rs:List Rat}{k:Nat}(h:k<rs.length):nth [] (xJ rs) k=kR rs[k]:=J1 _ h
theorem yY(rs:List Rat):lens 4 (xJ rs):=Xh DN rs
theorem Kf{rs:List Rat}{k:Nat}(h:k<rs.length):cut (nth [] (xJ rs) k) 0 4 (rk (q4 rs[k]) []):=wH DN h
def rnk (rs:List Rat) (x:Rat):Nat:=rs.findIdx λy=>!decide (y<x)
theorem bQ{rs:List Rat}{x:Rat}{i:Nat}(hi:i<=rs.length)(h1:∀k (hk:k<rs.length),k<i->rs[k]<x)(h2:∀hk:i<rs.length,¬rs[i]<x):rnk rs x=i:=by
 unfold rnk;rcases gr i rs.length with h|h
 .rw[List.findIdx_eq h];refine⟨by simpa using h2 h,λj hj=>?_⟩
  simpa using h1 j (by omega) hj
 .have:i=rs.length:=by omega
  subst this;rw[List.findIdx_eq_length];intro y hy;obtain⟨k,hk,rfl⟩:=en hy
  simpa using h1 k hk hk
theorem DO{i j:Nat}(h:i+j<9223372036854775808):Lv .i64 (bh (Lv .u64 (Lv .i64 ((i:Int)+(j:Int)))) 2)=(((i+j)/2:Nat):Int):=by
 rw[xF (n:=(i:Int)+j),xV];have:bh ((i:Int)+(j:Int)) 2=(((i+j)/2:Nat):Int):=by rw[Int.fdiv_eq_ediv_of_nonneg _ (by omega)];omega
 rw[this,xF]
theorem RL{rs:List Rat}{x:Rat}(hs:rs.Pairwise (· < ·))(hr:∀y∈rs,Hz 50 y)(hx:Hz 50 x)(hl:rs.length<=1073741824):
 ∃b,qa CC 136 [.c (.sl (xJ rs)),.ag (rk (q4 x) []),.c (.fn 65)] [.c (.int .i64 (rnk rs x:Int)),.c (.bool b)]:=by
 refine⟨decide (rnk rs x<rs.length)&&(sr (rs.getD (rnk rs x) 0-x)==0),?_⟩;have hv:=RK (qa CC) (λ_ ds=>∃i j:Nat,i<=j/\j<=rs.length/\ds=[.int .i64 (i:Int),.int .i64 (j:Int)]/\(∀k (hk:k<rs.length),k<i->rs[k]<x)/\∀k (hk:k<rs.length),j<=k->¬rs[k]<x)
  (λds=>(toI (nth .undef ds 1)-toI (nth .undef ds 0)).toNat) (xJ rs) (q4 x) (· =[.c (.int .i64 (rnk rs x:Int)),.c (.bool (decide (rnk rs x<rs.length)&&(sr (rs.getD (rnk rs x) 0-x)==0)))])
 refine gOk Tryz.func136 hv ?_;clear hv;simp only[bd,xq];refine⟨⟨0,rs.length,by omega,by omega,rfl,by omega,by omega⟩,?_⟩;rintro n n1 ⟨i,j,a4,hj,he,k1,k2⟩;simp only[fx,J9,true_and,and_true]at he;obtain⟨rfl,rfl⟩:=he;have a3:∀k (hk:k<rs.length),qa CC 65 [.ag (rk (q4 rs[k]) []),.ag (rk (q4 x) [])] [.c (.int .i64 (sr (rs[k]-x)))]:=λk hk=>Rd (hr _ (bw hk)) hx
 refine brd (λh=>?_) (λh=>?_)
 .rw[DO (by omega),be];have hm:(i+j)/2<rs.length:=by omega
  have hmi:i<=(i+j)/2:=by omega
  have hmj:(i+j)/2<j:=by omega
  generalize (i+j)/2=m at *;have hw:Lv .i64 ((m:Int)+1)=((m+1:Nat):Int):=by rw[xF];omega
  rw[hw];refine⟨by omega,⟨by omega,by omega,by rw[Qt hm];rfl⟩,_,Kf hm,_,a3 m hm,brd (λh2=>?_) (λh2=>?_)⟩
  .rw[srl]at h2;refine⟨⟨m+1,j,by omega,hj,rfl,λk hk hkm=>?_,k2⟩,by simp only[nth,toI];omega⟩;rcases gr k m with h3|h3
   .have:=c4.1 hs k m hk hm h3
    grind
   .have:k=m:=by omega
    subst this;exact h2
  .rw[srl]at h2;refine⟨⟨i,m,hmi,by omega,rfl,k1,λk hk hkm=>?_⟩,by simp only[nth,toI];omega⟩;rcases gr m k with h3|h3
   .have:=c4.1 hs m k hm hk h3;intro h4
    grind
   .have:k=m:=by omega
    subst this;exact h2
 .have a4:i=j:=by omega
  subst a4;have hrk:rnk rs x=i:=bQ hj (λk hk h=>k1 k hk h) (λhk=>k2 i hk (fz _));rw[hrk];refine brd (λh2=>?_) (λh2=>?_)
  .have hi:i<rs.length:=by omega
   rw[be];refine⟨⟨by omega,by omega,by rw[Qt hi];rfl⟩,_,Kf hi,_,a3 i hi,?_⟩;rw[decide_eq_true hi,Hx,List.getD_eq_getElem?_getD,cb hi];rfl
  .rw[decide_eq_false (by omega)];rfl
theorem Kg{rs:List Rat}{x:Rat}(hs:rs.Pairwise (· < ·))(hr:∀y∈rs,Hz 50 y)(hx:Hz 50 x)(hl:rs.length<=1073741824):qa CC 77 [.c (.sl (xJ rs)),.ag (rk (q4 x) [])] [.c (.int .i64 (rnk rs x:Int))]:=by
 obtain⟨b,h⟩:=RL hs hr hx hl;refine wpG Tryz.func77 ((Ip ..).mpr ?_);exact⟨_,_,h,rfl⟩
structure St4 where
 a:Nat
 b:Nat
 c:Nat
 d:Nat
def St4.cs (s:St4):List D:=[.int .i64 (s.a:Int),.int .i64 (s.b:Int),.int .i64 (s.c:Int),.int .i64 (s.d:Int)]
def zo (xs ys:List Rat) (b:Bx):St4:=⟨rnk xs b.x0,rnk ys b.y0,rnk xs b.x1,rnk ys b.y1⟩
theorem Hb(d:D):cut [d] 0 1 [d]:=⟨rfl,by simp⟩
theorem DP{xs ys:List Rat}{b:Bx}(hb:HB 50 b)(h1:xs.Pairwise (· < ·))(h2:ys.Pairwise (· < ·))(h3:∀y∈xs,Hz 50 y)(h4:∀y∈ys,Hz 50 y)(h5:xs.length<=1073741824)(h6:ys.length<=1073741824):
 qa CC 76 [.ag (kB b []),.c (.ptr [.sl (xJ xs)]),.c (.ptr [.sl (xJ ys)])] [.ag (zo xs ys b).cs]:=by
 refine wpG Tryz.func76 ((gg ..).mpr ?_);exact⟨_,Hb _,_,Kg h1 h3 hb.1 h5,_,Hb _,_,Kg h2 h4 hb.2.1 h6,_,Hb _,_,Kg h1 h3 hb.2.2.1 h5,_,Hb _,_,Kg h2 h4 hb.2.2.2 h6,rfl⟩
theorem gk(s t:St4)(hs:s.b<2147483648)(ht:t.b<2147483648):qa CC 79 [.ag s.cs,.ag t.cs] [.c (.int .i64 ((s.b:Int)-(t.b:Int)))]:=by
 refine wpG Tryz.func79 ((gi ..).mpr ?_);rw[xF]
theorem gl{x y:Rat}(hx:Hz 50 x)(hy:Hz 50 y):qa CC 135 [.ag (rk (q4 x) []),.ag (rk (q4 y) [])] [.c (.bool (decide (x=y)))]:=by
 refine wpG Tryz.func135 ((gj ..).mpr ?_);exact⟨_,Rd hx hy,by rw[srz]⟩
theorem kw(b:Bx):(kB b []).length=16:=rfl
theorem DQ{b:Bx}(h:HB 50 b):qa CC 74 [.ag (kB b [])] [.c (.bool (!b.ok))]:=by
 refine wpG Tryz.func74 ((gf ..).mpr ?_);exact⟨_,vC h,rfl⟩
theorem OT{l:List Bx}(hl:l.length<=10000000)(hm:∀x∈l,HB 50 x):qa CC 73 [.c (.sl (kBs l)),.c (.fn 74)] [.c (.bool (!l.all Bx.ok))]:=by
 have h1:∃n:Int,qa CC 131 [.c (.sl (kBs l)),.c (.fn 74)] [.c (.int .i64 n)]/\decide (n>=0)=!l.all Bx.ok:=by
  by_cases hall:∃i,∃hi:i<l.length,l[i].ok=false/\∀j (hj:j<i),(l[j]'(by omega)).ok=true
  .obtain⟨i,hi,a4,a5⟩:=hall;refine⟨(i:Int),?_,by rw[show l.all Bx.ok=false from List.all_eq_false.2 ⟨_,bw hi,by rw[a4];simp⟩];exact decide_eq_true (by omega)⟩;have hv:=DM (qa CC) (λ_ ds=>∃k:Nat,k<=i/\ds=[.int .i64 (k:Int)]) (jn 100000000) (kBs l) (· =[.c (.int .i64 (i:Int))]);refine gOk Tryz.func131 hv ?_;clear hv;refine⟨⟨0,gd _,rfl⟩,?_⟩;rintro n ⟨k,hk,he⟩;simp only[fx,J9,true_and,and_true]at he;subst he;have a3:k<l.length:=by omega
   refine brd (λ_=>⟨yn kw a3,_,_,_,_,wH kw a3,_,DQ (hm _ (bw a3)),xG (λh2=>?_) λh2=>⟨⟨k+1,?_,by rw[wI];rfl⟩,qt⟩⟩) λh=>absurd (yn kw a3).2.1 h
   .rcases gr k i with h3|h3
    .rw[a5 k h3]at h2;cases h2
    .rw[show k=i by omega]
   .rcases gr k i with h3|h3
    .exact h3
    .have:k=i:=by omega
     subst this;rw[a4]at h2;cases h2
  .have hg:∀n (hn:n<l.length),l[n].ok=true:=by
    intro n
    induction n using hM with
    |_ n ih=>
     intro hn;cases h:l[n].ok with
     |true=>rfl
     |false=>exact absurd ⟨n,hn,h,λj hj=>ih j hj (by omega)⟩ hall
   refine⟨-1,?_,by rw[show l.all Bx.ok=true from c3.2 λx hx=>by obtain⟨k,hk,rfl⟩:=en hx;exact hg k hk];rfl⟩;have hv:=DM (qa CC) (λ_ ds=>∃k:Nat,k<=l.length/\ds=[.int .i64 (k:Int)]) (jn 100000000) (kBs l) (· =[.c (.int .i64 (-1))]);refine gOk Tryz.func131 hv ?_;clear hv;refine⟨⟨0,gd _,rfl⟩,?_⟩;rintro n ⟨k,hk,he⟩;simp only[fx,J9,true_and,and_true]at he;subst he;refine brd (λh=>?_) λ_=>rfl
   have a3:k<l.length:=by simpa [kBs]using h
   refine⟨yn kw a3,_,_,_,_,wH kw a3,_,DQ (hm _ (bw a3)),xG (λh2=>?_) λ_=>⟨⟨k+1,a3,by rw[wI];rfl⟩,qt⟩⟩;rw[hg k a3]at h2;cases h2
 obtain⟨n,h1,h2⟩:=h1;refine wpG Tryz.func73 ((Iq ..).mpr ?_);rw[<-h2];exact⟨_,h1,rfl⟩
end Eng
end
section
namespace Eng
open Go
theorem DR{α:Type}:∀(a:Ask α) (w:World),w.drawn<=(w.ask a).2.drawn:=by
 intro a
 induction a with
 |done a=>simp[World.ask]
 |ask what range k ih=>
  unfold World.ask
  grind
theorem T7(w:World)(c:Sys):w.drawn<=(w.sys c).2.drawn:=by
 have h:=DR (Kernel.perform c w.os) w;unfold World.sys
 grind
theorem RM{p:Program}{w w':World}{at_:Addr}{u:TypeId}{k:Addr}{v:Value}{b:Bool}{l:List Addr}(h:w.viewStore p at_ u k v b= .ok (w',l)):w'.drawn=w.drawn:=by
 unfold World.viewStore at h;simp only[bind,Except.bind,pure,Except.pure,MonadExcept.throw,MonadExceptOf.throw,throwThe]at h
 grind
theorem DS{p:Program}{w w':World}{a:Addr}{v:Value}{b:Bool}{l:List Addr}(h:w.farStore p a v b= .ok (w',l)):w'.drawn=w.drawn:=by
 unfold World.farStore at h
 grind [Except.ok.injEq,RM]
def rw' {α:Type}:Result α->World
 | .ok _ w=>w
 | .halt _ w=>w
theorem Zr{α:Type}{p:Program}:∀(s:Sem α) (w:World),w.drawn<=(rw' (s.run p w)).drawn:=by
 intro s
 induction s with
 |pure a=>intro w;simp[P1,rw']
 |load m a k ih=>
  intro w;unfold P1;split
  .exact ih _ _
  .split
   .exact ih _ _
   .simp[rw']
 |store m a v k ih=>
  intro w;have key:∀v:Value,w.drawn<=(rw' (match w.cell? a with
   |some _=>if w.frozen? a then .halt (.unsupported (.unsafePointer "a write to bytes that a string shares")) w else k.run p (w.setCell a v)
   |none=>match w.farStore p a v (m== .atomic)with
    | .ok (w,_)=>k.run p w
    | .error h=> .halt h w)).drawn:=λv=>by
   split
   .split
    .exact fz _
    .exact ih (w.setCell a v)
   .split
    .rename_i w2 l he;rw[<-DS he];exact ih w2
    .exact fz _
  cases v<;>first|exact key _|exact fz _
 |new o k ih=>intro w;unfold P1;exact ih _ {w with heap:=w.heap.push o}
 |shape r k ih=>intro w;unfold P1;exact ih _ _
 |freeze a n k ih=>
  intro w;unfold P1;have h:(w.freeze a n).drawn=w.drawn:=by unfold World.freeze;first|rfl|(split<;>rfl)
  grind
 |frozen a k ih=>intro w;unfold P1;exact ih _ _
 |getObj r k ih=>
  intro w;unfold P1;split
  .simp[rw']
  .exact ih _ _
  .simp[rw']
 |setObj r o k ih=>
  intro w;unfold P1;split
  .simp[rw']
  .exact ih {w with heap:=w.heap.setIfInBounds r o}
  .simp[rw']
 |choose q k ih=>intro w;unfold P1;grind
 |sys c k ih=>intro w;unfold P1;exact fR (T7 w c) (ih _ _)
 |program k ih=>intro w;unfold P1;exact ih _ _
 |mark m k ih=>intro w;unfold P1;exact ih _
 |halt h=>intro w;simp[P1,rw']
theorem xT{α:Type}{p:Program}{s:Sem α}{w w':World}{v:α}(h:s.run p w= .ok v w'):w.drawn<=w'.drawn:=by
 have:=Zr (p:=p) s w;rw[h]at this;exact this
theorem jl{α:Type}{p:Program}{s:Sem α}{w w':World}{v:Halt}(h:s.run p w= .halt v w'):w.drawn<=w'.drawn:=by
 have:=Zr (p:=p) s w;rw[h]at this;exact this
theorem OU{α:Type}{p:Program}:∀(s:Sem α) (w:World) (es:Array Event),(s.runT p w es).1=s.run p w:=by
 simp
theorem jm{α:Type}{p:Program}{s:Sem α}{w:World}{es es':Array Event}{r:Result α}(h:s.runT p w es=(r,es')):w.drawn<=(rw' r).drawn:=by
 grind [OU,Zr]
def gw:GStep->World
 | .go _ w _=>w
 | .comm _ _ _ _ w _=>w
 | .spawn _ _ w _=>w
 | .count _ w _=>w
 | .timer _ _ w _=>w
 | .alone _ _ w _=>w
 | .newcoro _ _ _ w _=>w
 | .coroswitch _ _ _ w _=>w
 | .collect _ w _=>w
 | .watch _ w _=>w
 | .ended _ w _=>w
@[simp] theorem gw_after (es:Array Event) (s:GStep):gw (s.after es)=gw s:=by cases s<;>rfl
theorem Jd(p:Program)(main:Bool)(fr:Lm)(cs:List Lm)(d:Option Dying)(v:Value)(w:World):gw (doReturn p main fr cs d v w)=w:=by
 unfold doReturn
 repeat' split
 all_goals rfl
theorem Y0(fr:Lm)(m:String)(w:World):gw (endThrow fr m w)=w:=rfl
theorem Zs(p:Program)(fr:Lm)(v:Value)(w:World):gw (endPrinting p fr v w)=w:=by
 unfold endPrinting;simp only;split<;>rfl
theorem DT(w:World)(fd:Nat)(t:ByteArray)(o:Outcome):w.drawn<=(gw (endWith w fd t o)).drawn:=by
 unfold endWith;have h:=T7 w (.write fd t);simp only;split<;>rename_i he<;>rw[he]at h
 .split<;>exact h
 .exact h
 .exact h
theorem Y1(p:Program)(fr:Lm)(cs:List Lm)(d:Option Dying)(m:String)(w:World):w.drawn<=(gw (endFatal p fr cs d m w)).drawn:=by
 unfold endFatal;simp only;split
 .rename_i h;exact xT h
 .rename_i h;exact jl h
 .rename_i h;exact jl h
theorem DU(p:Program)(fr:Lm)(d:Dying)(f:Fatal)(w:World):w.drawn<=(gw (writeOn p fr d f w)).drawn:=by
 unfold writeOn;simp only;split
 .exact fz _
 .split<;>rename_i he<;>exact jm he
theorem pW(p:Program)(fr:Lm)(d:Dying)(w:World):w.drawn<=(gw (die p fr d w)).drawn:=by
 unfold die;split
 .exact DU _ _ _ _ _
 .split
  .split
   .exact fz _
   .exact DT _ _ _ _
  .split
   .exact fz _
   .split
    .rename_i h;exact xT h
    .rename_i h;exact jl h
   .rw[gw_after];generalize hr:(Sz p _ w #[])=x;have h:=jm hr;split<;>first|(rw[Zs];simp_all[rw'];done)|(simp_all[gw,rw'];done)
   .exact fz _
theorem V5(p:Program)(fr:Lm)(cs:List Lm)(dy:Option Dying)(d:Deferred)(w:World):w.drawn<=(gw (callDeferred p fr cs dy d w)).drawn:=by
 refine iteInduction (motive:=λs=>w.drawn<=(gw s).drawn) (λ_=>fz _) (λ_=>?_)
 .simp only;generalize hr:(Sz p _ w #[])=x;obtain⟨r,es⟩:=x;have h:=jm hr;rw[gw_after];simp only;split<;>(simp)<;>first
   |exact h
   |(split<;>exact h)
   |exact fR h (Y1 _ _ _ _ _ _)
theorem Ir(p:Program)(m:Bool)(fr:Lm)(cs:List Lm)(dy:Option Dying)(w:World):w.drawn<=(gw (unwind p m fr cs dy w)).drawn:=by
 unfold unwind;split
 .simp only;generalize hr:(Sz p _ w #[])=x;obtain⟨r,es⟩:=x;have h:=jm hr;rw[gw_after];simp only;split<;>exact h
 .exact V5 _ _ _ _ _ _
 .split
  .exact fz _
  .split
   .exact fz _
   .split
    .exact fz _
    .split
     .split
      .exact fz _
      .split<;>rename_i he
       .exact xT he
       .exact jl he
       .exact jl he
     .split
      .rw[Zs];grind
      .exact fz _
  .split
   .rw[Jd];exact fz _
   .simp only;generalize hr:(Sz p _ w #[])=x;obtain⟨r,es⟩:=x;have h:=jm hr;rw[gw_after];simp only;split
    .rw[Jd];exact h
    .exact h
    .exact h
theorem gu(p:Program)(fr:Lm)(cs:List Lm)(dy:Option Dying)(g:Nat)(w:World):w.drawn<=(gw (early p fr cs dy g w)).drawn:=by
 have hn:∀w':World,w.drawn<=w'.drawn->w.drawn<=(gw (match w'.heap[g]? with
  |some (.pending c elem)=>
   .go {frame:=fr,callers:=cs,status:= .running,dying:=dy} {w' with heap:=w'.heap.setIfInBounds g (.cells c elem)}
  |_=> .ended (.stuck "early: the variable does not wait" (fr.pos p)) w')).drawn:=λw' h=>by split<;>exact h
 unfold early;simp only;split
 .exact hn w (fz _)
 split
 .exact fz _
 split
 .exact hn w (fz _)
 split
 .exact hn w (fz _)
 split
 .exact fz _
 .exact fz _
 .exact fz _
 .exact hn w (fz _)
 .split
  .exact fz _
  split
  .exact hn w (fz _)
  split<;>rename_i he
  .exact hn _ (xT he)
  .exact xT he
  .exact jl he
theorem WY(p:Program)(ln:Bool)(fr:Lm)(cs:List Lm)(dy:Option Dying)(s:Sem Next)(w:World):w.drawn<=(gw (stepG.apply p ln fr cs dy s w)).drawn:=by
 unfold stepG.apply;simp only;have h:w.drawn<=(rw' (if ln=true then s.runT p w #[]else(s.run p w, #[])).1).drawn:=by
  grind [OU,Zr]
 generalize (if ln=true then s.runT p w #[]else(s.run p w, #[]))=x at *;obtain⟨r,es⟩:=x;rw[gw_after];simp only at h ⊢;split<;>first
  |exact h
  |exact fR h (Y1 _ _ _ _ _ _)
  |exact fR h (gu _ _ _ _ _ _)
  |(split<;>first|exact h|(split<;>exact h))
theorem mY(p:Program)(ln:Bool)(fr:Lm)(cs:List Lm)(dy:Option Dying)(w:World):w.drawn<=(gw (stepG.oper p ln fr cs dy w)).drawn:=by
 unfold stepG.oper;split
 .exact fz _
 .split<;>exact WY _ _ _ _ _ _ _
theorem mZ(p:Program)(m ln:Bool)(fr:Lm)(cs:List Lm)(dy:Option Dying)(w:World):w.drawn<=(gw (stepG.exec p m ln fr cs dy w)).drawn:=by
 have hl:∀jump:Option Code,w.drawn<=(gw (match fr.roundOf with
  |none=>if jump matches none|some .ret then(.go {frame:={fr with mode:= .returning},callers:=cs,status:= .running,dying:=dy} w)else .ended (.stuck "exit, goto: no such block or label" (fr.pos p)) w
  |some l=>
   let(r,es):=(Instr.endRound l jump).runT p w #[]
   GStep.after (seen p fr.fn es)<|match r with
   | .ok v w=>doReturn p m fr cs dy v w
   | .halt _ w=> .ended (.stuck "range over a function: no such loop" (fr.pos p)) w)).drawn:=λjump=>by
  split
  .split<;>exact fz _
  .simp only;generalize hr:(Sz p _ w #[])=x;obtain⟨r,es⟩:=x;have h:=jm hr;rw[gw_after];simp only;split
   .rw[Jd];exact h
   .exact h
 unfold stepG.exec
 dsimp only
 split
 .exact hl none
 .exact hl (some .ret)
 .exact fz _
 .exact fz _
 .exact fz _
 .exact fz _
 .exact fz _
 .split<;>exact fz _
 .exact fz _
 .exact fz _
 .exact fz _
 .exact fz _
 .cases exitTo _ _ with
  |none=>exact hl (some (.exit _))
  |some k=>exact fz _
 .cases gotoIn _ _ with
  |none=>exact hl (some (.goto _))
  |some k=>exact fz _
 .generalize hr:(Sz p _ w #[])=x;obtain⟨r,es⟩:=x;have h:=jm hr;rw[gw_after];simp only;split
  .exact fR h (WY _ _ _ _ _ _ _)
  .exact h
 .exact fz _
 .exact WY _ _ _ _ _ _ _
 .generalize hr:(Sz p _ w #[])=x;obtain⟨r,es⟩:=x;have h:=jm hr;rw[gw_after];simp only;split<;>exact h
 .exact fz _
 .exact WY _ _ _ _ _ _ _
 .cases Extern.next _ with
  |none=>exact fz _
  |some e=>exact WY _ _ _ _ _ _ _
 .refine iteInduction (motive:=λs=>w.drawn<=(gw s).drawn) (λ_=>fz _) (λ_=>?_);split<;>rename_i he
  .exact xT he
  .exact jl he
 .exact fz _
 .exact iteInduction (motive:=λs=>w.drawn<=(gw s).drawn) (λ_=>mY _ _ _ _ _ _) (λ_=>fz _)
theorem gv(p:Program)(m:Bool)(g:Goroutine)(w:World)(ln:Bool):w.drawn<=(gw (stepG p m g w ln)).drawn:=by
 unfold stepG
 grind [pW,mZ,Ir]
def wK (n:Nat):Stepped->Prop
 | .next m=>n<=m.world.drawn
 |_=>True
theorem nc(p:Program)(rest:Rest)(gs:Array Goroutine)(i:Nat)(g:Goroutine)(cases':Array CommCase)(b:Bool)(sh:CommShape)(w:World):wK w.drawn (communicate p rest gs i g cases' b sh w).1:=by
 unfold communicate;simp only;refine iteInduction (motive:=λs:Stepped×Array MemOp=>wK w.drawn s.1) (λ_=>trivial) (λ_=>?_);refine iteInduction (motive:=λs:Stepped×Array MemOp=>wK w.drawn s.1) (λ_=>?_) (λ_=>?_)
 .refine iteInduction (motive:=λs:Stepped×Array MemOp=>wK w.drawn s.1) (λ_=>?_) (λ_=>?_)
  .split
   .rename_i w' he;have:w'.drawn=w.drawn:=by
     unfold waitingAt at he;split at he
     .split at he
      .simp only[hP]at he;subst he;rfl
      .simp at he
     .simp only[hP]at he;subst he;rfl
    show w.drawn<=w'.drawn;omega
   .trivial
  .exact fz _
 .split
  .trivial
  .rename_i k c way w' he;have h:=xT he;split
   .split
    .rename_i v w2 a3;exact fR h (jl a3)
    .trivial
   .exact h
   .exact h
   .split
    .exact h
    .split
     .rename_i b2 w2 a3;have h2:=xT a3;exact fR h h2
     .trivial
   .exact h
   .exact h
   .trivial
theorem bR(p:Program)(gs:Array Goroutine)(rest:Rest)(w:World):wK w.drawn (look p gs rest w):=by
 unfold look;split
 .simp only;refine iteInduction (motive:=λs:Stepped=>wK w.drawn s) (λ_=>trivial) (λ_=>?_);split
  .trivial
  .split
   .rename_i w' he;have h:=xT he;exact h
   .trivial
   .trivial
 .trivial
theorem gx(p:Program)(m:Machine)(k:Nat):wK m.world.drawn (serve p m k):=by
 unfold serve;split
 .trivial
 .exact fz _
 .simp only;split
  .trivial
  .exact fz _
theorem DV{m m':Machine}{op:TimerOp}{v:Value}(h:timerOp m op= .ok (v,m')):m'.world.drawn=m.world.drawn:=by
 have hre:∀(m:Machine) (k:Nat) (t:Timer) (a b:Nat),(retime m k t a b).2.world.drawn=m.world.drawn:=λm k t a b=>by
  unfold retime;simp only;split
  .unfold drain;split<;>rfl
  .rfl
 have hw:∀(m:Machine) (ts:Array Timer),(m.withTimers ts).world=m.world:=λ_ _=>rfl
 have hnm:∀{var:Addr} {f:Nat->Timer->Value×Machine},(∀k t,(f k t).2.world.drawn=m.world.drawn)->timerOp.named m var f= .ok (v,m')->m'.world.drawn=m.world.drawn:=λhf h=>by
  unfold timerOp.named at h;split at h
  .simp only[Except.ok.injEq]at h;have:=hf (by assumption) (m.rest.timers.getD (by assumption) default);rw[h]at this;exact this
  .simp at h
 unfold timerOp at h;split at h
 .grind
 .exact hnm (λk t=>hre _ _ _ _ _) h
 .split at h
  .rename_i m2 ho;have h2:m2.world.drawn=m.world.drawn:=by
    unfold timerOp.opened at ho
    grind
   grind
  grind
 grind
theorem nd(p:Program)(m:Machine)(i:Nat)(ln:Bool):wK m.world.drawn (Go.runT p m i ln).1:=by
 unfold Go.runT
 dsimp only
 have h:=gv p (i==0) (m.gs.swapAt! i {(default:Goroutine)with status:= .finished}).1 m.world ln;generalize stepG p (i==0) (m.gs.swapAt! i {(default:Goroutine)with status:= .finished}).1 m.world ln=s at *;have tr:∀{n k:Nat} {x:Stepped},n<=k->wK k x->wK n x:=λ{n k x} h1 h2=>by
  cases x with
  |next m=>exact fR h1 h2
  |_=>trivial
 cases s with
 |go g w es=>exact h
 |comm g c b sh w es=>exact tr h (nc _ _ _ _ _ _ _ _ _)
 |spawn g c w es=>exact h
 |count g w es=>exact iteInduction (motive:=λs:Stepped=>wK m.world.drawn s) (λ_=>trivial) (λ_=>h)
 |timer g op w es=>
  dsimp only
  split
  .rename_i v m2 he;show m.world.drawn<=m2.world.drawn;rw[DV he];exact h
  .split
   .rename_i w2 es2 he;have:gw (endThrow g.frame _ w)=w2:=congrArg gw he;rw[Y0]at this;show m.world.drawn<=w2.drawn;rw[<-this];exact h
   .trivial
  .trivial
  .trivial
 |alone g o w es=>exact h
 |newcoro g c d w es=>exact h
 |coroswitch g c e w es=>
  dsimp only
  split
  .exact h
  .split
   .rename_i w2 es2 he;have:gw (endThrow g.frame _ w)=w2:=congrArg gw he;rw[Y0]at this;show m.world.drawn<=w2.drawn;rw[<-this];exact h
   .trivial
  .trivial
 |collect g w es=>exact tr h (bR _ _ _ _)
 |watch g w es=>exact h
 |ended o w es=>trivial
def yw (n:Nat):Move->Prop
 | .goroutine m _=>n<=m.world.drawn
 | .machine s _=>wK n s
theorem MX(p:Program)(m:Machine):yw m.world.drawn (askOn p m):=by
 have hp:∀(m0 m:Machine) (rs:List Nat),m0.world.drawn<=m.world.drawn->yw m0.world.drawn (match(choose (.sched rs.length):Sem Nat).run p m.world with
  | .halt _ w=> .machine (.ended (.stuck "sched" "") w)
  | .ok k world=>
   if rs.length<=1 then .goroutine {m with world} (rs.getD k 0)else
   match(choose (.extern "sched.slice" 65536):Sem Nat).run p world with
   | .halt _ w=> .machine (.ended (.stuck "sched.slice" "") w)
   | .ok n world=> .goroutine {m with world,rest:={m.rest with slice:=if n=0 then none else some (rs.getD k 0,n)}} (rs.getD k 0)):=λm0 m rs h0=>by
  split
  .trivial
  .rename_i k w he;have h1:=xT he;refine iteInduction (motive:=λs:Move=>yw m0.world.drawn s) (λ_=>fR h0 h1) (λ_=>?_);split
   .trivial
   .rename_i n w2 a3;have h2:=xT a3;exact fR h0 (fR h1 h2)
 unfold askOn
 dsimp only
 split
 .trivial
 .rename_i k w he;have h1:=xT he;have tr:∀{n k:Nat} {x:Stepped},n<=k->wK k x->wK n x:=λ{n k x} h1 h2=>by
   cases x with
   |next m=>exact fR h1 h2
   |_=>trivial
  refine iteInduction (motive:=λs:Move=>yw m.world.drawn s) (λ_=>?_) (λ_=>?_)
  .have:=gx p {m with world:=w} ((due m.rest.timers m.world.os.mono).getD k 0);exact tr h1 this
  .split
   .split
    .exact h1
    .refine iteInduction (motive:=λs:Move=>yw m.world.drawn s) (λ_=>h1) (λ_=>?_);split<;>trivial
   .split
    .exact hp m {m with world:=w} _ h1
    .split
     .trivial
     .rename_i w2 a3;have h2:=xT a3;exact hp m {m with world:=w2} _ (fR h1 h2)
     .rename_i w2 a3;have h2:=xT a3;exact fR h1 h2
     .rename_i w2 a3;have h2:=xT a3;exact hp m _ _ (fR h1 h2)
theorem nf(p:Program)(m:Machine):yw m.world.drawn (ask p m):=by
 have tr:∀{n k:Nat} {x:Move},n<=k->yw k x->yw n x:=λ{n k x} h1 h2=>by
  cases x with
  |goroutine m i=>exact fR h1 h2
  |machine s ops=>cases s with
   |next m=>exact fR h1 h2
   |_=>trivial
 refine iteInduction (motive:=λs:Move=>yw m.world.drawn s) (λ_=>?_) (λ_=>MX p m);split
 .trivial
 .rename_i w he;have h:=xT he;have hk:=bR p m.gs m.rest w;split
  .rename_i m2 hm;rw[hm]at hk;exact tr (fR h hk) (MX p m2)
  .generalize look p m.gs m.rest w=e at *;cases e with
   |next m2=>grind
   |_=>trivial
 .rename_i w _ he;have h:=xT he;exact tr h (MX p {m with world:=w})
theorem ng(p:Program)(m:Machine):yw m.world.drawn (move p m):=by
 unfold move;split
 .exact iteInduction (motive:=λs:Move=>yw m.world.drawn s) (λ_=>fz _) (λ_=>trivial)
 .split
  .exact iteInduction (motive:=λs:Move=>yw m.world.drawn s) (λ_=>fz _) (λ_=>nf p {m with rest:={m.rest with slice:=none}})
  .exact nf p m
theorem RN{p:Program}{m m':Machine}(h:step p m= .next m'):m.world.drawn<=m'.world.drawn:=by
 have hm:=ng p m;unfold step stepT at h;generalize move p m=x at *;cases x with
 |goroutine m1 i=>have h1:=nd p m1 i true;rw[h]at h1;exact fR hm h1
 |machine s ops=>
  dsimp only at h
  rw[h]at hm;exact hm
theorem WZ{p:Program}{m m':Machine}(h:Steps p m m'):m.world.drawn<=m'.world.drawn:=by
 obtain⟨n,hn⟩:=h
 induction n generalizing m with
 |zero=>
  simp only[runN,Stepped.next.injEq]at hn
  grind
 |succ n ih=>
  simp only[runN]at hn;split at hn
  .rename_i m1 h1;exact fR (RN h1) (ih hn)
  grind
theorem Va{P:Program}{f:FuncId}{args:Array Value}{w:World}{R:Ending->World->Prop}(h:Calls P f args w R):
 Calls P f args w λe w'=>R e w'/\(e= .outgrown\/w.drawn<=w'.drawn):=λcs=>by
 obtain⟨e,w',fr,hR,hc,h1,h2⟩:=h cs;refine⟨e,w',fr,⟨hR,?_⟩,hc,h1,h2⟩;cases e with
 |returned v=>exact .inr (WZ (p:=P) hc)
 |panicked c=>exact .inr (WZ (p:=P) hc)
 |outgrown=>grind
end Eng
end
section
namespace Eng
open Go Go.RowKit Go.Shelf
open Go.Sort (SWO PermIn SortedIn HoldsK flatK grow)
open Go.Proofs (ltOf CmpLays sortWorldK SlLaysF0.n6)
section
variable {α:Type}[Inhabited α]
theorem DW{enc:α->List Value}{k:Nat}{w:World}{blk off m b:Nat}{dk:Array α}{os:Array Ls}(hb:b<w.heap.size)(hn:b≠blk):(sortWorldK enc k w blk off m dk os).heap[b]? =w.heap[b]? :=by
 unfold No U0 W0 W1 V1 W2;simp only;rw[B0 (by simpa using hb),F0,if_neg (Ne.symm hn)]
theorem nh{enc:α->List Value}{k:Nat}{w:World}{blk off m:Nat}{dk:Array α}{os:Array Ls}{cs:Array Value}{t:TypeId}{fr:Nat×Nat}(hb:blk<w.heap.size)(h:w.heap[blk]? =some (Go.Obj.cells cs t fr)):
 (sortWorldK enc k w blk off m dk os).heap[blk]? =some (Go.Obj.cells (Ts id off (flatK enc k dk) cs) t fr):=by
 unfold No U0 W0 W1 V1 W2;simp only;rw[B0 (by simpa using hb),F0,if_pos rfl,h];rfl
theorem Hc{enc:α->List Value}{k:Nat}{w:World}{blk off m:Nat}{dk:Array α}{os:Array Ls}:w.heap.size<=(sortWorldK enc k w blk off m dk os).heap.size:=by
 unfold No U0 W0 W1 V1 W2;simp
end
theorem QG{w w':World}(h:Below w.heap.size w w')(hd:w.drawn<=w'.drawn):∃q os',w'=grow (w.drewN q) os':=by
 refine⟨w'.drawn-w.drawn,w'.heap.extract w.heap.size w'.heap.size,?_⟩;unfold U0 World.drewN;obtain⟨a4,a5,a3,os',out'⟩:=w';obtain⟨h1,h2,h3,h4,h5⟩:=h;simp only at h1 h2 h3 h4 h5 hd ⊢;subst h1 h2 h3;congr 1
 .apply Array.ext_getElem?;intro i;by_cases hi:i<w.heap.size
  .rw[B0 hi];exact h5 i hi
  .rw[Array.getElem?_append_right (by omega),Array.getElem?_extract];split
   .congr 1;omega
   .rw[Array.getElem?_eq_none (by omega)]
 .omega
section
variable {C:Cx}{ρ:Ren}
def Elt (w:World) (F:Nat->Prop) {K:Type} (row:K->List D) (ks:List K) (p:K×List Value):Prop:=p.1∈ks/\All2 (CD w F) (row p.1) p.2
theorem DX{α:Type}[Inhabited α]{enc:α->List Value}{k n c:Nat}{dk:Array α}{cs:Array Value}(hn:dk.size=n)(hs:cs.size=c*k)(hnc:n<=c){j:Nat}(hj:j<n*k):
 (Ts id 0 (flatK enc k dk) cs)[j]? =some ((enc dk[j/k]!)[j%k]!):=by
 have hjc:j<cs.size:=by rw[hs];exact fS hj (gz k hnc)
 unfold Ts;rw[Array.getElem?_mapIdx,Array.getElem?_eq_getElem hjc,Option.map_some,if_pos ⟨by omega,by rw[T1,hn];omega⟩,Nat.sub_zero];rw[U3 _ _ _ _ (by rw[hn];exact hj)];rfl
theorem Is(L:Pl C.P ρ){s:Nat}(hs:0<s)(aE:∀w,(isAgg (ρ.t 24)).run C.P w= .ok true w)(zE:∀w,(Lr (ρ.t 24)).run C.P w= .ok s w){K:Type}(row:K->List D)(hrow:∀k,(row k).length=s)(cf:K->K->Int)(hO:SWO (ltOf cf)){g:Nat}(eg:∀args w,(callFunc g args).run C.P w= .ok (.enter g args) w){ks:List K}(hne:ks≠[])(hcmp:∀x∈ks,∀y∈ks,qa C g [.ag (row x),.ag (row y)] [.c (.int .i64 (cf x y))]){w:World}{F:Nat->Prop}{gb c0:Nat}{cs0:Array Value}{t0:TypeId}(hb:∀b,F b->b<w.heap.size)(hinv:Inv C F w)(hL:LentOk C.P w F gb c0 cs0 t0 s (ks.map row)):
 Calls C.P (ρ.f 6) #[.slice (some ⟨gb,0,none⟩) (ks.map row).length c0,.func (.func g) #[] #[]] w λe w'=>
  BelowX ⟨w.heap.size,λb=>b=gb⟩ w w'/\e= .returned (.tuple #[])/\∃(ks':List K) (cs:Array Value),ks'.Perm ks/\ks'.Pairwise (λa b=>ltOf cf b a=false)/\(∀x,F x->x<w'.heap.size)/\LentOk C.P w' F gb c0 cs t0 s (ks'.map row):=by
 have ad:∀e∈ks.map row,e.length=s:=hL.lens
 --the elements
 have a5:∀i (hi:i<ks.length),∀c,c<s->∃v,cs0[i*s+c]? =some v/\CD w F (nth .undef (row ks[i]) c) v:=λi hi c hc=>by
  have hlt:i*s+c<(ks.map row).length*s:=by rw[cg];have:=gz s (show i+1<=ks.length from hi);rw[hK,hG]at this;omega
  obtain⟨v,h1,h2⟩:=hL.cd _ hlt;rw[xd ad i c (by simpa using hi) hc,qm [] (by simpa using hi),cc]at h2;exact⟨v,h1,h2⟩
 let α:={p:K×List Value//Elt w F row ks p}
 let mk:(i:Nat)->i<ks.length->α:=λi hi=>⟨(ks[i],(ea s).map λc=>cs0[i*s+c]!),bw hi,by
  refine jM .undef undef (by simp[hrow]) λc hc=>?_
  rw[hrow]at hc;obtain⟨v,h1,h2⟩:=a5 i hi c hc;rw[qm undef (by simpa using hc),cc,dn,getElem!_def,h1];exact h2⟩
 have ap:0<ks.length:=List.length_pos_iff.2 hne
 letI:Inhabited α:=⟨mk 0 ap⟩
 let enc:α->List Value:=λp=>p.1.2
 have a3:∀x:α,All2 (CD w F) (row x.1.1) (enc x):=λx=>x.2.2
 have hk:∀x:α,(enc x).length=s:=λx=>by rw[<-(a3 x).length,hrow]
 have h1:∀x:α,∀v∈enc x,v.oneCell'=true:=λx v hv=>by obtain⟨d,hd⟩:=Qe (a3 x) v hv;exact hd.one
 let cf':α->α->Int:=λx y=>cf x.1.1 y.1.1
 have hO':SWO (ltOf cf'):=⟨λx=>hO.irrefl _,λx y z=>hO.trans _ _ _,λx y z=>hO.ntrans _ _ _⟩
 let d:Array α:=Array.ofFn (n:=ks.length) λi=>mk i.1 i.2
 have hd:d.size=ks.length:=by simp[d]
 have hdi:∀i (hi:i<ks.length),d[i]! =mk i hi:=λi hi=>by rw[getElem!_pos d i (by rw[hd];exact hi)];simp[d]
 have an:=hL.lt;have b3:ks.length<=c0:=by have:=hL.lc.1;simpa using this
 have hH:HoldsK enc s w gb 0 d:=by
  intro j hj;rw[T1,hd]at hj;rw[U3 _ _ _ _ (by rw[hd];exact hj)];have hq:j/s<ks.length:=gp (by rw[hA];exact hj);have hm:j%s<s:=gm _ hs;have al:j/s*s+j%s=j:=gq j s;obtain⟨v,h3,_⟩:=a5 _ hq _ hm;rw[al]at h3;have hv:(enc d[j/s]!)[j%s]! =v:=by rw[hdi _ hq];show((ea s).map λc=>cs0[j/s*s+c]!)[j%s]! =v;rw[getElem!_pos _ _ (by simpa using hm),cc,dn,al,getElem!_def,h3]
  rw[hv];constructor
  .unfold World.cell?;simp only[h9];rw[hL.blk];simp only;rw[h3];rfl
  .unfold World.frozen?;simp only[h9];rw[hL.blk];simp
 have b1:∀b,F b->b≠gb:=λb h e=>by subst e;exact hL.nF h
 have hcl:CmpLays C.P g #[] enc s cf' gb 0 d.size w:=by
  intro m os dk _ x y;generalize hW:sortWorldK enc s w gb 0 m dk os=W;have a9:∀b,F b->W.heap[b]? =w.heap[b]? :=λb h=>by rw[<-hW];exact DW (hb b h) (b1 b h)
  have a7:w.heap.size<=W.heap.size:=by rw[<-hW];exact Hc
  have hg:=hcmp x.1.1 x.2.1 y.1.1 y.2.1 W F [.agg (enc x).toArray,.agg (enc y).toArray] (λb h=>fS (hb b h) a7) (hinv.mono (λ_ h=>h) a9)
   ⟨⟨_,rfl,(a3 x).mono λ_ _ h=>h.mono (λ_ h=>h) a9⟩,⟨_,rfl,(a3 y).mono λ_ _ h=>h.mono (λ_ h=>h) a9⟩,trivial⟩
  have hg2:=Va hg;have e0:(#[.agg (enc x).toArray,.agg (enc y).toArray]++ #[]:Array Value)=[Value.agg (enc x).toArray,.agg (enc y).toArray].toArray:=by simp
  rw[e0];refine hg2.mono λe w' ⟨⟨hbel,v,he,hr⟩,hdr⟩=>?_
  have hv:v= .int .i64 (cf x.1.1 y.1.1):=by have hr:CD _ _ (.int .i64 (cf x.1.1 y.1.1)) v:=hr;cases hr;rfl
  subst he hv;refine⟨rfl,QG hbel ?_⟩;rcases hdr with h|h
  .simp at h
  .exact h
 have ag:ks.length<4611686018427387904:=by have:=hL.room;rw[cg]at this;have:=roomS.max this;omega
 have hS:=Go.Proofs.AnyQ.slices_SortFunc L s aE zE enc hk h1 cf' hO' g #[] gb 0 c0 d w eg hcl hH an (by rw[hd];exact ag);rw[hd]at hS;rw[cg];refine hS.mono λe w' ⟨he,d',n,os,hp,hso,hw'⟩=>?_
 obtain⟨a7,_,a6⟩:=hp;rw[hd]at a7;have hx1:d'.extract 0 ks.length=d':=by rw[<-a7];exact Dd
 have hx2:d.extract 0 ks.length=d:=by rw[<-hd];exact Dd
 rw[hx1,hx2]at a6;have hks:d.toList.map (λx:α=>x.1.1)=ks:=by
  apply List.ext_getElem
  .simp[hd]
  .intro i h3 h4;simp[d,mk]
 have a9:∀b,F b->w'.heap[b]? =w.heap[b]? :=λb h=>by rw[hw'];exact DW (hb b h) (b1 b h)
 have a8:w.heap.size<=w'.heap.size:=by rw[hw'];exact Hc
 refine⟨⟨by rw[hw'];rfl,by rw[hw'];rfl,by rw[hw'];rfl,a8,λk hk' hx=>by rw[hw'];exact DW hk' hx⟩,he,d'.toList.map (λx:α=>x.1.1),Ts id 0 (flatK enc s d') cs0,?_,?_,λx hx=>fS (hb x hx) a8,?_⟩
 .have:=a6.map (λx:α=>x.1.1);rw[hks]at this;exact this
 .rw[List.pairwise_map,c4];intro i j hi hj hij;simp only[F2]at hi hj;have:=hso i j (by omega) hij (by omega);rw[getElem!_pos d' i hi,getElem!_pos d' j hj]at this;exact this
 .have a4:((d'.toList.map (λx:α=>x.1.1)).map row).length=ks.length:=by simp[a7]
  have hcs:(Ts id 0 (flatK enc s d') cs0).size=cs0.size:=by simp[Ts]
  have b2:∀e∈(d'.toList.map (λx:α=>x.1.1)).map row,e.length=s:=λe he=>by simp only[dp]at he;obtain⟨k,_,rfl⟩:=he;exact hrow k
  refine⟨hL.nF,fS an a8,by rw[hw'];exact nh an hL.blk,by rw[hcs];exact hL.sz,⟨by rw[a4];exact b3,hL.lc.2⟩,by rw[a4];have:=hL.room;simpa using this,hs,b2,hL.ct,λj hj=>?_⟩;rw[a4]at hj;have hq:j/s<ks.length:=gp (by rw[hA];exact hj);have hm:j%s<s:=gm _ hs;have al:j/s*s+j%s=j:=gq j s;refine⟨_,DX a7 hL.sz b3 hj,?_⟩;have h4:=xd b2 (j/s) (j%s) (by rw[a4];exact hq) hm;rw[al]at h4;rw[h4,qm [] (by rw[a4];exact hq),cc,cc,Array.getElem_toList,getElem!_pos d' (j/s) (by rw[a7];exact hq)];have h5:=All2.nth .undef undef _ _ (j%s) (a3 d'[j/s]) (by rw[hrow];exact hm);rw[qm undef (by rw[hk];exact hm)]at h5;rw[getElem!_pos _ _ (by rw[hk];exact hm)];exact h5.mono (λ_ h=>h) a9
end
end Eng
end
section
namespace Eng
open Go Go.RowKit Go.Shelf
open Go.Sort (SWO)
open Go.Proofs (ltOf)
section
variable {C:Cx}{ρ:Ren}
def It {K:Type} (cf:K->K->Int) (ks:List K):List K:=ks.mergeSort λx y=>!ltOf cf y x
theorem RO{K:Type}{cf:K->K->Int}(hO:SWO (ltOf cf))(hT:∀x y,ltOf cf x y=false->ltOf cf y x=false->x=y){ks ks':List K}(hp:ks'.Perm ks)(hs:ks'.Pairwise λa b=>ltOf cf b a=false):ks'=It cf ks:=by
 unfold It;refine List.Perm.eq_of_pairwise (le:=λx y=>(!ltOf cf y x)=true) ?_ ?_ ?_ (hp.trans (List.mergeSort_perm _ _).symm)
 .intro a b _ _ h1 h2;simp only[Hv]at h1 h2;exact hT a b h2 h1
 .exact hs.imp λh=>by simp[h]
 .refine List.pairwise_mergeSort ?_ ?_ _
  .intro a b c h1 h2;simp only[Hv]at h1 h2 ⊢;exact hO.ntrans _ _ _ h2 h1
  .intro a b;cases h:ltOf cf b a with
   |false=>simp
   |true=>
    have:ltOf cf a b=false:=by rw[<-Bool.not_eq_true];intro h2;have:=hO.trans _ _ _ h h2;rw[hO.irrefl]at this;simp at this
    simp[this]
theorem ni(L:Pl C.P ρ){s:Nat}(hs:0<s)(aE:∀w,(isAgg (ρ.t 24)).run C.P w= .ok true w)(zE:∀w,(Lr (ρ.t 24)).run C.P w= .ok s w){K:Type}(row:K->List D)(hrow:∀k,(row k).length=s)(cf:K->K->Int)(hO:SWO (ltOf cf))(hT:∀x y,ltOf cf x y=false->ltOf cf y x=false->x=y){g:Nat}(eg:∀args w,(callFunc g args).run C.P w= .ok (.enter g args) w){ks:List K}(hne:ks≠[])(hcmp:∀x∈ks,∀y∈ks,qa C g [.ag (row x),.ag (row y)] [.c (.int .i64 (cf x y))]):
 XG C (ρ.f 6) s (ks.map row) [.c (.fn g)] [] ((It cf ks).map row):=by
 intro w F vs2 gb c0 cs0 t0 hb a3 h2 hL
 match vs2,h2 with
 |[v],h2=>
  have hv:v= .func (.func g) #[] #[]:=by have h:CD w F (.fn g) v:=h2.1;cases h;rfl
  subst hv;refine(Is L hs aE zE row hrow cf hO eg hne hcmp hb a3 hL).mono λe w' ⟨hbel,he,ks',cs,hp,hso,hbd,hL'⟩=>?_
  have e1:=RO hO hT hp hso;subst e1;exact⟨hbel,F,cs,.tuple #[],he,λ_ h=>h,λx hx=>⟨hbd x hx,.inl hx⟩,⟨#[],rfl,trivial⟩,hL',by simp[hp.length_eq]⟩
 |[],h2=>exact h2.elim
 |_::_::_,h2=>exact h2.2.elim
end
end Eng
end
section
namespace Eng
open Go Go.RowKit Go.Shelf
open Go.Sort (SWO PermIn SortedIn HoldsK flatK grow)
open Go.Proofs (ltOf CmpLays sortWorldK)
section
variable {C:Cx}{ρ:Ren}
def bS {K:Type} [Inhabited K] (cf:K->K->Int) (ks:List K):List K:=(W3 (ltOf cf) ks.toArray 0 ks.length (Lib.bitLen ks.length) true true).toList
theorem DY{K:Type}[Inhabited K]{cf:K->K->Int}(hO:SWO (ltOf cf))(ks:List K):(bS cf ks).Perm ks/\(bS cf ks).Pairwise λa b=>ltOf cf b a=false:=by
 obtain⟨⟨a4,_,a3⟩,hso⟩:=Go.Sort.pdq_sorts (ltOf cf) hO ks.toArray 0 ks.length (Lib.bitLen ks.length) true true (gd _) (by simp) (Or.inl rfl);unfold bS;generalize W3 (ltOf cf) ks.toArray 0 ks.length (Lib.bitLen ks.length) true true=d' at *;have a4:d'.size=ks.length:=by simpa using a4
 have hx1:d'.extract 0 ks.length=d':=by rw[<-a4];exact Dd
 have hx2:ks.toArray.extract 0 ks.length=ks.toArray:=by simp
 rw[hx1,hx2]at a3;refine⟨by simpa using a3,?_⟩;rw[c4];intro i j hi hj hij;simp only[F2]at hi hj;have:=hso i j (by omega) hij (by omega);rw[getElem!_pos d' i hi,getElem!_pos d' j hj]at this;exact this
theorem RP(L:Pl C.P ρ){s:Nat}(hs:0<s)(aE:∀w,(isAgg (ρ.t 24)).run C.P w= .ok true w)(zE:∀w,(Lr (ρ.t 24)).run C.P w= .ok s w){K:Type}[Inhabited K](row:K->List D)(enc:K->List Value)(hrow:∀k,(row k).length=s)(hk:∀k,(enc k).length=s)(h1:∀k,∀v∈enc k,v.oneCell'=true)(hdet:∀k w F vs,All2 (CD w F) (row k) vs->vs=enc k)(hback:∀k w F,All2 (CD w F) (row k) (enc k))(cf:K->K->Int)(hO:SWO (ltOf cf)){g:Nat}(eg:∀args w,(callFunc g args).run C.P w= .ok (.enter g args) w){ks:List K}(hcmp:∀x y,qa C g [.ag (row x),.ag (row y)] [.c (.int .i64 (cf x y))]):
 XG C (ρ.f 6) s (ks.map row) [.c (.fn g)] [] ((bS cf ks).map row):=by
 intro w F vs2 gb c0 a5 t0 hb ag h2 hL
 match vs2,h2 with
 |[],h2=>exact h2.elim
 |_::_::_,h2=>exact h2.2.elim
 |[v],h2=>
 have hv:v= .func (.func g) #[] #[]:=by have h:CD w F (.fn g) v:=h2.1;cases h;rfl
 subst hv;have a7:∀e∈ks.map row,e.length=s:=hL.lens;have a6:∀i (hi:i<ks.length),∀c,c<s->a5[i*s+c]? =some ((enc ks[i])[c]!):=λi hi c hc=>by
  have b3:∀c,c<s->∃v,a5[i*s+c]? =some v/\CD w F (nth .undef (row ks[i]) c) v:=λc hc=>by
   have hlt:i*s+c<(ks.map row).length*s:=by rw[cg];have:=gz s (show i+1<=ks.length from hi);rw[hK,hG]at this;omega
   obtain⟨v,h1,h2⟩:=hL.cd _ hlt;rw[xd a7 i c (by simpa using hi) hc,qm [] (by simpa using hi),cc]at h2;exact⟨v,h1,h2⟩
  have a9:All2 (CD w F) (row ks[i]) ((ea s).map λc=>a5[i*s+c]!):=by
   refine jM .undef undef (by simp[hrow]) λc hc=>?_
   rw[hrow]at hc;obtain⟨v,h1,h2⟩:=b3 c hc;rw[qm undef (by simpa using hc),cc,dn,getElem!_def,h1];exact h2
  have he:=hdet _ _ _ _ a9;obtain⟨v,h1,_⟩:=b3 c hc;rw[<-he,getElem!_pos _ _ (by simpa using hc),cc,dn,getElem!_def,h1]
 have ad:=hL.lt;have b2:ks.length<=c0:=by have:=hL.lc.1;simpa using this
 have hH:HoldsK enc s w gb 0 ks.toArray:=by
  intro j hj;rw[T1]at hj;have hj:j<ks.length*s:=by simpa using hj
  rw[U3 _ _ _ _ (by simpa using hj)];have hq:j/s<ks.length:=gp (by rw[hA];exact hj);have hm:j%s<s:=gm _ hs;have al:j/s*s+j%s=j:=gq j s;have h3:=a6 _ hq _ hm;rw[al]at h3;rw[getElem!_pos ks.toArray (j/s) (by simpa using hq)];simp only[el];constructor
  .unfold World.cell?;simp only[h9];rw[hL.blk];simp only;rw[h3];rfl
  .unfold World.frozen?;simp only[h9];rw[hL.blk];simp
 have hFn:∀b,F b->b≠gb:=λb h e=>by subst e;exact hL.nF h
 have hcl:CmpLays C.P g #[] enc s cf gb 0 ks.toArray.size w:=by
  intro m os dk _ x y;generalize hW:sortWorldK enc s w gb 0 m dk os=W;have hFW:∀b,F b->W.heap[b]? =w.heap[b]? :=λb h=>by rw[<-hW];exact DW (hb b h) (hFn b h)
  have hsz:w.heap.size<=W.heap.size:=by rw[<-hW];exact Hc
  have hg:=hcmp x y W F [.agg (enc x).toArray,.agg (enc y).toArray] (λb h=>fS (hb b h) hsz) (ag.mono (λ_ h=>h) hFW)
   ⟨⟨_,rfl,hback x W F⟩,⟨_,rfl,hback y W F⟩,trivial⟩
  have hg2:=Va hg;have e0:(#[.agg (enc x).toArray,.agg (enc y).toArray]++ #[]:Array Value)=[Value.agg (enc x).toArray,.agg (enc y).toArray].toArray:=by simp
  rw[e0];refine hg2.mono λe w' ⟨⟨hbel,v,he,hr⟩,hdr⟩=>?_
  have hv:v= .int .i64 (cf x y):=by have hr:CD _ _ (.int .i64 (cf x y)) v:=hr;cases hr;rfl
  subst he hv;refine⟨rfl,QG hbel ?_⟩;rcases hdr with h|h
  .simp at h
  .exact h
 have a8:ks.toArray.size<4611686018427387904:=by have:=hL.room;rw[cg]at this;have:=roomS.max this;simp only[List.size_toArray];omega
 have hS:=Go.Proofs.AnyQ.slices_SortFunc_eq L s aE zE enc hk h1 cf hO g #[] gb 0 c0 ks.toArray w eg hcl hH ad a8;have hp:=DY hO ks;have an:=hp.1.length_eq;have hpe:W3 (ltOf cf) ks.toArray 0 ks.toArray.size (Lib.bitLen ks.toArray.size) true true=(bS cf ks).toArray:=by simp[bS]
 rw[hpe]at hS;have hlm:(ks.map row).length=ks.toArray.size:=by simp
 rw[hlm];refine hS.mono λe w' ⟨he,n,os,hw'⟩=>?_
 have a4:w.heap.size<=w'.heap.size:=by rw[hw'];exact Hc
 generalize bS cf ks=ks' at *;have ap:ks'.toArray.size=ks.length:=by simp[an]
 have hcs:(Ts id 0 (flatK enc s ks'.toArray) a5).size=a5.size:=by simp[Ts]
 have a3:(ks'.map row).length=ks.length:=by simp[an]
 have b1:∀e∈ks'.map row,e.length=s:=λe he=>by simp only[dp]at he;obtain⟨k,_,rfl⟩:=he;exact hrow k
 refine⟨⟨by rw[hw'];rfl,by rw[hw'];rfl,by rw[hw'];rfl,a4,λk hk' hx=>by rw[hw'];exact DW hk' hx⟩,F,Ts id 0 (flatK enc s ks'.toArray) a5,.tuple #[],he,λ_ h=>h,λx hx=>⟨fS (hb x hx) a4,.inl hx⟩,⟨#[],rfl,trivial⟩,?_,by simp[an]⟩;refine⟨hL.nF,fS ad a4,by rw[hw'];exact nh ad hL.blk,by rw[hcs];exact hL.sz,⟨by rw[a3];exact b2,hL.lc.2⟩,by rw[a3];have:=hL.room;simpa using this,hs,b1,hL.ct,λj hj=>?_⟩;rw[a3]at hj;have hq:j/s<ks.length:=gp (by rw[hA];exact hj);have hm:j%s<s:=gm _ hs;have al:j/s*s+j%s=j:=gq j s;refine⟨_,DX ap hL.sz b2 hj,?_⟩;have h4:=xd b1 (j/s) (j%s) (by rw[a3];exact hq) hm;rw[al]at h4;rw[h4,qm [] (by rw[a3];exact hq),cc,getElem!_pos ks'.toArray (j/s) (by rw[ap];exact hq)];simp only[el];have h5:=All2.nth .undef undef _ _ (j%s) (hback ks'[j/s] w' F) (by rw[hrow];exact hm);rw[qm undef (by rw[hk];exact hm)]at h5;rw[getElem!_pos _ _ (by rw[hk];exact hm)];exact h5
end
end Eng
end
section
namespace Eng
open Go Go.Proofs
set_option maxRecDepth 100000
def pX (_:Nat) (_:List A):Option (List A):=none
theorem gy(f:Nat)(al rs:List A)(h:pX f al=some rs):qa CC f al rs:=by simp[pX]at h
def Vb:List (List D)->Bool
 |[]=>true
 |[e]=>hE 0 (dG e)
 |_::r=>Vb r
theorem Y2:∀{l:List Nat},Vb (raw l)=true->l=[]\/l.getLast?≠some 0
 |[],_=> .inl rfl
 |[x],h=> .inr (by
  simp only[raw,List.map_cons,List.map_nil,Vb,dG,be]at h;rw[hC]at h;simp;omega)
 |x::y::l,h=> .inr (by
  have h2:Vb (raw (y::l))=true:=h;rcases Y2 h2 with h3|h3
  .simp at h3
  .rw[List.getLast?_cons_cons];exact h3)
def EV (b:Bool) (es:List (List D)):Int:=match b with|true=> -(Vy es:Int)|false=>(Vy es:Int)
def okZ (b:Bool) (es:List (List D)):Bool:=Js es&&(Vb es&&(match es with|[]=>!b|_=>true))
theorem DZ{b:Bool}{es:List (List D)}(h:okZ b es=true):cI (EV b es)=[.bool b,.sl es]:=by
 unfold okZ at h;simp only[Hu]at h;obtain⟨h1,h2,h3⟩:=h;obtain⟨e1,e2,e3⟩:=XO h1;rw[e1]at h2;have hu:=Qj e2 (Y2 h2);rw[e3]at hu;have hn:(EV b es).natAbs=Vy es:=by
  unfold EV;cases b
  .simp
  .simp
 have hb:decide (EV b es<0)=b:=by
  cases b with
  |false=>unfold EV;exact decide_eq_false (by simp)
  |true=>
   unfold EV;refine decide_eq_true ?_;have:Vy es≠0:=by
    intro h0;rw[h0]at hu;have h4:Vx es=[]:=by rw[<-hu];rfl
    rw[h4]at e1;rw[e1]at h3;simp[raw]at h3
   show-(Vy es:Int)<0;omega
 unfold cI;rw[hn,hb,hu,<-e1]
def rdI:A->Option Int
 | .ag [.bool b,.sl es]=>match okZ b es with
  |true=>some (EV b es)
  |false=>none
 |_=>none
theorem OV{a:A}{z:Int}(h:rdI a=some z):a=qM z:=by
 unfold rdI at h;split at h
 .split at h
  .rename_i hz;simp only[hP]at h;subst h;unfold qM;rw[DZ hz]
  .simp at h
 .simp at h
def gA (n:Int) (d:Nat):Option Rat:=
 if hd:d≠0 then if h:hD n.natAbs d=1 then some ⟨n,d,hd,h⟩else none else none
theorem Iu{n:Int}{d:Nat}{r:Rat}(h:gA n d=some r):r.num=n/\r.den=d:=by
 unfold gA at h;split at h
 .split at h
  .simp only[hP]at h;subst h;exact⟨rfl,rfl⟩
  .simp at h
 .simp at h
def hN:Nat:=(1000000000^100)^4
theorem nj:hN<=ZE:=by decide
def tN:Nat:=(1000000000^100)^10
theorem nk:tN<=VX:=by decide
def bT (z:Int):Bool:=hE z.natAbs hN
def rdR:A->Option Rat
 | .ag [.bool b,.sl es,.bool c,.sl fs]=>match okZ b es&&(okZ c fs&&(!c&&(bT (EV b es)&&hE (Vy fs) hN)))with
  |true=>gA (EV b es) (Vy fs)
  |false=>none
 |_=>none
theorem Y3{a:A}{r:Rat}(h:rdR a=some r):a=jQ r/\Sr r:=by
 unfold rdR at h;split at h
 .rename_i b es c fs;split at h
  .rename_i hz;simp only[Hu,Hv]at hz;obtain⟨h1,h2,rfl,h3,h4⟩:=hz;obtain⟨e1,e2⟩:=Iu h;have hd:EV false fs=(r.den:Int):=by rw[e2];rfl
   refine⟨?_,?_,?_⟩
   .unfold jQ cR;rw[e1,DZ h1,<-hd,DZ h2];rfl
   .rw[e1];unfold bT at h3;rw[hC]at h3;exact fS h3 nj
   .rw[hC]at h4;show((r.den:Int)).natAbs<ZE;rw[Int.natAbs_natCast,e2];exact fS h4 nj
  .simp at h
 .simp at h
def OW (al:List A):Option (Int×Int):=match al with
 |[a,b]=>match rdI a,rdI b with
  |some x,some y=>match hE x.natAbs tN&&hE y.natAbs tN with
   |true=>some (x,y)
   |false=>none
  |_,_=>none
 |_=>none
theorem kr{al:List A}{x y:Int}(h:OW al=some (x,y)):al=[qM x,qM y]/\Sm x/\Sm y:=by
 unfold OW at h;split at h
 .split at h
  .rename_i x' y' h1 h2;split at h
   .rename_i h3;simp only[hP,Prod.mk.injEq]at h;obtain⟨rfl,rfl⟩:=h;simp only[Hu,hC]at h3;rw[OV h1,OV h2];exact⟨rfl,fS h3.1 nk,fS h3.2 nk⟩
   .simp at h
  .simp at h
 .simp at h
def EW (al:List A):Option (Rat×Rat):=match al with
 |[a,b]=>match rdR a,rdR b with
  |some x,some y=>some (x,y)
  |_,_=>none
 |_=>none
theorem yZ{al:List A}{x y:Rat}(h:EW al=some (x,y)):al=[jQ x,jQ y]/\Sr x/\Sr y:=by
 unfold EW at h;split at h
 .split at h
  .rename_i x' y' h1 h2;simp only[hP,Prod.mk.injEq]at h;obtain⟨rfl,rfl⟩:=h;rw[(Y3 h1).1,(Y3 h2).1];exact⟨rfl,(Y3 h1).2,(Y3 h2).2⟩
  .simp at h
 .simp at h
def iB (a b:Int):Int:=match decide (a<b)with|true=> -1|false=>match decide (b<a)with|true=>1|false=>0
theorem Hd(a b:Int):iB a b=QA a b:=by
 unfold iB QA;by_cases h:a<b
 .rw[decide_eq_true h,if_pos h]
 .rw[decide_eq_false h,if_neg h];by_cases h2:b<a
  .rw[decide_eq_true h2,if_pos h2]
  .rw[decide_eq_false h2,if_neg h2]
def EX (n d:Int):A:= .ag (cI (n/(hD n.natAbs d.natAbs:Nat))++cI (d/(hD n.natAbs d.natAbs:Nat)))
def pY (f:Nat) (al:List A):Option (List A):=
 match f with
 |121=>match EW al with|some (x,y)=>some [EX (x.num*y.num) (x.den*y.den)]|none=>none
 |81=>match EW al with|some (x,y)=>some [EX (x.num*y.den+y.num*x.den) (x.den*y.den)]|none=>none
 |80=>match EW al with|some (x,y)=>some [EX (x.num*y.den+(-y.num)*x.den) (x.den*y.den)]|none=>none
 |65=>match EW al with|some (x,y)=>some [.c (.int .i64 (iB (x.num*y.den) (y.num*x.den)))]|none=>none
 |130=>match al with
  |[.c (.int .i64 n)]=>match decide (-9223372036854775808<=n)&&decide (n<9223372036854775808)with
   |true=>some [.ag (cI n++cI 1)]
   |false=>none
  |_=>none
 |120=>match OW al with|some (x,y)=>some [qM (x*y)]|none=>none
 |106=>match OW al with|some (x,y)=>some [.c (.int .i64 (iB x y))]|none=>none
 |141=>match OW al with|some (x,y)=>some [qM (x+y)]|none=>none
 |302=>match OW al with|some (x,y)=>some [qM (x-y)]|none=>none
 |107=>match OW al with|some (x,y)=>some [qM (hD x.natAbs y.natAbs:Nat)]|none=>none
 |169=>match al with
  |[.c (.int .i64 n)]=>match decide (-9223372036854775808<=n)&&decide (n<9223372036854775808)with
   |true=>some [qM n]
   |false=>none
  |_=>none
 |_=>pX f al
theorem Je{n d:Int}(hd:0<d):EX n d=jQ (hV n d):=(yc hd).symm
theorem gB(f:Nat)(al rs:List A)(h:pY f al=some rs):qa CC f al rs:=by
 unfold pY at h;split at h
 .split at h
  .rename_i x y h1;obtain⟨rfl,hx,hy⟩:=yZ h1;simp only[hP]at h;subst h;rw[Je (bm (den_pos x) (den_pos y))];have e:x*y=hV (x.num*y.num) (x.den*y.den):=by rw[<-ia,hU,hU]
   rw[<-e];exact BB JB hx hy
  .simp at h
 .split at h
  .rename_i x y h1;obtain⟨rfl,hx,hy⟩:=yZ h1;simp only[hP]at h;subst h;have px:=den_pos x;have py:=den_pos y;rw[Je (bm px py)];have e:x+y=hV (x.num*y.den+y.num*x.den) (x.den*y.den):=by rw[<-hX _ _ (by omega) (by omega),hU,hU]
   rw[<-e];exact LJ JB hx hy
  .simp at h
 .split at h
  .rename_i x y h1;obtain⟨rfl,hx,hy⟩:=yZ h1;simp only[hP]at h;subst h;have px:=den_pos x;have py:=den_pos y;rw[Je (bm px py)];have e:x-y=hV (x.num*y.den+(-y.num)*x.den) (x.den*y.den):=by
    rw[ic,<-hX _ _ (by omega) (by omega),hU];have:hV (-y.num) y.den= -y:=by rw[<-ib];exact hU (-y)
    rw[this]
   rw[<-e];exact BC JB hx hy
  .simp at h
 .split at h
  .rename_i x y h1;obtain⟨rfl,hx,hy⟩:=yZ h1;simp only[hP]at h;subst h;rw[Hd,<-Wf];exact BA hx hy
  .simp at h
 .split at h
  .split at h
   .rename_i hb;simp only[hP]at h;subst h;simp only[Hu,decide_eq_true_eq]at hb;have g:=XQ hb.1 hb.2;unfold jQ cR at g;rw[hY,ie]at g;exact g
   .simp at h
  .simp at h
 .split at h
  .rename_i x y h1;obtain⟨rfl,hx,hy⟩:=kr h1;simp only[hP]at h;subst h;exact up (wR hx hy)
  .simp at h
 .split at h
  .rename_i x y h1;obtain⟨rfl,hx,hy⟩:=kr h1;simp only[hP]at h;subst h;rw[Hd];exact up (yb hx hy)
  .simp at h
 .split at h
  .rename_i x y h1;obtain⟨rfl,hx,hy⟩:=kr h1;simp only[hP]at h;subst h;exact up (ZA hx hy)
  .simp at h
 .split at h
  .rename_i x y h1;obtain⟨rfl,hx,hy⟩:=kr h1;simp only[hP]at h;subst h;exact up (B6 hx hy)
  .simp at h
 .split at h
  .rename_i x y h1;obtain⟨rfl,hx,hy⟩:=kr h1;simp only[hP]at h;subst h;exact LH JB hx hy
  .simp at h
 .split at h
  .split at h
   .rename_i hb;simp only[hP]at h;subst h;simp only[Hu,decide_eq_true_eq]at hb;exact up (xv hb.1 hb.2)
   .simp at h
  .simp at h
 .exact gy f al rs h
end Eng
end
section
namespace Eng
open Go Go.Proofs
def eqL {α:Type} (e:α->α->Bool):List α->List α->Bool
 |[],[]=>true
 |a::xs,b::ys=>e a b&&eqL e xs ys
 |_,_=>false
theorem J2{α:Type}{e:α->α->Bool}(h:∀a b,e a b=true->a=b):∀{xs ys:List α},eqL e xs ys=true->xs=ys
 |[],[],_=>rfl
 |a::xs,b::ys,hh=>by simp only[eqL,Hu]at hh;rw[h a b hh.1,J2 h hh.2]
 |[],_::_,hh=>by simp[eqL]at hh
 |_::_,[],hh=>by simp[eqL]at hh
def eqB:UInt8->UInt8->Bool:=λa b=>gn a.toNat b.toNat
def eqD:Nat->D->D->Bool
 |0,_,_=>false
 |_+1,.undef,.undef=>true
 |_+1,.bool a,.bool b=>a==b
 |_+1,.int k a,.int k' b=>decide (k=k')&&decide (a=b)
 |_+1,.str s,.str t=>eqL eqB s t
 |n+1,.sl es,.sl fs=>eqL (eqL (eqD n)) es fs
 |_+1,.ifc a,.ifc b=>a==b
 |_+1,.fn a,.fn b=>gn a b
 |_+1,.nilP,.nilP=>true
 |n+1,.ptr cs,.ptr ds=>eqL (eqD n) cs ds
 |n+1,.clo f ps,.clo g qs=>gn f g&&eqL (eqD n) ps qs
 |_+1,_,_=>false
theorem nm(a b:UInt8)(h:eqB a b=true):a=b:=UInt8.toNat_inj.1 (ga h)
theorem bU(n:Nat):∀(a b:D),eqD n a b=true->a=b:=by
 induction n with
 |zero=>intro a b h;simp[eqD]at h
 |succ n ih=>
  intro a b h;cases a<;>cases b<;>simp only[eqD,Hu,decide_eq_true_eq,beq_iff_eq,Bool.false_eq_true]at h
  all_goals first
   |rfl
   |(rw[h];done)
   |(rw[h.1,h.2];done)
   |(rw[J2 nm h];done)
   |(rw[J2 ih h];done)
   |(rw[ga h.1,J2 ih h.2];done)
   |(rw[J2 (λa b hh=>J2 ih hh) h];done)
   |rw[ga h]
def eqA:A->A->Bool
 | .c a,.c b=>eqD 20 a b
 | .ag a,.ag b=>eqL (eqD 20) a b
 |_,_=>false
theorem np(a b:A)(h:eqA a b=true):a=b:=by
 unfold eqA at h;split at h
 .rw[bU _ _ _ h]
 .rw[J2 (bU 20) h]
 .simp at h
end Eng
end
section
namespace Eng
open Go Go.Proofs
set_option maxRecDepth 100000
theorem tmul(x y:Rat):EX (x.num*y.num) (x.den*y.den)=jQ (x*y):=by
 rw[Je (bm (den_pos x) (den_pos y))];have e:x*y=hV (x.num*y.num) (x.den*y.den):=by rw[<-ia,hU,hU]
 rw[<-e]
theorem tadd(x y:Rat):EX (x.num*y.den+y.num*x.den) (x.den*y.den)=jQ (x+y):=by
 have px:=den_pos x;have py:=den_pos y;rw[Je (bm px py)];have e:x+y=hV (x.num*y.den+y.num*x.den) (x.den*y.den):=by rw[<-hX _ _ (by omega) (by omega),hU,hU]
 rw[<-e]
theorem tsub(x y:Rat):EX (x.num*y.den+(-y.num)*x.den) (x.den*y.den)=jQ (x-y):=by
 have px:=den_pos x;have py:=den_pos y;rw[Je (bm px py)];have e:x-y=hV (x.num*y.den+(-y.num)*x.den) (x.den*y.den):=by
  rw[ic,<-hX _ _ (by omega) (by omega),hU];have:hV (-y.num) y.den= -y:=by rw[<-ib];exact hU (-y)
  rw[this]
 rw[<-e]
theorem tneg(x:Rat):Hy (cI (-x.num)++cI x.den)=jQ (-x):=by
 unfold jQ cR;rw[ib];rfl
def sgZ (a:Int):Int:=match decide (a<0)with|true=> -1|false=>match decide (0<a)with|true=>1|false=>0
theorem Ea(a:Int):sgZ a=sgn a:=by
 unfold sgZ sgn;by_cases h:a<0
 .rw[decide_eq_true h,if_pos h]
 .rw[decide_eq_false h,if_neg h];by_cases h2:0<a
  .rw[decide_eq_true h2];simp;omega
  .rw[decide_eq_false h2];simp;omega
def iC (al:List A):Option Rat:=match al with
 |[a]=>rdR a
 |_=>none
theorem He{al:List A}{x:Rat}(h:iC al=some x):al=[jQ x]/\Sr x:=by
 unfold iC at h;split at h
 .rw[(Y3 h).1];exact⟨rfl,(Y3 h).2⟩
 .simp at h
def pZ (al:List A):Option Int:=match al with
 |[a]=>rdI a
 |_=>none
theorem gC{al:List A}{x:Int}(h:pZ al=some x):al=[qM x]:=by
 unfold pZ at h;split at h
 .rw[OV h]
 .simp at h
def ns (f:Nat) (al:List A):Option (List A):=
 match f with
 |114=>match EW al with|some (x,y)=>some [EX (x.num*y.num) (x.den*y.den)]|none=>none
 |8=>match EW al with|some (x,y)=>some [EX (x.num*y.den+y.num*x.den) (x.den*y.den)]|none=>none
 |55=>match EW al with|some (x,y)=>some [EX (x.num*y.den+(-y.num)*x.den) (x.den*y.den)]|none=>none
 |85=>match EW al with|some (x,y)=>some [.c (.int .i64 (iB (x.num*y.den) (y.num*x.den)))]|none=>none
 |9=>match iC al with|some x=>some [.ag (cI (-x.num)++cI x.den)]|none=>none
 |139=>match iC al with|some x=>some [.ag (cI (-x.num)++cI x.den)]|none=>none
 |36=>match iC al with|some x=>some [.c (.int .i64 (sgZ x.num))]|none=>none
 |27=>match iC al with|some x=>some [.c (.int .i64 (sgZ x.num))]|none=>none
 |17=>match al with
  |[.c (.int .i64 n)]=>match decide (-9223372036854775808<=n)&&decide (n<9223372036854775808)with
   |true=>some [.ag (cI n++cI 1)]
   |false=>none
  |_=>none
 |23=>match OW al with|some (x,y)=>some [qM (x*y)]|none=>none
 |25=>match OW al with|some (x,y)=>some [qM (x+y)]|none=>none
 |118=>match OW al with|some (x,y)=>some [qM (x-y)]|none=>none
 |143=>match OW al with|some (x,y)=>some [.c (.int .i64 (iB x y))]|none=>none
 |59=>match OW al with|some (x,y)=>some [qM (hD x.natAbs y.natAbs:Nat)]|none=>none
 |60=>match OW al with
  |some (x,y)=>match decide (0<y)with
   |true=>some [qM (x/y),qM (x%y),.c (.int .i64 0)]
   |false=>none
  |none=>none
 |264=>match OW al with
  |some (x,y)=>match decide (0<y)with
   |true=>some [qM (x/y),qM (x%y),.c (.int .i64 0)]
   |false=>none
  |none=>none
 |58=>match pZ al with|some x=>some [.c (.int .i64 (sgZ x))]|none=>none
 |46=>match al with|[]=>some [qM 1]|_=>none
 |44=>match al with
  |[.c (.int .i64 n)]=>match decide (-9223372036854775808<=n)&&decide (n<9223372036854775808)with
   |true=>some [qM n]
   |false=>none
  |_=>none
 |_=>pY f al
theorem Eb(f:Nat)(al rs:List A)(h:ns f al=some rs):qa CC f al rs:=by
 unfold ns at h;split at h
 .split at h
  .rename_i x y h1;obtain⟨rfl,hx,hy⟩:=yZ h1;simp only[hP]at h;subst h;rw[tmul];exact BM jT hx hy
  .simp at h
 .split at h
  .rename_i x y h1;obtain⟨rfl,hx,hy⟩:=yZ h1;simp only[hP]at h;subst h;rw[tadd];exact LP jT hx hy
  .simp at h
 .split at h
  .rename_i x y h1;obtain⟨rfl,hx,hy⟩:=yZ h1;simp only[hP]at h;subst h;rw[tsub];exact BK jT hx hy
  .simp at h
 .split at h
  .rename_i x y h1;obtain⟨rfl,hx,hy⟩:=yZ h1;simp only[hP]at h;subst h;rw[Hd,<-Wf];exact BL hx hy
  .simp at h
 .split at h
  .rename_i x h1;obtain⟨rfl,hx⟩:=He h1;simp only[hP]at h;subst h;rw[tneg];exact LO hx
  .simp at h
 .split at h
  .rename_i x h1;obtain⟨rfl,hx⟩:=He h1;simp only[hP]at h;subst h;rw[tneg];exact LI hx
  .simp at h
 .split at h
  .rename_i x h1;obtain⟨rfl,hx⟩:=He h1;simp only[hP]at h;subst h;rw[Ea];exact NL x
  .simp at h
 .split at h
  .rename_i x h1;obtain⟨rfl,hx⟩:=He h1;simp only[hP]at h;subst h;rw[Ea];exact JO x
  .simp at h
 .split at h
  .split at h
   .rename_i hb;simp only[hP]at h;subst h;simp only[Hu,decide_eq_true_eq]at hb;have g:=XU hb.1 hb.2;unfold jQ cR at g;rw[hY,ie]at g;exact g
   .simp at h
  .simp at h
 .split at h
  .rename_i x y h1;obtain⟨rfl,hx,hy⟩:=kr h1;simp only[hP]at h;subst h;exact jR hx hy
  .simp at h
 .split at h
  .rename_i x y h1;obtain⟨rfl,hx,hy⟩:=kr h1;simp only[hP]at h;subst h;exact Wg hx hy
  .simp at h
 .split at h
  .rename_i x y h1;obtain⟨rfl,hx,hy⟩:=kr h1;simp only[hP]at h;subst h;exact BJ hx hy
  .simp at h
 .split at h
  .rename_i x y h1;obtain⟨rfl,hx,hy⟩:=kr h1;simp only[hP]at h;subst h;rw[Hd];exact LL hx hy
  .simp at h
 .split at h
  .rename_i x y h1;obtain⟨rfl,hx,hy⟩:=kr h1;simp only[hP]at h;subst h;exact LN jT hx hy
  .simp at h
 .split at h
  .rename_i x y h1;obtain⟨rfl,hx,hy⟩:=kr h1;split at h
   .rename_i h2;simp only[hP]at h;subst h;exact vp jT hx hy (of_decide_eq_true h2)
   .simp at h
  .simp at h
 .split at h
  .rename_i x y h1;obtain⟨rfl,hx,hy⟩:=kr h1;split at h
   .rename_i h2;simp only[hP]at h;subst h;exact vo JB hx hy (of_decide_eq_true h2)
   .simp at h
  .simp at h
 .split at h
  .rename_i x h1;obtain rfl:=gC h1;simp only[hP]at h;subst h;rw[Ea];exact Ql x
  .simp at h
 .split at h
  .simp only[hP]at h;subst h;exact Gn
  .simp at h
 .split at h
  .split at h
   .rename_i hb;simp only[hP]at h;subst h;simp only[Hu,decide_eq_true_eq]at hb;exact zd hb.1 hb.2
   .simp at h
  .simp at h
 .exact gB f al rs h
end Eng
end
section
namespace Eng
open Go Go.Proofs
set_option maxRecDepth 100000
abbrev RQ:=Option Nat->List V->List Obj->R
def rd (t:TypeId) (d:Option Nat):Bool:=lJ t d||match d with
 |some d=>(gn t 92&&(gn d 31||(gn d 61||gn d 64)))||(gn t 42&&(gn d 22||(gn d 34||gn d 40)))
 |none=>false
def Ec (f:Nat):List (Nat×RQ)->Option RQ
 |[]=>none
 |(g,e)::r=>match gn f g with
  |true=>some e
  |false=>Ec f r
def re (ex:List (Nat×RQ)) (f:Nat):Option RQ:=
 match Ec f ex with
 |some e=>some e
 |none=>lK jc wi f
noncomputable def CX (ex:List (Nat×RQ)):Cx:=⟨Tryz.prog,λ_=>none,λ_=>false,re ex,rd,λ_=>false⟩
def rf (C:Cx):List (Nat×RQ)->Prop
 |[]=>True
 |(f,e)::r=>EffAt C f e/\rf C r
theorem OX{C:Cx}{f:Nat}{e:RQ}:∀{ex:List (Nat×RQ)},rf C ex->Ec f ex=some e->EffAt C f e
 |[],_,h=>by simp[Ec]at h
 |(g,e0)::r,ha,h=>by
  obtain⟨h1,h2⟩:=ha;unfold Ec at h;split at h
  .rename_i hb;obtain rfl:=ga hb;simp only[hP]at h;subst h;exact h1
  .exact OX h2 h
theorem Xj{ex:List (Nat×RQ)}(ha:rf (CX ex) ex)(f:Nat)(e:RQ)(h:(CX ex).eff f=some e):EffAt (CX ex) f e:=by
 replace h:re ex f=some e:=h;unfold re at h;split at h
 .rename_i e' he;simp only[hP]at h;subst h;exact OX ha he
 unfold lK at h;split at h
 .rename_i hb;obtain rfl:=ga hb;simp only[hP]at h;subst h;exact Ud (C:=CX ex) oC
 .split at h
  .rename_i hb;obtain rfl:=ga hb;simp only[hP]at h;subst h;exact Ue (C:=CX ex) oC
  .split at h
   .rename_i hb;obtain rfl:=ga hb;simp only[hP]at h;subst h;exact VY (C:=CX ex) Tryz.func178 (by simp[Tryz.f178]) (by decide) λal hc=>KV (C:=C0) (C':=CX ex) rfl rfl (Ut al hc)
   .simp at h
theorem upX{ex:List (Nat×RQ)}{f:Nat}{al rs:List A}(h:qa CC f al rs):qa (CX ex) f al rs:=zb rfl rfl h
theorem Iv{ex:List (Nat×RQ)}(f:Nat)(al rs:List A)(h:ns f al=some rs):qa (CX ex) f al rs:=upX (Eb f al rs h)
noncomputable def CB:Cx:=CX []
instance:EffOk CB:=zY (Xj trivial)
end Eng
end
section
namespace Eng
open Go Go.Proofs
abbrev Ck1:=List A->Bool
abbrev Mk1:=List A->List (List D)
abbrev Ck2:=List (List D)->List A->Bool
abbrev Mk2:=List (List D)->List A->List (List D)
noncomputable def CVx (c1:Ck1) (m1:Mk1) (sc:Ck2) (sm:Mk2) (c2:Ck2) (m2:Mk2) (tc:Ck2) (tm:Mk2):Cx:=
 CX [(132,XE c1 4 m1),(133,PI 4 sc sm (λ_ _=>[])),(134,KX 4 c2 m2),(78,PI 4 tc tm (λ_ _=>[]))]
def rg (a b c d:Ann) (n:Nat):Ann:=match n with
 |0=>a
 |1=>b
 |2=>c
 |_=>d
end Eng
end
section
open Go Go.Proofs Eng
namespace Eng
section
variable (Gv:Nat->List A->List A->Prop)(I0:List D->List D->Prop)(M0:List D->Nat)(I1:List D->List D->Prop)(M1:List D->Nat)(I2:List D->List D->Prop)(M2:List D->Nat)(I3:List D->List D->Prop)(M3:List D->Nat)(Q:List A->Prop)
theorem RR(c1:Ck1)(m1:Mk1)(sc:Ck2)(sm:Mk2)(c2:Ck2)(m2:Mk2)(tc:Ck2)(tm:Mk2)(es:List (List D)):wpF (CVx c1 m1 sc sm c2 m2 tc tm) Gv an0 Tryz.f75 [.c (.sl es)] Q=(c1 [HZ (J3 es)]=true/\sc (m1 [HZ (J3 es)]) [HZ (J7 65)]=true/\c2 (sm (m1 [HZ (J3 es)]) [HZ (J7 65)]) [HZ (J7 135)]=true/\Q [aL (m2 (sm (m1 [HZ (J3 es)]) [HZ (J7 65)]) [HZ (J7 135)])]):=by kernel_rfl
end
theorem Iw(Gv:Nat->List A->List A->Prop)(c1:Ck1)(m1:Mk1)(sc:Ck2)(sm:Mk2)(c2:Ck2)(m2:Mk2)(tc:Ck2)(tm:Mk2)(es:List (List D))(Q:Nat->List (List D)->Prop):dz (CVx c1 m1 sc sm c2 m2 tc tm) Gv an0 Tryz.f132 [.c (.sl es)] none [] Q=(0<es.length/\(room (0+es.length)/\lens 4 es)/\es≠[]/\Q 4 es):=by kernel_rfl
theorem RT(Gv:Nat->List A->List A->Prop)(I0:List D->List D->Prop)(M0:List D->Nat)(I1:List D->List D->Prop)(M1:List D->Nat)(c1:Ck1)(m1:Mk1)(sc:Ck2)(sm:Mk2)(c2:Ck2)(m2:Mk2)(tc:Ck2)(tm:Mk2)(es:List (List D))(Q:Nat->List (List D)->Prop):dz (CVx c1 m1 sc sm c2 m2 tc tm) Gv (Vl ⟨[.slot 5 (.int .i64 0),.own 0 73 4],[],I0,M0⟩ ⟨[.slot 7 (.int .i64 0),.slot 5 (.int .i64 0),.own 0 73 4],[.slot 5 (.int .i64 0)],I1,M1⟩) Tryz.f134 [] (some (4,es)) [.c (.fn 135)] Q=(bB (decide ((bc es.length)<2)) (es≠[]/\Q 4 es) (I0 [] [dI (1:Int),J3 es]/\∀(i:Int) (es:List (List D)),I0 [] [dI i,J3 es]->bB (decide (i<(bc es.length))) ((0<=i/\i<(bc es.length))/\∃x,cut (nth [] es (W4 i)) 0 4 (rk x [])/\(0<=Lv .i64 (i-1)/\Lv .i64 (i-1)<(bc es.length))/\∃x1,cut (nth [] es (W4 (Lv .i64 (i-1)))) 0 4 (rk x1 [])/\∃b,Gv 135 [aR x,aR x1] [aB b]/\br b ((0<=i/\i<=(bc es.length)/\(bc es.length)<=(bc es.length))/\I1 [dI i] [dI (1:Int),dI i,J3 es]/\∀(i_1 i_2:Int) (e1:List (List D)),I1 [dI i] [dI i_1,dI i_2,J3 e1]->bB (decide (i_1<(bc (W4 (bc es.length)-W4 i)))) ((0<=i_1/\i_1<(bc (W4 (bc es.length)-W4 i)))/\∃x,cut (nth [] e1 (W4 i+W4 i_1)) 0 4 (rk x [])/\(0<=Lv .i64 (i_1-1)/\Lv .i64 (i_1-1)<(bc (W4 (bc es.length)-W4 i)))/\∃x2,cut (nth [] e1 (W4 i+W4 (Lv .i64 (i_1-1)))) 0 4 (rk x2 [])/\∃b,Gv 135 [aR x,aR x2] [aB b]/\bB (!b) ((0<=i_1/\i_1<(bc (W4 (bc es.length)-W4 i)))/\∃x,cut (nth [] e1 (W4 i+W4 i_1)) 0 4 (rk x [])/\(0<=i_2/\i_2<(bc e1.length))/\4<=4/\I1 [dI i] [dI (Lv .i64 (i_1+1)),dI (Lv .i64 (i_2+1)),J3 (upd e1 (W4 i_2) (zU (nth [] e1 (W4 i_2)) 0 (rk x [])))]/\M1 [dI (Lv .i64 (i_1+1)),dI (Lv .i64 (i_2+1)),J3 (upd e1 (W4 i_2) (zU (nth [] e1 (W4 i_2)) 0 (rk x [])))]<M1 [dI i_1,dI i_2,J3 e1]) (I1 [dI i] [dI (Lv .i64 (i_1+1)),dI i_2,J3 e1]/\M1 [dI (Lv .i64 (i_1+1)),dI i_2,J3 e1]<M1 [dI i_1,dI i_2,J3 e1])) ((0<=i_2/\i_2<=(bc e1.length)/\(bc e1.length)<=(bc e1.length))/\0<W4 (bc e1.length)-W4 i_2/\(0<=i_2/\i_2<=(bc (bx (dA (W4 i_2) e1++(dc (W4 (bc e1.length)-W4 i_2) [J5 false,J3 [],J5 false,J3 []]++fg (W4 i_2+(W4 (bc e1.length)-W4 i_2)) e1)))))/\dA (W4 i_2) (dA (W4 i_2) e1++(dc (W4 (bc e1.length)-W4 i_2) [J5 false,J3 [],J5 false,J3 []]++fg (W4 i_2+(W4 (bc e1.length)-W4 i_2)) e1))≠[]/\Q 4 (dA (W4 i_2) (dA (W4 i_2) e1++(dc (W4 (bc e1.length)-W4 i_2) [J5 false,J3 [],J5 false,J3 []]++fg (W4 i_2+(W4 (bc e1.length)-W4 i_2)) e1))))) (I0 [] [dI (Lv .i64 (i+1)),J3 es]/\M0 [dI (Lv .i64 (i+1)),J3 es]<M0 [dI i,J3 es])) (es≠[]/\Q 4 es))):=by kernel_rfl
section
variable (Gv:Nat->List A->List A->Prop)(I0:List D->List D->Prop)(M0:List D->Nat)(I1:List D->List D->Prop)(M1:List D->Nat)(I2:List D->List D->Prop)(M2:List D->Nat)(I3:List D->List D->Prop)(M3:List D->Nat)(Q:List A->Prop)
theorem OY(c1:Ck1)(m1:Mk1)(sc:Ck2)(sm:Mk2)(c2:Ck2)(m2:Mk2)(tc:Ck2)(tm:Mk2)(r0 r1 r2 r3:R4)(l0:List (List D))(Q:List A->Prop):wpF (CVx c1 m1 sc sm c2 m2 tc tm) Gv (rg ⟨[.slot 42 (.int .i64 0),.mix 5 [.own 125 4],.mix 6 [.own 126 4]],[],I0,M0⟩ ⟨[.slot 71 (.int .i64 0),.own 11 127 4],[],I1,M1⟩ ⟨[.slot 14 (.int .i64 0)],[],I2,M2⟩ ⟨[.slot 15 (.int .i64 0),.slot 96 (.int .i64 0)],[.slot 14 (.int .i64 0)],I3,M3⟩) Tryz.f34 [.ag (rk r0 (rk r1 (rk r2 (rk r3 [])))),.c (.sl l0)] Q=(∃b,Gv 28 [Hy (rk r0 (rk r1 (rk r2 (rk r3 []))))] [aB b]/\bB (!b) (Q [aB false]) (bB (decide ((bc l0.length)>4096)) (Q [aB false]) (∃b,Gv 73 [aL l0,HZ (J7 74)] [aB b]/\br b (Q [aB false]) (I0 [] [dI (0:Int),J3 [(rk r0 []),(rk r2 [])],J3 [(rk r1 []),(rk r3 [])]]/\∀(i:Int) (es e1:List (List D)),I0 [] [dI i,J3 es,J3 e1]->bB (decide (i<(bc l0.length))) ((0<=i/\i<(bc l0.length)/\bx (nth [] l0 (W4 i))=16)/\∃x x1 x2 x3,cut (nth [] l0 (W4 i)) 0 16 (rk x (rk x1 (rk x2 (rk x3 []))))/\(room (es.length+2)/\lens 4 [(rk x []),(rk x2 [])])/\(room (e1.length+2)/\lens 4 [(rk x1 []),(rk x3 [])])/\I0 [] [dI (Lv .i64 (i+1)),J3 (es++[(rk x []),(rk x2 [])]),J3 (e1++[(rk x1 []),(rk x3 [])])]/\M0 [dI (Lv .i64 (i+1)),J3 (es++[(rk x []),(rk x2 [])]),J3 (e1++[(rk x1 []),(rk x3 [])])]<M0 [dI i,J3 es,J3 e1]) (∃e2,Gv 75 [aL es] [aL e2]/\∃es,Gv 75 [aL e1] [aL es]/\∃i i_1 i_2 i_3,Gv 76 [Hy (rk r0 (rk r1 (rk r2 (rk r3 [])))),HZ (J8 [J3 e2]),HZ (J8 [J3 es])] [Hy [dI i,dI i_1,dI i_2,dI i_3]]/\I1 [] [dI (0:Int),J3 []]/\∀(i_4:Int) (e3:List (List D)),I1 [] [dI i_4,J3 e3]->bB (decide (i_4<(bc l0.length))) ((0<=i_4/\i_4<(bc l0.length)/\bx (nth [] l0 (W4 i_4))=16)/\∃x x1 x2 x3,cut (nth [] l0 (W4 i_4)) 0 16 (rk x (rk x1 (rk x2 (rk x3 []))))/\∃i i_5 i_6 i_7,Gv 76 [Hy (rk x (rk x1 (rk x2 (rk x3 [])))),HZ (J8 [J3 e2]),HZ (J8 [J3 es])] [Hy [dI i,dI i_5,dI i_6,dI i_7]]/\(room (e3.length+1)/\lens 4 [[dI i,dI i_5,dI i_6,dI i_7]])/\I1 [] [dI (Lv .i64 (i_4+1)),J3 (e3++[[dI i,dI i_5,dI i_6,dI i_7]])]/\M1 [dI (Lv .i64 (i_4+1)),J3 (e3++[[dI i,dI i_5,dI i_6,dI i_7]])]<M1 [dI i_4,J3 e3]) (tc e3 [HZ (J7 79)]=true/\I2 [] [dI i]/\∀(i:Int),I2 [] [dI i]->bB (decide (i<i_2)) (I3 [dI i] [dI i_1,dI (0:Int)]/\∀(i_5 i_6:Int),I3 [dI i] [dI i_5,dI i_6]->bB (decide (i_6<(bc (bx (tm e3 [HZ (J7 79)]))))) ((0<=i_6/\i_6<(bc (bx (tm e3 [HZ (J7 79)]))))/\∃i_7 i_8 i_9 i_10,cut (nth [] (tm e3 [HZ (J7 79)]) (W4 i_6)) 0 4 [dI i_7,dI i_8,dI i_9,dI i_10]/\bB (decide (i_7<=i)) (bB (decide (i<i_9)) (bB (decide (i_8<=i_5)) (I3 [dI i] [dI (match decide (i_5<i_10)with|true=>i_10|false=>i_5),dI (Lv .i64 (i_6+1))]/\M3 [dI (match decide (i_5<i_10)with|true=>i_10|false=>i_5),dI (Lv .i64 (i_6+1))]<M3 [dI i_5,dI i_6]) (I3 [dI i] [dI i_5,dI (Lv .i64 (i_6+1))]/\M3 [dI i_5,dI (Lv .i64 (i_6+1))]<M3 [dI i_5,dI i_6])) (I3 [dI i] [dI i_5,dI (Lv .i64 (i_6+1))]/\M3 [dI i_5,dI (Lv .i64 (i_6+1))]<M3 [dI i_5,dI i_6])) (I3 [dI i] [dI i_5,dI (Lv .i64 (i_6+1))]/\M3 [dI i_5,dI (Lv .i64 (i_6+1))]<M3 [dI i_5,dI i_6])) (bB (decide (i_5<i_3)) (Q [aB false]) (I2 [] [dI (Lv .i64 (i+1))]/\M2 [dI (Lv .i64 (i+1))]<M2 [dI i]))) (Q [aB true]))))))):=by kernel_rfl
end
end Eng
end
section
open Go Go.Proofs Eng
namespace Eng
section
variable (Gv:Nat->List A->List A->Prop)(I0:List D->List D->Prop)(M0:List D->Nat)(I1:List D->List D->Prop)(M1:List D->Nat)(I2:List D->List D->Prop)(M2:List D->Nat)(I3:List D->List D->Prop)(M3:List D->Nat)(Q:List A->Prop)
theorem T8(r0:R4)(r1:R4)(r2:R4)(r3:R4)(l0:List (List D))(Q:List A->Prop):wpF CC Gv (rg ⟨[.slot 7 (.int .i64 0),.slot 5 (.slice none 0 0),.slot 6 (.slice none 0 0)],[],I0,M0⟩ ⟨[.slot 8 (.int .i64 0)],[],I1,M1⟩ ⟨[.slot 9 (.int .i64 0)],[.slot 8 (.int .i64 0)],I2,M2⟩ ⟨[.slot 13 (.int .i64 0),.slot 12 (.bool false)],[.slot 8 (.int .i64 0),.slot 9 (.int .i64 0)],I3,M3⟩) Tryz.f41 [.ag (rk r0 (rk r1 (rk r2 (rk r3 [])))),.c (.sl l0)] Q=(∃b,Gv 82 [Hy (rk r0 (rk r1 (rk r2 (rk r3 []))))] [aB b]/\bB (!b) (Q [aB false]) (bB (decide ((bc l0.length)>4096)) (Q [aB false]) (I0 [] [dI (0:Int),J3 [(rk r0 []),(rk r2 [])],J3 [(rk r1 []),(rk r3 [])]]/\∀(i:Int) (es e1:List (List D)),I0 [] [dI i,J3 es,J3 e1]->bB (decide (i<(bc l0.length))) ((0<=i/\i<(bc l0.length)/\bx (nth [] l0 (W4 i))=16)/\∃x x1 x2 x3,cut (nth [] l0 (W4 i)) 0 16 (rk x (rk x1 (rk x2 (rk x3 []))))/\∃b,Gv 82 [Hy (rk x (rk x1 (rk x2 (rk x3 []))))] [aB b]/\bB (!b) (Q [aB false]) ((0<=i/\i<(bc l0.length)/\bx (nth [] l0 (W4 i))=16)/\∃x,cut (nth [] l0 (W4 i)) 0 4 (rk x [])/\∃x4,Gv 84 [aR x,aR r0,aR r2] [aR x4]/\∃e2,Gv 92 [aL es,aR x4] [aL e2]/\(0<=i/\i<(bc l0.length)/\bx (nth [] l0 (W4 i))=16)/\∃x,cut (nth [] l0 (W4 i)) 8 4 (rk x [])/\∃x5,Gv 84 [aR x,aR r0,aR r2] [aR x5]/\∃e3,Gv 92 [aL e2,aR x5] [aL e3]/\(0<=i/\i<(bc l0.length)/\bx (nth [] l0 (W4 i))=16)/\∃x,cut (nth [] l0 (W4 i)) 4 4 (rk x [])/\∃x6,Gv 84 [aR x,aR r1,aR r3] [aR x6]/\∃e4,Gv 92 [aL e1,aR x6] [aL e4]/\(0<=i/\i<(bc l0.length)/\bx (nth [] l0 (W4 i))=16)/\∃x,cut (nth [] l0 (W4 i)) 12 4 (rk x [])/\∃x7,Gv 84 [aR x,aR r1,aR r3] [aR x7]/\∃e5,Gv 92 [aL e4,aR x7] [aL e5]/\I0 [] [dI (Lv .i64 (i+1)),J3 e3,J3 e5]/\M0 [dI (Lv .i64 (i+1)),J3 e3,J3 e5]<M0 [dI i,J3 es,J3 e1])) (I1 [] [dI (1:Int)]/\∀(i:Int),I1 [] [dI i]->bB (decide (i<(bc es.length))) (I2 [dI i] [dI (1:Int)]/\∀(i_1:Int),I2 [dI i] [dI i_1]->bB (decide (i_1<(bc e1.length))) ((0<=Lv .i64 (i-1)/\Lv .i64 (i-1)<(bc es.length)/\bx (nth [] es (W4 (Lv .i64 (i-1))))=4)/\∃x,cut (nth [] es (W4 (Lv .i64 (i-1)))) 0 4 (rk x [])/\(0<=i/\i<(bc es.length)/\bx (nth [] es (W4 i))=4)/\∃x1,cut (nth [] es (W4 i)) 0 4 (rk x1 [])/\∃x2,Gv 93 [aR x,aR x1] [aR x2]/\(0<=Lv .i64 (i_1-1)/\Lv .i64 (i_1-1)<(bc e1.length)/\bx (nth [] e1 (W4 (Lv .i64 (i_1-1))))=4)/\∃x,cut (nth [] e1 (W4 (Lv .i64 (i_1-1)))) 0 4 (rk x [])/\(0<=i_1/\i_1<(bc e1.length)/\bx (nth [] e1 (W4 i_1))=4)/\∃x3,cut (nth [] e1 (W4 i_1)) 0 4 (rk x3 [])/\∃x4,Gv 93 [aR x,aR x3] [aR x4]/\I3 [dI i,dI i_1] [dI (0:Int),J5 false]/\∀(i_2:Int) (b:Bool),I3 [dI i,dI i_1] [dI i_2,J5 b]->bB (decide (i_2<(bc l0.length))) (bB (!b) ((0<=i_2/\i_2<(bc l0.length)/\bx (nth [] l0 (W4 i_2))=16)/\∃x x5 x6 x7,cut (nth [] l0 (W4 i_2)) 0 16 (rk x (rk x5 (rk x6 (rk x7 []))))/\∃b1,Gv 94 [Hy (rk x (rk x5 (rk x6 (rk x7 [])))),aR x2,aR x4] [aB b1]/\I3 [dI i,dI i_1] [dI (Lv .i64 (i_2+1)),J5 b1]/\M3 [dI (Lv .i64 (i_2+1)),J5 b1]<M3 [dI i_2,J5 b]) (bB (!b) (Q [aB false]) (I2 [dI i] [dI (Lv .i64 (i_1+1))]/\M2 [dI (Lv .i64 (i_1+1))]<M2 [dI i_1]))) (bB (!b) (Q [aB false]) (I2 [dI i] [dI (Lv .i64 (i_1+1))]/\M2 [dI (Lv .i64 (i_1+1))]<M2 [dI i_1]))) (I1 [] [dI (Lv .i64 (i+1))]/\M1 [dI (Lv .i64 (i+1))]<M1 [dI i])) (Q [aB true]))))):=by kernel_rfl
theorem T9(r0:R4)(r1:R4)(r2:R4)(r3:R4)(Q:List A->Prop):wpF CC Gv (rg ⟨[.slot 42 (.int .i64 0),.mix 5 [.own 125 4],.mix 6 [.own 126 4]],[],I0,M0⟩ ⟨[.slot 71 (.int .i64 0),.own 11 127 4],[],I1,M1⟩ ⟨[.slot 14 (.int .i64 0)],[],I2,M2⟩ ⟨[.slot 15 (.int .i64 0),.slot 96 (.int .i64 0)],[.slot 14 (.int .i64 0)],I3,M3⟩) Tryz.f34 [.ag (rk r0 (rk r1 (rk r2 (rk r3 [])))),.c (.sl [])] Q=(∃b,Gv 28 [Hy (rk r0 (rk r1 (rk r2 (rk r3 []))))] [aB b]/\bB (!b) (Q [aB false]) (∃b,Gv 73 [aL [],HZ (J7 74)] [aB b]/\br b (Q [aB false]) (I0 [] [dI (0:Int),J3 [(rk r0 []),(rk r2 [])],J3 [(rk r1 []),(rk r3 [])]]/\∀(i:Int) (es e1:List (List D)),I0 [] [dI i,J3 es,J3 e1]->bB (decide (i<0)) ((0<=i/\i<0/\0=16)/\∃x x1 x2 x3,cut [] 0 16 (rk x (rk x1 (rk x2 (rk x3 []))))/\(room (es.length+2)/\lens 4 [(rk x []),(rk x2 [])])/\(room (e1.length+2)/\lens 4 [(rk x1 []),(rk x3 [])])/\I0 [] [dI (Lv .i64 (i+1)),J3 (es++[(rk x []),(rk x2 [])]),J3 (e1++[(rk x1 []),(rk x3 [])])]/\M0 [dI (Lv .i64 (i+1)),J3 (es++[(rk x []),(rk x2 [])]),J3 (e1++[(rk x1 []),(rk x3 [])])]<M0 [dI i,J3 es,J3 e1]) (∃e2,Gv 75 [aL es] [aL e2]/\∃es,Gv 75 [aL e1] [aL es]/\∃i i_1 i_2 i_3,Gv 76 [Hy (rk r0 (rk r1 (rk r2 (rk r3 [])))),HZ (J8 [J3 e2]),HZ (J8 [J3 es])] [Hy [dI i,dI i_1,dI i_2,dI i_3]]/\I1 [] [dI (0:Int),J3 []]/\∀(i_4:Int) (e3:List (List D)),I1 [] [dI i_4,J3 e3]->bB (decide (i_4<0)) ((0<=i_4/\i_4<0/\0=16)/\∃x x1 x2 x3,cut [] 0 16 (rk x (rk x1 (rk x2 (rk x3 []))))/\∃i i_5 i_6 i_7,Gv 76 [Hy (rk x (rk x1 (rk x2 (rk x3 [])))),HZ (J8 [J3 e2]),HZ (J8 [J3 es])] [Hy [dI i,dI i_5,dI i_6,dI i_7]]/\(room (e3.length+1)/\lens 4 [[dI i,dI i_5,dI i_6,dI i_7]])/\I1 [] [dI (Lv .i64 (i_4+1)),J3 (e3++[[dI i,dI i_5,dI i_6,dI i_7]])]/\M1 [dI (Lv .i64 (i_4+1)),J3 (e3++[[dI i,dI i_5,dI i_6,dI i_7]])]<M1 [dI i_4,J3 e3]) (Gv 78 [HZ (J3 e3),HZ (J7 79)] []/\I2 [] [dI i]/\∀(i:Int),I2 [] [dI i]->bB (decide (i<i_2)) (I3 [dI i] [dI i_1,dI (0:Int)]/\∀(i_5 i_6:Int),I3 [dI i] [dI i_5,dI i_6]->bB (decide (i_6<(bc e3.length))) ((0<=i_6/\i_6<(bc e3.length))/\∃i_7 i_8 i_9 i_10,cut (nth [] e3 (W4 i_6)) 0 4 [dI i_7,dI i_8,dI i_9,dI i_10]/\bB (decide (i_7<=i)) (bB (decide (i<i_9)) (bB (decide (i_8<=i_5)) (I3 [dI i] [dI (match decide (i_5<i_10)with|true=>i_10|false=>i_5),dI (Lv .i64 (i_6+1))]/\M3 [dI (match decide (i_5<i_10)with|true=>i_10|false=>i_5),dI (Lv .i64 (i_6+1))]<M3 [dI i_5,dI i_6]) (I3 [dI i] [dI i_5,dI (Lv .i64 (i_6+1))]/\M3 [dI i_5,dI (Lv .i64 (i_6+1))]<M3 [dI i_5,dI i_6])) (I3 [dI i] [dI i_5,dI (Lv .i64 (i_6+1))]/\M3 [dI i_5,dI (Lv .i64 (i_6+1))]<M3 [dI i_5,dI i_6])) (I3 [dI i] [dI i_5,dI (Lv .i64 (i_6+1))]/\M3 [dI i_5,dI (Lv .i64 (i_6+1))]<M3 [dI i_5,dI i_6])) (bB (decide (i_5<i_3)) (Q [aB false]) (I2 [] [dI (Lv .i64 (i+1))]/\M2 [dI (Lv .i64 (i+1))]<M2 [dI i]))) (Q [aB true])))))):=by kernel_rfl
end
end Eng
end
section
open Go Go.Proofs Eng
namespace Eng
section
variable (Gv:Nat->List A->List A->Prop)(I0:List D->List D->Prop)(M0:List D->Nat)(I1:List D->List D->Prop)(M1:List D->Nat)(I2:List D->List D->Prop)(M2:List D->Nat)(I3:List D->List D->Prop)(M3:List D->Nat)(Q:List A->Prop)
theorem Ed(z0:Bool)(l0:List (List D)):wpF CC Gv (λ_=>⟨[.slot 4 (.int .u64 0),.slot 5 (.int .i64 0)],[],I0,M0⟩) Tryz.f294 [.ag [.bool z0,.sl l0]] Q=(∃b es,Gv 169 [aI (-9223372036854775808:Int)] [aZ b es]/\∃i,Gv 106 [aZ z0 l0,aZ b es] [aI i]/\bB (decide (i<0)) (Q [aI (0:Int),aB false]) (∃b es,Gv 169 [aI (9223372036854775807:Int)] [aZ b es]/\∃i,Gv 106 [aZ z0 l0,aZ b es] [aI i]/\bB (decide (i>0)) (Q [aI (0:Int),aB false]) (I0 [] [J4 .u64 0,dI (Lv .i64 ((bc l0.length)-1))]/\∀(i i_1:Int),I0 [] [J4 .u64 i,dI i_1]->bB (decide (i_1>=0)) ((0<=i_1/\i_1<(bc l0.length)/\bx (nth [] l0 (W4 i_1))=1)/\∃i_2,cut (nth [] l0 (W4 i_1)) 0 1 [J4 .u32 i_2]/\I0 [] [J4 .u64 (Lv .u64 (Lv .u64 (i*1000000000)+Lv .u64 i_2)),dI (Lv .i64 (i_1-1))]/\M0 [J4 .u64 (Lv .u64 (Lv .u64 (i*1000000000)+Lv .u64 i_2)),dI (Lv .i64 (i_1-1))]<M0 [J4 .u64 i,dI i_1]) (br z0 (Q [aI (Lv .i64 (Lv .u64 (0-i))),aB true]) (Q [aI (Lv .i64 i),aB true]))))):=by kernel_rfl
theorem Ix(z0:Bool)(l0:List (List D)):wpF CC Gv (λ_=>⟨[.box 5 [(.bool false),(.slice none 0 0)]],[],I0,M0⟩) Tryz.f343 [.ag [.bool z0,.sl l0]] Q=(br z0 (Q [aZ false [],aI (7:Int)]) (bB ((bc l0.length)==0) (Q [aZ false [],aI (0:Int)]) ((2:Int)≠(0:Int)/\(0<=Lv .i64 (bs (Lv .i64 ((bc l0.length)+1)) (2:Int))/\Lv .i64 (bs (Lv .i64 ((bc l0.length)+1)) (2:Int))<=Lv .i64 (bs (Lv .i64 ((bc l0.length)+1)) (2:Int))/\room (W4 (Lv .i64 (bs (Lv .i64 ((bc l0.length)+1)) (2:Int)))))/\(room (bx (dc (W4 (Lv .i64 (bs (Lv .i64 ((bc l0.length)+1)) (2:Int)))) [J4 .u32 0])+1)/\lens 1 [[J4 .u32 1]])/\∃b es,Gv 165 [aB false,aL (dc (W4 (Lv .i64 (bs (Lv .i64 ((bc l0.length)+1)) (2:Int)))) [J4 .u32 0]++[[J4 .u32 1]])] [aZ b es]/\∃b1 e1,Gv 169 [aI (2:Int)] [aZ b1 e1]/\I0 [] [J5 b,J3 es]/\∀(b:Bool) (es:List (List D)),I0 [] [J5 b,J3 es]->∃b2 e2 b3 e3 i,Gv 264 [aZ z0 l0,aZ b es] [aZ b2 e2,aZ b3 e3,aI i]/\∃b4 e4,Gv 141 [aZ b es,aZ b2 e2] [aZ b4 e4]/\∃b5 e5 b6 e6 i,Gv 264 [aZ b4 e4,aZ b1 e1] [aZ b5 e5,aZ b6 e6,aI i]/\∃i,Gv 106 [aZ b5 e5,aZ b es] [aI i]/\bB (decide (i>=0)) (Q [aZ b es,aI (0:Int)]) (I0 [] [J5 b5,J3 e5]/\M0 [J5 b5,J3 e5]<M0 [J5 b,J3 es])))):=by kernel_rfl
theorem gD(a0:Int)(b0:Int)(a1:Int)(b1:Int):wpF CC Gv (Vl ⟨[.slot 21 (.int .i64 0),.slot 6 (.int .i64 0),.slot 7 (.int .i64 0)],[],I0,M0⟩ ⟨[.slot 31 (.int .i64 0),.slot 6 (.int .i64 0),.slot 7 (.int .i64 0)],[.slot 21 (.int .i64 0)],I1,M1⟩) Tryz.f250 [.ag [.int .i64 a0,.int .i64 b0],.ag [.int .i64 a1,.int .i64 b1]] Q=(I0 [] [dI (0:Int),dI (2305843009213693952:Int),dI (-2305843009213693952:Int)]/\∀(i i_1 i_2:Int),I0 [] [dI i,dI i_1,dI i_2]->bB (decide (i<2)) ((0<=i/\i<2)/\∃i_3,cut (nth [] [[dI a0],[dI b0]] (W4 i)) 0 1 [dI i_3]/\I1 [dI i] [dI (0:Int),dI i_1,dI i_2]/\∀(i_4 i_5 i_6:Int),I1 [dI i] [dI i_4,dI i_5,dI i_6]->bB (decide (i_4<2)) ((0<=i_4/\i_4<2)/\∃i_7,cut (nth [] [[dI a1],[dI b1]] (W4 i_4)) 0 1 [dI i_7]/\∃i_8 i_9 b,Gv 297 [aI i_3,aI i_7] [aI i_8,aI i_9,aB b]/\bB (!b) (Q [Hy [dI (0:Int),dI (0:Int)],aB false]) (I1 [dI i] [dI (Lv .i64 (i_4+1)),dI (match decide (i_8<i_5)with|true=>i_8|false=>i_5),dI (match decide (i_6<i_9)with|true=>i_9|false=>i_6)]/\M1 [dI (Lv .i64 (i_4+1)),dI (match decide (i_8<i_5)with|true=>i_8|false=>i_5),dI (match decide (i_6<i_9)with|true=>i_9|false=>i_6)]<M1 [dI i_4,dI i_5,dI i_6])) (I0 [] [dI (Lv .i64 (i+1)),dI i_5,dI i_6]/\M0 [dI (Lv .i64 (i+1)),dI i_5,dI i_6]<M0 [dI i,dI i_1,dI i_2])) (Q [Hy [dI i_1,dI i_2],aB true])):=by kernel_rfl
theorem Ee(x0:Int)(y0:Int):wpF CC Gv an0 Tryz.f290 [.c (.int .u64 x0),.c (.int .u64 y0)] Q=((0:Int)<=(32:Int)/\(0:Int)<=(32:Int)/\(0:Int)<=(32:Int)/\(0:Int)<=(32:Int)/\(0:Int)<=(32:Int)/\Q [HZ (J4 .u64 (Lv .u64 (Lv .u64 (Lv .u64 (bh x0 4294967296*bh y0 (4294967296:Int))+bh (Lv .u64 (Lv .u64 (bh x0 4294967296*bits .and .u64 (y0) (4294967295:Int))+bh (Lv .u64 (bits .and .u64 (x0) 4294967295*bits .and .u64 (y0) (4294967295:Int))) (4294967296:Int))) (4294967296:Int))+bh (Lv .u64 (bits .and .u64 (Lv .u64 (Lv .u64 (bh x0 4294967296*bits .and .u64 (y0) (4294967295:Int))+bh (Lv .u64 (bits .and .u64 (x0) 4294967295*bits .and .u64 (y0) (4294967295:Int))) (4294967296:Int))) 4294967295+Lv .u64 (bits .and .u64 (x0) 4294967295*bh y0 (4294967296:Int)))) (4294967296:Int)))),HZ (J4 .u64 (Lv .u64 (x0*y0)))]):=by kernel_rfl
end
end Eng
end
