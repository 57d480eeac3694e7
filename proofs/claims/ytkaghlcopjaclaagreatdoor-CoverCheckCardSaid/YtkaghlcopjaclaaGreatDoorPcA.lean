import Derived.Test.YtkaghlcopjaclaaGreatDoorPaF
import Derived.Test.YtkaghlcopjaclaaGreatDoorShfA
import Derived.Test.YtkaghlcopjaclaaGreatDoorPaG
import Derived.Test.YtkaghlcopjaclaaGreatDoorEngE
import Derived.Test.YtkaghlcopjaclaaGreatDoorPaA
import Derived.Shelf.Lays2
import Derived.Shelf.RegionOpenPlain
import Derived.WalkKit
import Derived.Deep.LoopGhost
import Derived.Deep.RegionLaw
import Derived.Lib.Walk
import Derived.Lib.SliceRun
import Derived.Shelf.Strings.Builder1
import Derived.KernelRfl
import Derived.LoopN
open Array renaming getElem?_toList->Dd, getElem?_push_size->F2, toList_append->Gv
open Bool renaming false_eq_true->Hu, true_and->Hv, not_eq_true'->Hx
open Classical renaming propDecidable->Hy
open Eng.BelowX renaming toBelow->I0, refl->I1
open Eng.Bx renaming ok->I2, y1->I3, y0->J3, x1->J4, x0->J5
open Eng.D renaming int->J7, bool->J8
open Eng.D.int renaming injEq->J9
open Eng.D.sl renaming injEq->Lm
open Go.Builtin renaming zeroCells->Lr, clear_->Ls
open Go.IntKind renaming wrap->Lv
open Go.Lib renaming IsBuilder->M0, decDigits->M1, byteCells->M2, BuilderAt->M3, strCells->No
open Go.Proofs renaming ltOf->Pl
open Go.Value renaming string->P1
open Go.World renaming size_alloc->Sz, ownsRow_nil->Ts, setCells->T1, shape?->U0, cell?->U3
open Int renaming ofNat_eq_natCast->V1, toNat_natCast->W0, toNat->aE, tmod->bk, ofNat_tmod->bm, natAbs_mul->bv, tdiv->bw
open List renaming getElem_mem->cb, take_succ_eq_append_getElem->cc, length_take->cf, mem_cons->cg, pairwise_iff_getElem->cp, mem_singleton->cr, take_length->cv, pairwise_cons->cH, length_append->cL, mem_of_mem_take->dc, not_mem_nil->dk, mem_append->dn, mem_flatMap->dv, mem_cons_of_mem->dy, length_cons->dA, eq_nil_of_length_eq_zero->ea, map_append->eb, mem_range'_1->eg, mem_of_mem_drop->el, mem_map->en, length_drop->er, all_eq_true->ez, getElem_of_mem->e0, flatMap_nil->e6, length_nil->eH, length_map->fg, append_nil->fl, length_pos_iff->ft, mem_cons_self->fw, getD_eq_getElem?_getD->fx, getElem?_append_left->fz, flatMap_cons->fR, flatten_append->fS, flatMap_append->gb, map_cons->gm, all_eq_false->gq, mem_range->gr, mem_or_eq_of_mem_set->gz, getElem?_eq_some_iff->h8, map_take->h9, map_nil->hE, take_append_drop->hM, range'->hQ, getElem?_take->hR, getElem?_drop->hU, size_toArray->hV, getElem?_map->hY, append_assoc->ia, map_drop->ib, map_map->ic
open List.cons renaming injEq->ie
open Nat renaming lt_or_ge->im, le_refl->it, le_of_ble_eq_true->iz, le_mul_of_pos_right->j0, pow_succ->kk, pow_le_pow_right->k0, le_trans->k5, mul_le_mul->k8, zero_add->k9, zero_le->lg, pow_pos->lh, le_succ->ll, mod_lt->lm, mul_le_mul_right->lp, mul_le_mul_left->lr, add_sub_cancel->ls, lt_of_succ_lt->lv, min_eq_left->l0, add_zero->l4
open Rat renaming divInt->l5, natCast_mul->lA, intCast_mul->lB, divInt_eq_div->ml, intCast_add->mm, lt_irrefl->ms, num->mv
set_option maxRecDepth 1000000
section
namespace Eng
open Go Go.Proofs Rl
def cS (x y:Rat):Int:=sr (x-y)
theorem Nd(x y:Rat):Pl cS x y=decide (x<y):=by unfold Pl;exact decide_eq_decide.2 srl
theorem swo_cS:Go.Sort.SWO (Pl cS) where
 irrefl x:=by rw[Nd];exact decide_eq_false ms
 trans x y z h1 h2:=by rw[Nd]at *;simp only[decide_eq_true_eq]at *;grind
 ntrans x y z h1 h2:=by rw[Nd]at *;simp only[decide_eq_false_iff_not]at *;grind
theorem nM(x y:Rat)(h1:Pl cS x y=false)(h2:Pl cS y x=false):x=y:=by
 rw[Nd]at *;simp only[decide_eq_false_iff_not]at *;grind
def Vf (rs:List Rat):List Rat:=It cS rs
theorem Qu(rs:List Rat):(Vf rs).Perm rs:=List.mergeSort_perm _ _
theorem TH(rs:List Rat):(Vf rs).Pairwise (λa b=>¬b<a):=by
 have h:=List.pairwise_mergeSort (le:=λx y=>!Pl cS y x) (λa b c h1 h2=>by
  simp only[Hx]at h1 h2 ⊢;exact swo_cS.ntrans _ _ _ h2 h1) (λa b=>by
  rw[Nd,Nd];by_cases h:b<a
  .have:¬a<b:=by grind
   simp[h,this]
  .simp[h]) rs
 refine h.imp λ{a b} h=>?_
 rw[Hx,Nd,decide_eq_false_iff_not]at h;exact h
theorem gP{rs:List Rat}(hne:rs≠[])(hr:∀y∈rs,Hz 50 y):XG CC 133 4 (xJ rs) [.c (.fn 65)] [] (xJ (Vf rs)):=
 ni (C:=CC) (ρ:=Tryz.sortRat_ren) Tryz.sortRat (by omega) Tryz.isAgg36 Tryz.sizeOf36 kR DN cS swo_cS nM (enters_of Tryz.func65 (by kernel_rfl) rfl) hne (λx hx y hy=>Rd (hr x hx) (hr y hy))
def cpt:List Rat->List Rat
 |[]=>[]
 |x::r=>match r with
  |[]=>[x]
  |y::_=>if x=y then cpt r else x::cpt r
theorem kI(x y:Rat)(r:List Rat):cpt (x::y::r)=if x=y then cpt (y::r)else x::cpt (y::r):=rfl
theorem Pf:∀(l:List Rat) (z y:Rat),cpt (l++[z]++[y])=if z=y then cpt (l++[z])else cpt (l++[z])++[y]
 |[],z,y=>by
  show cpt [z,y]=_;rw[kI];split
  .rename_i h;subst h;rfl
  .rfl
 |[x],z,y=>by
  show cpt [x,z,y]=if z=y then cpt [x,z]else cpt [x,z]++[y]
  rw[kI,kI,kI];split<;>split<;>simp_all[cpt]
 |x::w::l,z,y=>by
  have ih:=Pf (w::l) z y;show cpt (x::w::(l++[z]++[y]))=if z=y then cpt (x::w::(l++[z]))else cpt (x::w::(l++[z]))++[y]
  have ih:cpt (w::(l++[z]++[y]))=if z=y then cpt (w::(l++[z]))else cpt (w::(l++[z]))++[y]:=ih
  rw[kI,kI,ih];split<;>split<;>simp
theorem Hi:∀{l:List Rat} {x:Rat},x∈cpt l↔x∈l
 |[],x=>Iff.rfl
 |[y],x=>Iff.rfl
 |a::b::r,x=>by
  rw[kI];have ih:=Hi (l:=b::r) (x:=x);split
  .rename_i h;subst h;rw[ih];simp
  .rw[cg,ih,cg (a:=x) (b:=a)]
theorem nN{l:List Rat}(h:l≠[]):cpt l≠[]:=λe=>by
 cases l with
 |nil=>exact h rfl
 |cons x r=>have:x∈cpt (x::r):=Hi.2 (by simp);rw[e]at this;simp at this
theorem Y6:∀{l:List Rat},l.Pairwise (λa b=>¬b<a)->(cpt l).Pairwise (· < ·)
 |[],_=>List.Pairwise.nil
 |[y],_=>List.pairwise_singleton _ _
 |a::b::r,h=>by
  rw[kI];rw[cH]at h;have ih:=Y6 h.2;split
  .exact ih
  .rename_i hab;rw[cH];refine⟨λy hy=>?_,ih⟩;have hy:=Hi.1 hy;have h1:=h.1 y hy;rcases cg.1 hy with rfl|hy
   .grind
   .have h2:=h.1 b (by simp);have h3:=(cH.1 h.2).1 y hy
    grind
theorem E0:∀{l:List Rat},(cpt l).length<=l.length
 |[]=>it _
 |[y]=>it _
 |a::b::r=>by
  rw[kI];have ih:=E0 (l:=b::r);split
  .simp only[dA]at *;omega
  .simp only[dA]at *;omega
def qj (rs:List Rat):List Rat:=cpt (Vf rs)
theorem zQ(rs:List Rat):(qj rs).Pairwise (· < ·):=Y6 (TH rs)
theorem xK{rs:List Rat}{x:Rat}:x∈qj rs↔x∈rs:=by
 unfold qj;rw[Hi];exact(Qu rs).mem_iff
theorem kQ(rs:List Rat):(qj rs).length<=rs.length:=by
 have h1:=E0 (l:=Vf rs);have h2:=(Qu rs).length_eq;unfold qj;omega
theorem E1{c1:Ck1}{m1:Mk1}{sc:Ck2}{sm:Mk2}{c2:Ck2}{m2:Mk2}{tc:Ck2}{tm:Mk2}(h1:∀al,c1 al=true->m1 al≠[]/\wC CC 132 al none [] 4 (m1 al))(h2:∀es al,sc es al=true->es≠[]/\XG CC 133 4 es al [] (sm es al))(h3:∀es al,c2 es al=true->es≠[]/\wC CC 134 [] (some (4,es)) al 4 (m2 es al))(h4:∀es al,tc es al=true->es≠[]/\XG CC 78 4 es al [] (tm es al)):
 EffOk (CVx c1 m1 sc sm c2 m2 tc tm):=
 zY (Xj ⟨
  JK Tryz.func132 (by simp[Tryz.f132]) (by decide) λal h=>⟨(h1 al h).1,jr (C:=CC) rfl rfl (h1 al h).2⟩,
  N9 Tryz.func133 (by simp[Tryz.f133]) (by decide) λes al h=>⟨(h2 es al h).1,Ui (C:=CC) rfl rfl (h2 es al h).2⟩,
  Ga Tryz.func134 (by simp[Tryz.f134]) (by decide) λes al h=>⟨(h3 es al h).1,jr (C:=CC) rfl rfl (h3 es al h).2⟩,
  N9 Tryz.func78 (by simp[Tryz.f78]) (by decide) λes al h=>⟨(h4 es al h).1,Ui (C:=CC) rfl rfl (h4 es al h).2⟩,trivial⟩)
abbrev no1:Ck1:=λ_=>false
abbrev nm1:Mk1:=λ_=>[]
abbrev no2:Ck2:=λ_ _=>false
abbrev nm2:Mk2:=λ_ _=>[]
noncomputable abbrev CV0:Cx:=CVx no1 nm1 no2 nm2 no2 nm2 no2 nm2
instance:EffOk CV0:=E1 (λ_ h=>by simp at h) (λ_ _ h=>by simp at h) (λ_ _ h=>by simp at h) (λ_ _ h=>by simp at h)
theorem Xk{rs:List Rat}(h:rs≠[]):xJ rs≠[]:=λe=>h (by simpa [xJ]using e)
theorem IP{rs:List Rat}(hne:rs≠[])(hl:rs.length<=1073741824):wC CC 132 [.c (.sl (xJ rs))] none [] 4 (xJ rs):=by
 refine jr (C:=CV0) rfl rfl (KW (C:=CV0) (anns:=an0) mixedT Tryz.func132 ?_);rw[Iw];refine⟨?_,⟨?_,yY rs⟩,Xk hne,rfl,rfl⟩
 .rw[xq];exact ft.2 hne
 .unfold room;rw[xq];omega
theorem E2{rs:List Rat}{k:Nat}(h:k+1<rs.length):rs.take (k+2)=rs.take k++[rs[k]]++[rs[k+1]]:=by
 rw[cc h,cc (by omega:k<rs.length)]
theorem Hj{rs:List Rat}{k:Nat}(h:k<rs.length):rs.take (k+1)=rs.take k++[rs[k]]:=cc h
theorem Pg{rs:List Rat}{k:Nat}(h:k+1<rs.length):cpt (rs.take (k+2))=if rs[k]=rs[k+1]then cpt (rs.take (k+1))else cpt (rs.take (k+1))++[rs[k+1]]:=by
 rw[E2 h,Pf,Hj (by omega:k<rs.length)]
theorem upd4{row:List D}(h:row.length=4)(r:R4):zU row 0 (rk r [])=rk r []:=by
 match row,h with
 |[_,_,_,_],_=>rfl
theorem E3(rs:List Rat)(k:Nat):(xJ rs).take k=xJ (rs.take k):=by simp[xJ,h9]
theorem Se{rs:List Rat}(hne:rs≠[])(hr:∀y∈rs,Hz 50 y)(hl:rs.length<=1073741824):wC CC 134 [] (some (4,xJ rs)) [.c (.fn 135)] 4 (xJ (cpt rs)):=by
 refine jr (C:=CV0) rfl rfl (KW (C:=CV0) (anns:=Vl
  ⟨[.slot 5 (.int .i64 0),.own 0 73 4],[],λ_ ds=>∃k:Nat,1<=k/\k<=rs.length/\ds=[.int .i64 (k:Int),.sl (xJ rs)]/\cpt (rs.take k)=rs.take k,λds=>(rs.length-toI (nth .undef ds 0)).toNat⟩
  ⟨[.slot 7 (.int .i64 0),.slot 5 (.int .i64 0),.own 0 73 4],[.slot 5 (.int .i64 0)],λgs ds=>∃(k i j:Nat) (es:List (List D)),gs=[.int .i64 (k:Int)]/\ds=[.int .i64 (j:Int),.int .i64 (i:Int),.sl es]/\1<=j/\k+j<=rs.length/\i<k+j/\es.length=rs.length/\
    es.take i=xJ (cpt (rs.take (k+j)))/\(cpt (rs.take (k+j))).length=i/\(∀q (hq:q<rs.length),k+j<=q+1->nth [] es q=kR rs[q])/\(∀e∈es,e.length=4),λds=>(rs.length-toI (nth .undef ds 0)).toNat⟩) mixedT Tryz.func134 ?_)
 have ap:0<rs.length:=ft.2 hne;have a4:∀k (hk:k<rs.length),cut (nth [] (xJ rs) k) 0 4 (rk (q4 rs[k]) []):=λk hk=>by rw[Qt hk];exact⟨rfl,it 4⟩
 have a6:∀p q (hp:p<rs.length) (hq:q<rs.length),qa CV0 135 [.ag (rk (q4 rs[p]) []),.ag (rk (q4 rs[q]) [])] [.c (.bool (decide (rs[p]=rs[q])))]:=λp q hp hq=>zb (C:=CC) rfl rfl (gl (hr _ (cb hp)) (hr _ (cb hq)))
 rw[RT];simp only[V1,xq];refine brd (λh=>?_) (λh=>⟨⟨1,by omega,by omega,rfl,?_⟩,?_⟩)
 .have h1:rs.length=1:=by omega
  obtain⟨x,rfl⟩:=List.length_eq_one_iff.1 h1;exact⟨Xk hne,by trivial,rfl⟩
 .rw[Hj ap];rfl
 rintro n es ⟨k,hk1,hk,he,a9⟩;simp only[ie,J9,Lm,true_and,and_true]at he;obtain⟨rfl,rfl⟩:=he;simp only[xq];refine brd (λh2=>?_) (λh2=>?_)
 rotate_left
 .have:k=rs.length:=by omega
  subst this;rw[cv]at a9;exact⟨Xk hne,by trivial,by rw[a9]⟩
 obtain⟨m,rfl⟩:∃m,k=m+1:=⟨k-1,by omega⟩;have ag:m+1<rs.length:=by omega
 have hm:m<rs.length:=by omega
 have w1:Lv .i64 (((m+1:Nat):Int)-1)=(m:Int):=by rw[xF];omega
 have w2:Lv .i64 (((m+1:Nat):Int)+1)=((m+2:Nat):Int):=by rw[xF];omega
 rw[w1,w2,W0,W0,W0];have a7:=Pg ag;refine⟨⟨by omega,by omega⟩,_,a4 (m+1) ag,⟨by omega,by omega⟩,_,a4 m hm,_,a6 (m+1) m ag hm,xG (λh3=>?_) (λh3=>?_)⟩
 rotate_left
 .have h3:¬rs[m]=rs[m+1]:=λe=>(of_decide_eq_false h3) e.symm
  rw[if_neg h3,a9]at a7;refine⟨⟨m+2,by omega,by omega,rfl,?_⟩,by simp only[nth,toI];omega⟩;rw[a7,<-Hj ag]
 have h3:=(of_decide_eq_true h3).symm;rw[if_pos h3,a9]at a7;refine⟨⟨by omega,by omega,by omega⟩,⟨m+1,m+1,1,xJ rs,rfl,rfl,by omega,by omega,by omega,xq rs,?_,?_,λq hq _=>Qt hq,?_⟩,?_⟩
 .rw[E3,a7]
 .rw[a7,cf];omega
 .intro e he;simp only[xJ,en]at he;obtain⟨r,_,rfl⟩:=he;rfl
 rintro n1 n2 es ⟨k',i,j,es',hg,he,hj1,hkj,hi,a5,al,an,a3,h4⟩;simp only[ie,J9,Lm,true_and,and_true]at hg he;obtain⟨rfl,rfl,rfl⟩:=he;have hk':k'=m+1:=by omega
 subst hk';rw[a5,W0,W0,W0];have hnn:((rs.length-(m+1):Nat):Int)=(rs.length:Int)-(m+1):=by omega
 rw[hnn];refine brd (λh5=>?_) (λh5=>?_)
 .obtain⟨t,rfl⟩:∃t,j=t+1:=⟨j-1,by omega⟩;have b2:m+1+(t+1)<rs.length:=by omega
  have b1:m+1+t<rs.length:=by omega
  have w3:Lv .i64 (((t+1:Nat):Int)-1)=(t:Int):=by rw[xF];omega
  have w4:Lv .i64 (((t+1:Nat):Int)+1)=((t+1+1:Nat):Int):=by rw[xF];omega
  have w5:Lv .i64 ((i:Int)+1)=((i+1:Nat):Int):=by rw[xF];omega
  rw[w3,w4,w5,W0];have c1:cut (nth [] es (m+1+(t+1))) 0 4 (rk (q4 rs[m+1+(t+1)]) []):=by rw[a3 _ b2 (by omega)];exact⟨rfl,it 4⟩
  have c0:cut (nth [] es (m+1+t)) 0 4 (rk (q4 rs[m+1+t]) []):=by rw[a3 _ b1 (by omega)];exact⟨rfl,it 4⟩
  have a8:=Pg (rs:=rs) (k:=m+1+t) (by omega);refine⟨⟨by omega,by omega⟩,_,c1,⟨by omega,by omega⟩,_,c0,_,a6 _ _ b2 b1,brb (λh6=>?_) (λh6=>?_)⟩
  .have h6:¬rs[m+1+t]=rs[m+1+(t+1)]:=λe=>by
    have h7:decide (rs[m+1+(t+1)]=rs[m+1+t])=false:=by simpa using h6
    exact(of_decide_eq_false h7) e.symm
   have e1:cpt (rs.take (m+1+(t+1+1)))=cpt (rs.take (m+1+(t+1)))++[rs[m+1+(t+1)]]:=by have:=a8;rw[if_neg (show ¬rs[m+1+t]=rs[m+1+t+1]from h6)]at this;exact this
   have ad:i<es.length:=by omega
   have b3:(nth [] es i).length=4:=by rw[qm _ ad];exact h4 _ (cb ad)
   refine⟨⟨by omega,by omega⟩,_,c1,⟨by omega,by omega⟩,by omega,⟨m+1,i+1,t+1+1,_,rfl,rfl,by omega,by omega,by omega,?_,?_,?_,?_,?_⟩,by simp only[nth,toI];omega⟩
   .rw[qi];exact a5
   .rw[upd4 b3,e1,xx,cc (by simpa using ad),List.take_set_of_le (it i),al,List.getElem_set_self];simp only[xJ,eb,gm,hE];rfl
   .rw[e1,cL,an];rfl
   .intro q hq hqq;rw[qb _ _ _ (by omega:i≠q)];exact a3 q hq (by omega)
   .intro e he;rw[xx]at he;rcases gz he with he|he
    .exact h4 e he
    .rw[he,upd4 b3];rfl
  .have h6:rs[m+1+t]=rs[m+1+(t+1)]:=by
    have h7:decide (rs[m+1+(t+1)]=rs[m+1+t])=true:=by simpa using h6
    exact(of_decide_eq_true h7).symm
   have e1:cpt (rs.take (m+1+(t+1+1)))=cpt (rs.take (m+1+(t+1))):=by have:=a8;rw[if_pos (show rs[m+1+t]=rs[m+1+t+1]from h6)]at this;exact this
   refine⟨⟨m+1,i,t+1+1,es,rfl,rfl,by omega,by omega,by omega,a5,by rw[e1];exact al,by rw[e1];exact an,λq hq hqq=>a3 q hq (by omega),h4⟩,by simp only[nth,toI];omega⟩
 .have hjj:m+1+j=rs.length:=by omega
  rw[hjj,cv]at al an;have ad:i<=es.length:=by omega
  have e2:∀r:List (List D),(es.take i++r).take i=xJ (cpt rs):=λr=>by rw[List.take_append_of_le_length (by rw[cf];omega),List.take_take,Nat.min_self,al]
  refine⟨⟨by omega,by omega,by omega⟩,by omega,⟨by omega,?_⟩,?_,by trivial,e2 _⟩
  .simp only[cL,cf,List.length_replicate,er];omega
  .rw[e2];exact Xk (nN hne)
noncomputable def isA (al a:List A):Bool:= @decide (a=al) (Hy _)
theorem IQ{al a:List A}(h:isA al a=true):a=al:= @of_decide_eq_true _ (Hy _) h
theorem IR(al:List A):isA al al=true:= @decide_eq_true _ (Hy _) rfl
noncomputable def isE (fs:List (List D)) (al:List A) (es:List (List D)) (a:List A):Bool:= @decide (es=fs/\a=al) (Hy _)
theorem IS{fs es:List (List D)}{al a:List A}(h:isE fs al es a=true):es=fs/\a=al:= @of_decide_eq_true _ (Hy _) h
theorem IT(fs:List (List D))(al:List A):isE fs al fs al=true:= @decide_eq_true _ (Hy _) ⟨rfl,rfl⟩
theorem Kl{rs:List Rat}(hne:rs≠[])(hr:∀y∈rs,Hz 50 y)(hl:rs.length<=1073741824):qa CC 75 [.c (.sl (xJ rs))] [.c (.sl (xJ (qj rs)))]:=by
 have hs:∀y∈Vf rs,Hz 50 y:=λy hy=>hr y ((Qu rs).mem_iff.1 hy)
 have a3:=(Qu rs).length_eq;have a4:Vf rs≠[]:=λe=>by rw[e]at a3;exact hne (ea a3.symm)
 letI:EffOk (CVx (isA [.c (.sl (xJ rs))]) (λ_=>xJ rs) (isE (xJ rs) [.c (.fn 65)]) (λ_ _=>xJ (Vf rs)) (isE (xJ (Vf rs)) [.c (.fn 135)]) (λ_ _=>xJ (qj rs)) no2 nm2):=
  E1 (λal h=>by rw[IQ h];exact⟨Xk hne,IP hne hl⟩) (λes al h=>by obtain⟨rfl,rfl⟩:=IS h;exact⟨Xk hne,gP hne hr⟩)
   (λes al h=>by obtain⟨rfl,rfl⟩:=IS h;exact⟨Xk a4,Se a4 hs (by omega)⟩) (λ_ _ h=>by simp at h)
 refine zb (C:=CVx (isA [.c (.sl (xJ rs))]) (λ_=>xJ rs) (isE (xJ rs) [.c (.fn 65)]) (λ_ _=>xJ (Vf rs)) (isE (xJ (Vf rs)) [.c (.fn 135)]) (λ_ _=>xJ (qj rs)) no2 nm2) rfl rfl
  (qo (anns:=an0) mixedT Tryz.func75 ?_)
 rw[RR];exact⟨IR _,IT _ _,IT _ _,rfl⟩
end Eng
end
section
namespace Eng
open Go Go.Proofs Rl
set_option maxRecDepth 100000
abbrev SB:={s:St4//s.b<2147483648}
instance:Inhabited SB:=⟨⟨⟨0,0,0,0⟩,by decide⟩⟩
def SB.row (k:SB):List D:=k.1.cs
def SB.enc (k:SB):List Value:=[.int .i64 (k.1.a:Int),.int .i64 (k.1.b:Int),.int .i64 (k.1.c:Int),.int .i64 (k.1.d:Int)]
def cfS (x y:SB):Int:=(x.1.b:Int)-(y.1.b:Int)
theorem Ph(x y:SB):Pl cfS x y=decide (x.1.b<y.1.b):=by
 unfold Pl cfS;rw[decide_eq_decide];omega
theorem Vg:Go.Sort.SWO (Pl cfS) where
 irrefl x:=by rw[Ph];simp
 trans x y z h1 h2:=by rw[Ph]at *;simp only[decide_eq_true_eq]at *;omega
 ntrans x y z h1 h2:=by rw[Ph]at *;simp only[decide_eq_false_iff_not]at *;omega
theorem gQ(k:SB)(w:World)(F:Nat->Prop)(vs:List Value)(h:All2 (CD w F) k.row vs):vs=k.enc:=by
 match vs,h with
 |[v1,v2,v3,v4],h=>
  obtain⟨a1,a2,a3,a4,_⟩:=h;have e:∀(n:Int) (v:Value),CD w F (.int .i64 n) v->v= .int .i64 n:=λn v h=>by cases h;rfl
  unfold SB.enc;rw[e _ _ a1,e _ _ a2,e _ _ a3,e _ _ a4]
theorem IU(k:SB)(w:World)(F:Nat->Prop):All2 (CD w F) k.row k.enc:=⟨.int _ _,.int _ _,.int _ _,.int _ _,trivial⟩
def JC (ks:List SB):List SB:=bS cfS ks
theorem gR(ks:List SB):XG CC 78 4 (ks.map SB.row) [.c (.fn 79)] [] ((JC ks).map SB.row):=
 RP (C:=CC) (ρ:=Tryz.sortStrip_ren) Tryz.sortStrip (by omega) Tryz.isAgg130 Tryz.sizeOf130 SB.row SB.enc (λ_=>rfl) (λ_=>rfl) (λk v hv=>by
  simp only[SB.enc,cg,dk,or_false]at hv;rcases hv with rfl|rfl|rfl|rfl<;>rfl) gQ IU cfS Vg (enters_of Tryz.func79 (by kernel_rfl) rfl) (λx y=>gk x.1 y.1 x.2 y.2)
def zi (b:Bx) (l:List Bx):List Rat:=[b.x0,b.x1]++l.flatMap λx=>[x.x0,x.x1]
def zj (b:Bx) (l:List Bx):List Rat:=[b.y0,b.y1]++l.flatMap λx=>[x.y0,x.y1]
def Sf (s:St4):SB:=if h:s.b<2147483648 then⟨s,h⟩else default
def vG (x:Nat) (top:Nat) (s:SB):Nat:=if s.1.a<=x then if x<s.1.c then if s.1.b<=top then if top<s.1.d then s.1.d else top else top else top else top
def kJ (x top:Nat) (σ:List SB):Nat:=σ.foldl (vG x) top
def zw (b:Bx) (l:List Bx):Bool:=
 let xs:=qj (zi b l)
 let ys:=qj (zj b l)
 let t:=zo xs ys b
 let σ:=JC (l.map λx=>Sf (zo xs ys x))
 (hQ t.a (t.c-t.a)).all λx=>decide (t.d<=kJ x t.b σ)
theorem Y7(rs:List Rat)(x:Rat):rnk rs x<=rs.length:=List.findIdx_le_length
theorem Km(b:Bx)(l:List Bx):(zi b l).length=2+2*l.length/\(zj b l).length=2+2*l.length:=by
 unfold zi zj;simp only[cL,dA,eH,List.length_flatMap];have:∀l:List Bx,(l.map λ_=>2).sum=2*l.length:=λl=>by
  induction l with
  |nil=>rfl
  |cons x l ih=>simp only[gm,List.sum_cons,ih,dA];omega
 simp[this]
theorem Sg(x top:Nat)(σ:List SB)(s:SB):kJ x top (σ++[s])=vG x (kJ x top σ) s:=by simp[kJ]
theorem TI{α β:Type}(f:α->List β){l:List α}{k:Nat}(h:k<l.length):(l.take (k+1)).flatMap f=(l.take k).flatMap f++f l[k]:=by
 rw[cc h,gb];show _++(f l[k]++[])=_;rw[fl]
theorem Pi(a b:List Rat):xJ (a++b)=xJ a++xJ b:=by simp[xJ]
theorem E4(b:Bx){l:List Bx}{k:Nat}(h:k<l.length):zi b (l.take (k+1))=zi b (l.take k)++[l[k].x0,l[k].x1]:=by
 unfold zi;rw[TI _ h,ia]
theorem E5(b:Bx){l:List Bx}{k:Nat}(h:k<l.length):zj b (l.take (k+1))=zj b (l.take k)++[l[k].y0,l[k].y1]:=by
 unfold zj;rw[TI _ h,ia]
theorem Pj(x y:Rat):lens 4 [kR x,kR y]:=λe he=>by
 simp only[cg,dk,or_false]at he;rcases he with rfl|rfl<;>rfl
theorem Sh(s:St4):lens 4 [s.cs]:=λe he=>by
 simp only[cg,dk,or_false]at he;rw[he];rfl
theorem IV{s:St4}(h:s.b<2147483648):(Sf s).row=s.cs:=by unfold Sf;rw[dif_pos h];rfl
theorem wY(l:List Bx):(kBs l).length=l.length:=wG ..
theorem IW{B:Bx}{L:List Bx}(sb:HB 50 B)(hbx:∀x∈L,HB 50 x)(hLn:L.length<=1000)(hLne:L≠[]):
 qa CC 34 [.ag (kB B []),.c (.sl (kBs L))] [.c (.bool (B.ok&&(L.all I2&&zw B L)))]:=by
 have g46:=vC sb;have b4:=OT (l:=L) (by omega) hbx;by_cases hall:B.ok=true/\L.all I2=true
 rotate_left
 ·--an invalid box
  have hv:=OY (qa CC) (λ_ _=>False) (λ_=>0) (λ_ _=>False) (λ_=>0) (λ_ _=>False) (λ_=>0) (λ_ _=>False) (λ_=>0) no1 nm1 no2 nm2 no2 nm2 no2 nm2 (q4 B.x0) (q4 B.y0) (q4 B.x1) (q4 B.y1) (kBs L) (· =[.c (.bool (B.ok&&(L.all I2&&zw B L)))]);refine zb (C:=CV0) rfl rfl (qo (C:=CV0) mixedT Tryz.func34 (hv.mpr ?_));clear hv;refine⟨_,g46,brb (λh=>?_) (λh=>brd (λh2=>?_) (λ_=>⟨_,b4,xG (λh2=>?_) (λh2=>?_)⟩))⟩
  .have:B.ok=false:=by simpa using h
   rw[this];rfl
  .rw[wY]at h2;exact absurd h2 (by simp only[V1];omega)
  .have:L.all I2=false:=by simpa using h2
   rw[this];simp
  .have h3:B.ok=true:=by simpa using h
   have h4:L.all I2=true:=by simpa using h2
   exact absurd ⟨h3,h4⟩ hall
 obtain⟨b8,bb⟩:=hall;rw[b8]at g46;rw[bb]at b4;rw[b8,bb];simp only[Hv];have ag:∀y∈zi B L,Hz 50 y:=λy hy=>by
  simp only[zi,dn,cg,dk,or_false,dv]at hy;rcases hy with(rfl|rfl)|⟨x,hx,rfl|rfl⟩
  .exact sb.1
  .exact sb.2.2.1
  .exact(hbx x hx).1
  .exact(hbx x hx).2.2.1
 have ap:∀y∈zj B L,Hz 50 y:=λy hy=>by
  simp only[zj,dn,cg,dk,or_false,dv]at hy;rcases hy with(rfl|rfl)|⟨x,hx,rfl|rfl⟩
  .exact sb.2.1
  .exact sb.2.2.2
  .exact(hbx x hx).2.1
  .exact(hbx x hx).2.2.2
 obtain⟨lx,ly⟩:=Km B L;have r1:qa CC 75 [.c (.sl (xJ (zi B L)))] [.c (.sl (xJ (qj (zi B L))))]:=Kl (by simp[zi]) ag (by omega);have r2:qa CC 75 [.c (.sl (xJ (zj B L)))] [.c (.sl (xJ (qj (zj B L))))]:=Kl (by simp[zj]) ap (by omega);have px:=kQ (zi B L);have py:=kQ (zj B L);have mx:∀y∈qj (zi B L),Hz 50 y:=λy hy=>ag y (xK.1 hy)
 have my:∀y∈qj (zj B L),Hz 50 y:=λy hy=>ap y (xK.1 hy)
 have sx:=zQ (zi B L);have sy:=zQ (zj B L);have b9:∀x:Bx,HB 50 x->qa CC 76 [.ag (kB x []),.c (.ptr [.sl (xJ (qj (zi B L)))]),.c (.ptr [.sl (xJ (qj (zj B L)))])] [.ag (zo (qj (zi B L)) (qj (zj B L)) x).cs]:=
  λx hx=>DP hx sx sy mx my (by omega) (by omega)
 have a7:∀x:Bx,(zo (qj (zi B L)) (qj (zj B L)) x).b<2147483648/\(zo (qj (zi B L)) (qj (zj B L)) x).d<2147483648/\(zo (qj (zi B L)) (qj (zj B L)) x).a<2147483648/\(zo (qj (zi B L)) (qj (zj B L)) x).c<2147483648:=λx=>by have a1:=Y7 (qj (zj B L)) x.y0;have a2:=Y7 (qj (zj B L)) x.y1;have a3:=Y7 (qj (zi B L)) x.x0;have a4:=Y7 (qj (zi B L)) x.x1;simp only[zo];omega
 have a8:zw B L=((hQ (zo (qj (zi B L)) (qj (zj B L)) B).a ((zo (qj (zi B L)) (qj (zj B L)) B).c-(zo (qj (zi B L)) (qj (zj B L)) B).a)).all λx=>
  decide ((zo (qj (zi B L)) (qj (zj B L)) B).d<=kJ x (zo (qj (zi B L)) (qj (zj B L)) B).b (JC (L.map λx=>Sf (zo (qj (zi B L)) (qj (zj B L)) x))))):=rfl
 have a9:∀m:Nat,(((L.take m).map (zo (qj (zi B L)) (qj (zj B L)))).map St4.cs)=((L.take m).map λx=>Sf (zo (qj (zi B L)) (qj (zj B L)) x)).map SB.row:=λm=>by
  rw[ic,ic];refine List.map_congr_left λx _=>?_
  exact(IV (a7 x).1).symm
 generalize hstr:zo (qj (zi B L)) (qj (zj B L))=S at *;generalize hks:(L.map λx=>Sf (S x))=ks at *;have ba:ks.length=L.length:=by rw[<-hks];simp
 have b7:ks≠[]:=λe=>by rw[e]at ba;exact hLne (ea ba.symm)
 have hsl:(JC ks).length=L.length:=by have:=(Eng.DY Vg ks).1.length_eq;unfold JC;omega
 have hfl:∀s∈JC ks,s.1.a<2147483648/\s.1.c<2147483648/\s.1.d<2147483648:=λs hs=>by have h1:s∈ks:=(Eng.DY Vg ks).1.mem_iff.1 hs;rw[<-hks]at h1;simp only[en]at h1;obtain⟨x,_,rfl⟩:=h1;unfold Sf;rw[dif_pos (a7 x).1];exact⟨(a7 x).2.2.1,(a7 x).2.2.2,(a7 x).2.1⟩
 have hsw:∀x m,kJ x (S B).b ((JC ks).take m)<2147483648:=λx m=>by
  have key:∀(σ:List SB) (b3:Nat),(∀s∈σ,s.1.d<2147483648)->b3<2147483648->kJ x b3 σ<2147483648:=by
   intro σ
   induction σ with
   |nil=>intro b3 _ h;exact h
   |cons s σ ih=>
    intro b3 hs ht;refine ih _ (λt ht'=>hs t (by simp[ht'])) ?_;unfold vG;have:=hs s (by simp)
    repeat' split
    all_goals omega
  exact key _ _ (λs hs=>(hfl s (dc hs)).2.2) (a7 B).1
 generalize hσ:JC ks=σ at *;obtain⟨bB1,bB2,bB3,bB4⟩:=a7 B
 letI:EffOk (CVx no1 nm1 no2 nm2 no2 nm2 (isE (ks.map SB.row) [.c (.fn 79)]) (λ_ _=>σ.map SB.row)):=
  E1 (λ_ h=>by simp at h) (λ_ _ h=>by simp at h) (λ_ _ h=>by simp at h) λes al h=>by obtain⟨rfl,rfl⟩:=IS h;rw[<-hσ];exact⟨λe=>b7 (by simpa using e),gR ks⟩
 have hv:=OY (qa CC) (λ_ ds=>∃k:Nat,k<=L.length/\ds=[.int .i64 (k:Int),.sl (xJ (zi B (L.take k))),.sl (xJ (zj B (L.take k)))]) (λds=>(L.length-toI (nth .undef ds 0)).toNat)
  (λ_ ds=>∃k:Nat,k<=L.length/\ds=[.int .i64 (k:Int),.sl (((L.take k).map S).map St4.cs)]) (λds=>(L.length-toI (nth .undef ds 0)).toNat)
  (λ_ ds=>∃x:Nat,(S B).a<=x/\(x<=(S B).c\/x=(S B).a)/\ds=[.int .i64 (x:Int)]/\∀x',(S B).a<=x'->x'<x->(S B).d<=kJ x' (S B).b σ) (λds=>((S B).c-toI (nth .undef ds 0)).toNat)
  (λgs ds=>∃x m:Nat,m<=σ.length/\gs=[.int .i64 (x:Int)]/\ds=[.int .i64 (kJ x (S B).b (σ.take m):Int),.int .i64 (m:Int)]) (λds=>(σ.length-toI (nth .undef ds 1)).toNat)
  no1 nm1 no2 nm2 no2 nm2 (isE (ks.map SB.row) [.c (.fn 79)]) (λ_ _=>σ.map SB.row) (q4 B.x0) (q4 B.y0) (q4 B.x1) (q4 B.y1) (kBs L) (· =[.c (.bool (zw B L))])
 refine zb (C:=CVx no1 nm1 no2 nm2 no2 nm2 (isE (ks.map SB.row) [.c (.fn 79)]) (λ_ _=>σ.map SB.row)) rfl rfl (qo mixedT Tryz.func34 (hv.mpr ?_));clear hv;simp only[V1,wY];refine⟨_,g46,brb (λh=>by simp at h) (λ_=>brd (λh2=>absurd h2 (by omega)) (λ_=>⟨_,b4,xG (λh2=>by simp at h2) (λ_=>⟨⟨0,by omega,rfl⟩,?_⟩)⟩))⟩;rintro n es1 es2 ⟨k,hk,he⟩;simp only[ie,J9,Lm,true_and,and_true]at he;obtain⟨rfl,rfl,rfl⟩:=he;refine brd (λh=>?_) (λh=>?_)
 .have a5:k<L.length:=by omega
  have hw:Lv .i64 ((k:Int)+1)=((k+1:Nat):Int):=by rw[xF];omega
  rw[hw];obtain⟨q1,q2⟩:=Km B (L.take k);rw[cf]at q1 q2;refine⟨by rw[<-wY L];exact yn kw a5,_,_,_,_,wH kw a5,⟨?_,Pj L[k].x0 L[k].x1⟩,⟨?_,Pj L[k].y0 L[k].y1⟩,⟨k+1,by omega,?_⟩,by simp only[nth,toI];omega⟩
  .unfold room;rw[xq];omega
  .unfold room;rw[xq];omega
  .rw[E4 B a5,E5 B a5,Pi,Pi];rfl
 have b6:k=L.length:=by omega
 subst b6;rw[cv];have c0:=b9 B sb;refine⟨_,r1,_,r2,_,_,_,_,c0,⟨0,by omega,rfl⟩,?_⟩;rintro n4 es5 ⟨k,hk,he⟩;simp only[ie,J9,Lm,true_and,and_true]at he;obtain⟨rfl,rfl⟩:=he;refine brd (λh=>?_) (λh=>?_)
 .have a5:k<L.length:=by omega
  have hw:Lv .i64 ((k:Int)+1)=((k+1:Nat):Int):=by rw[xF];omega
  rw[hw];refine⟨by rw[<-wY L];exact yn kw a5,_,_,_,_,wH kw a5,_,_,_,_,b9 L[k] (hbx _ (cb a5)),⟨?_,Sh (S L[k])⟩,⟨k+1,by omega,?_⟩,by simp only[nth,toI];omega⟩
  .unfold room;simp only[fg,cf];omega
  .rw[cc a5];simp only[eb,gm,hE];rfl
 have b6:k=L.length:=by omega
 subst b6;have bc:=a9 L.length;rw[cv,hks]at bc;rw[cv,bc];simp only[fg];refine⟨IT _ _,⟨(S B).a,it _,.inr rfl,rfl,by omega⟩,?_⟩;rintro n ⟨x,hx1,hx2,he,a6⟩;simp only[ie,J9,true_and,and_true]at he;subst he;refine brd (λh=>?_) (λh=>?_)
 rotate_left
 .have b5:zw B L=true:=by rw[a8,ez];intro x' bd;rw[eg]at bd;exact decide_eq_true (a6 x' bd.1 (by omega))
  rw[b5]
 have hxc:x<(S B).c:=by omega
 refine⟨⟨x,0,by omega,rfl,rfl⟩,?_⟩;rintro n5 n6 ⟨x',m,hm,hg,he⟩;simp only[ie,J9,true_and,and_true]at hg he;obtain⟨rfl,rfl⟩:=he;have hxx:x'=x:=by omega
 subst hxx;refine brd (λh2=>?_) (λh2=>?_)
 .have b2:m<σ.length:=by omega
  have hw:Lv .i64 ((m:Int)+1)=((m+1:Nat):Int):=by rw[xF];omega
  rw[hw,W0,qm [] (by simpa using b2),List.getElem_map];have ad:=Sg x' (S B).b (σ.take m) σ[m];rw[<-cc b2]at ad;have hSt:σ[m].row=[.int .i64 (σ[m].1.a:Int),.int .i64 (σ[m].1.b:Int),.int .i64 (σ[m].1.c:Int),.int .i64 (σ[m].1.d:Int)]:=rfl;generalize hT:kJ x' (S B).b (σ.take m)=T at *;generalize hs:σ[m]=s at *;have b1:∀t:Int,t=(kJ x' (S B).b (σ.take (m+1)):Int)->((∃x m_1:Nat,m_1<=σ.length/\[J7 .i64 (x':Int)]=[.int .i64 (x:Int)]/\[J7 .i64 t,J7 .i64 ((m+1:Nat):Int)]=[.int .i64 (kJ x (S B).b (σ.take m_1):Int),.int .i64 (m_1:Int)])/\
   (σ.length-toI (nth .undef [J7 .i64 t,J7 .i64 ((m+1:Nat):Int)] 1)).toNat<(σ.length-toI (nth .undef [J7 .i64 (T:Int),J7 .i64 (m:Int)] 1)).toNat):=by
   intro t ht;exact⟨⟨x',m+1,by omega,rfl,by rw[ht]⟩,by simp only[nth,toI];omega⟩
  refine⟨⟨by omega,by omega⟩,_,_,_,_,(⟨rfl,it 4⟩:cut s.row 0 4 s.row),brd (λh3=>brd (λh4=>brd (λh5=>b1 _ ?_) (λh5=>b1 _ ?_)) (λh4=>b1 _ ?_)) (λh3=>b1 _ ?_)⟩
  .rw[ad];unfold vG;rw[if_pos (by omega),if_pos (by omega),if_pos (by omega)];by_cases h6:T<s.1.d
   .rw[if_pos h6];have h7:decide ((T:Int)<(s.1.d:Int))=true:=decide_eq_true (by omega);simp only[h7]
   .rw[if_neg h6];have h7:decide ((T:Int)<(s.1.d:Int))=false:=decide_eq_false (by omega);simp only[h7]
  .rw[ad];unfold vG;rw[if_pos (by omega),if_pos (by omega),if_neg (by omega)]
  .rw[ad];unfold vG;rw[if_pos (by omega),if_neg (by omega)]
  .rw[ad];unfold vG;rw[if_neg (by omega)]
 .have b2:m=σ.length:=by omega
  subst b2;rw[cv];have hw:Lv .i64 ((x':Int)+1)=((x'+1:Nat):Int):=by rw[xF];omega
  rw[hw];refine brd (λh3=>?_) (λh3=>⟨⟨x'+1,by omega,.inl (by omega),rfl,λx'' h4 h5=>?_⟩,by simp only[nth,toI];omega⟩)
  .have b5:zw B L=false:=by rw[a8,gq];exact⟨x',by rw[eg];omega,by simp only[decide_eq_true_eq];omega⟩
   rw[b5]
  .rcases im x'' x' with h6|h6
   .exact a6 x'' h4 h6
   .have:x''=x':=by omega
    subst this;omega
end Eng
end
section
namespace Eng
open Go Go.Proofs
set_option maxRecDepth 100000
def inB (b:Bx) (x y:Rat):Prop:=b.x0<=x/\x<=b.x1/\b.y0<=y/\y<=b.y1
def Cov (b:Bx) (l:List Bx):Prop:=∀x y,inB b x y->∃c∈l,inB c x y
theorem IX(x top:Nat)(s:SB):top<=vG x top s:=by
 unfold vG;repeat' split
 all_goals omega
theorem Hk(x:Nat):∀(σ:List SB) (top:Nat),top<=kJ x top σ
 |[],_=>it _
 |s::σ,top=>k5 (IX x top s) (Hk x σ _)
theorem Jg(x top:Nat)(s:SB)(σ:List SB):kJ x top (s::σ)=kJ x (vG x top s) σ:=rfl
theorem TJ(x:Nat):∀(σ:List SB) (top y:Nat),top<=y->y<kJ x top σ->∃s∈σ,s.1.a<=x/\x<s.1.c/\s.1.b<=y/\y<s.1.d
 |[],top,y,h1,h2=>by simp only[kJ,List.foldl_nil]at h2;omega
 |s::σ,top,y,h1,h2=>by
  rw[Jg]at h2;rcases im y (vG x top s)with h3|h3
  .refine⟨s,by simp,?_⟩;unfold vG at h3;split at h3
   .split at h3
    .split at h3
     .split at h3
      .exact⟨by assumption,by assumption,by omega,h3⟩
      .omega
     .omega
    .omega
   .omega
  .obtain⟨t,ht,h4⟩:=TJ x σ _ y h3 h2;exact⟨t,by simp[ht],h4⟩
theorem Y8(x:Nat):∀(σ:List SB) (top:Nat),σ.Pairwise (λs t=>¬t.1.b<s.1.b)->¬∃s∈σ,s.1.a<=x/\x<s.1.c/\s.1.b<=kJ x top σ/\kJ x top σ<s.1.d
 |[],_,_=>by simp
 |s::σ,top,hp=>by
  rw[cH]at hp;rw[Jg];rintro⟨t,ht,h1,h2,h3,h4⟩;rcases cg.1 ht with rfl|ht
  ·--s itself
   by_cases hb:t.1.b<=top
   .have:t.1.d<=vG x top t:=by unfold vG;rw[if_pos h1,if_pos h2,if_pos hb];split<;>omega
    have:=Hk x σ (vG x top t);omega
   .have e:vG x top t=top:=by unfold vG;rw[if_pos h1,if_pos h2,if_neg hb]
    have key:∀(σ:List SB),(∀u∈σ,¬u.1.b<t.1.b)->kJ x top σ=top:=by
     intro σ
     induction σ with
     |nil=>intro _;rfl
     |cons u σ ih=>
      intro hu;have hub:=hu u (by simp);have:vG x top u=top:=by
       unfold vG;split
       .split
        .rw[if_neg (by omega)]
        .rfl
       .rfl
      rw[Jg,this];exact ih λv hv=>hu v (by simp[hv])
    rw[e,key σ λu hu=>hp.1 u hu]at h3;omega
  .exact Y8 x σ _ hp.2 ⟨t,ht,h1,h2,h3,h4⟩
theorem TK{x tb td:Nat}{σ:List SB}(hp:σ.Pairwise (λs t=>¬t.1.b<s.1.b)):td<=kJ x tb σ↔∀y,tb<=y->y<td->∃s∈σ,s.1.a<=x/\x<s.1.c/\s.1.b<=y/\y<s.1.d:=by
 constructor
 .intro h y h1 h2;exact TJ x σ tb y h1 (by omega)
 .intro h;rcases im (kJ x tb σ) td with h1|h1
  .obtain⟨s,hs,h2,h3,h4,h5⟩:=h _ (Hk x σ tb) h1;exact absurd ⟨s,hs,h2,h3,h4,h5⟩ (Y8 x σ tb hp)
  .exact h1
theorem E6{rs:List Rat}{x:Rat}{k:Nat}(hk:k<rs.length)(h:k<rnk rs x):rs[k]<x:=by
 have:=List.not_of_lt_findIdx (xs:=rs) (p:=λy=>!decide (y<x)) h
 simpa using this
theorem ca{rs:List Rat}{x:Rat}(hs:rs.Pairwise (· < ·)){k:Nat}(hk:k<rs.length)(h:rnk rs x<=k):¬rs[k]<x:=by
 have hr:rnk rs x<rs.length:=by omega
 have h1:¬rs[rnk rs x]<x:=by have:=List.findIdx_getElem (xs:=rs) (p:=λy=>!decide (y<x)) (w:=hr);have this:(!decide (rs[rnk rs x]<x))=true:=this;rw[Hx,decide_eq_false_iff_not]at this;exact this
 rcases im (rnk rs x) k with h2|h2
 .have:=cp.1 hs _ k hr hk h2
  grind
 .have:rnk rs x=k:=by omega
  simp only[this]at h1;exact h1
theorem Vh{rs:List Rat}{x:Rat}(hs:rs.Pairwise (· < ·))(hx:x∈rs):∃h:rnk rs x<rs.length,rs[rnk rs x]=x:=by
 obtain⟨k,hk,rfl⟩:=e0 hx;have:rnk rs rs[k]=k:=by
  refine bQ (by omega) (λj hj hjk=>cp.1 hs j k hj hk hjk) λ_=>?_
  exact ms
 refine⟨by omega,?_⟩;simp only[this]
theorem Kn{rs:List Rat}(hs:rs.Pairwise (· < ·)){i j:Nat}(hi:i<rs.length)(hj:j<rs.length)(h:i<=j):rs[i]<=rs[j]:=by
 rcases im i j with h1|h1
 .have:=cp.1 hs i j hi hj h1
  grind
 .have:i=j:=by omega
  subst this;exact Rat.le_refl
theorem ce{rs:List Rat}(hs:rs.Pairwise (· < ·)){lo hi p:Rat}(hlo:lo∈rs)(hhi:hi∈rs)(hlt:lo<hi)(h1:lo<=p)(h2:p<=hi):
 ∃i,rnk rs lo<=i/\i<rnk rs hi/\∃h:i+1<rs.length,rs[i]<=p/\p<=rs[i+1]:=by
 obtain⟨a1,a2⟩:=Vh hs hlo;obtain⟨b1,b2⟩:=Vh hs hhi;have hab:rnk rs lo<rnk rs hi:=by
  rcases im (rnk rs lo) (rnk rs hi)with h|h
  .exact h
  .have:=Kn hs b1 a1 h
   grind
 have hk:rnk rs p<=rnk rs hi:=by
  rcases im (rnk rs hi) (rnk rs p)with h|h
  .have:=E6 b1 h
   grind
  .exact h
 rcases im (rnk rs lo) (rnk rs p)with h|h
 .refine⟨rnk rs p-1,by omega,by omega,by omega,?_,?_⟩
  .have:=E6 (rs:=rs) (x:=p) (k:=rnk rs p-1) (by omega) (by omega)
   grind
  .have:=ca hs (x:=p) (k:=rnk rs p-1+1) (by omega) (by omega)
   grind
 .refine⟨rnk rs lo,it _,hab,by omega,by rw[a2];exact h1,?_⟩;have:=ca hs (x:=p) (k:=rnk rs lo+1) (by omega) (by omega)
  grind
theorem E7{a b:Rat}(h:a<b):a<(a+b)*(1/2)/\(a+b)*(1/2)<b:=by
 constructor<;>grind
theorem kt{rs:List Rat}(hs:rs.Pairwise (· < ·)){c:Rat}(hc:c∈rs){i:Nat}(hi:i+1<rs.length):(rnk rs c<=i↔c<=rs[i])/\(i<rnk rs c↔rs[i+1]<=c):=by
 obtain⟨a1,a2⟩:=Vh hs hc;constructor
 .constructor
  .intro h;have:=Kn hs a1 (by omega:i<rs.length) h;rw[a2]at this;exact this
  .intro h;rcases im i (rnk rs c)with h1|h1
   .have:=E6 (rs:=rs) (x:=c) (by omega:i<rs.length) h1
    grind
   .exact h1
 .constructor
  .intro h;have:=Kn hs hi a1 h;rw[a2]at this;exact this
  .intro h;rcases im i (rnk rs c)with h1|h1
   .exact h1
   .have h2:=Kn hs a1 (by omega:i<rs.length) h1;have h3:=cp.1 hs i (i+1) (by omega) hi (by omega);rw[a2]at h2
    grind
theorem Jh{b:Bx}{l:List Bx}(hb:b.x0<b.x1/\b.y0<b.y1)(hn:l.length<=1000):zw b l=true↔Cov b l:=by
 have sx:=zQ (zi b l);have sy:=zQ (zj b l);have px:=kQ (zi b l);have py:=kQ (zj b l);obtain⟨lx,ly⟩:=Km b l;have b2:b.x0∈qj (zi b l):=xK.2 (by simp[zi]);have a9:b.x1∈qj (zi b l):=xK.2 (by simp[zi]);have b3:b.y0∈qj (zj b l):=xK.2 (by simp[zj]);have ad:b.y1∈qj (zj b l):=xK.2 (by simp[zj]);have ag:∀c∈l,c.x0∈qj (zi b l):=λc hc=>xK.2 (by simp only[zi,dn,dv];exact .inr ⟨c,hc,by simp⟩)
 have al:∀c∈l,c.x1∈qj (zi b l):=λc hc=>xK.2 (by simp only[zi,dn,dv];exact .inr ⟨c,hc,by simp⟩)
 have an:∀c∈l,c.y0∈qj (zj b l):=λc hc=>xK.2 (by simp only[zj,dn,dv];exact .inr ⟨c,hc,by simp⟩)
 have ap:∀c∈l,c.y1∈qj (zj b l):=λc hc=>xK.2 (by simp only[zj,dn,dv];exact .inr ⟨c,hc,by simp⟩)
 have a4:zw b l=true↔∀i,rnk (qj (zi b l)) b.x0<=i->i<rnk (qj (zi b l)) b.x1->∀j,rnk (qj (zj b l)) b.y0<=j->j<rnk (qj (zj b l)) b.y1->
  ∃c∈l,rnk (qj (zi b l)) c.x0<=i/\i<rnk (qj (zi b l)) c.x1/\rnk (qj (zj b l)) c.y0<=j/\j<rnk (qj (zj b l)) c.y1:=by
  have hbd:∀c:Bx,(zo (qj (zi b l)) (qj (zj b l)) c).b<2147483648:=λc=>by have:=Y7 (qj (zj b l)) c.y0;simp only[zo];omega
  unfold zw;simp only;rw[ez];obtain⟨a3,hso⟩:=DY Vg (l.map λx=>Sf (zo (qj (zi b l)) (qj (zj b l)) x));have a6:(JC (l.map λx=>Sf (zo (qj (zi b l)) (qj (zj b l)) x))).Pairwise (λs t=>¬t.1.b<s.1.b):=hso.imp λ{s t} h=>by rw[Ph,decide_eq_false_iff_not]at h;exact h
  have a5:∀P:SB->Prop,(∃s∈JC (l.map λx=>Sf (zo (qj (zi b l)) (qj (zj b l)) x)),P s)↔∃c∈l,P (Sf (zo (qj (zi b l)) (qj (zj b l)) c)):=λP=>by
   constructor
   .rintro⟨s,hs,h⟩;have hs:=a3.mem_iff.1 hs;simp only[en]at hs;obtain⟨c,hc,rfl⟩:=hs;exact⟨c,hc,h⟩
   .rintro⟨c,hc,h⟩;exact⟨_,a3.mem_iff.2 (en.2 ⟨c,hc,rfl⟩),h⟩
  have b1:∀c:Bx,(Sf (zo (qj (zi b l)) (qj (zj b l)) c)).1=zo (qj (zi b l)) (qj (zj b l)) c:=λc=>by unfold Sf;rw[dif_pos (hbd c)]
  constructor
  .intro h i hi1 hi2 j a7 a8;have h1:=h i (eg.2 ⟨hi1,by simp only[zo];omega⟩);rw[decide_eq_true_eq,TK a6]at h1;have h2:=h1 j a7 a8;rw[a5]at h2;obtain⟨c,hc,h3⟩:=h2;rw[b1]at h3;exact⟨c,hc,h3⟩
  .intro h i hi;rw[eg]at hi;simp only[zo]at hi;rw[decide_eq_true_eq,TK a6];intro j a7 a8;obtain⟨c,hc,h3⟩:=h i hi.1 (by omega) j a7 a8;rw[a5];refine⟨c,hc,?_⟩;rw[b1];exact h3
 rw[a4];constructor
 .intro h x y hxy;obtain⟨h1,h2,h3,h4⟩:=hxy;obtain⟨i,i1,i2,i3,i4,i5⟩:=ce sx b2 a9 hb.1 h1 h2;obtain⟨j,j1,j2,j3,j4,j5⟩:=ce sy b3 ad hb.2 h3 h4;obtain⟨c,hc,k1,k2,k3,k4⟩:=h i i1 i2 j j1 j2;rw[(kt sx (ag c hc) i3).1]at k1;rw[(kt sx (al c hc) i3).2]at k2;rw[(kt sy (an c hc) j3).1]at k3;rw[(kt sy (ap c hc) j3).2]at k4;exact⟨c,hc,by grind,by grind,by grind,by grind⟩
 .intro h i i1 i2 j j1 j2;have i3:i+1<(qj (zi b l)).length:=by obtain⟨h1,_⟩:=Vh sx a9;omega
  have j3:j+1<(qj (zj b l)).length:=by obtain⟨h1,_⟩:=Vh sy ad;omega
  rw[(kt sx b2 i3).1]at i1;rw[(kt sx a9 i3).2]at i2;rw[(kt sy b3 j3).1]at j1;rw[(kt sy ad j3).2]at j2;have bx:=E7 (cp.1 sx i (i+1) (by omega) i3 (by omega));have by':=E7 (cp.1 sy j (j+1) (by omega) j3 (by omega))
  obtain⟨c,hc,k1,k2,k3,k4⟩:=h _ _ (⟨by grind,by grind,by grind,by grind⟩:inB b (((qj (zi b l))[i]+(qj (zi b l))[i+1])*(1/2)) (((qj (zj b l))[j]+(qj (zj b l))[j+1])*(1/2)));refine⟨c,hc,?_,?_,?_,?_⟩
  .rcases im i (rnk (qj (zi b l)) c.x0)with g|g
   .rw[(kt sx (ag c hc) i3).2]at g;grind
   .exact g
  .rcases im i (rnk (qj (zi b l)) c.x1)with g|g
   .exact g
   .have g:rnk (qj (zi b l)) c.x1<=i:=g;rw[(kt sx (al c hc) i3).1]at g;grind
  .rcases im j (rnk (qj (zj b l)) c.y0)with g|g
   .rw[(kt sy (an c hc) j3).2]at g;grind
   .exact g
  .rcases im j (rnk (qj (zj b l)) c.y1)with g|g
   .exact g
   .have g:rnk (qj (zj b l)) c.y1<=j:=g;rw[(kt sy (ap c hc) j3).1]at g;grind
end Eng
end
section
namespace Eng
open Go Go.Proofs
set_option maxRecDepth 100000
theorem gS:hlf+hlf=1:=by decide+kernel
theorem Hl{x y:Rat}(h:x<y):x<mdR x y/\mdR x y<y:=by
 have e:=gS;have e2:hlf=1/2:=by grind
 unfold mdR;rw[e2];constructor<;>grind
def Xl (a:Rat):List Rat->List Rat
 |[]=>[a]
 |x::r=>if x<a then x::Xl a r else if x=a then x::r else a::x::r
theorem Nf{a:Rat}:∀{rs:List Rat} {k:Nat},k<=rs.length->(∀j (hj:j<rs.length),j<k->rs[j]<a)->(∀hk:k<rs.length,¬rs[k]<a)->
 Xl a rs=if ∃hk:k<rs.length,rs[k]=a then rs else rs.take k++[a]++rs.drop k
 |[],k,hk,_,_=>by
  have:k=0:=by simpa using hk
  subst this;simp[Xl]
 |x::r,k,hk,h1,h2=>by
  cases k with
  |zero=>
   have h3:¬x<a:=h2 (by simp);unfold Xl;rw[if_neg h3];by_cases h4:x=a
   .rw[if_pos h4,if_pos ⟨by simp,h4⟩]
   .rw[if_neg h4,if_neg (λ⟨_,h⟩=>h4 h)];rfl
  |succ k=>
   have h3:x<a:=h1 0 (by simp) (by omega);have ih:=Nf (a:=a) (rs:=r) (k:=k) (by simpa using hk) (λj hj hjk=>h1 (j+1) (by simpa using hj) (by omega)) (λhk=>h2 (by simpa using hk));unfold Xl;rw[if_pos h3,ih];by_cases h4:∃hk:k<r.length,r[k]=a
   .have h5:∃hk:k+1<(x::r).length,(x::r)[k+1]=a:=by obtain⟨q1,q2⟩:=h4;exact⟨by simpa using q1,by simpa using q2⟩
    rw[if_pos h4,if_pos h5]
   .have h5:¬∃hk:k+1<(x::r).length,(x::r)[k+1]=a:=λ⟨q1,q2⟩=>h4 ⟨by simpa using q1,by simpa using q2⟩
    rw[if_neg h4,if_neg h5];rfl
instance inB_dec (b:Bx) (x y:Rat):Decidable (inB b x y):=by unfold inB;exact inferInstance
theorem xw{a y:Rat}:∀{rs:List Rat},y∈Xl a rs↔y=a\/y∈rs
 |[]=>by simp[Xl]
 |x::r=>by
  unfold Xl;split
  .simp only[cg,xw (rs:=r)];grind
  .split
   .rename_i h;subst h;simp
   .simp
theorem Xm{a:Rat}:∀{rs:List Rat},rs.Pairwise (· < ·)->(Xl a rs).Pairwise (· < ·)
 |[],_=>by simp[Xl]
 |x::r,h=>by
  rw[cH]at h;unfold Xl;split
  .rename_i hx;rw[cH];refine⟨λy hy=>?_,Xm h.2⟩;rcases xw.1 hy with rfl|hy
   .exact hx
   .exact h.1 y hy
  .split
   .rw[cH];exact h
   .rename_i h1 h2;have h3:a<x:=by grind
    rw[cH,cH];refine⟨λy hy=>?_,h⟩;rcases cg.1 hy with rfl|hy
    .exact h3
    .have:=h.1 y hy;grind
theorem Zw{a:Rat}:∀{rs:List Rat},rs.length<=(Xl a rs).length/\(Xl a rs).length<=rs.length+1
 |[]=>by simp[Xl]
 |x::r=>by
  unfold Xl;split
  .have:=Zw (a:=a) (rs:=r);simp only[dA];omega
  .split
   .simp
   .simp
def kj (lo hi:Rat) (f g:Bx->Rat) (l:List Bx):List Rat:=l.foldl (λxs c=>Xl (clR (g c) lo hi) (Xl (clR (f c) lo hi) xs)) [lo,hi]
theorem Xn(lo hi:Rat)(f g:Bx->Rat)(l:List Bx)(c:Bx):kj lo hi f g (l++[c])=Xl (clR (g c) lo hi) (Xl (clR (f c) lo hi) (kj lo hi f g l)):=by
 simp[kj]
theorem Qv{lo hi:Rat}(f g:Bx->Rat)(P:List Rat->List Bx->Prop)(h0:P [lo,hi] [])(hs:∀xs l c,P xs l->P (Xl (clR (g c) lo hi) (Xl (clR (f c) lo hi) xs)) (l++[c])):∀l,P (kj lo hi f g l) l:=by
 intro l;have key:∀(r a3:List Bx),P (kj lo hi f g a3) a3->P (kj lo hi f g (a3++r)) (a3++r):=by
  intro r
  induction r with
  |nil=>intro a3 hp;simpa using hp
  |cons c r ih=>
   intro a3 hp;have h1:=hs _ _ c hp;rw[<-Xn]at h1;have h2:=ih _ h1
   simpa using h2
 exact key l [] h0
theorem Zx{lo hi:Rat}(h:lo<hi)(f g:Bx->Rat)(l:List Bx):(kj lo hi f g l).Pairwise (· < ·):=
 Qv f g (λxs _=>xs.Pairwise (· < ·)) (by simpa using h) (λ_ _ _ hp=>Xm (Xm hp)) l
theorem kW{lo hi:Rat}(f g:Bx->Rat)(l:List Bx):2<=(kj lo hi f g l).length/\(kj lo hi f g l).length<=2+2*l.length:=
 Qv f g (λxs l=>2<=xs.length/\xs.length<=2+2*l.length) (by simp) (λxs l c hp=>by
  have h1:=Zw (a:=clR (f c) lo hi) (rs:=xs);have h2:=Zw (a:=clR (g c) lo hi) (rs:=Xl (clR (f c) lo hi) xs);rw[cL];simp only[dA,eH];omega) l
theorem cj{x lo hi:Rat}(h:lo<hi):lo<=clR x lo hi/\clR x lo hi<=hi:=by
 unfold clR;split
 .grind
 .split<;>grind
theorem Y9{lo hi:Rat}(h:lo<hi)(f g:Bx->Rat)(l:List Bx):(lo∈kj lo hi f g l/\hi∈kj lo hi f g l)/\(∀y∈kj lo hi f g l,lo<=y/\y<=hi)/\∀c∈l,clR (f c) lo hi∈kj lo hi f g l/\clR (g c) lo hi∈kj lo hi f g l:=
 Qv f g (λxs l=>(lo∈xs/\hi∈xs)/\(∀y∈xs,lo<=y/\y<=hi)/\∀c∈l,clR (f c) lo hi∈xs/\clR (g c) lo hi∈xs)
  ⟨by simp,by simp;grind,by simp⟩ (λxs l c ⟨⟨p1,p2⟩,p3,p4⟩=>by
   refine⟨⟨xw.2 (.inr (xw.2 (.inr p1))),xw.2 (.inr (xw.2 (.inr p2)))⟩,λy hy=>?_,λd hd=>?_⟩
   .rcases xw.1 hy with rfl|hy
    .exact cj h
    .rcases xw.1 hy with rfl|hy
     .exact cj h
     .exact p3 y hy
   .rcases dn.1 hd with hd|hd
    .obtain⟨q1,q2⟩:=p4 d hd;exact⟨xw.2 (.inr (xw.2 (.inr q1))),xw.2 (.inr (xw.2 (.inr q2)))⟩
    .have:d=c:=by simpa using hd
     subst this;exact⟨xw.2 (.inr (xw.2 (.inl rfl))),xw.2 (.inl rfl)⟩) l
theorem rn{x:Rat}:∀{xs:List Rat},xs.Pairwise (· < ·)->2<=xs.length->(∃p∈xs,p<=x)->(∃q∈xs,x<=q)->∃i,∃hi:i+1<xs.length,xs[i]<=x/\x<=xs[i+1]
 |[],_,h,_,_=>by simp at h
 |[_],_,h,_,_=>by simp at h
 |a::b::r,hp,_,⟨p,hpm,hpx⟩,⟨q,hqm,hqx⟩=>by
  rw[cH]at hp;have hab:a<b:=hp.1 b (by simp);have ha:a<=x:=by
   rcases cg.1 hpm with rfl|hpm
   .exact hpx
   .have:=hp.1 p hpm;grind
  by_cases hb:x<=b
  .exact⟨0,by simp,ha,hb⟩
  .have hq:q∈b::r:=by
    rcases cg.1 hqm with rfl|hqm
    .grind
    .exact hqm
   have hr:2<=(b::r).length:=by
    cases r with
    |nil=>
     have:q=b:=by simpa using hq
     subst this;exact absurd hqx hb
    |cons=>simp
   obtain⟨i,hi,h1,h2⟩:=rn hp.2 hr ⟨b,by simp,by grind⟩ ⟨q,hq,hqx⟩;exact⟨i+1,by simpa using hi,by simpa using h1,by simpa using h2⟩
theorem gap{xs:List Rat}(hp:xs.Pairwise (· < ·)){i:Nat}(hi:i+1<xs.length){m:Rat}(hm:m∈xs):m<=xs[i]\/xs[i+1]<=m:=by
 obtain⟨j,hj,rfl⟩:=e0 hm;rw[cp]at hp;rcases Nat.lt_trichotomy j i with h|h|h
 .have:=hp j i hj (by omega) h;left;grind
 .subst h;left;grind
 .rcases im (i+1) j with h1|h1
  .have:=hp (i+1) j hi hj h1;right;grind
  .have:j=i+1:=by omega
   subst this;right;grind
theorem Hm{xs:List Rat}(hp:xs.Pairwise (· < ·)){i:Nat}(hi:i+1<xs.length):xs[i]<xs[i+1]:=by
 rw[cp]at hp;exact hp i (i+1) (by omega) hi (by omega)
theorem E8{s lo hi u v m:Rat}(h1:lo<=u)(h2:v<=hi)(_:u<m)(hv:m<v)(hs:s<=m)(hg:clR s lo hi<=u\/v<=clR s lo hi):s<=u:=by
 unfold clR at hg;split at hg
 .grind
 .split at hg<;>grind
theorem E9{s lo hi u v m:Rat}(h1:lo<=u)(h2:v<=hi)(hm:u<m)(_:m<v)(hs:m<=s)(hg:clR s lo hi<=u\/v<=clR s lo hi):v<=s:=by
 unfold clR at hg;split at hg
 .grind
 .split at hg<;>grind
def xsC (b:Bx) (l:List Bx):List Rat:=kj b.x0 b.x1 J5 J4 l
def ysC (b:Bx) (l:List Bx):List Rat:=kj b.y0 b.y1 J3 I3 l
def oL (b:Bx) (l:List Bx):Prop:=∀i (hi:i+1<(xsC b l).length) k (hk:k+1<(ysC b l).length),∃c∈l,inB c (mdR (xsC b l)[i] (xsC b l)[i+1]) (mdR (ysC b l)[k] (ysC b l)[k+1])
theorem IY{b:Bx}{l:List Bx}(hb:b.x0<b.x1/\b.y0<b.y1):oL b l↔Cov b l:=by
 have sx:=Zx hb.1 J5 J4 l;have sy:=Zx hb.2 J3 I3 l;obtain⟨mx,ix,cx⟩:=Y9 hb.1 J5 J4 l;obtain⟨my,iy,cy⟩:=Y9 hb.2 J3 I3 l;have lx:=(kW (lo:=b.x0) (hi:=b.x1) J5 J4 l).1;have ly:=(kW (lo:=b.y0) (hi:=b.y1) J3 I3 l).1;unfold oL xsC ysC;constructor
 .rintro h x y ⟨h1,h2,h3,h4⟩;obtain⟨i,hi,a1,a2⟩:=rn sx lx ⟨_,mx.1,h1⟩ ⟨_,mx.2,h2⟩;obtain⟨k,hk,b1,b2⟩:=rn sy ly ⟨_,my.1,h3⟩ ⟨_,my.2,h4⟩;obtain⟨c,hc,c1,c2,c3,c4⟩:=h i hi k hk;refine⟨c,hc,?_⟩;have e1:=Hl (Hm sx hi);have e2:=Hl (Hm sy hk);have i1:=ix _ (cb (show i<_ by omega));have i2:=ix _ (cb hi);have j1:=iy _ (cb (show k<_ by omega));have j2:=iy _ (cb hk);have g1:=E8 i1.1 i2.2 e1.1 e1.2 c1 (gap sx hi (cx c hc).1);have g2:=E9 i1.1 i2.2 e1.1 e1.2 c2 (gap sx hi (cx c hc).2);have g3:=E8 j1.1 j2.2 e2.1 e2.2 c3 (gap sy hk (cy c hc).1);have g4:=E9 j1.1 j2.2 e2.1 e2.2 c4 (gap sy hk (cy c hc).2);exact⟨by grind,by grind,by grind,by grind⟩
 .intro h i hi k hk;have e1:=Hl (Hm sx hi);have e2:=Hl (Hm sy hk);have i1:=ix _ (cb (show i<_ by exact lv hi));have i2:=ix _ (cb hi);have j1:=iy _ (cb (show k<_ by exact lv hk));have j2:=iy _ (cb hk);exact h _ _ ⟨by grind,by grind,by grind,by grind⟩
def cm (xs:List Rat) (i:Nat):Rat:=mdR (xs.getD i 0) (xs.getD (i+1) 0)
def Ng (B:Bx) (L:List Bx) (i k:Nat):Prop:=∃c∈L,inB c (cm (xsC B L) i) (cm (ysC B L) k)
theorem EA{B:Bx}{L:List Bx}:oL B L↔∀i,i+1<(xsC B L).length->∀k,k+1<(ysC B L).length->Ng B L i k:=by
 have e:∀(xs:List Rat) i (h:i+1<xs.length),cm xs i=mdR xs[i] xs[i+1]:=λxs i h=>by unfold cm;simp[fx,h,show i<xs.length by omega]
 constructor
 .intro h i hi k hk;unfold Ng;rw[e _ _ hi,e _ _ hk];exact h i hi k hk
 .intro h i hi k hk;have:=h i hi k hk;unfold Ng at this;rw[e _ _ hi,e _ _ hk]at this;exact this
end Eng
end
section
namespace Eng
open Go Go.Proofs Rl
set_option maxRecDepth 100000
theorem Hn{a:Rat}{rs:List Rat}(ha:Hz 50 a)(hr:∀y∈rs,Hz 50 y)(hl:rs.length<=1000000):qa CC 92 [.c (.sl (xJ rs)),.ag (rk (q4 a) [])] [.c (.sl (xJ (Xl a rs)))]:=by
 have a3:∀k (hk:k<rs.length),cut (nth [] (xJ rs) k) 0 4 (rk (q4 rs[k]) []):=λk hk=>Kf hk
 have a8:∀k (hk:k<rs.length),(nth [] (xJ rs) k).length=4:=λk hk=>by rw[Qt hk];rfl
 have a6:∀k (hk:k<rs.length),qa CC 85 [.ag (rk (q4 rs[k]) []),.ag (rk (q4 a) [])] [.c (.int .i64 (sr (rs[k]-a)))]:=λk hk=>JA (hr _ (cb hk)) ha
 have fin:∀k,k<=rs.length->xJ (rs.take k++[a]++rs.drop k)=[]++((xJ rs).take k).drop 0++[rk (q4 a) []]++((xJ rs).take rs.length).drop k:=λk hk=>by
  have e1:(xJ rs).take rs.length=xJ rs:=by rw[<-xq rs,cv]
  rw[e1];simp only[xJ,eb,h9,ib,gm,hE,List.nil_append,List.drop_zero];rfl
 have hlt:∀k,lens 4 (((xJ rs).take k).drop 0):=λk e he=>yY rs e (dc (el he))
 have hld:∀k,lens 4 (((xJ rs).take rs.length).drop k):=λk e he=>yY rs e (dc (el he))
 have h1a:lens 4 [rk (q4 a) []]:=λe he=>by simp only[cg,dk,or_false]at he;rw[he];rfl
 have hv:=fG (qa CC) (λ_ ds=>∃k:Nat,k<=rs.length/\ds=[.int .i64 (k:Int)]/\∀j (hj:j<rs.length),j<k->rs[j]<a) (λds=>(rs.length-toI (nth .undef ds 0)).toNat) (xJ rs) (q4 a) (· =[.c (.sl (xJ (Xl a rs)))]);refine gOk Tryz.func92 hv ?_;clear hv;simp only[V1,xq];refine⟨⟨0,by omega,rfl,by omega⟩,?_⟩;rintro n ⟨k,hk,he,hT⟩;simp only[ie,J9,true_and,and_true]at he;subst he;simp only[W0];have a7:∀(Q:Prop),Q->((0:Int)<=0/\0<=(k:Int)/\(k:Int)<=(rs.length:Int)/\lens 4 (xJ rs))/\(room (0+(((xJ rs).take k).drop 0).length)/\lens 4 (((xJ rs).take k).drop 0))/\
  (room (([]++((xJ rs).take k).drop 0).length+1)/\lens 4 [rk (q4 a) []])/\(0<=(k:Int)/\(k:Int)<=(rs.length:Int)/\(rs.length:Int)<=(rs.length:Int)/\lens 4 (xJ rs))/\
  (room (([]++((xJ rs).take k).drop 0++[rk (q4 a) []]).length+(((xJ rs).take rs.length).drop k).length)/\lens 4 (((xJ rs).take rs.length).drop k))/\Q:=λQ hq=>by
  refine⟨⟨by omega,by omega,by omega,yY rs⟩,⟨?_,hlt k⟩,⟨?_,h1a⟩,⟨by omega,by omega,by omega,yY rs⟩,⟨?_,hld k⟩,hq⟩
  all_goals
   unfold room;simp only[cL,er,cf,xq,dA,eH];omega
 have a4:(∀hk:k<rs.length,¬rs[k]<a)->(¬∃hk:k<rs.length,rs[k]=a)->xJ (Xl a rs)=[]++((xJ rs).take k).drop 0++[rk (q4 a) []]++((xJ rs).take rs.length).drop k:=λq1 q2=>by rw[Nf hk hT q1,if_neg q2,fin k hk]
 refine brd (λh=>?_) (λh=>brd (λh'=>absurd h' h) (λ_=>?_))
 rotate_left
 .refine a7 _ ?_;rw[a4 (λhk=>absurd hk (by omega)) (λ⟨hk,_⟩=>absurd hk (by omega))]
 have a5:k<rs.length:=by omega
 have hw:Lv .i64 ((k:Int)+1)=((k+1:Nat):Int):=by rw[xF];omega
 rw[hw];refine⟨⟨by omega,by omega,a8 k a5⟩,_,a3 k a5,_,a6 k a5,brd (λh2=>?_) (λh2=>brd (λ_=>?_) (λh'=>absurd h h'))⟩
 .rw[srl]at h2;refine⟨⟨k+1,by omega,rfl,λj hj hjk=>?_⟩,by simp only[nth,toI];omega⟩;rcases im j k with h3|h3
  .exact hT j hj h3
  .have:j=k:=by omega
   subst this;exact h2
 rw[srl]at h2;refine⟨⟨by omega,by omega,a8 k a5⟩,_,a3 k a5,_,a6 k a5,brb (λh3=>?_) (λh3=>?_)⟩
 .have h3:rs[k]=a:=by rw[srz]at h3;simpa using h3
  rw[Nf hk hT (λ_=>h2),if_pos ⟨a5,h3⟩]
 .have h3:¬rs[k]=a:=by rw[srz]at h3;simpa using h3
  refine a7 _ ?_;rw[a4 (λ_=>h2) (λ⟨_,e⟩=>h3 e)]
theorem gT(b:Bx)(x y:Rat):oI b x y=decide (inB b x y):=by
 rw[Bool.eq_iff_iff];unfold oI;simp only[Bool.and_eq_true,decide_eq_true_eq];exact Iff.rfl
theorem TL{lo hi:Rat}(h1:Hz 20 lo)(h2:Hz 20 hi)(f g:Bx->Rat)(l:List Bx):(∀c∈l,Hz 20 (f c)/\Hz 20 (g c))->∀y∈kj lo hi f g l,Hz 20 y:=
 Qv f g (λxs l=>(∀c∈l,Hz 20 (f c)/\Hz 20 (g c))->∀y∈xs,Hz 20 y)
  (λ_ y hy=>by
   grind) (λxs l c hp hc y hy=>by
   have h3:=hc c (by simp);rcases xw.1 hy with rfl|hy
   .exact h3.2.cl h1 h2
   .rcases xw.1 hy with rfl|hy
    .exact h3.1.cl h1 h2
    simp_all) l
theorem nO{l:List Bx}{k:Nat}(h:k<l.length):cut (nth [] (kBs l) (aE (k:Int))) 0 4 (rk (q4 l[k].x0) [])/\cut (nth [] (kBs l) (aE (k:Int))) 4 4 (rk (q4 l[k].y0) [])/\
 cut (nth [] (kBs l) (aE (k:Int))) 8 4 (rk (q4 l[k].x1) [])/\cut (nth [] (kBs l) (aE (k:Int))) 12 4 (rk (q4 l[k].y1) []):=by
 have e:nth [] (kBs l) (aE (k:Int))=kB l[k] []:=by exact J1 _ h
 rw[e];exact⟨⟨rfl,iz rfl⟩,⟨rfl,iz rfl⟩,⟨rfl,iz rfl⟩,⟨rfl,iz rfl⟩⟩
theorem rok{l:List Bx}{k:Nat}(h:k<l.length):((0:Int)<=(k:Int)/\(k:Int)<(l.length:Int)/\List.length (nth [] (kBs l) (aE (k:Int)))=16):=⟨by omega,by omega,(yn kw h).2.2⟩
theorem EB{B:Bx}{l:List Bx}(hz:HB 20 B)(hl:∀x∈l,HB 20 x)(hn:l.length<=1000):
 qa CC 41 [.ag (kB B []),.c (.sl (kBs l))] [.c (.bool (B.ok&&(l.all I2&&zw B l)))]:=by
 have g0:=T6 hz.m;cases ho:B.ok with
 |false=>have hv:=T8 (qa CC) (λ_ _=>False) (λ_=>0) (λ_ _=>False) (λ_=>0) (λ_ _=>False) (λ_=>0) (λ_ _=>False) (λ_=>0) (q4 B.x0) (q4 B.y0) (q4 B.x1) (q4 B.y1) (kBs l) (· =[.c (.bool false)]);refine gOk Tryz.func41 hv ?_;clear hv;rw[ho]at g0;exact⟨_,g0,brb (λ_=>rfl) (λh=>by simp at h)⟩
 |true=>
  rw[ho]at g0;have bd:B.x0<B.x1/\B.y0<B.y1:=by unfold I2 at ho;simpa using ho
  have ba:∀k (hk:k<l.length),l[k].ok=false->(true&&(l.all I2&&zw B l))=false:=λk hk h=>by
   have:l.all I2=false:=by rw[gq];exact⟨l[k],cb hk,by rw[h];simp⟩
   rw[this];rfl
  have al:l.all I2=true->((true&&(l.all I2&&zw B l))=true↔oL B l):=λh=>by rw[h,Hv,Hv,Jh bd hn,IY bd]
  generalize (true&&(l.all I2&&zw B l))=R at ba al ⊢;have hv:=T8 (qa CC) (λ_ ds=>∃k:Nat,k<=l.length/\ds=[.int .i64 (k:Int),.sl (xJ (xsC B (l.take k))),.sl (xJ (ysC B (l.take k)))]/\∀j (hj:j<l.length),j<k->l[j].ok=true) (λds=>(l.length-toI (nth .undef ds 0)).toNat)
   (λ_ ds=>∃i:Nat,i+1<=(xsC B l).length/\ds=[.int .i64 ((i+1:Nat):Int)]/\∀i',i'<i->∀k,k+1<(ysC B l).length->Ng B l i' k) (λds=>((xsC B l).length-toI (nth .undef ds 0)).toNat)
   (λgs ds=>∃i k:Nat,k+1<=(ysC B l).length/\gs=[.int .i64 ((i+1:Nat):Int)]/\ds=[.int .i64 ((k+1:Nat):Int)]/\∀k',k'<k->Ng B l i k') (λds=>((ysC B l).length-toI (nth .undef ds 0)).toNat)
   (λgs ds=>∃(i k m:Nat) (f:Bool),m<=l.length/\gs=[.int .i64 ((i+1:Nat):Int),.int .i64 ((k+1:Nat):Int)]/\ds=[.int .i64 (m:Int),.bool f]/\
    (f=true->Ng B l i k)/\(f=false->∀j (hj:j<l.length),j<m->¬inB l[j] (cm (xsC B l) i) (cm (ysC B l) k))) (λds=>(l.length-toI (nth .undef ds 0)).toNat)
   (q4 B.x0) (q4 B.y0) (q4 B.x1) (q4 B.y1) (kBs l) (· =[.c (.bool R)])
  refine gOk Tryz.func41 hv ?_;clear hv;simp only[V1,wY];refine⟨_,g0,brb (λh=>by simp at h) (λ_=>brd (λh=>absurd h (by omega)) (λ_=>⟨⟨0,by omega,rfl,by omega⟩,?_⟩))⟩;have be:∀M:List Bx,(∀c∈M,c∈l)->(∀y∈xsC B M,Hz 20 y)/\∀y∈ysC B M,Hz 20 y:=λM h=>
   ⟨TL hz.1 hz.2.2.1 J5 J4 M λc hc=>⟨(hl c (h c hc)).1,(hl c (h c hc)).2.2.1⟩,TL hz.2.1 hz.2.2.2 J3 I3 M λc hc=>⟨(hl c (h c hc)).2.1,(hl c (h c hc)).2.2.2⟩⟩
  have an:∀M:List Bx,M.length<=1000->(xsC B M).length<=2002/\(ysC B M).length<=2002:=λM h=>by have h1:=(kW (lo:=B.x0) (hi:=B.x1) J5 J4 M).2;have h2:=(kW (lo:=B.y0) (hi:=B.y1) J3 I3 M).2;unfold xsC ysC;omega
  rintro n e1 e2 ⟨k,hk,he,hT⟩;simp only[ie,J9,Lm,true_and,and_true]at he;obtain⟨rfl,rfl,rfl⟩:=he;refine brd (λh=>?_) (λh=>?_)
  ·--one more box
   have ad:k<l.length:=by omega
   have hw:Lv .i64 ((k:Int)+1)=((k+1:Nat):Int):=by rw[xF];omega
   rw[hw];have kz:=hl _ (cb ad);refine⟨rok ad,_,_,_,_,wH kw ad,_,T6 kz.m,brb (λh2=>?_) (λh2=>?_)⟩
   .rw[ba k ad (by simpa using h2)]
   .have h2:l[k].ok=true:=by simpa using h2
    obtain⟨u1,u2,u3,u4⟩:=nO ad;obtain⟨sx,sy⟩:=be (l.take k) λc hc=>dc hc
    obtain⟨n1,n2⟩:=an (l.take k) (by rw[cf];omega);have c1:=kz.1.cl hz.1 hz.2.2.1;have c2:=kz.2.2.1.cl hz.1 hz.2.2.1;have c3:=kz.2.1.cl hz.2.1 hz.2.2.2;have c4:=kz.2.2.2.cl hz.2.1 hz.2.2.2;have a1:=Yz kz.1 hz.1 hz.2.2.1;have a2:=Hn (c1.mono (by omega)) (λy hy=>(sx y hy).mono (by omega)) (by omega);have a3:=Yz kz.2.2.1 hz.1 hz.2.2.1;have sx2:∀y∈Xl (clR l[k].x0 B.x0 B.x1) (xsC B (l.take k)),Hz 20 y:=λy hy=>by
     rcases xw.1 hy with rfl|hy
     .exact c1
     .exact sx y hy
    have a4:=Hn (c2.mono (by omega)) (λy hy=>(sx2 y hy).mono (by omega)) (by have:=(Zw (a:=clR l[k].x0 B.x0 B.x1) (rs:=xsC B (l.take k))).2;omega);have a5:=Yz kz.2.1 hz.2.1 hz.2.2.2;have a6:=Hn (c3.mono (by omega)) (λy hy=>(sy y hy).mono (by omega)) (by omega);have a7:=Yz kz.2.2.2 hz.2.1 hz.2.2.2;have sy2:∀y∈Xl (clR l[k].y0 B.y0 B.y1) (ysC B (l.take k)),Hz 20 y:=λy hy=>by
     rcases xw.1 hy with rfl|hy
     .exact c3
     .exact sy y hy
    have a8:=Hn (c4.mono (by omega)) (λy hy=>(sy2 y hy).mono (by omega)) (by have:=(Zw (a:=clR l[k].y0 B.y0 B.y1) (rs:=ysC B (l.take k))).2;omega);have et:l.take (k+1)=l.take k++[l[k]]:=by rw[cc ad]
    have ex:xsC B (l.take (k+1))=Xl (clR l[k].x1 B.x0 B.x1) (Xl (clR l[k].x0 B.x0 B.x1) (xsC B (l.take k))):=by rw[et];exact Xn ..
    have ey:ysC B (l.take (k+1))=Xl (clR l[k].y1 B.y0 B.y1) (Xl (clR l[k].y0 B.y0 B.y1) (ysC B (l.take k))):=by rw[et];exact Xn ..
    refine⟨rok ad,_,u1,_,a1,_,a2,rok ad,_,u3,_,a3,_,a4,rok ad,_,u2,_,a5,_,a6,rok ad,_,u4,_,a7,_,a8,
     ⟨k+1,by omega,by rw[ex,ey],λj hj hjk=>?_⟩,by simp only[nth,toI];omega⟩
    rcases im j k with h3|h3
    .exact hT j hj h3
    .have:j=k:=by omega
     subst this;exact h2
  ·--the cells
   have ad:k=l.length:=by omega
   subst ad;have b5:l.all I2=true:=by rw[ez];intro x hx;obtain⟨j,hj,rfl⟩:=e0 hx;exact hT j hj hj
   have al:=al b5;rw[EA]at al;rw[cv];obtain⟨sx,sy⟩:=be l λc hc=>hc
   obtain⟨n1,n2⟩:=an l (by omega);have m1:=(kW (lo:=B.x0) (hi:=B.x1) J5 J4 l).1;have m2:=(kW (lo:=B.y0) (hi:=B.y1) J3 I3 l).1;have m1:2<=(xsC B l).length:=m1;have m2:2<=(ysC B l).length:=m2;simp only[xq];refine⟨⟨0,by omega,rfl,by omega⟩,?_⟩;rintro n ⟨i,hi,he,hG⟩;simp only[ie,J9,true_and,and_true]at he;subst he;have hwi:Lv .i64 (((i+1:Nat):Int)+1)=((i+1+1:Nat):Int):=by rw[xF];omega
   have b7:Lv .i64 (((i+1:Nat):Int)-1)=(i:Int):=by rw[xF];omega
   rw[hwi,b7];refine brd (λh1=>⟨⟨i,0,by omega,rfl,rfl,by omega⟩,?_⟩) (λh1=>?_)
   rotate_left
   .have:R=true:=al.2 λi' hi' k' hk'=>hG i' (by omega) k' hk'
    rw[this]
   rintro n ⟨i',k,hk,hg,he,b9⟩;simp only[ie,J9,true_and,and_true]at hg he;have hii:i'=i:=by omega
   subst hii he;have hwk:Lv .i64 (((k+1:Nat):Int)+1)=((k+1+1:Nat):Int):=by rw[xF];omega
   have b8:Lv .i64 (((k+1:Nat):Int)-1)=(k:Int):=by rw[xF];omega
   rw[hwk,b8];simp only[W0];refine brd (λh2=>?_) (λh2=>?_)
   rotate_left
   .refine⟨⟨i'+1,by omega,rfl,λj hj k' hk'=>?_⟩,by simp only[nth,toI];omega⟩;rcases im j i' with h3|h3
    .exact hG j h3 k' hk'
    .have:j=i':=by omega
     subst this;exact b9 k' (by omega)
   have b3:i'+1<(xsC B l).length:=by omega
   have b4:k+1<(ysC B l).length:=by omega
   have a9:∀(rs:List Rat) j (hj:j<rs.length),cut (nth [] (xJ rs) j) 0 4 (rk (q4 (rs.getD j 0)) []):=λrs j hj=>by
    have:rs.getD j 0=rs[j]:=by simp[fx,hj]
    rw[this];exact Kf hj
   have ag:∀(rs:List Rat) j (hj:j<rs.length),(nth [] (xJ rs) j).length=4:=λrs j hj=>by rw[Qt hj];rfl
   have ap:∀(rs:List Rat),(∀y∈rs,Hz 20 y)->∀j,j<rs.length->Hz 20 (rs.getD j 0):=λrs h j hj=>by
    have:rs.getD j 0=rs[j]:=by simp[fx,hj]
    rw[this];exact h _ (cb hj)
   have zx:=ap _ sx i' (by omega);have bg:=ap _ sx (i'+1) b3;have zy:=ap _ sy k (by omega);have bh:=ap _ sy (k+1) b4;have b1:=Ha zx bg;have b2:=Ha zy bh;have zmx:Hz 42 (cm (xsC B l) i'):=(zx.add bg (l:=41)).mul DL;have zmy:Hz 42 (cm (ysC B l) k):=(zy.add bh (l:=41)).mul DL;refine⟨⟨by omega,by omega,ag _ _ (by omega)⟩,_,a9 _ i' (by omega),⟨by omega,by omega,ag _ _ b3⟩,_,a9 _ (i'+1) b3,_,b1,⟨by omega,by omega,ag _ _ (by omega)⟩,_,a9 _ k (by omega),
    ⟨by omega,by omega,ag _ _ b4⟩,_,a9 _ (k+1) b4,_,b2,⟨i',k,0,false,by omega,rfl,rfl,by simp,by omega⟩,?_⟩
   rintro n f ⟨i2,k2,m,f',hm,hg,he,hf1,bb⟩;simp only[ie,J9,D.bool.injEq,true_and,and_true]at hg he;obtain⟨rfl,rfl⟩:=he;have hi2:i2=i':=by omega
   have hk2:k2=k:=by omega
   subst hi2 hk2;have hno:f=false->m=l.length->R=false:=λe1 e2=>by
    cases hRR:R with
    |false=>rfl
    |true=>obtain⟨c,hc,hin⟩:=al.1 hRR i2 b3 k2 b4;obtain⟨j,hj,rfl⟩:=e0 hc;exact absurd hin (bb e1 j hj (by omega))
   have bc:f=true->∀k',k'<k2+1->Ng B l i2 k':=λe1 k' hk'=>by
    rcases im k' k2 with h3|h3
    .exact b9 k' h3
    .have:k'=k2:=by omega
     subst this;exact hf1 e1
   refine brd (λh3=>?_) (λh3=>?_)
   .cases f with
    |true=>refine brb (λh=>by simp at h) (λ_=>brb (λh=>by simp at h) (λ_=>⟨⟨i2,k2+1,by omega,rfl,rfl,bc rfl⟩,by simp only[nth,toI];omega⟩))
    |false=>
     have b6:m<l.length:=by omega
     have hwm:Lv .i64 ((m:Int)+1)=((m+1:Nat):Int):=by rw[xF];omega
     rw[hwm];have hh:=eHas (b:=l[m]) (k:=50) (hl _ (cb b6)).m (zmx.mono (by omega)) (zmy.mono (by omega));rw[gT]at hh;refine brb (λ_=>⟨rok b6,_,_,_,_,wH kw b6,_,hh,⟨i2,k2,m+1,_,by omega,rfl,rfl,λh=>?_,λh j hj hjm=>?_⟩,by simp only[nth,toI];omega⟩) (λh=>by simp at h)
     .exact⟨l[m],cb _,of_decide_eq_true h⟩
     .rcases im j m with h4|h4
      .exact bb rfl j hj h4
      .have:j=m:=by omega
       subst this;exact of_decide_eq_false h
   .cases f with
    |true=>exact brb (λh=>by simp at h) (λ_=>⟨⟨i2,k2+1,by omega,rfl,rfl,bc rfl⟩,by simp only[nth,toI];omega⟩)
    |false=>refine brb (λ_=>?_) (λh=>by simp at h);rw[hno rfl (by omega)]
end Eng
end
section
namespace Eng
open Go Go.Proofs Rl
set_option maxRecDepth 100000
def Dn (D N:Nat) (x:Rat):Prop:=∃n:Int,x*(D:Rat)=(n:Rat)/\n.natAbs<=N
theorem Dn.hz{D N:Nat}{x:Rat}(h:Dn D N x)(h0:0<D)(h1:D<=10^10)(h2:N<=10^10):Hz 20 x:=by
 obtain⟨n,e,hn⟩:=h;have hd:(D:Rat)≠0:=by intro h;have:=congrArg mv h;simp at this;omega
 have:x=(n:Rat)/((D:Int):Rat):=by have e2:((D:Int):Rat)=(D:Rat):=rfl;rw[e2,<-e];grind
 rw[this];exact Hz.div (Hz.int (k:=10) (k5 hn h2)) (Hz.int (n:=(D:Int)) (k:=10) (by simpa using h1)) hd (by omega)
theorem Dn.add{D N M:Nat}{x y:Rat}(hx:Dn D N x)(hy:Dn D M y):Dn D (N+M) (x+y):=by
 obtain⟨n,e,hn⟩:=hx;obtain⟨m,f,hm⟩:=hy;exact⟨n+m,by rw[Rat.add_mul,e,f,mm],by omega⟩
theorem Dn.sub{D N M:Nat}{x y:Rat}(hx:Dn D N x)(hy:Dn D M y):Dn D (N+M) (x-y):=by
 obtain⟨n,e,hn⟩:=hx;obtain⟨m,f,hm⟩:=hy;exact⟨n-m,by rw[Rat.intCast_sub,<-e,<-f];grind,by omega⟩
theorem Dn.mono{D N M:Nat}{x:Rat}(hx:Dn D N x)(h:N<=M):Dn D M x:=by
 obtain⟨n,e,hn⟩:=hx;exact⟨n,e,by omega⟩
theorem Pk(D:Nat):((2*D:Nat):Rat)=2*(D:Rat):=by rw[lA];rfl
theorem Dn.two{D N:Nat}{x:Rat}(hx:Dn D N x):Dn (2*D) (2*N) x:=by
 obtain⟨n,e,hn⟩:=hx;refine⟨n+n,?_,by omega⟩;rw[Pk,mm,<-e];grind
theorem Dn.half{D N:Nat}{x:Rat}(hx:Dn D N x)(j:Int):Dn (2*D) (j.natAbs*N) (x*l5 j 2):=by
 obtain⟨n,e,hn⟩:=hx;have e1:l5 j 2=(j:Rat)/2:=by rw[ml];rfl
 refine⟨j*n,?_,by rw[bv];exact lr _ hn⟩;rw[Pk,lB,<-e,e1];grind
def BD (D N:Nat) (b:Bx):Prop:=Dn D N b.x0/\Dn D N b.y0/\Dn D N b.x1/\Dn D N b.y1
theorem BD.hb{D N:Nat}{b:Bx}(h:BD D N b)(h0:0<D)(h1:D<=10^10)(h2:N<=10^10):HB 20 b:=⟨h.1.hz h0 h1 h2,h.2.1.hz h0 h1 h2,h.2.2.1.hz h0 h1 h2,h.2.2.2.hz h0 h1 h2⟩
theorem Dn.md{D N:Nat}{x y:Rat}(hx:Dn D N x)(hy:Dn D N y):Dn (2*D) (2*N) (mdR x y):=((hx.add hy).half 1).mono (by rw[show(1:Int).natAbs=1 from rfl];omega)
theorem BD.qr{D N:Nat}{b:Bx}(h:BD D N b):∀q∈qrB b,BD (2*D) (2*N) q:=by
 obtain⟨a,b,c,d⟩:=h;intro q hq;simp only[qrB,cg,dk,or_false]at hq;rcases hq with rfl|rfl|rfl|rfl
 .exact⟨a.two,b.two,a.md c,b.md d⟩
 .exact⟨a.md c,b.two,c.two,b.md d⟩
 .exact⟨a.two,b.md d,a.md c,d.two⟩
 .exact⟨a.md c,b.md d,c.two,d.two⟩
noncomputable def wZ (a:List Cu) (v:Vc):Bool:=decide (j8 a (atV v)<=0)
def kpV (b:Bx) (n:Nat):Vc:=⟨b.x0+(b.x1-b.x0)*l5 ((n/7:Nat)-2) 2,b.y0+(b.y1-b.y0)*l5 ((n%7:Nat)-2) 2⟩
noncomputable def iD (a:List Cu) (r:Rat) (b:Bx) (n:Nat):Bool:=jC b (kpV b n) r&&wZ a (kpV b n)
noncomputable def Qz (a:List Cu) (r:Rat) (b:Bx):Option Vc:=((List.range 49).find? (iD a r b)).map (kpV b)
def kO:Option Vc->List D
 |some v=>kV v
 |none=>rk z4 (rk z4 [])
theorem cn{D N:Nat}{b:Bx}(h:BD D N b)(h0:0<D)(h1:D<=10^9)(h2:N<=10^8){n:Nat}(hn:n<49):HV (kpV b n):=by
 obtain⟨a,b,c,d⟩:=h;have j1:(((n/7:Nat):Int)-2).natAbs<=4:=by omega
 have j2:(((n%7:Nat):Int)-2).natAbs<=4:=by omega
 have k:∀j:Nat,j<=4->2*N+j*(N+N)<=10^10:=λj hj=>by have:=lp (N+N) hj;omega
 exact⟨(a.two.add ((c.sub a).half _)).hz (by omega) (by omega) (k _ j1),(b.two.add ((d.sub b).half _)).hz (by omega) (by omega) (k _ j2)⟩
theorem Pm{a:List Cu}{v:Vc}(ha:∀c∈a,Gc c)(hv:HV v)(hn:a.length<=400):qa CC 40 [.ag [.sl (kUs a)],.ag (kV v)] [.c (.bool (wZ a v))]:=by
 refine wpG Tryz.func40 ((Nb ..).mpr ?_);exact⟨_,ZK v,_,RY ha (RI hv) (by omega),rfl⟩
theorem gU{a:List Cu}{r:Rat}{b:Bx}{m N:Nat}(ha:∀c∈a,Gc c)(hn:a.length<=400)(hr:Hz 20 r)(h:BD m N b)(h0:0<m)(h1:m<=10^9)(h2:N<=10^8):
 qa CC 53 [.ag [.sl (kUs a)],.ag (rk (q4 r) []),.ag (kB b [])] [.ag (kO (Qz a r b)),.c (.bool (Qz a r b).isSome)]:=by
 have hb:HB 20 b:=h.hb h0 (by omega) (by omega);have hv:=IN (qa CC) (λ_ ds=>∃i:Nat,i<=7/\ds=[.int .i64 (i:Int)]/\∀n,n<7*i->iD a r b n=false) (jn 100)
  (λgs ds=>∃i k:Nat,i<7/\k<=7/\gs=[.int .i64 (i:Int)]/\ds=[.int .i64 (k:Int)]/\∀n,n<7*i+k->iD a r b n=false) (jn 100)
  (kUs a) (q4 r) (q4 b.x0) (q4 b.y0) (q4 b.x1) (q4 b.y1) (· =[.ag (kO (Qz a r b)),.c (.bool (Qz a r b).isSome)])
 refine gOk Tryz.func53 hv ?_;clear hv;have w:=hb.2.2.1.sub hb.1 (l:=41);have u:=hb.2.2.2.sub hb.2.1 (l:=41);refine⟨_,Sn hb.2.2.1 hb.1,_,Sn hb.2.2.2 hb.2.1,⟨0,by omega,rfl,λn hn=>absurd hn (by omega)⟩,?_⟩;rintro _ ⟨i,hi,he,hT⟩;simp only[ie,J9,true_and,and_true]at he;subst he;refine brd (λh3=>⟨⟨i,0,by omega,by omega,rfl,rfl,by simpa using hT⟩,?_⟩) (λh3=>?_)
 rotate_left
 .have:Qz a r b=none:=by unfold Qz;rw[List.find?_eq_none.2 λn hn=>by rw[hT n (by rw[gr]at hn;omega)];simp];rfl
  rw[this];rfl
 rintro _ ⟨i',k,hi',hk,hg,he,a4⟩;simp only[ie,J9,true_and,and_true]at hg he;have:i'=i:=by omega
 subst this he;refine brd (λh4=>?_) (λh4=>?_)
 rotate_left
 .exact⟨⟨i'+1,by omega,by rw[wI];rfl,λn hn=>a4 n (by omega)⟩,qt⟩
 have hk7:k<7:=by omega
 have d1:(7*i'+k)/7=i':=by omega
 have d2:(7*i'+k)%7=k:=by omega
 have hz:=cn h h0 h1 h2 (n:=7*i'+k) (by omega);have e1:kpV b (7*i'+k)=⟨b.x0+(b.x1-b.x0)*l5 ((i':Int)-2) 2,b.y0+(b.y1-b.y0)*l5 ((k:Int)-2) 2⟩:=by unfold kpV;rw[d1,d2]
 have f1:Hz 1 (l5 ((i':Int)-2) 2):=Hz.divInt (by omega) (by omega) (by decide);have f2:Hz 1 (l5 ((k:Int)-2) 2):=Hz.divInt (by omega) (by omega) (by decide);have n1:=mX hb hz hr;have n2:=Pm ha hz hn;have a3:iD a r b (7*i'+k)=(jC b (kpV b (7*i'+k)) r&&wZ a (kpV b (7*i'+k))):=rfl;rw[e1]at n1 n2 a3;have nx:∀q,iD a r b (7*i'+k)=false->q=Lv .i64 ((k:Int)+1)->(∃i k:Nat,i<7/\k<=7/\[J7 .i64 (i':Int)]=[.int .i64 (i:Int)]/\[J7 .i64 q]=[.int .i64 (k:Int)]/\∀n,n<7*i+k->iD a r b n=false)/\jn 100 [J7 .i64 q]<jn 100 [J7 .i64 (k:Int)]:=λq hq e=>by
  subst e;refine⟨⟨i',k+1,hi',by omega,rfl,by rw[wI];rfl,λn hn=>?_⟩,qt⟩;rcases im n (7*i'+k)with g|g
  .exact a4 n g
  .rw[show n=7*i'+k by omega];exact hq
 rw[show Lv .i64 ((i':Int)-2)=(i':Int)-2 from wI,show Lv .i64 ((k:Int)-2)=(k:Int)-2 from wI];refine⟨_,wJ (by omega) (by omega) (by omega),_,Zd w f1,_,V2 hb.1 (w.mul f1 (l:=42)),_,wJ (by omega) (by omega) (by omega),_,Zd u f2,_,V2 hb.2.1 (u.mul f2 (l:=42)),_,n1,xG (λh5=>⟨_,n2,xG (λh6=>?_) λh6=>?_⟩) λh5=>?_⟩
 .have:Qz a r b=some (kpV b (7*i'+k)):=by unfold Qz;rw[List.find?_range_eq_some.2 ⟨by rw[a3,h5,h6];rfl,by rw[gr];omega,λj hj=>by rw[a4 j hj];rfl⟩];rfl
  rw[this,e1];rfl
 .exact nx _ (by rw[a3,h6];simp) rfl
 .exact nx _ (by rw[a3,h5];simp) rfl
end Eng
end
section
namespace Eng
open Go Go.Proofs Rl
set_option maxRecDepth 100000
structure Cl where
 b:Bx
 far:Bool
 kp:Option Vc
def kCl (c:Cl):List D:=kB c.b (.bool c.far::kO c.kp)
def zM (l:List Cl):List (List D):=l.map kCl
theorem jf(c:Cl):(kCl c).length=25:=by
 obtain⟨b,f,kp⟩:=c;cases kp<;>rfl
theorem xU(l:List Cl):(zM l).length=l.length:=wG ..
noncomputable def xp (a:List Cu) (r:Rat) (v:Vc):Nat->Bx->List Cl
 |0,b=>if bG b v r then [⟨b,true,none⟩]else match Qz a r b with
  |some u=>[⟨b,false,some u⟩]
  |none=>[⟨b,false,some v⟩]
 |d+1,b=>if bG b v r then [⟨b,true,none⟩]else match Qz a r b with
  |some u=>[⟨b,false,some u⟩]
  |none=>(if b.ok then qrB b else []).flatMap (xp a r v d)
def GC (c:Cl):Prop:=HB 20 c.b/\∀u,c.kp=some u->HV u
theorem Pn{a:List Cu}{r:Rat}{b:Bx}{m N:Nat}{u:Vc}(h:BD m N b)(h0:0<m)(h1:m<=10^9)(h2:N<=10^8)(e:Qz a r b=some u):HV u:=by
 unfold Qz at e;rw[Option.map_eq_some_iff]at e;obtain⟨n,hn,rfl⟩:=e;exact cn h h0 h1 h2 (by have:=List.mem_of_find?_eq_some hn;rwa [gr]at this)
theorem Vi{a:List Cu}{r:Rat}{v:Vc}(hv:HV v):∀(d m N:Nat) (b:Bx),BD m N b->0<m->m*2^d<=10^9->N*2^d<=10^8->(∀c∈xp a r v d b,GC c)/\(xp a r v d b).length<=4^d:=by
 intro d
 induction d with
 |zero=>
  intro m N b h h0 h1 h2;have hb:=h.hb h0 (by omega) (by omega);unfold xp;split
  .exact⟨λc hc=>by rw[cr.1 hc];exact⟨hb,λu e=>by cases e⟩,by simp⟩
  .split
   .rename_i u e;exact⟨λc hc=>by rw[cr.1 hc];exact⟨hb,λu' e'=>by cases e';exact Pn h h0 (by omega) (by omega) e⟩,by simp⟩
   .exact⟨λc hc=>by rw[cr.1 hc];exact⟨hb,λu' e'=>by cases e';exact hv⟩,by simp⟩
 |succ d ih=>
  intro m N b h h0 h1 h2;have p1:0<2^d:=lh (by omega);have e1:m*2^(d+1)=2*m*2^d:=by rw[kk];grind
  have e2:N*2^(d+1)=2*N*2^d:=by rw[kk];grind
  have b1:2*m<=2*m*2^d:=j0 _ p1;have b2:2*N<=2*N*2^d:=j0 _ p1;have hb:=h.hb h0 (by omega) (by omega);have p4:0<4^(d+1):=lh (by omega);unfold xp;split
  .exact⟨λc hc=>by rw[cr.1 hc];exact⟨hb,λu e=>by cases e⟩,by simp;omega⟩
  .split
   .rename_i u e;exact⟨λc hc=>by rw[cr.1 hc];exact⟨hb,λu' e'=>by cases e';exact Pn h h0 (by omega) (by omega) e⟩,by simp;omega⟩
   .have a3:∀q∈qrB b,(∀c∈xp a r v d q,GC c)/\(xp a r v d q).length<=4^d:=λq hq=>ih (2*m) (2*N) q (h.qr q hq) (by omega) (by omega) (by omega)
    split
    .refine⟨λc hc=>?_,?_⟩
     .obtain⟨q,hq,hc⟩:=dv.1 hc;exact(a3 q hq).1 c hc
     .have k1:=(a3 _ (fw ..)).2;have k2:=(a3 _ (dy _ (fw ..))).2;have k3:=(a3 _ (dy _ (dy _ (fw ..)))).2;have k4:=(a3 _ (dy _ (dy _ (dy _ (fw ..))))).2;rw[kk];simp only[qrB,fR,e6,cL,eH];omega
    .exact⟨λc hc=>by simp at hc,by simp⟩
noncomputable def Vj (a:List Cu) (r:Rat) (v:Vc) (d:Nat) (b:Bx) (k:Nat):List Cl:=((if b.ok then qrB b else []).take k).flatMap (xp a r v d)
noncomputable def cInv (a:List Cu) (r:Rat) (v:Vc) (d:Nat) (b:Bx):List D->List D->Prop:=λ_ ds=>∃k:Nat,k<=(if b.ok then qrB b else []).length/\ds=[.int .i64 (k:Int),.sl (zM (Vj a r v d b k))]
theorem YA{a:List Cu}{r:Rat}{v:Vc}{d:Nat}{b:Bx}{k:Nat}(h:∀q∈(if b.ok then qrB b else []),(xp a r v d q).length<=4^d):(Vj a r v d b k).length<=k*4^d:=by
 unfold Vj;generalize (if b.ok then qrB b else [])=l at h
 induction l generalizing k with
 |nil=>simp
 |cons q l ih=>
  cases k with
  |zero=>simp
  |succ k=>
   rw[List.take_succ_cons,fR,cL,Nat.succ_mul];have:=h q (by simp);have:=ih (k:=k) λq' h'=>h q' (by simp[h'])
   omega
section
variable {a:List Cu}{r:Rat}{v:Vc}(ha:∀c∈a,Gc c)(hn:a.length<=400)(hr:Hz 20 r)(hv:HV v)
include ha hn hr hv
theorem co:∀(d m N:Nat) (b:Bx),BD m N b->0<m->d<=3->m*2^d<=10^9->N*2^d<=10^8->
 qa CC 21 [.ag [.sl (kUs a)],.ag (rk (q4 r) []),.ag (kV v),.ag (kB b []),.c (.int .i64 (d:Int))] [.c (.sl (zM (xp a r v d b)))]:=by
 intro d
 induction d with
 |zero=>
  intro m N b h h0 _ h1 h2;have hb:=h.hb h0 (by omega) (by omega);have hq:=Y5 (qa CC) (λ_ _=>False) (λ_=>0) (kUs a) (q4 r) (q4 v.x) (q4 v.y) (q4 b.x0) (q4 b.y0) (q4 b.x1) (q4 b.y1) ((0:Nat):Int) (· =[.c (.sl (zM (xp a r v 0 b)))]);refine gOk Tryz.func21 hq ?_;clear hq;refine⟨_,mW hb hv hr,xG (λe=>?_) λe=>?_⟩<;>unfold xp<;>simp only[e,if_true,if_false,Hu]
  .rfl
  have hk:=gU ha hn hr h h0 (by omega) (by omega);cases hp:Qz a r b with
  |some u=>rw[hp]at hk;exact⟨_,_,_,hk,xG (λ_=>rfl) λe=>by cases e⟩
  |none=>rw[hp]at hk;exact⟨_,_,_,hk,xG (λe=>by cases e) λ_=>brb (λ_=>rfl) λe=>by cases e⟩
 |succ d ih=>
  intro m N b h h0 hd h1 h2;have p1:0<2^d:=lh (by omega);have e1:m*2^(d+1)=2*m*2^d:=by rw[kk];grind
  have e2:N*2^(d+1)=2*N*2^d:=by rw[kk];grind
  have b1:2*m<=2*m*2^d:=j0 _ p1;have b2:2*N<=2*N*2^d:=j0 _ p1;have hb:=h.hb h0 (by omega) (by omega);have hq:=Y5 (qa CC) (cInv a r v d b) (jn 100) (kUs a) (q4 r) (q4 v.x) (q4 v.y) (q4 b.x0) (q4 b.y0) (q4 b.x1) (q4 b.y1) ((d+1:Nat):Int) (· =[.c (.sl (zM (xp a r v (d+1) b)))]);refine gOk Tryz.func21 hq ?_;clear hq;refine⟨_,mW hb hv hr,xG (λe=>?_) λe=>?_⟩<;>unfold xp<;>simp only[e,if_true,if_false,Hu]
  .rfl
  have hk:=gU ha hn hr h h0 (by omega) (by omega);cases hp:Qz a r b with
  |some u=>rw[hp]at hk;exact⟨_,_,_,hk,xG (λ_=>rfl) λe=>by cases e⟩
  |none=>
   rw[hp]at hk;refine⟨_,_,_,hk,xG (λe=>by cases e) λ_=>brb (λe=>?_) λ_=>⟨_,OS hb,⟨0,lg _,rfl⟩,?_⟩⟩
   .simp only[beq_iff_eq]at e;omega
   have a6:∀q∈(if b.ok then qrB b else []),BD (2*m) (2*N) q:=λq hq=>by
    split at hq
    .exact h.qr q hq
    .simp at hq
   have hl4:(if b.ok then qrB b else []).length<=4:=by split<;>simp[qrB]
   have a4:=λq hq=>Vi (a:=a) (r:=r) hv d (2*m) (2*N) q (a6 q hq) (by omega) (by omega) (by omega)
   rintro _ _ ⟨k,hk,he⟩;simp only[ie,J9,Lm,true_and,and_true]at he;obtain⟨rfl,rfl⟩:=he;have hp4:4^d<=64:=k0 (n:=4) (i:=d) (j:=3) (by omega) (by omega);have hK:=YA (k:=k) λq hq=>(a4 q hq).2
   refine brd (λhlt=>?_) λhlt=>?_
   .rw[wY]at hlt;have a3:k<(if b.ok then qrB b else []).length:=by simpa using hlt
    have a5:=cb a3;have hg:=ih (2*m) (2*N) _ (a6 _ a5) (by omega) (by omega) (by omega) (by omega);have hw:Lv .i64 (((d+1:Nat):Int)-1)=(d:Int):=by rw[wI];omega
    rw[hw];refine⟨yn kw a3,_,_,_,_,wH kw a3,_,hg,⟨?_,Xh jf _⟩,⟨k+1,a3,?_⟩,qt⟩
    .unfold room;rw[xU,xU];have:=(a4 _ a5).2;have:k*4^d<=4*64:=k8 (by omega) hp4;omega
    .rw[wI];unfold Vj;rw[cc a3,gb,fR,e6,fl];simp only[zM,eb];rfl
   .have:k=(if b.ok then qrB b else []).length:=by rw[wY]at hlt;simp only[V1]at hlt;omega
    subst this;unfold Vj;rw[cv]
end
end Eng
end
section
namespace Eng
open Go Go.Proofs Go.RowKit Rl
set_option maxRecDepth 100000
theorem IZ:qa CC 78 [.c (.sl []),.c (.fn 79)] []:=by
 intro w F vs _ _ ha
 match vs,ha with
 |[v,u],⟨h,_⟩=>obtain⟨ad,c,rfl,_⟩:=CD.slice_inv (show CD w F (.sl []) v from h);have hP:CC.P=Tryz.prog:=rfl;rw[hP];refine(AnyF.slices_SortFunc_none Tryz.sortStrip ad c u w).mono ?_;rintro e w' ⟨rfl,rfl⟩;exact⟨Below.refl _ _,_,rfl, #[],rfl,trivial⟩
theorem EC:JC []=[]:=ea (Eng.DY Vg []).1.length_eq
theorem ED{B:Bx}(sb:HB 50 B):qa CC 34 [.ag (kB B []),.c (.sl [])] [.c (.bool (B.ok&&zw B []))]:=by
 have g46:=vC sb;have g58:qa CC 73 [.c (.sl []),.c (.fn 74)] [.c (.bool false)]:=OT (l:=[]) (by simp) (by simp);by_cases hbo:B.ok=true
 rotate_left
 .have hv:=T9 (qa CC) (λ_ _=>False) (λ_=>0) (λ_ _=>False) (λ_=>0) (λ_ _=>False) (λ_=>0) (λ_ _=>False) (λ_=>0) (q4 B.x0) (q4 B.y0) (q4 B.x1) (q4 B.y1) (· =[.c (.bool (B.ok&&zw B []))]);refine gOk Tryz.func34 hv ?_;clear hv;refine⟨_,g46,brb (λh=>?_) (λh=>?_)⟩
  .have:B.ok=false:=by simpa using h
   rw[this];rfl
  .exact absurd (by simpa using h) hbo
 rw[hbo]at g46 ⊢;simp only[Hv];have a7:∀y∈zi B [],Hz 50 y:=λy hy=>by
  simp only[zi,e6,fl,cg,dk,or_false]at hy;rcases hy with rfl|rfl
  .exact sb.1
  .exact sb.2.2.1
 have a8:∀y∈zj B [],Hz 50 y:=λy hy=>by
  simp only[zj,e6,fl,cg,dk,or_false]at hy;rcases hy with rfl|rfl
  .exact sb.2.1
  .exact sb.2.2.2
 obtain⟨lx,ly⟩:=Km B [];simp only[eH,Nat.mul_zero,l4]at lx ly;have r1:qa CC 75 [.c (.sl (xJ (zi B [])))] [.c (.sl (xJ (qj (zi B []))))]:=Kl (by simp[zi]) a7 (by omega);have r2:qa CC 75 [.c (.sl (xJ (zj B [])))] [.c (.sl (xJ (qj (zj B []))))]:=Kl (by simp[zj]) a8 (by omega);have px:=kQ (zi B []);have py:=kQ (zj B []);have mx:∀y∈qj (zi B []),Hz 50 y:=λy hy=>a7 y (xK.1 hy)
 have my:∀y∈qj (zj B []),Hz 50 y:=λy hy=>a8 y (xK.1 hy)
 have sx:=zQ (zi B []);have sy:=zQ (zj B []);have c0:qa CC 76 [.ag (kB B []),.c (.ptr [.sl (xJ (qj (zi B [])))]),.c (.ptr [.sl (xJ (qj (zj B [])))])] [.ag (zo (qj (zi B [])) (qj (zj B [])) B).cs]:=
  DP sb sx sy mx my (by omega) (by omega)
 have hbd:(zo (qj (zi B [])) (qj (zj B [])) B).c<2147483648:=by have a4:=Y7 (qj (zi B [])) B.x1;simp only[zo];omega
 have a3:zw B []=((hQ (zo (qj (zi B [])) (qj (zj B [])) B).a ((zo (qj (zi B [])) (qj (zj B [])) B).c-(zo (qj (zi B [])) (qj (zj B [])) B).a)).all λx=>
  decide ((zo (qj (zi B [])) (qj (zj B [])) B).d<=kJ x (zo (qj (zi B [])) (qj (zj B [])) B).b (JC []))):=rfl
 rw[EC]at a3;have hsw:∀x t,kJ x t []=t:=λ_ _=>rfl
 simp only[hsw]at a3;generalize hS:zo (qj (zi B [])) (qj (zj B [])) B=S at *;have hv:=T9 (qa CC) (λ_ ds=>ds=[.int .i64 0,.sl (xJ (zi B [])),.sl (xJ (zj B []))]) (λ_=>0) (λ_ ds=>ds=[.int .i64 0,.sl []]) (λ_=>0)
  (λ_ ds=>∃x:Nat,S.a<=x/\(x<=S.c\/x=S.a)/\ds=[.int .i64 (x:Int)]/\∀x',S.a<=x'->x'<x->S.d<=S.b) (λds=>(S.c-toI (nth .undef ds 0)).toNat)
  (λgs ds=>∃x:Nat,gs=[.int .i64 (x:Int)]/\ds=[.int .i64 (S.b:Int),.int .i64 0]) (λ_=>0) (q4 B.x0) (q4 B.y0) (q4 B.x1) (q4 B.y1) (· =[.c (.bool (zw B []))])
 refine gOk Tryz.func34 hv ?_;clear hv;simp only[V1];refine⟨_,g46,brb (λh=>by simp at h) (λ_=>⟨_,g58,xG (λh2=>by simp at h2) (λ_=>⟨rfl,?_⟩)⟩)⟩;intro n es1 es2 he;simp only[ie,J9,Lm,true_and,and_true]at he;obtain⟨rfl,rfl,rfl⟩:=he;refine brd (λh=>by omega) (λ_=>⟨_,r1,_,r2,_,_,_,_,c0,trivial,?_⟩);intro n4 es5 he;simp only[ie,J9,Lm,true_and,and_true]at he;obtain⟨rfl,rfl⟩:=he;refine brd (λh=>by omega) (λ_=>⟨IZ,⟨S.a,it _,.inr rfl,rfl,by omega⟩,?_⟩);rintro n ⟨x,hx1,hx2,he,a6⟩;simp only[ie,J9,true_and,and_true]at he;subst he;refine brd (λh=>?_) (λh=>?_)
 rotate_left
 .have a9:zw B []=true:=by rw[a3,ez];intro x' ad;rw[eg]at ad;exact decide_eq_true (a6 x' ad.1 (by omega))
  rw[a9]
 have hxc:x<S.c:=by omega
 refine⟨⟨x,rfl,rfl⟩,?_⟩;rintro n5 n6 ⟨x',hg,he⟩;simp only[ie,J9,true_and,and_true]at hg he;obtain⟨rfl,rfl⟩:=he;refine brd (λh2=>absurd h2 (by simp)) (λ_=>brd (λh3=>?_) (λh3=>?_))
 .have a9:zw B []=false:=by rw[a3,Bool.eq_false_iff];intro a5;rw[ez]at a5;have:=of_decide_eq_true (a5 x (eg.2 ⟨hx1,by omega⟩));omega
  rw[a9]
 .have hw:Lv .i64 ((x:Int)+1)=((x+1:Nat):Int):=by rw[xF];omega
  rw[hw];refine⟨⟨x+1,by omega,.inl (by omega),rfl,λx' h4 h5=>by omega⟩,by simp only[nth,toI];omega⟩
theorem EE{B:Bx}{L:List Bx}(sb:HB 50 B)(hbx:∀x∈L,HB 50 x)(hLn:L.length<=1000):
 qa CC 34 [.ag (kB B []),.c (.sl (kBs L))] [.c (.bool (B.ok&&(L.all I2&&zw B L)))]:=by
 by_cases h:L=[]
 .subst h;exact ED sb
 .exact IW sb hbx hLn h
end Eng
end
section
namespace Eng
open Go Go.Proofs Rl
set_option maxRecDepth 100000
noncomputable def ckC (a:List Cu) (r:Rat) (v:Vc) (c:Cl):Bool:=if c.far then bG c.b v r else match c.kp with
 |none=>false
 |some u=>jC c.b u r&&wZ a u
noncomputable def ckP (a:List Cu) (r:Rat) (v:Vc) (l:List Cl):Bool:=decide (0<r)&&(l.all (ckC a r v)&&((arB v r).ok&&((l.map Cl.b).all I2&&zw (arB v r) (l.map Cl.b))))
structure CkH (a:List Cu) (r:Rat) (v:Vc) (l:List Cl):Prop where
 ha:∀c∈a,Mo c
 hn:a.length<=400
 hr:Hz 20 r
 hv:HV v
 hB:HB 20 (arB v r)
 hl:∀c∈l,GC c
 hL:l.length<=1000
theorem Mo.gc{c:Cu}(h:Mo c):Gc c:=h.1.1
theorem oM(x:Rat):decide (sr x<=0)=!decide (0<x):=by
 have:= @Yd x;rw[<-decide_not,decide_eq_decide];constructor
 .intro h g;have:=this.2 g;omega
 .intro h;have:=mt this.1 h;omega
section
variable {a:List Cu}{r:Rat}{v:Vc}{l:List Cl}
noncomputable def ckI (a:List Cu) (r:Rat) (v:Vc) (l:List Cl):List D->List D->Prop:=λ_ ds=>∃k:Nat,k<=l.length/\ds=[.int .i64 (k:Int),.sl (kBs ((l.take k).map Cl.b))]/\∀j (hj:j<l.length),j<k->ckC a r v l[j]=true
theorem nP{k:Nat}(hk:k<l.length)(h:ckC a r v l[k]=false):ckP a r v l=false:=by
 unfold ckP;rw[gq.2 ⟨_,cb hk,by rw[h];simp⟩];simp
theorem gV{k:Nat}(hk:k<l.length):kBs ((l.take (k+1)).map Cl.b)=kBs ((l.take k).map Cl.b)++[kB l[k].b []]:=by
 rw[cc hk,eb];simp[kBs]
theorem EF{k:Nat}(hL:l.length<=1000)(hk:k<l.length)(hT:∀j (hj:j<l.length),j<k->ckC a r v l[j]=true)(h:ckC a r v l[k]=true):
 ckI a r v l [] [.int .i64 (Lv .i64 ((k:Int)+1)),.sl (kBs ((l.take k).map Cl.b)++[kB l[k].b []])]:=by
 rw[wI];refine⟨k+1,hk,by rw[gV hk];rfl,λj hj hjk=>?_⟩;rcases im j k with g|g
 .exact hT j hj g
 .have:j=k:=by omega
  subst this;exact h
theorem cu(hT:∀j (hj:j<l.length),j<l.length->ckC a r v l[j]=true)(hr:decide (0<r)=true):ckP a r v l=((arB v r).ok&&((l.map Cl.b).all I2&&zw (arB v r) (l.map Cl.b))):=by
 unfold ckP;rw[hr,ez.2 λc hc=>by obtain⟨j,hj,rfl⟩:=e0 hc;exact hT j hj hj];rfl
theorem Ji(h:CkH a r v l)(k:Nat)(hk:k<=l.length):room ((kBs ((l.take k).map Cl.b)).length+1):=by
 unfold room;rw[wY,fg,cf];have:=h.hL;omega
theorem YB(b:Bx):lens 16 [kB b []]:=λe he=>by rw[cr.1 he];rfl
theorem TM(h:CkH a r v l):qa CC 10 [.ag [.sl (kUs a)],.ag (rk (q4 r) []),.ag (kV v),.c (.sl (zM l))] [.c (.bool (ckP a r v l))]:=by
 have hq:=Ev (qa CC) (ckI a r v l) (jn 10000) (kUs a) (q4 r) (q4 v.x) (q4 v.y) (zM l) (· =[.c (.bool (ckP a r v l))]);refine gOk Tryz.func10 hq ?_;clear hq;have hL:=h.hL;refine⟨_,kq r,brb (λe=>?_) λe=>brd (λe=>?_) λ_=>⟨⟨0,lg _,rfl,λj _ g=>absurd g (by omega)⟩,?_⟩⟩
 .rw[oM]at e;unfold ckP;rw[show decide (0<r)=false by simpa using e];rfl
 .rw[xU]at e;exact absurd e (by simp only[V1];omega)
 rw[oM]at e;have hr0:decide (0<r)=true:=by simpa using e
 rintro _ _ ⟨k,hk,he,hT⟩;simp only[ie,J9,Lm,true_and,and_true]at he;obtain⟨rfl,rfl⟩:=he;refine brd (λhlt=>?_) λhlt=>?_
 .have a5:k<l.length:=by simpa [zM]using hlt
  have hc:=wH jf a5;have hg:=h.hl _ (cb a5);have a3:=EF hL a5 hT;have a4:=nP (a:=a) (r:=r) (v:=v) a5;generalize l[k]=x at hc hg a3 a4;obtain⟨b,f,kp⟩:=x;have a7:=vC hg.1.m;cases f with
  |true=>
   have a6:∃x4 x5,cut (nth [] (zM l) (aE (k:Int))) 0 25 (rk (q4 b.x0) (rk (q4 b.y0) (rk (q4 b.x1) (rk (q4 b.y1) (J8 true::rk x4 (rk x5 [])))))):=by
    cases kp with
    |none=>exact⟨_,_,hc⟩
    |some u=>exact⟨_,_,hc⟩
   obtain⟨x4,x5,a6⟩:=a6;refine⟨yn jf a5,_,_,_,_,_,_,_,a6,⟨Ji h k hk,YB b⟩,_,a7,brb (λe=>?_) λe=>xG (λ_=>⟨_,cFar hg.1 h.hv h.hr,brb (λe=>?_) λe=>⟨a3 (by simpa [ckC]using e),qt⟩⟩) λe=>by cases e⟩
   .rw[a4 (by simp only[ckC,if_true];unfold bG;rw[show b.ok=false by simpa using e];rfl)]
   .rw[a4 (by simpa [ckC]using e)]
  |false=>
   cases kp with
   |none=>refine⟨yn jf a5,_,_,_,_,_,z4,z4,hc,⟨Ji h k hk,YB b⟩,_,a7,brb (λ_=>?_) λ_=>xG (λe=>by cases e) λ_=>⟨_,Tm,brb (λ_=>?_) λe=>by cases e⟩⟩<;>rw[a4 rfl]
   |some u=>
    have hu:=hg.2 u rfl;have ec:ckC a r v ⟨b,false,some u⟩=(jC b u r&&wZ a u):=rfl;rw[ec]at a3 a4;refine⟨yn jf a5,_,_,_,_,_,_,_,hc,⟨Ji h k hk,YB b⟩,_,a7,brb (λe=>?_) λ_=>xG (λe=>by cases e) λ_=>⟨_,D2 (hu.1.mono (by omega)) (hu.2.mono (by omega)),brb (λe=>by cases e) λ_=>
     ⟨_,nJ u,_,IL h.ha (RI hu) (by have:=h.hn;omega),brd (λe=>?_) λe=>⟨_,pT hg.1 hu h.hr,brb (λe=>?_) λe2=>⟨a3 ?_,qt⟩⟩⟩⟩⟩
    .rw[a4 (by unfold jC;rw[show b.ok=false by simpa using e];rfl)]
    .rw[a4 (by unfold wZ;rw[decide_eq_false (by omega)];simp)]
    .rw[a4 (by rw[show jC b u r=false by simpa using e];rfl)]
    .rw[show jC b u r=true by simpa using e2];unfold wZ;rw[decide_eq_true (by omega)];rfl
 .have:k=l.length:=by rw[xU]at hlt;simp only[V1]at hlt;omega
  subst this;rw[cv,cu hT hr0];exact⟨_,_,_,_,fH h.hv h.hr,_,EE h.hB.m (λb hb=>by obtain⟨c,hc,rfl⟩:=en.1 hb;exact(h.hl c hc).1.m) (by rw[fg];exact hL),rfl⟩
theorem cz(h:CkH a r v l):qa CC 12 [.ag [.sl (kUs a)],.ag (rk (q4 r) []),.ag (kV v),.c (.sl (zM l))] [.c (.bool (ckP a r v l))]:=by
 have hq:=Eu (qa CC) (ckI a r v l) (jn 10000) (kUs a) (q4 r) (q4 v.x) (q4 v.y) (zM l) (· =[.c (.bool (ckP a r v l))]);refine gOk Tryz.func12 hq ?_;clear hq;have hL:=h.hL;refine⟨_,z8 r,brb (λe=>?_) λe=>brd (λe=>?_) λ_=>⟨⟨0,lg _,rfl,λj _ g=>absurd g (by omega)⟩,?_⟩⟩
 .rw[oM]at e;unfold ckP;rw[show decide (0<r)=false by simpa using e];rfl
 .rw[xU]at e;exact absurd e (by simp only[V1];omega)
 rw[oM]at e;have hr0:decide (0<r)=true:=by simpa using e
 rintro _ _ ⟨k,hk,he,hT⟩;simp only[ie,J9,Lm,true_and,and_true]at he;obtain⟨rfl,rfl⟩:=he;refine brd (λhlt=>?_) λhlt=>?_
 .have a4:k<l.length:=by simpa [zM]using hlt
  have hc:=wH jf a4;have hg:=h.hl _ (cb a4);have a3:=EF hL a4 hT;have a5:=nP (a:=a) (r:=r) (v:=v) a4;generalize l[k]=x at hc hg a3 a5;obtain⟨b,f,kp⟩:=x;cases f with
  |true=>
   have a6:∃x4 x5,cut (nth [] (zM l) (aE (k:Int))) 0 25 (rk (q4 b.x0) (rk (q4 b.y0) (rk (q4 b.x1) (rk (q4 b.y1) (J8 true::rk x4 (rk x5 [])))))):=by
    cases kp with
    |none=>exact⟨_,_,hc⟩
    |some u=>exact⟨_,_,hc⟩
   obtain⟨x4,x5,a6⟩:=a6;refine⟨yn jf a4,_,_,_,_,_,_,_,a6,⟨Ji h k hk,YB b⟩,xG (λ_=>⟨_,mW hg.1 h.hv h.hr,brb (λe=>?_) λe=>⟨a3 (by simpa [ckC]using e),qt⟩⟩) λe=>by cases e⟩;rw[a5 (by simpa [ckC]using e)]
  |false=>
   cases kp with
   |none=>refine⟨yn jf a4,_,_,_,_,_,z4,z4,hc,⟨Ji h k hk,YB b⟩,xG (λe=>by cases e) λ_=>⟨_,D1,brb (λ_=>?_) λe=>by cases e⟩⟩;rw[a5 rfl]
   |some u=>
    have hu:=hg.2 u rfl;have ec:ckC a r v ⟨b,false,some u⟩=(jC b u r&&wZ a u):=rfl;rw[ec]at a3 a5;refine⟨yn jf a4,_,_,_,_,_,_,_,hc,⟨Ji h k hk,YB b⟩,xG (λe=>by cases e) λ_=>⟨_,xl hu.1,brb (λe=>by cases e) λ_=>⟨_,xl hu.2,brb (λe=>by cases e) λ_=>
     ⟨_,mX hg.1 hu h.hr,brb (λe=>?_) λe1=>⟨_,Pm (λc hc=>(h.ha c hc).gc) hu h.hn,brb (λe=>?_) λe2=>⟨a3 ?_,qt⟩⟩⟩⟩⟩⟩
    .rw[a5 (by rw[show jC b u r=false by simpa using e];rfl)]
    .rw[a5 (by rw[show wZ a u=false by simpa using e];simp)]
    .rw[show jC b u r=true by simpa using e1,show wZ a u=true by simpa using e2];rfl
 .have:k=l.length:=by rw[xU]at hlt;simp only[V1]at hlt;omega
  subst this;rw[cv,cu hT hr0];exact⟨_,_,_,_,MW h.hv h.hr,_,EB h.hB (λb hb=>by obtain⟨c,hc,rfl⟩:=en.1 hb;exact(h.hl c hc).1) (by rw[fg];exact hL),rfl⟩
end
end Eng
end
section
namespace Eng
open Go Go.Proofs Go.RowKit Go.Lib Go.Shelf
theorem zR{b:Nat}{t:TypeId}:∀(vs:List Value) (o:Nat) (w:World) (cs:Array Value),w.heap[b]? =some (.cells cs t (0,0))->w.setCells b o vs=setBlk w b (.cells (qK cs.toList o vs).toArray t (0,0))
 |[],o,w,cs,h=>by simp only[T1,qK,Array.toArray_toList];rw[QL h]
 |v::vs,o,w,cs,h=>by
  have hlt:b<w.heap.size:=by
   rcases im b w.heap.size with h1|h1
   .exact h1
   .simp[h1]at h
  rw[T1,K3 h,zR vs (o+1) _ _ (zk hlt),jq];simp only[qK,Array.toList_setIfInBounds,<-xx]
def clZ:List Value:=[.bool false,.slice none 0 0,.bool false,.slice none 0 0,.bool false,.slice none 0 0,.bool false,.slice none 0 0,.bool false,.slice none 0 0,.bool false,.slice none 0 0,.bool false,.slice none 0 0,.bool false,.slice none 0 0,.bool false,.bool false,.slice none 0 0,.bool false,.slice none 0 0,.bool false,.slice none 0 0,.bool false,.slice none 0 0]
theorem Nh:ka Tryz.prog 48=some clZ:=by kernel_rfl
theorem EG:Tryz.prog.underlying 42=some (.slice 48):=by kernel_rfl
set_option maxHeartbeats 4000000 in
theorem gW(b n c i j:Nat)(cs:Array Value)(t:TypeId)(w:World)(hblk:w.heap[b]? =some (.cells cs t (0,0)))(hsz:cs.size=c*25)(hn:n<=c)(_hm:c<=9223372036854775807)(hij:i<j)(hj:j<=n)(one:∀v∈cs.toList.take (n*25),v.oneCell'=true)(zs:List Value)(hzs:zs=(Lr clZ.toArray (j-i)).toList):
 Calls Tryz.prog 7 #[.slice (some ⟨b,0,none⟩) n c,.int .i64 i,.int .i64 j] w λe w'=>e= .returned (.slice (some ⟨b,0,none⟩) (i+(n-j)) c)/\
  w'=setBlk w.drew b (.cells (qK (qK cs.toList (i*25) ((cs.toList.take (n*25)).drop (j*25))) ((i+(n-j))*25) zs).toArray t (0,0)):=by
 have b7:=EG;have b6:Tryz.prog.follows .mixedOrders=true:=by kernel_rfl
 have z28:∀w,(Go.sizeOf 48).run Tryz.prog w= .ok 25 w:=λw=>xc Nh w
 have a36:∀w,(isAgg 42).run Tryz.prog w= .ok false w:=λw=>by kernel_rfl
 obtain⟨i0,zv,b2,hz0,b5,al,a7,_⟩:=zO Nh;have al:i0.size=25:=al;obtain⟨a3,a4⟩:∃a3,a3=(cs.toList.take (n*25)).drop (j*25):=⟨_,rfl⟩;have a5:a3.length=(n-j)*25:=by rw[a4,er,cf];simp;omega
 rw[<-a4];obtain⟨A,hA,ag⟩:∃A:Addr,(if c=j then some (⟨b,0,none⟩:Addr)else some ⟨b,j*25,none⟩)=some A/\Hid (∀t u,a3[t]? =some u->w.drew.cell? (A.add t)=some u):=by
  by_cases h:c=j
  .refine⟨⟨b,0,none⟩,by simp[h],λt u hu=>?_⟩;have h0:a3.length=0:=by rw[a5];omega
   rw[List.length_eq_zero_iff.1 h0]at hu;simp at hu
  .refine⟨⟨b,j*25,none⟩,by simp[h],λq u hu=>?_⟩;rw[Addr.add_lit,xW (w:=w.drew) (by exact hblk)];rw[a4,hU,hR]at hu;split at hu
   .simpa using hu
   .simp at hu
 have s1:Hid (a3.length=(n-j)*25):=a5;have s2:Hid (∀u∈a3,u.oneCell'=true):=λu hu=>one u (el (a4▸hu))
 have s3:Hid (∀q,q<a3.length->(w.drew.cell? ⟨b,0+i*25+q,none⟩).isSome=true/\w.drew.frozen? ⟨b,0+i*25+q,none⟩=false):=by intro q hq;rw[a5]at hq;rw[xW (w:=w.drew) (by exact hblk),vg (w:=w.drew) (by exact hblk)];refine⟨?_,rfl⟩;rw[Array.getElem?_eq_getElem (by omega)];rfl
 obtain⟨W1,a9⟩:∃W1,W1=w.drew.setCells b (0+i*25) a3:=⟨_,rfl⟩;have a6:W1=setBlk w.drew b (.cells (qK cs.toList (i*25) a3).toArray t (0,0)):=by rw[a9,k9];exact zR a3 _ w.drew cs hblk
 have ad:b<w.heap.size:=by
  rcases im b w.heap.size with h1|h1
  .exact h1
  .simp[h1]at hblk
 have b1:W1.heap[b]? =some (.cells (qK cs.toList (i*25) a3).toArray t (0,0)):=by rw[a6];exact zk ad
 have a8:(Lr zv.cells (n-(i+(n-j)))).toList=zs:=by rw[hzs,show n-(i+(n-j))=j-i by omega,<-b5]
 have an:zs.length=(j-i)*25:=by rw[hzs];simp[Lr,clZ]
 have ap:∀v∈zs,v.oneCell'=true:=by rw[hzs];have:=YK (w:=w) (F':=λ_=>False) (z:=clZ.toArray) (n:=j-i) (by simp[clZ]) (by simpa using a7);intro v hv;obtain⟨d,hd⟩:=Qe this v hv;exact hd.one
 have hcl:∀ty,(Ls #[42] ty #[.slice (some ⟨b,(i+(n-j))*25,none⟩) (n-(i+(n-j))) (c-(i+(n-j)))]).run Tryz.prog W1= .ok (.tuple #[]) (setBlk W1 b (.cells (qK (qK cs.toList (i*25) a3) ((i+(n-j))*25) zs).toArray t (0,0))):=λty=>by
  have b4:=xN (P:=Tryz.prog) (b:=b) (o:=(i+(n-j))*25) zs 0 W1 _ b1 (by rw[an];simp only[hV,qS,Array.length_toList,hsz];omega) ap;have hzr:∀w,(zeroValue 48).run Tryz.prog w= .ok zv w:=λw=>by simp[zeroValue,typeInfo,b2,hz0]
  obtain⟨m,b3⟩:∃m,n-(i+(n-j))=m+1:=⟨n-(i+(n-j))-1,by omega⟩;rw[b3]at a8;rw[l4]at b4;rw[b3];simp[Ls,qN b7,hzr,a8,b4]
 have X:Aside (W1=setBlk w.drew b (.cells (qK cs.toList (i*25) a3).toArray t (0,0))):=a6;have hW:Hid (W1=w.drew.setCells b (0+i*25) a3):=a9;have hic:i<=c:=by omega
 have hjc:j<=c:=by omega
 have Hone:Hid _:=one;have Hblk:Hid _:=hblk;have Hsz:Hid _:=hsz;have HZ:Hid _:=a8;clear a9 a6 b1 a4 a5 one hblk hsz a8 an ap hzs a7 b5
 go_enter Tryz.func7,Tryz.ntmps7
 go_wp2_with fail
 go_region_law_o (refine step_append_room rfl (.tmp 22) (.tmp 25) 42 rfl 48 i0 25 b7 b2 al b 0 i c (by simp[Act.eval,Act.put]) A (n-j) (c-j) a3 (by simp[Act.eval,Act.put]) s1.out ag.out s2.out (by omega) s3.out ?_;rw[<-hW.out])
 go_wp2
 go_ret
 exact⟨rfl,by rw[X.out,jq]⟩
theorem aa{es:List (List D)}{s i j q:Nat}(h1:∀e∈es,e.length=s)(hij:i<=j)(hj:j<=es.length):
 nth .undef (es.take i++es.drop j).flatten q=if q<i*s then nth .undef es.flatten q else nth .undef es.flatten (j*s+(q-i*s)):=by
 have l1:(es.take i).flatten.length=i*s:=by rw[qk (size:=s) λe he=>h1 e (dc he),cf,l0 (by omega)]
 have l2:(es.take j).flatten.length=j*s:=by rw[qk (size:=s) λe he=>h1 e (dc he),cf,l0 (by omega)]
 have e1:es.flatten=(es.take i).flatten++(es.drop i).flatten:=by rw[<-fS,hM]
 have e2:es.flatten=(es.take j).flatten++(es.drop j).flatten:=by rw[<-fS,hM]
 rw[fS];simp only[qF,List.getElem?_append,l1];by_cases q1:q<i*s
 .rw[if_pos q1,if_pos q1,e1,fz (by rw[l1];exact q1)]
 .rw[if_neg q1,if_neg q1,e2,List.getElem?_append_right (by rw[l2];omega),l2];rw[show j*s+(q-i*s)-j*s=q-i*s by omega]
theorem EH{C:Cx}(hP:C.P=Tryz.prog){es:List (List D)}{i j:Nat}(hij:i<j)(hj:j<=es.length)(h16:∀e∈es,e.length=25):
 wC C 7 [] (some (25,es)) [.c (.int .i64 i),.c (.int .i64 j)] 25 (es.take i++es.drop j):=by
 intro w F a8 a9 g c0 a3 t0 hb hinv h1 h2 hl;have L:=hl _ _ rfl;obtain rfl:a8=[]:=by
  match a8,h1 with
  |[],_=>rfl
 obtain⟨v1,v2,rfl,q1,q2⟩:∃v1 v2,a9=[v1,v2]/\v1= .int .i64 i/\v2= .int .i64 j:=by
  match a9,h2 with
  |[v1,v2],⟨a1,a2,_⟩=>exact⟨v1,v2,rfl,by cases(a1:CD _ _ _ _);rfl,by cases(a2:CD _ _ _ _);rfl⟩
 subst q1 q2;have a7:=L.sz;have a6:=L.lc;have a5:∀q,q<es.length*25->CD w F (nth .undef es.flatten q) (nth undef a3.toList q):=λq hq=>by
  obtain⟨v,e1,e2⟩:=L.cd q hq;have:nth undef a3.toList q=v:=by rw[qF];simp[e1]
  rw[this];exact e2
 rw[hP];refine(gW g es.length c0 i j a3 t0 w L.blk a7 a6.1 a6.2 hij hj (λv hv=>?_) _ rfl).mono ?_
 .obtain⟨q,hq,rfl⟩:=List.mem_iff_getElem.1 hv;have hq':=hq;rw[cf]at hq';have:=(a5 q (by omega)).one;rw[qm _ (by omega)]at this;rw[List.getElem_take];exact this
 rintro e w' ⟨rfl,rfl⟩;generalize hz:(Lr clZ.toArray (j-i)).toList=zs;generalize hn:(a3.toList.take (es.length*25)).drop (j*25)=news;have hnl:news.length=(es.length-j)*25:=by rw[<-hn,er,cf];simp;omega
 have a4:(es.take i++es.drop j).length=i+(es.length-j):=by simp only[cL,cf,er];omega
 refine⟨((I1 _ _).drew).setBlk (.inr rfl),F,g,c0,(qK (qK a3.toList (i*25) news) ((i+(es.length-j))*25) zs).toArray,t0,by rw[a4],λ_ h=>h,λx hx=>⟨by rw[zH];exact hb x hx,.inl hx⟩,.inr rfl,
  ⟨L.nF,by rw[zH];exact L.lt,zk L.lt,by rw[hV,qS,qS];simpa using a7,⟨by rw[a4];omega,a6.2⟩,by
   rw[a4];exact L.room.le (by omega),by omega,λe he=>?_,by have:=L.ct;rw[hP]at this;exact this,λq hq=>?_⟩⟩
 .rcases dn.1 he with he|he
  .exact h16 e (dc he)
  .exact h16 e (el he)
 .rw[a4]at hq;refine⟨nth undef (qK (qK a3.toList (i*25) news) ((i+(es.length-j))*25) zs) q,?_,?_⟩
  .rw[qm _ (by rw[qS,qS];simp;omega)];simp
  .refine CD.mono (w:=w) ?_ (λ_ h=>h) λb hbF=>zl (w:=w.drew) (λe=>L.nF (e▸hbF))
   rw[xM _ _ _ _ _ hq,aa h16 (by omega) hj];by_cases q1:q<i*25
   .rw[if_pos q1,xM _ _ _ _ _ q1];exact a5 q (by omega)
   .rw[if_neg q1];have:=zG undef news a3.toList (i*25) (q-i*25) (by omega) (by simp;omega);rw[show i*25+(q-i*25)=q by omega]at this;rw[this,<-hn,qF (α:=Value),hU,hR,if_pos (by omega),<-qF];exact a5 _ (by omega)
set_option maxHeartbeats 4000000 in
theorem EI(c:Nat)(w:World):Calls Tryz.prog 11 #[.slice none 0 c] w λe w'=>e= .returned (.slice none 0 0)/\w'=w:=by
 have a3:Tryz.prog.follows .mixedOrders=true:=by kernel_rfl
 have t36:=EG;have he:∀w,(binOp .eql 42 (.slice none 0 c) (.slice none 0 0)).run Tryz.prog w= .ok (.bool true) w:=λw=>by have:=run_eql_slice_nil (P:=Tryz.prog) w 42 48 none 0 c 0 0 EG;simpa using this
 go_enter Tryz.func11,Tryz.ntmps11
 go_wp2
 all_goals (go_ret;exact⟨rfl,rfl⟩)
set_option maxHeartbeats 4000000 in
theorem EJ(a:Addr)(c:Nat)(w:World):Calls Tryz.prog 11 #[.slice (some a) 0 c] w λe w'=>∃b,e= .returned (.slice (some b) 0 0)/\w'=w.alloc (.cells #[] 48):=by
 have a3:Tryz.prog.follows .mixedOrders=true:=by kernel_rfl
 have t36:=EG;have he:∀w,(binOp .eql 42 (.slice (some a) 0 c) (.slice none 0 0)).run Tryz.prog w= .ok (.bool false) w:=λw=>by have:=run_eql_slice_nil (P:=Tryz.prog) w 42 48 (some a) 0 c 0 0 EG;simpa using this
 have z28:∀w,(Go.sizeOf 48).run Tryz.prog w= .ok 25 w:=λw=>xc Nh w
 go_enter Tryz.func11,Tryz.ntmps11
 go_wp2
 go_ret
 exact⟨_,rfl,rfl⟩
theorem TN:qa CC 11 [.c (.sl [])] [.c (.sl [])]:=by
 intro w F vs _ _ ha
 match vs,ha with
 |[v],⟨h,_⟩=>
  obtain⟨ad,c,rfl,_⟩:=CD.slice_inv (show CD w F (.sl []) v from h);have hP:CC.P=Tryz.prog:=rfl;rw[hP];cases ad with
  |none=>refine(EI c w).mono ?_;rintro e w' ⟨rfl,rfl⟩;exact⟨Below.refl _ _,_,rfl,CD.nil _ _⟩
  |some a=>refine(EJ a c w).mono ?_;rintro e w' ⟨b,rfl,rfl⟩;exact⟨(Below.refl _ _).alloc (it _) _,_,rfl,CD.nil _ _⟩
end Eng
end
section
namespace Eng
open Go Go.Proofs Rl
set_option maxRecDepth 100000
theorem Xo{l:List Cl}(h:l≠[]):zM l≠[]:=λe=>h (by simpa [zM]using e)
section
variable {a:List Cu}{r:Rat}{v:Vc}(ha:∀c∈a,Gc c)(hn:a.length<=400)(hr:Hz 20 r)(hv:HV v)
include ha hn hr hv
theorem gX{d m N:Nat}{b:Bx}(h:BD m N b)(h0:0<m)(hd:d<=3)(h1:m*2^d<=10^9)(h2:N*2^d<=10^8)(hne:xp a r v d b≠[]):
 wC CC 21 [.ag [.sl (kUs a)],.ag (rk (q4 r) []),.ag (kV v),.ag (kB b []),.c (.int .i64 (d:Int))] none [] 25 (zM (xp a r v d b)):=by
 have p1:0<2^d:=lh (by omega);have b1:m<=m*2^d:=j0 _ p1;have b2:N<=N*2^d:=j0 _ p1;have hb:=h.hb h0 (by omega) (by omega);have hq:=Sa (qa CC) (cInv a r v (d-1) b) (jn 100) (kUs a) (q4 r) (q4 v.x) (q4 v.y) (q4 b.x0) (q4 b.y0) (q4 b.x1) (q4 b.y1) (d:Int) (λs es=>s=25/\es=zM (xp a r v d b));refine KW (C:=CC) mixedT Tryz.func21 (hq.mpr ?_);clear hq;have hk:=gU ha hn hr h h0 (by omega) (by omega);have a4:∀c:Cl,[kCl c]≠[]:=λc e=>by cases e
 cases d with
 |zero=>
  refine⟨_,mW hb hv hr,xG (λe=>?_) λe=>?_⟩<;>unfold xp<;>simp only[e,if_true,if_false,Hu]
  .exact⟨a4 ⟨b,true,none⟩,by trivial,rfl⟩
  cases hp:Qz a r b with
  |some u=>rw[hp]at hk;exact⟨_,_,_,hk,xG (λ_=>⟨a4 ⟨b,false,some u⟩,by trivial,rfl⟩) λe=>by cases e⟩
  |none=>rw[hp]at hk;exact⟨_,_,_,hk,xG (λe=>by cases e) λ_=>brb (λ_=>⟨a4 ⟨b,false,some v⟩,by trivial,rfl⟩) λe=>by cases e⟩
 |succ d=>
  have e1:m*2^(d+1)=2*m*2^d:=by rw[kk];grind
  have e2:N*2^(d+1)=2*N*2^d:=by rw[kk];grind
  unfold xp at hne;refine⟨_,mW hb hv hr,xG (λe=>?_) λe=>?_⟩<;>unfold xp<;>simp only[e,if_true,if_false,Hu]at hne ⊢
  .exact⟨a4 ⟨b,true,none⟩,by trivial,rfl⟩
  cases hp:Qz a r b with
  |some u=>rw[hp]at hk;exact⟨_,_,_,hk,xG (λ_=>⟨a4 ⟨b,false,some u⟩,by trivial,rfl⟩) λe=>by cases e⟩
  |none=>
   rw[hp]at hk hne;refine⟨_,_,_,hk,xG (λe=>by cases e) λ_=>brb (λe=>?_) λ_=>⟨_,OS hb,⟨0,lg _,rfl⟩,?_⟩⟩
   .simp only[beq_iff_eq]at e;omega
   have a7:∀q∈(if b.ok then qrB b else []),BD (2*m) (2*N) q:=λq hq=>by
    split at hq
    .exact h.qr q hq
    .simp at hq
   have hl4:(if b.ok then qrB b else []).length<=4:=by split<;>simp[qrB]
   have a5:=λq hq=>Vi (a:=a) (r:=r) hv d (2*m) (2*N) q (a7 q hq) (by omega) (by omega) (by omega)
   rintro _ _ ⟨k,hk,he⟩;rw[ls]at he;simp only[ie,J9,Lm,true_and,and_true]at he;obtain⟨rfl,rfl⟩:=he;have hp4:4^d<=64:=k0 (n:=4) (i:=d) (j:=3) (by omega) (by omega);have hK:=YA (k:=k) λq hq=>(a5 q hq).2
   refine brd (λhlt=>?_) λhlt=>?_
   .rw[wY]at hlt;have a3:k<(if b.ok then qrB b else []).length:=by simpa using hlt
    have a6:=cb a3;have hg:=co ha hn hr hv d (2*m) (2*N) _ (a7 _ a6) (by omega) (by omega) (by omega) (by omega);have hw:Lv .i64 (((d+1:Nat):Int)-1)=(d:Int):=by rw[wI];omega
    rw[hw];refine⟨yn kw a3,_,_,_,_,wH kw a3,_,hg,⟨?_,Xh jf _⟩,⟨k+1,a3,?_⟩,qt⟩
    .unfold room;rw[xU,xU];have:=(a5 _ a6).2;have:k*4^d<=4*64:=k8 (by omega) hp4;omega
    .rw[wI,ls];unfold Vj;rw[cc a3,gb,fR,e6,fl];simp only[zM,eb];rfl
   .have:k=(if b.ok then qrB b else []).length:=by rw[wY]at hlt;simp only[V1]at hlt;omega
    subst this;unfold Vj;rw[cv];exact⟨Xo hne,by trivial,rfl⟩
theorem gY{d m N:Nat}(hB:BD m N (arB v r))(h0:0<m)(hd:d<=3)(h1:m*2^d<=10^9)(h2:N*2^d<=10^8)(hne:xp a r v d (arB v r)≠[]):
 wC CC 6 [.ag [.sl (kUs a)],.ag (rk (q4 r) []),.ag (kV v),.c (.int .i64 (d:Int))] none [] 25 (zM (xp a r v d (arB v r))):=by
 have hc:=gX ha hn hr hv hB h0 hd h1 h2 hne
 letI:EffOk (CX [(21,XE (isA [.ag [.sl (kUs a)],.ag (rk (q4 r) []),.ag (kV v),.ag (kB (arB v r) []),.c (.int .i64 (d:Int))]) 25 λ_=>zM (xp a r v d (arB v r))),(7,KX 25 no2 nm2)]):=
  zY (Xj ⟨JK Tryz.func21 (by simp[Tryz.f21]) (by decide) λal h=>⟨Xo hne,by rw[IQ h];exact jr (C:=CC) rfl rfl hc⟩,
   Ga Tryz.func7 (by simp[Tryz.f7]) (by decide) λ_ _ h=>by simp at h,trivial⟩)
 have hq:=Sb (qa CC) (isA [.ag [.sl (kUs a)],.ag (rk (q4 r) []),.ag (kV v),.ag (kB (arB v r) []),.c (.int .i64 (d:Int))]) (λ_=>zM (xp a r v d (arB v r))) no2 nm2 (kUs a) (q4 r) (q4 v.x) (q4 v.y) (d:Int)
  (λs es=>s=25/\es=zM (xp a r v d (arB v r)))
 refine jr (C:=CX [(21,XE (isA [.ag [.sl (kUs a)],.ag (rk (q4 r) []),.ag (kV v),.ag (kB (arB v r) []),.c (.int .i64 (d:Int))]) 25 λ_=>zM (xp a r v d (arB v r))),(7,KX 25 no2 nm2)]) rfl rfl
  (KW mixedT Tryz.func6 (hq.mpr ?_))
 clear hq;exact⟨_,_,_,_,MW hv hr,IR _,Xo hne,by trivial,rfl⟩
theorem gZ{d m N:Nat}(hB:BD m N (arB v r))(h0:0<m)(hd:d<=3)(h1:m*2^d<=10^9)(h2:N*2^d<=10^8):
 qa CC 6 [.ag [.sl (kUs a)],.ag (rk (q4 r) []),.ag (kV v),.c (.int .i64 (d:Int))] [.c (.sl (zM (xp a r v d (arB v r))))]:=by
 refine wpG Tryz.func6 ((RZ ..).mpr ?_);exact⟨_,_,_,_,MW hv hr,_,co ha hn hr hv d m N _ hB h0 hd h1 h2,rfl⟩
end
def spV (x y:Int) (d:Nat):Vc:=⟨l5 x (d+1),l5 y (d+1)⟩
def Sp (x:Int):Prop:= -32768<=x/\x<=32767
theorem ab{x y:Int}{d:Nat}(hx:Sp x)(hy:Sp y)(hd:d<256):qa CC 15 [.ag [.int .i16 x,.int .i16 y,.int .u8 d]] [.ag (kV (spV x y d))]:=by
 obtain⟨a1,a2⟩:=hx;obtain⟨b1,b2⟩:=hy;refine wpG Tryz.func15 ((IE ..).mpr ?_);rw[show Lv .i64 x=x from wI,show Lv .i64 y=y from wI,show Lv .i64 (d:Int)=d from wI,show Lv .i64 ((d:Int)+1)=(d:Int)+1 from wI];exact⟨_,wJ (by omega) (by omega) (by omega),_,wJ (by omega) (by omega) (by omega),rfl⟩
theorem EK{s:List Fm}(hs:∀f∈s,f.ok){x y:Int}{k d:Nat}(hx:Sp x)(hy:Sp y)(hd:d<256):
 qa CC 4 [.ag [.sl (s.map kFm),.int .u8 k,.int .i16 x,.int .i16 y,.int .u8 d]] [.ag [.sl (kUs (yX s 8).1)],.ag (rk (q4 (l5 (k%16:Nat) 4)) []),.ag (kV (spV x y d)),.c (.bool (yX s 8).2)]:=by
 have hm:=lm k (show 16>0 by omega);refine wpG Tryz.func4 ((Ex ..).mpr ?_);rw[show bk (k:Int) 16=((k%16:Nat):Int)by rw[show(16:Int)=((16:Nat):Int)from rfl,<-bm],show Lv .i64 ((k%16:Nat):Int)=((k%16:Nat):Int)from wI];exact⟨_,_,MV hs (m:=8) (by decide),by omega,_,wJ (by omega) (by omega) (by omega),_,_,ab hx hy hd,rfl⟩
theorem YC{x:Int}{n:Nat}(hn:0<n):l5 x n*(n:Rat)=(x:Rat):=by
 have e:l5 x n=(x:Rat)/(n:Rat):=by rw[ml];rfl
 have hd:(n:Rat)≠0:=by intro h;have:=congrArg mv h;simp at this;omega
 rw[e];grind
theorem Dn.neg{D N:Nat}{x:Rat}(hx:Dn D N x):Dn D N (-x):=by
 obtain⟨n,e,hn⟩:=hx;exact⟨-n,by rw[Rat.intCast_neg,<-e];grind,by omega⟩
theorem YD{x:Int}{d:Nat}(hx:Sp x):Dn (4*(d+1)) 131072 (l5 x ((d:Int)+1)):=by
 obtain⟨z1,z2⟩:=hx;have e4:((4*(d+1):Nat):Rat)=4*((d+1:Nat):Rat):=by rw[lA];rfl
 refine⟨4*x,?_,by omega⟩;have:=YC (x:=x) (n:=d+1) (by omega);rw[e4,lB,<-this];have e:(((d+1:Nat):Int))=(d:Int)+1:=by omega
 rw[e];have:((4:Int):Rat)=4:=rfl;rw[this];grind
theorem rp{k d:Nat}(hk:k<16)(hd:d<256):Dn (4*(d+1)) 4096 (l5 k 4):=by
 have e4:((4*(d+1):Nat):Rat)=4*((d+1:Nat):Rat):=by rw[lA];rfl
 refine⟨(k:Int)*((d+1:Nat):Int),?_,?_⟩
 .have:=YC (x:=(k:Int)) (n:=4) (by omega);rw[e4,lB,<-this];have:((4:Nat):Rat)=4:=rfl;rw[this];have:(((d+1:Nat):Int):Rat)=((d+1:Nat):Rat):=rfl;rw[this];have:(((4:Nat):Int))=4:=rfl;rw[this];grind
 .rw[bv];have:(k:Int).natAbs*((d+1:Nat):Int).natAbs<=15*256:=k8 (by omega) (by omega);omega
theorem c5{x y:Int}{d:Nat}{r:Rat}(hx:Sp x)(hy:Sp y)(hr:Dn (4*(d+1)) 4096 r):BD (4*(d+1)) 140000 (arB (spV x y d) r):=
 ⟨((YD hx).sub hr).mono (by omega),((YD hy).sub hr).mono (by omega),((YD hx).add hr).mono (by omega),((YD hy).add hr).mono (by omega)⟩
theorem EL{a:List Cu}{r:Rat}{v:Vc}:∀(d m N:Nat) (b:Bx),BD m N b->∀c∈xp a r v d b,∃j,j<=d/\BD (2^j*m) (2^j*N) c.b:=by
 have a3:∀(d m N:Nat) (b:Bx) (c:Cl),BD m N b->c.b=b->∃j,j<=d/\BD (2^j*m) (2^j*N) c.b:=λd m N b c h e=>⟨0,lg _,by rw[e];simpa using h⟩
 intro d
 induction d with
 |zero=>
  intro m N b h c hc;unfold xp at hc;split at hc
  .exact a3 _ _ _ _ _ h (by rw[cr.1 hc])
  .split at hc<;>exact a3 _ _ _ _ _ h (by rw[cr.1 hc])
 |succ d ih=>
  intro m N b h c hc;unfold xp at hc;split at hc
  .exact a3 _ _ _ _ _ h (by rw[cr.1 hc])
  .split at hc
   .exact a3 _ _ _ _ _ h (by rw[cr.1 hc])
   .obtain⟨q,hq,hc⟩:=dv.1 hc;have hq:q∈qrB b:=by
     split at hq
     .exact hq
     .simp at hq
    obtain⟨j,hj,hb⟩:=ih (2*m) (2*N) q (h.qr q hq) c hc;refine⟨j+1,by omega,?_⟩;rw[show 2^(j+1)*m=2^j*(2*m)by rw[kk];grind,show 2^(j+1)*N=2^j*(2*N)by rw[kk];grind];exact hb
end Eng
end
section
namespace Eng
open Go Go.Proofs Rl
set_option maxRecDepth 100000
theorem Si{l:List Cl}(h:l.length<=1000):qa CC 11 [.c (.sl (zM l))] [.c (.sl (zM l))]:=by
 by_cases e:l=[]
 .subst e;exact TN
 .refine wpG Tryz.func11 ((Sc ..).mpr ?_);refine⟨by rw[xU];exact ft.2 e,⟨?_,Xh jf _⟩,rfl⟩;unfold room;rw[xU];omega
theorem ac{l:List Cl}{i:Nat}{row:List D}{c:Cl}(h:row=kCl c):upd (zM l) i row=zM (l.set i c):=by
 rw[xx,h];unfold zM;rw[List.map_set]
theorem ae{l:List Cl}{i:Nat}(h:i<l.length):nth [] (zM l) (aE (i:Int))=kCl l[i]:=by rw[W0];exact J1 _ h
theorem c6(c:Cl):cut (kCl c) 16 1 [J8 c.far]/\upd (kCl c) 16 (J8 !c.far)=kCl ⟨c.b,!c.far,c.kp⟩:=by
 obtain⟨b,f,kp⟩:=c;cases kp<;>exact⟨⟨rfl,iz rfl⟩,rfl⟩
theorem nQ(c:Cl)(o:Option Vc):zU (kCl c) 17 (kO o)=kCl ⟨c.b,c.far,o⟩:=by
 obtain⟨b,f,kp⟩:=c;cases kp<;>cases o<;>rfl
theorem nR(c:Cl):cut (kCl c) 0 4 (rk (q4 c.b.x0) [])/\zU (kCl c) 8 (rk (q4 c.b.x0) [])=kCl ⟨⟨c.b.x0,c.b.y0,c.b.x0,c.b.y1⟩,c.far,c.kp⟩:=by
 obtain⟨b,f,kp⟩:=c;cases kp<;>exact⟨⟨rfl,iz rfl⟩,rfl⟩
theorem nS(c:Cl)(y:Rat):cut (kCl c) 12 4 (rk (q4 c.b.y1) [])/\zU (kCl c) 12 (rk (q4 y) [])=kCl ⟨⟨c.b.x0,c.b.y0,c.b.x1,y⟩,c.far,c.kp⟩:=by
 obtain⟨b,f,kp⟩:=c;cases kp<;>exact⟨⟨rfl,iz rfl⟩,rfl⟩
section
variable {a:List Cu}{r:Rat}{v:Vc}{l:List Cl}
theorem CkH.set(h:CkH a r v l){c:Cl}{i:Nat}(hc:GC c):CkH a r v (l.set i c):=
 ⟨h.ha,h.hn,h.hr,h.hv,h.hB,λx hx=>(gz hx).elim (h.hl x) λe=>e▸hc,by rw[List.length_set];exact h.hL⟩
theorem CkH.del(h:CkH a r v l){i:Nat}:CkH a r v (l.take i++l.drop (i+1)):=
 ⟨h.ha,h.hn,h.hr,h.hv,h.hB,λx hx=>(dn.1 hx).elim (λhx=>h.hl x (dc hx)) λhx=>h.hl x (el hx),by
  rw[cL,cf,er];have:=h.hL;omega⟩
theorem af(l:List Cl)(i:Nat):(zM l).take i++(zM l).drop (i+1)=zM (l.take i++l.drop (i+1)):=by
 unfold zM;rw[eb,h9,ib]
end
def ckJ (a:List Cu) (v:Vc):List D->List D->Prop:=λ_ ds=>∃(l:List Cl) (r:Rat),CkH a r v l/\ds= .sl (zM l)::rk (q4 r) []
theorem u8w{n:Int}(h:0<=n/\n<256):Lv .u8 n=n:=by
 unfold Lv;simp[IntKind.signed,IntKind.bits];omega
set_option maxHeartbeats 1000000 in
theorem EM(haw:qa CC 5 [] [.c (.bool true)]){s:List Fm}(hs:∀f∈s,f.ok){x y:Int}{k d dp ch:Nat}(hx:Sp x)(hy:Sp y)(hd:d<256)(hch:ch<256):
 qa CC 3 [.ag [.sl (s.map kFm),.int .u8 k,.int .i16 x,.int .i16 y,.int .u8 d],.c (.int .u8 dp),.c (.int .u8 ch)] [.c (.bool true)]:=by
 obtain⟨mo,mn⟩:=DK hs 8;have gp:=EK hs (k:=k) hx hy hd;have hD:Dn (4*(d+1)) 4096 (l5 (k%16:Nat) 4):=rp (lm k (by omega)) hd;have hB:=c5 hx hy hD;have an:=c5 hx hy hD.neg;have hv:HV (spV x y d):=⟨(YD hx).hz (by omega) (by omega) (by omega),(YD hy).hz (by omega) (by omega) (by omega)⟩;have hr:Hz 2 (l5 (k%16:Nat) 4):=Hz.divInt (by omega) (by omega) (by decide);generalize l5 (k%16:Nat) 4=r at gp hD hB an hr;generalize spV x y d=v at gp hB an hv;generalize (yX s 8).1=a at mo mn gp;generalize (yX s 8).2=ok at gp;have ad:dp%4<=3:=by have:=lm dp (show 4>0 by omega);omega
 have p8:2^(dp%4)<=2^3:=k0 (by omega) ad;have h1:4*(d+1)*2^(dp%4)<=10^9:=k5 (k8 (show 4*(d+1)<=1024 by omega) p8) (by decide);have h2:140000*2^(dp%4)<=10^8:=k5 (lr _ p8) (by decide);have ga:∀c∈a,Gc c:=λc hc=>(mo c hc).gc
 have a4:Hz 20 r:=hr.mono (by omega);obtain⟨hG,hL4⟩:=Vi (a:=a) (r:=r) hv (dp%4) (4*(d+1)) 140000 (arB v r) hB (by omega) h1 h2;have hbd:=EL (a:=a) (r:=r) (v:=v) (dp%4) (4*(d+1)) 140000 (arB v r) hB;have hL:(xp a r v (dp%4) (arB v r)).length<=64:=k5 hL4 (k0 (n:=4) (j:=3) (by omega) ad);have gn:=gZ ga mn a4 hv hB (by omega) ad h1 h2;have ag:HB 20 (arB v r):=hB.hb (by omega) (by omega) (by omega);have a9:HB 20 (arB v (-r)):=an.hb (by omega) (by omega) (by omega);have gt:=λhne=>gY ga mn a4 hv hB (by omega) ad h1 h2 hne
 have ew:bk (dp:Int) 4=((dp%4:Nat):Int):=by rw[show(4:Int)=((4:Nat):Int)from rfl,<-bm]
 have b4:Lv .i64 ((dp%4:Nat):Int)=((dp%4:Nat):Int):=wI
 --the numbers of a cell are small enough to be changed
 have a5:∀c∈xp a r v (dp%4) (arB v r),Hz 17 c.b.y1:=λc hc=>by
  obtain⟨j,hj,_,_,_,⟨n,e,hn⟩⟩:=hbd c hc;have q8:2^j<=2^3:=k0 (by omega) (by omega);have q1:2^j*(4*(d+1))<=8192:=k5 (k8 q8 (show 4*(d+1)<=1024 by omega)) (by decide);have q2:2^j*140000<=1120000:=k5 (lp _ q8) (by decide);have q0:0<2^j*(4*(d+1)):=Nat.mul_pos (lh (by omega)) (by omega);generalize 2^j*(4*(d+1))=m at e q1 q0;have hd0:(m:Rat)≠0:=by intro h;have:=congrArg mv h;simp at this;omega
  have:c.b.y1=(n:Rat)/((m:Int):Rat):=by have e2:((m:Int):Rat)=(m:Rat):=rfl;rw[e2,<-e];grind
  rw[this];exact Hz.div (Hz.int (k:=10) (by omega)) (Hz.int (n:=(m:Int)) (k:=7) (by simp;omega)) hd0 (by omega)
 have a8:CkH a r v (xp a r v (dp%4) (arB v r)):=⟨mo,mn,a4,hv,ag,hG,by omega⟩;generalize xp a r v (dp%4) (arB v r)=L at hG hL gn gt a5 a8;by_cases hne:L=[]
 .subst hne
  letI:EffOk (CX [(6,LA CC 6 (isA [.ag [.sl (kUs a)],.ag (rk (q4 r) []),.ag (kV v),.c (.int .i64 ((dp%4:Nat):Int))]) (λ_=>[.c (.sl [])]))]):=
   zY (Xj ⟨FF λal h=>by rw[IQ h];exact zb (C:=CC) rfl rfl gn,trivial⟩)
  have hq:=Sd (qa CC) (isA [.ag [.sl (kUs a)],.ag (rk (q4 r) []),.ag (kV v),.c (.int .i64 ((dp%4:Nat):Int))]) (s.map kFm) k x y d dp ch (· =[.c (.bool true)]);refine zb (C:=CX [(6,LA CC 6 (isA [.ag [.sl (kUs a)],.ag (rk (q4 r) []),.ag (kV v),.c (.int .i64 ((dp%4:Nat):Int))]) (λ_=>[.c (.sl [])]))]) rfl rfl
   (qo mixedT Tryz.func3 (hq.mpr ?_))
  clear hq;rw[ew,b4];exact⟨_,_,_,_,_,gp,_,haw,brb (λh=>by cases h) λ_=>brb (λ_=>⟨_,haw,rfl⟩) λ_=>⟨by omega,IR _,by omega,by omega,_,TN,_,TM a8,_,cz a8,by rw[beq_self_eq_true]⟩⟩
 have b3:0<L.length:=ft.2 hne;obtain⟨i,hi⟩:∃i,i=ch/8%L.length:=⟨_,rfl⟩;have ap:i<L.length:=by rw[hi];exact lm _ b3
 have gd:wC CC 7 [] (some (25,zM L)) [.c (.int .i64 (i:Int)),.c (.int .i64 ((i+1:Nat):Int))] 25 (zM (L.take i++L.drop (i+1))):=by
  rw[<-af];exact EH rfl (by omega) (by rw[xU];omega) λe he=>by obtain⟨c,_,rfl⟩:=en.1 he;exact jf c
 letI:EffOk (CX [(6,XE (isA [.ag [.sl (kUs a)],.ag (rk (q4 r) []),.ag (kV v),.c (.int .i64 ((dp%4:Nat):Int))]) 25 λ_=>zM L),(7,KX 25 (isE (zM L) [.c (.int .i64 (i:Int)),.c (.int .i64 ((i+1:Nat):Int))]) λ_ _=>zM (L.take i++L.drop (i+1)))]):=
  zY (Xj ⟨JK Tryz.func6 (by simp[Tryz.f6]) (by decide) λal h=>⟨Xo hne,by rw[IQ h];exact jr (C:=CC) rfl rfl (gt hne)⟩,
   Ga Tryz.func7 (by simp[Tryz.f7]) (by decide) λes al h=>by
    obtain⟨rfl,rfl⟩:=IS h;exact⟨Xo hne,jr (C:=CC) rfl rfl gd⟩,trivial⟩)
 have hq:=Ew (qa CC) (λ_ ds=>ds=[.sl (zM L)]) (λ_ ds=>ds=[.sl (zM L)]) (λ_ ds=>ds=[.int .i64 (i:Int),.sl (zM L)]) (ckJ a v)
  (isA [.ag [.sl (kUs a)],.ag (rk (q4 r) []),.ag (kV v),.c (.int .i64 ((dp%4:Nat):Int))]) (λ_=>zM L) (isE (zM L) [.c (.int .i64 (i:Int)),.c (.int .i64 ((i+1:Nat):Int))]) (λ_ _=>zM (L.take i++L.drop (i+1)))
  (s.map kFm) k x y d dp ch (· =[.c (.bool true)])
 refine zb (C:=CX [(6,XE (isA [.ag [.sl (kUs a)],.ag (rk (q4 r) []),.ag (kV v),.c (.int .i64 ((dp%4:Nat):Int))]) 25 λ_=>zM L),(7,KX 25 (isE (zM L) [.c (.int .i64 (i:Int)),.c (.int .i64 ((i+1:Nat):Int))]) λ_ _=>zM (L.take i++L.drop (i+1)))]) rfl rfl
  (qo mixedT Tryz.func3 (hq.mpr ?_))
 clear hq;rw[ew,b4];have hb:(0:Int)<=(i:Int)/\(i:Int)<Int.ofNat (zM L).length:=by rw[xU];exact⟨by omega,by simp only[V1];omega⟩
 have a3:=hG _ (cb ap);have a5:=a5 _ (cb ap);have b1:=ae ap;generalize hLi:L[i]=c at a3 a5 b1;have nt:nth [] (zM L) (aE (i:Int))=kCl c:=b1;have J:∀c:Cl,GC c->∀row,row=kCl c->ckJ a v [] (.sl (upd (zM L) (aE (i:Int)) row)::rk (q4 r) []):=λc hc row he=>
  ⟨L.set i c,r,a8.set hc,by rw[W0,ac he]⟩
 have e8:bk (Lv .i64 (Lv .u8 (bw (ch:Int) 8))) (L.length:Int)=(i:Int):=by rw[show bw (ch:Int) 8=((ch/8:Nat):Int)by rw[show(8:Int)=((8:Nat):Int)from rfl,<-Int.ofNat_tdiv],u8w (by omega),show Lv .i64 ((ch/8:Nat):Int)=((ch/8:Nat):Int)from wI,<-bm,hi]
 refine⟨_,_,_,_,_,gp,_,haw,brb (λh=>by cases h) λ_=>brb (λ_=>⟨_,haw,rfl⟩) λ_=>⟨⟨by omega,IR _,rfl⟩,?_⟩⟩;intro es1 he;simp only[ie,Lm,and_true]at he;subst he;refine⟨brd (λh=>absurd h (by rw[xU];simp only[V1];omega)) λ_=>rfl,?_⟩;intro es2 he;simp only[ie,Lm,and_true]at he;subst he;refine⟨⟨?_,?_⟩,?_⟩
 .rw[xU];simp only[V1];by_cases h1:(1:Int)<(L.length:Int)
  .rw[decide_eq_true h1];exact⟨by omega,by show((L.length:Nat):Int)≠0;omega,by show [J7 .i64 (bk _ (L.length:Int)),_]=_;rw[e8]⟩
  .rw[decide_eq_false h1];have:((L.length:Nat):Int)=1:=by omega
   exact⟨by omega,by show(1:Int)≠0;omega,by show [J7 .i64 (bk _ 1),_]=_;rw[<-this,e8]⟩
 .intro i' es he;simp only[ie,J9,Lm,true_and,and_true]at he;obtain⟨rfl,rfl⟩:=he;have hw:Lv .i64 ((i:Int)+1)=((i+1:Nat):Int):=by rw[wI];omega
  rw[hw];have j2:=J ⟨c.b,!c.far,c.kp⟩ ⟨a3.1,a3.2⟩ (upd (nth [] (zM L) (aE (i:Int))) 16 (.bool !c.far)) (by rw[nt];exact(c6 c).2);have j3:=J ⟨c.b,c.far,some v⟩ ⟨a3.1,λu e=>by cases e;exact hv⟩ (zU (nth [] (zM L) (aE (i:Int))) 17 (kV v)) (by rw[nt];exact nQ c (some v));have j4:=J ⟨⟨c.b.x0,c.b.y0,c.b.x0,c.b.y1⟩,c.far,c.kp⟩ ⟨⟨a3.1.1,a3.1.2.1,a3.1.1,a3.1.2.2.2⟩,a3.2⟩ (zU (nth [] (zM L) (aE (i:Int))) 8 (rk (q4 c.b.x0) [])) (by rw[nt];exact(nR c).2);have j5:=J ⟨c.b,c.far,none⟩ ⟨a3.1,λu e=>by cases e⟩ (zU (nth [] (zM L) (aE (i:Int))) 17 (rk z4 (rk z4 []))) (by rw[nt];exact nQ c none);have j6:=J ⟨⟨c.b.x0,c.b.y0,c.b.x1,c.b.y1+r⟩,c.far,c.kp⟩ ⟨⟨a3.1.1,a3.1.2.1,a3.1.2.2.1,a5.add hr (l:=20)⟩,a3.2⟩ (zU (nth [] (zM L) (aE (i:Int))) 12 (rk (q4 (c.b.y1+r)) [])) (by rw[nt];exact(nS c _).2);have k2:cut (nth [] (zM L) (aE (i:Int))) 16 1 [J8 c.far]:=by rw[nt];exact(c6 c).1
  have k4:cut (nth [] (zM L) (aE (i:Int))) 0 4 (rk (q4 c.b.x0) []):=by rw[nt];exact(nR c).1
  have k6:cut (nth [] (zM L) (aE (i:Int))) 12 4 (rk (q4 c.b.y1) []):=by rw[nt];exact(nS c 0).1
  have a6:=V2 a5 hr;have a7:=TS hr;have j7:ckJ a v [] (.sl (zM L)::rk (q4 (-r)) []):=⟨L, -r,⟨mo,mn,a4.neg,hv,a9,hG,by omega⟩,rfl⟩;clear J b1 nt;refine brd (λ_=>⟨by omega,brb (λ_=>⟨IT _ _,_,r,a8.del,rfl⟩) λ_=>brb (λ_=>⟨hb,_,k2,hb,by omega,j2⟩) λ_=>brb (λ_=>⟨hb,by omega,j3⟩) λ_=>brb (λ_=>⟨hb,_,k4,hb,by omega,j4⟩) λ_=>
   brb (λ_=>⟨hb,by omega,j5⟩) λ_=>brb (λ_=>⟨hb,_,k6,_,a6,hb,by omega,j6⟩) λ_=>brb (λ_=>⟨_,a7,j7⟩) λ_=>⟨L,r,a8,rfl⟩⟩) λh=>absurd (by rw[xU];simp only[V1];omega) h
 .rintro es3 b es4 b2 es5 ⟨l',r',hC,he⟩;have e2:(D.sl (zM l')::rk (q4 r') [])=[D.sl (zM l'),J8 (q4 r').b,D.sl (q4 r').l,J8 (q4 r').c,D.sl (q4 r').m]:=rfl;rw[e2]at he;simp only[ie,Lm,D.bool.injEq,and_true]at he;obtain⟨rfl,rfl,rfl,rfl,rfl⟩:=he;exact⟨_,Si hC.hL,_,TM hC,_,cz hC,by rw[beq_self_eq_true]⟩
end Eng
end
section
namespace Go.Proofs
open Go.Shelf Go.RowKit
set_option maxRecDepth 100000
theorem Tryz.lays166:Lays.n166 Tryz.prog Tryz.lays156_ren:={Tryz.lays156 with}
theorem Tryz.lays169:Lays.n169 Tryz.prog Tryz.lays156_ren:={Tryz.lays156 with}
def Tryz.ren167:Ren:=⟨fun|167=>170|n=>Tryz.lays156_ren.f n,Tryz.lays156_ren.t,Tryz.lays156_ren.g⟩
theorem Tryz.lays167:Lays.n167 Tryz.prog Tryz.ren167:={Tryz.lays156 with f167:=Tryz.func170.trans (congrArg some (by kernel_rfl)),t5:=Tryz.underlying5,a5:=Tryz.isAgg5,z5:=Tryz.sizeOf5,v5:=Tryz.zeroValue5}
theorem Tryz.extra167:Builder.Extra Tryz.prog Tryz.ren167:={Tryz.Builder_Extra_156 with}
theorem Tryz.Builder_WriteString(B b:Nat)(bs:List Value)(s:ByteArray)(w:World)(h:M0 91 5 B b bs w)(hlen:bs.length+s.size<=140737488355328)(hBw:B<=w.heap.size):
 Calls Tryz.prog 50 #[.pointer (some ⟨b,0,none⟩),.string s] w λe w'=>e= .returned (.tuple #[.int .i64 s.size,.nilIface])/\(M3 91 5 B b (.pointer (some ⟨b,0,none⟩)) (bs++No s) w'/\Below B w w'):=
 Any.Builder_WriteString Tryz.lays166 Tryz.Builder_Extra_156 B b bs s w h hlen hBw
theorem Tryz.Builder_WriteByte(B b:Nat)(bs:List Value)(c:Int)(w:World)(h:M0 91 5 B b bs w)(hlen:bs.length+1<=140737488355328)(hBw:B<=w.heap.size):
 Calls Tryz.prog 170 #[.pointer (some ⟨b,0,none⟩),.int .u8 c] w λe w'=>e= .returned .nilIface/\(M3 91 5 B b (.pointer (some ⟨b,0,none⟩)) (bs++[.int .u8 c]) w'/\Below B w w'):=
 Any.Builder_WriteByte Tryz.lays167 Tryz.extra167 B b bs c w h hlen hBw
theorem Tryz.Builder_String(B b:Nat)(l:List UInt8)(w:World)(h:M0 91 5 B b (M2 l) w)(h0:l≠[]):
 Calls Tryz.prog 52 #[.pointer (some ⟨b,0,none⟩)] w λe w'=>e= .returned (.string ⟨l.toArray⟩)/\Below B w w':=
 Any.Builder_String Tryz.lays169 Tryz.Builder_Extra_156 B b l w h h0
end Go.Proofs
end
section
namespace Eng
open Go Go.Proofs Go.RowKit
theorem fmt0(u:Nat)(hs:u<100)(w:World):
 Calls Tryz.prog 233 #[.int .u64 u,.int .i64 10] w λe w'=>e= .returned (.string ⟨(M1 u).toArray⟩)/\w'=w:=by
 have a3:Tryz.prog.follows .mixedOrders=true:=by kernel_rfl
 have hw1:(u:Int)<100:=by omega
 go_enter Tryz.func233,Tryz.ntmps233
 go_wp2_with (go_at_call 285;refine(Tryz.internal_strconv_small u hs _).mono ?_;rintro e w' ⟨rfl,rfl⟩)
 go_ret
 exact⟨rfl,rfl⟩
theorem fmt1(u:Nat)(hs:u<100)(w:World):
 Calls Tryz.prog 171 #[.int .u64 u,.int .i64 10] w λe w'=>e= .returned (.string ⟨(M1 u).toArray⟩)/\w'=w:=by
 go_enter Tryz.func171,Tryz.ntmps171
 go_wp2_with (go_at_call 233;refine(fmt0 u hs _).mono ?_;rintro e w' ⟨rfl,rfl⟩)
 go_ret
 exact⟨rfl,rfl⟩
end Eng
end
section
namespace Eng
open Go Go.Proofs Go.RowKit
set_option maxRecDepth 100000
theorem EN(w:World):M0 91 5 w.heap.size w.heap.size [] (w.alloc (.cells #[.pointer none,.slice none 0 0] 91)):=
 .inl ⟨it _,.slice none 0 0,F2,Ts _ _ _ _,λh=>by cases h⟩
set_option maxHeartbeats 1000000 in
theorem ah(l:List UInt8)(hl:l≠[])(hl2:l.length<=1000)(d:Nat)(hd:d<10)(hf:∀W,Calls Tryz.prog 171 #[.int .u64 d,.int .i64 10] W λe w'=>e= .returned (.string ⟨l.toArray⟩)/\w'=W)(a:Addr)(c:Nat)(w:World)(ha:a.block<w.heap.size)(hc:w.cell? a=some (.int .u32 d)):
 Calls Tryz.prog 109 #[.agg #[.bool false,.slice (some a) 1 c]] w λe w'=>e= .returned (.string ⟨l.toArray⟩)/\Below w.heap.size w w':=by
 have a3:Tryz.prog.follows .mixedOrders=true:=by kernel_rfl
 have hb:=EN (w.alloc (.cells #[.bool false,.slice (some a) 1 c] 34));have hz:=Sz w (.cells #[.bool false,.slice (some a) 1 c] 34);rw[hz]at hb;have hb0:Below w.heap.size w ((w.alloc (.cells #[.bool false,.slice (some a) 1 c] 34)).alloc (.cells #[.pointer none,.slice none 0 0] 91)):=((Below.refl _ w).alloc (it _) _).alloc (by rw[hz];omega) _;have hw:(d:Int)%18446744073709551616=d:=by omega
 go_enter Tryz.func109,Tryz.ntmps109
 go_wp2_with (first|(go_at_call 171;refine(hf _).mono ?_;rintro e W ⟨rfl,rfl⟩))
 go_at_call 50
 refine(Tryz.Builder_WriteString (w.heap.size+1) (w.heap.size+1) [] ⟨l.toArray⟩ _ hb (by show 0+l.length<=_;omega) (by rw[Sz,hz];omega)).mono ?_;rintro e W ⟨rfl,hb1,hW⟩
 go_wp2
 refine wp_loop_once ?_
 go_wp2_with (first|(go_at_call 52;refine(Tryz.Builder_String (w.heap.size+1) (w.heap.size+1) l _ (.inr hb1) hl).mono ?_;rintro e W2 ⟨rfl,hW2⟩))
 go_ret
 exact⟨rfl,hb0.trans ((hW.mono (ll _)).trans (hW2.mono (ll _)))⟩
set_option maxHeartbeats 1000000 in
theorem ai(l:List UInt8)(hl2:l.length<=1000)(d:Nat)(hd:d<10)(hf:∀W,Calls Tryz.prog 171 #[.int .u64 d,.int .i64 10] W λe w'=>e= .returned (.string ⟨l.toArray⟩)/\w'=W)(a:Addr)(c:Nat)(w:World)(ha:a.block<w.heap.size)(hc:w.cell? a=some (.int .u32 d)):
 Calls Tryz.prog 109 #[.agg #[.bool true,.slice (some a) 1 c]] w λe w'=>e= .returned (.string ⟨(45::l).toArray⟩)/\Below w.heap.size w w':=by
 have a4:Tryz.prog.follows .mixedOrders=true:=by kernel_rfl
 have hb:=EN (w.alloc (.cells #[.bool true,.slice (some a) 1 c] 34));have hz:=Sz w (.cells #[.bool true,.slice (some a) 1 c] 34);rw[hz]at hb;have a3:Below w.heap.size w ((w.alloc (.cells #[.bool true,.slice (some a) 1 c] 34)).alloc (.cells #[.pointer none,.slice none 0 0] 91)):=((Below.refl _ w).alloc (it _) _).alloc (by rw[hz];omega) _;have hw:(d:Int)%18446744073709551616=d:=by omega
 go_enter Tryz.func109,Tryz.ntmps109
 have q1:U3 ((w.alloc (.cells #[.bool true,.slice (some a) 1 c] 34)).alloc (.cells #[.pointer none,.slice none 0 0] 91)) ⟨w.heap.size,1,none⟩=some (.slice (some a) 1 c):=by go_simp
 have q2:U3 ((w.alloc (.cells #[.bool true,.slice (some a) 1 c] 34)).alloc (.cells #[.pointer none,.slice none 0 0] 91)) a=some (.int .u32 d):=by rw[a3.cell ha];exact hc
 go_wp2_with (first|(go_at_call 170;refine(Tryz.Builder_WriteByte (w.heap.size+1) (w.heap.size+1) [] 45 _ hb (by simp) (by rw[Sz,hz];omega)).mono ?_;rintro e W ⟨rfl,hb1,hW⟩;have c1:=(hW.cell (p:=⟨w.heap.size,1,none⟩) (Nat.lt_succ_self _)).trans q1;have c2:=(hW.cell (p:=a) (Nat.lt_succ_of_lt ha)).trans q2)|(go_at_call 171;refine(hf _).mono ?_;rintro e W' ⟨rfl,rfl⟩))
 go_at_call 50
 refine(Tryz.Builder_WriteString (w.heap.size+1) (w.heap.size+1) [.int .u8 45] ⟨l.toArray⟩ _ (.inr hb1) (by show 1+l.length<=_;omega) (k5 (by rw[Sz,hz];omega) hW.size)).mono ?_;rintro e W1 ⟨rfl,hb2,hW1⟩
 go_wp2
 refine wp_loop_once ?_
 go_wp2_with (first|(go_at_call 52;refine(Tryz.Builder_String (w.heap.size+1) (w.heap.size+1) (45::l) _ (.inr hb2) (by simp)).mono ?_;rintro e W2 ⟨rfl,hW2⟩))
 go_ret
 exact⟨rfl,a3.trans ((hW.mono (ll _)).trans ((hW1.mono (ll _)).trans (hW2.mono (ll _))))⟩
theorem EO(b:Bool)(v:Option Addr)(c:Nat)(w:World):Calls Tryz.prog 109 #[.agg #[.bool b,.slice v 0 c]] w λe w'=>e= .returned (.string ⟨#[48]⟩)/\Below w.heap.size w w':=by
 have hb0:Below w.heap.size w (w.alloc (.cells #[.bool b,.slice v 0 c] 34)):=(Below.refl _ w).alloc (it _) _
 go_enter Tryz.func109,Tryz.ntmps109
 go_wp2
 go_ret
 exact⟨rfl,hb0⟩
def dgt (n:Int):List UInt8:=(if n<0 then [45]else [])++[UInt8.ofNat (48+n.natAbs)]
theorem nT{d:Nat}(h0:d≠0)(hd:d<10):lim d=[d]:=by
 have:d=1\/d=2\/d=3\/d=4\/d=5\/d=6\/d=7\/d=8\/d=9:=by omega
 rcases this with rfl|rfl|rfl|rfl|rfl|rfl|rfl|rfl|rfl<;>rfl
theorem hI{n:Int}(hn:n.natAbs<10):qa CC 109 [.ag (cI n)] [.c (.str (dgt n))]:=by
 intro w F vs hb _ ha
 match vs,ha with
 |[x],ha=>
  obtain⟨us,rfl,h1⟩:=ha.1;obtain⟨us⟩:=us
  match us,h1 with
  |[y,z],⟨hy,hz,_⟩=>
   cases(hy:CD w F (.bool (decide (n<0))) y);obtain⟨ad,c,rfl,hlc,hr⟩:=CD.slice_inv (hz:CD w F (.sl (raw (lim n.natAbs))) z);have a3:∀{l:List UInt8},dgt n=l->Calls CC.P 109 #[.agg #[.bool (decide (n<0)),.slice ad (raw (lim n.natAbs)).length c]] w (λe w'=>e= .returned (.string ⟨l.toArray⟩)/\Below w.heap.size w w')->Calls CC.P 109 #[.agg #[.bool (decide (n<0)),.slice ad (raw (lim n.natAbs)).length c]] w λe w'=>Below w.heap.size w w'/\∃v,e= .returned v/\Pz w' (λb=>F b\/(w.heap.size<=b/\b<w'.heap.size)) [.c (.str (dgt n))] v:=λe h=>by rw[e];exact h.mono λe w' he=>⟨he.2,_,he.1,CD.str _⟩
   by_cases h0:n.natAbs=0
   .have hn0:n=0:=by omega
    subst hn0;exact a3 rfl (EO _ _ _ _)
   .have hl:=nT h0 hn;rw[hl]at hr hlc a3 ⊢;rcases hr with hr|⟨b,o,a4,rfl,hs,hF,hc⟩
    .cases hr
    have hs1:a4=1:=by have:=hs [.int .u32 n.natAbs] (by simp[raw]);simpa using this.symm
    subst hs1;obtain⟨v,hv,hd⟩:=hc 0 (by simp[raw]);cases(hd:CD w F (.int .u32 n.natAbs) v);have hf:=fmt1 n.natAbs (by omega);have hdd:M1 n.natAbs=[UInt8.ofNat (48+n.natAbs)]:=by rw[M1,dif_pos hn]
    rw[hdd]at hf;by_cases hneg:n<0
    .have e1:decide (n<0)=true:=decide_eq_true hneg;rw[e1]at a3 ⊢;exact a3 (by unfold dgt;rw[if_pos hneg];rfl) (ai _ (by simp) n.natAbs hn hf ⟨b,o,none⟩ c w (hb _ hF) hv)
    .have e1:decide (n<0)=false:=decide_eq_false hneg;rw[e1]at a3 ⊢;exact a3 (by unfold dgt;rw[if_neg hneg];rfl) (ah _ (by simp) (by simp) n.natAbs hn hf ⟨b,o,none⟩ c w (hb _ hF) hv)
end Eng
end
section
namespace Eng
open Go Go.Proofs Go.RowKit
set_option maxRecDepth 100000
noncomputable def CF:Cx:=⟨Tryz.prog,λ_=>none,λt=>Nat.beq t 91,λ_=>none,λ_ _=>false,λ_=>false⟩
instance:EffOk CF:=zY λf e h=>by simp[CF]at h
def rr (f:Nat) (al:List A):Option (List A):=
 match Nat.beq f 109 with
 |false=>ns f al
 |true=>match al with
  |[a]=>match rdI a with
   |some z=>match Nat.blt z.natAbs 10 with
    |true=>some [.c (.str (dgt z))]
    |false=>none
   |none=>none
  |_=>none
noncomputable def runX (c:Code) (s:St):Option (X×St):=Jo (EQ rr CF 1000 40) CF 1000 c s
noncomputable def nx (c:Code) (s:St):St:=match runX c s with|some (_,s)=>s|none=>s
noncomputable def okN (c:Code) (s:St):Bool:=match runX c s with|some (.normal,_)=>true|_=>false
theorem hJ(f:Nat)(al rs:List A)(h:rr f al=some rs):qa CF f al rs:=by
 refine zb (C:=CC) rfl rfl ?_;unfold rr at h;split at h
 .exact Eb _ _ _ h
 .rename_i hf;obtain rfl:=Nat.eq_of_beq_eq_true hf;split at h
  .split at h
   .rename_i z hz;split at h
    .rename_i hl;cases h;rw[OV hz];exact hI (by simpa [Nat.blt_eq]using hl)
    .cases h
   .cases h
  .cases h
section
variable {B:Bd}{F0:Nat->Prop}{w0:World}
theorem eng{c:Code}{s:St}{a:Act}{w:World}{Q:Exit->Act->World->Prop}(h:okN c s=true)(hh:St.has CF B F0 w0 s a w)(hq:∀a w,St.has CF B F0 w0 (nx c s) a w->Q .normal a w):c.wp Tryz.prog Q a w:=by
 unfold okN at h;split at h
 .rename_i s' hr;refine Code.wp_mono (λe a w he=>?_) (L8 (C:=CF) mixedT (λf al rs h=>YY (C:=CF) mixedT hJ 40 f al rs h) 1000 c s s' .normal a w hr hh);obtain⟨rfl,hh⟩:=(show e= .normal/\_ from he);refine hq a w ?_;unfold nx;rw[hr];exact hh
 .cases h
end
theorem jU{w:World}{b:Nat}{o:Go.Obj}(h:w.heap[b]? =some o):b<w.heap.size:=by
 rcases im b w.heap.size with h1|h1
 .exact h1
 .simp[h1]at h
def s8 (l:List UInt8):Value:= .string ⟨⟨l⟩⟩
def six:List (List UInt8):=[[45,49],[45,49],[49],[49],[48],[48]]
def svn:List (List UInt8):=[[45,49],[45,49],[49],[49],[107,101,101,112],[48],[48]]
theorem Po{a:Act}{k:Nat}{x:Value}(h:a.eval (.tmp k)=x)(hk:k<a.tmps.size):a.tmps[k]=x:=by
 subst h;simp[Act.eval,hk]
theorem strs{w:World}{F:Nat->Prop}:∀(es:List (List UInt8)) (l:List Value),(∀j,j<es.length->∃v,l[j]? =some v/\CD w F (nth .undef (es.map D.str) j) v)->∃r,l=es.map s8++r
 |[],l,_=>⟨l,rfl⟩
 |e::es,[],h=>by obtain⟨v,h,_⟩:=h 0 (by simp);cases h
 |e::es,x::l,h=>by
  obtain⟨v,h1,h2⟩:=h 0 (by simp);cases h1;obtain⟨r,rfl⟩:=strs es l λj hj=>h (j+1) (by simpa using hj)
  exact⟨r,by rw[Z2 h2];rfl⟩
theorem ins7{B0 b c b3 vb vc:Nat}{r:List Value}{t t2:TypeId}{W:World}(hb:W.heap[b]? =some (.cells ⟨six.map s8++r⟩ t (0,0)))(hr:6+r.length=c)(hc:c<=9223372036854775807)(hv:W.heap[vb]? =some (.cells #[s8 [107,101,101,112]] t2 (0,0)))(hne:vb≠b)(hB:B0<=b)(h3:b3≠b)(h3':b3<W.heap.size)(hB':B0<=W.heap.size):
 Calls Tryz.prog 49 #[.slice (some ⟨b,0,none⟩) 6 c,.int .i64 4,.slice (some ⟨vb,0,none⟩) 1 vc] W λe w'=>∃b' c' r t',e= .returned (.slice (some ⟨b',0,none⟩) 7 c')/\7<=c'/\w'.heap[b']? =some (.cells ⟨svn.map s8++r⟩ t' (0,0))/\Below B0 W w'/\w'.heap[b3]? =W.heap[b3]? :=by
 have a4:∀j v,(six.map s8)[j]? =some v->W.cell? ⟨b,0+j,none⟩=some v:=λj v h=>by rw[xW hb,k9,<-Dd,fz (h8.1 h).1];exact h
 have a8:∀j v,[s8 [107,101,101,112]][j]? =some v->W.cell? ⟨vb,0+j,none⟩=some v:=λj v h=>by rw[xW hv,k9,<-Dd];exact h
 have o1:∀v∈six.map s8,v.oneCell'=true:=λv h=>by obtain⟨_,_,rfl⟩:=en.1 h;rfl
 have o2:∀v∈[s8 [107,101,101,112]],v.oneCell'=true:=λv h=>by obtain rfl:=cr.1 h;rfl
 have a5:=jU hb;by_cases hf:7<=c
 .obtain⟨a,r,rfl⟩:∃a r',r=a::r':=by
   cases r with
   |nil=>simp at hr;omega
   |cons a r=>exact⟨a,r,rfl⟩
  have a7:(⟨six.map s8++a::r⟩:Array Value).size=c:=by rw[<-hr];simp[six];omega
  refine(Any2.slices_Insert_string_shift Tryz.lays2_22 b 0 6 c 4 vb 0 1 vc (six.map s8) [s8 [107,101,101,112]] W (by omega) (by omega) hf hc hne rfl rfl a4 (λj hj=>by rw[xW hb,k9];simp;simp at a7;omega) (λj hj=>vg hb) a8 o1 o2 t2 t 1 c (by simp[U0,hv]) (by simp only[U0,hb];rw[<-a7]) (by omega) (vg hv) (vg hv)).mono ?_;rintro e w' ⟨rfl,rfl⟩;rw[zR _ _ W.drew _ hb,zR _ _ _ _ (zk (w:=W.drew) a5),jq];refine⟨b,c,r,t,rfl,hf,zk (w:=W.drew) a5,?_,?_⟩
  .exact I0 (((I1 ⟨B0,λ_=>False⟩ W).drew).setBlk (.inl hB))
  .exact zl (w:=W.drew) (Ne.symm h3)
 .obtain rfl:r=[]:=ea (by omega);have hc6:c=6:=by simpa using hr.symm
  subst hc6;have a3:=grownCap_ge W 7 6 (Tryz.lays2_22_ren.t 9);refine(Any2.slices_Insert_string_grow Tryz.lays2_22 b 0 6 6 4 vb 0 1 vc (six.map s8) [s8 [107,101,101,112]] W (by omega) (by omega) (by omega) (by omega) (by omega) rfl rfl a4 a8 o1 o2).mono ?_;rintro e w' ⟨rfl,rfl⟩;generalize grownCap W (6+1) 6 (Tryz.lays2_22_ren.t 9)=cap at *;generalize Tryz.lays2_22_ren.t 9=ty;generalize hX:((six.map s8).take 4).toArray++Lr (P1 ⟨#[]⟩).cells (6+1-4)++Lr (P1 ⟨#[]⟩).cells (cap-(6+1))=X;have hXl:X.toList=((six.map s8).take 4++[s8 [],s8 [],s8 []])++(Lr (P1 ⟨#[]⟩).cells (cap-(6+1))).toList:=by
   rw[<-hX,Gv,Gv];have h3:(Lr (P1 ⟨#[]⟩).cells (6+1-4)).toList=[s8 [],s8 [],s8 []]:=by kernel_rfl
   rw[h3]
  have hnb:(W.alloc (.cells X ty)).heap[W.heap.size]? =some (.cells X ty (0,0)):=F2;have a6:W.heap.size<(W.alloc (.cells X ty)).heap.size:=by rw[Sz];omega
  have hw:((W.alloc (.cells X ty)).drew.setCells W.heap.size 4 [s8 [107,101,101,112]]).drew.setCells W.heap.size (4+1) ((six.map s8).drop 4)=setBlk (W.alloc (.cells X ty)).drew.drew W.heap.size (.cells ⟨svn.map s8++(Lr (P1 ⟨#[]⟩).cells (cap-(6+1))).toList⟩ ty (0,0)):=by rw[zR _ _ (W.alloc (.cells X ty)).drew X hnb,hXl];show T1 (setBlk (W.alloc (.cells X ty)).drew.drew W.heap.size _) _ _ _=_;rw[zR _ _ _ _ (zk (w:=(W.alloc (.cells X ty)).drew.drew) a6),jq];rfl
  rw[hw];refine⟨_,_,_,ty,rfl,a3,zk (w:=(W.alloc (.cells X ty)).drew.drew) a6,?_,?_⟩
  .exact I0 (((((I1 ⟨B0,λ_=>False⟩ W).alloc hB' _).drew).drew).setBlk (.inl hB'))
  .rw[zl (w:=(W.alloc (.cells X ty)).drew.drew) (by omega)];exact Below.heap_alloc _ _ _ h3'
def rz (b:Bool) (l:List (List D)) (t:List D):List D:= .bool b:: .sl l:: .bool false:: .sl [[.int .u32 1]]::t
def fcE:List D:=rz true [[.int .u32 1]] (rz true [[.int .u32 1]] (rz false [[.int .u32 1]] (rz false [[.int .u32 1]] (.bool false::rz false [] (rz false [] [])))))
def fE:List UInt8:=[45,49,32,45,49,32,49,32,49,32,107,101,101,112,32,48,32,48,10]
def sixE:List (List D):=six.map λs=>[D.str s]
set_option maxHeartbeats 2000000 in
theorem fmtF:qa CF 20 [.c (.sl [fcE])] [.c (.str fE)]:=by
 intro w0 F vs hb hi ha;refine calls_of_wp (P:=Tryz.prog) Tryz.func20 rfl ?_;have h:=XB (n:=70) hb hi ha;refine wp_seq (eng (by kernel_rfl) h λa w k=>?_);clear h;refine wp_seq (eng (by kernel_rfl) k λa w h=>?_);clear k;refine wp_seq (wp_seq (eng (by kernel_rfl) h λa w k=>wp_block (wp_loop_rounds 2 ?_)));clear h;rw[rounds_succ];refine wp_seq (eng (by kernel_rfl) k λa w h=>?_);clear k;refine wp_seq (eng (by kernel_rfl) h λa w k=>wp_seq (wp_block ?_));clear h;refine wp_seq (eng (by kernel_rfl) k λa w h=>?_);clear k;refine wp_seq (eng (by kernel_rfl) h λa w k=>?_);clear h;refine wp_seq (eng (by kernel_rfl) k λa w h=>?_);clear k;refine wp_seq (eng (by kernel_rfl) h λa w k=>?_);clear h;refine wp_seq (eng (by kernel_rfl) k λa w h=>?_);clear k;refine wp_seq (wp_seq (eng (by kernel_rfl) h λa w k=>?_));clear h;generalize hs:nx _ _=s at k;obtain⟨F',loc,hc⟩:=k;have ag:=wP hc 57;have e7:=wP hc 7;have e3:=wP hc 3;have a9:=wP hc 11;have ad:=wP hc 12;have o7:=hc.objs 54;have o3:=hc.objs 3;have a3:=hc.tmps.length;rw[show s.tmps.length=70 by rw[<-hs];kernel_rfl]at a3;have n3:nth .none s.objs 3= .bld 91 .nilS:=by rw[<-hs];kernel_rfl
 have n7:nth .none s.objs 54= .arr 1 sixE false:=by rw[<-hs];kernel_rfl
 rw[show nth .any s.tmps 57= .c (.bool false)by rw[<-hs];kernel_rfl]at ag;rw[show nth .any s.tmps 7= .arr 54 by rw[<-hs];kernel_rfl]at e7;rw[show nth .any s.tmps 3= .box 3 0 by rw[<-hs];kernel_rfl]at e3;rw[show nth .any s.tmps 11= .c (.int .i64 1)by rw[<-hs];kernel_rfl]at a9;rw[show nth .any s.tmps 12= .c (.int .i64 0)by rw[<-hs];kernel_rfl]at ad;rw[n3]at o3;rw[n7]at o7;obtain⟨b3,c3,p,v,l3,f3,w3,hp,hv,_⟩:=o3;obtain rfl:=(show v= .slice none 0 0 from hv);obtain⟨_,_,_,⟨_,h⟩|⟨b7,c7,cs,ty7,l7,f7,w7,z7,k7,d7,_⟩⟩:=o7
 .cases h
 obtain⟨b,c,q1,q2⟩:=e3.1 _ n3 rfl;cases l3.symm.trans q1;rcases e7.1 _ _ _ n7 with⟨b,c,q3,q4⟩|⟨_,h,_⟩
 .cases l7.symm.trans q3;have b9:=hc.below;have g3:=hc.fresh _ _ _ l3;have g7:=hc.fresh _ _ _ l7;have hne:b7≠b3:=λe=>by subst e;exact absurd (hc.inj _ _ _ _ _ l7 l3) (by decide)
  refine wp_cond_false (YH ag.1) ?_;replace a3:a.tmps.size=70:=by simpa using a3.symm
  have t7:a.tmps[7]= .slice (some ⟨b7,0,none⟩) 6 c7:=Po q4 (by omega);have t3:=Po q2 (by omega);have bb:=Po (vM a9.1) (by omega);have t12:=Po (vM ad.1) (by omega);have a5:=I0 b9;have hdf:=hc.defers;clear hs ag hc e7 e3 a9 ad q1 q2 q3 q4 b9 n3 n7 l3 l7 f3 f7 hb hi ha;obtain⟨cs⟩:=cs;obtain⟨r,rfl⟩:=strs six cs λj hj=>by obtain⟨v,h1,h2⟩:=d7 j hj;exact⟨v,by rw[<-Dd]at h1;exact h1,h2⟩
  have a8:=jU w3;have hb7:=jU w7;have hB7:w0.heap.size<=b7:=g7.1.elim id False.elim;have a7:w0.heap.size<=b3:=g3.1.elim id False.elim;have an:=(Below.refl w0.heap.size w).alloc a5.size (.cells #[s8 [107,101,101,112]] 9);have hr:6+r.length=c7:=by simp[six]at z7;omega
  replace k7:=k7.2;clear g3 g7 d7 hv z7;have ba:=Sz w (.cells #[s8 [107,101,101,112]] 9);have wk:(w.alloc (.cells #[s8 [107,101,101,112]] 9)).heap[w.heap.size]? =some (.cells #[s8 [107,101,101,112]] 9 (0,0)):=F2;have bc:=(Below.heap_alloc w (.cells #[s8 [107,101,101,112]] 9) _ hb7).trans w7;have b4:=(Below.heap_alloc w (.cells #[s8 [107,101,101,112]] 9) _ a8).trans w3;have b1:=jU b4;have hBk:w0.heap.size<=(w.alloc (.cells #[s8 [107,101,101,112]] 9)).heap.size:=by rw[ba];omega
  have b8:∀W,W.heap[b3]? =some (.cells #[p,.slice none 0 0] 91 (0,0))->M0 91 5 w0.heap.size b3 [] W:=λW h=>by
   rcases hp with rfl|rfl
   .exact .inl ⟨a7,_,h,Ts _ _ _ _,λh=>by cases h⟩
   .exact .inr ⟨a7,_,h,Ts _ _ _ _,λh=>by cases h⟩
  have b2:=λb c W hc hb hcap=>Tryz.strings_Join b 0 c (svn.map λs=>⟨⟨s⟩⟩) ⟨#[32]⟩ W hc hb (by decide) hcap (by decide)
  generalize hjl:Lib.join ((svn.map λs=>(⟨⟨s⟩⟩:ByteArray)).map (·.data.toList)) (ByteArray.mk #[32]).data.toList=l at b2;have hll:l.length=18:=by rw[<-hjl];decide
  have a6:(⟨l.toArray⟩++⟨#[10]⟩:ByteArray).size=19:=by rw[<-hjl];decide
  go_wp2_with (first|(go_at_call 49;refine(ins7 (B0:=w0.heap.size) bc hr k7 wk (by omega) hB7 (Ne.symm hne) b1 hBk).mono ?_;rintro e W1 ⟨b',c',r',t',rfl,hc',ap,b5,a4⟩;have a4:=a4.trans b4)|(go_at_call 51;refine(b2 b' c' W1 (λj x h=>by rw[xW ap,k9,<-Dd,fz (by have:=(h8.1 h).1;simpa using this),hY];rw[hY]at h;cases hq:svn[j]? with|none=>rw[hq]at h;cases h|some u=>rw[hq]at h;cases h;rfl) (jU ap) hc').mono ?_;rintro e W2 ⟨rfl,b6⟩;have al:=(b6.block b3 (jU a4)).trans a4)|(go_at_call 50;refine(Tryz.Builder_WriteString w0.heap.size b3 [] _ W2 (b8 W2 al) (by rw[a6];decide) (by have:=jU al;omega)).mono ?_;rintro e W3 ⟨rfl,a8,a7⟩))
  have hb4:M3 91 5 w0.heap.size b3 (.pointer (some ⟨b3,0,none⟩)) (M2 (l++[10])) W3:=by
   have e:[]++No (⟨l.toArray⟩++⟨#[10]⟩)=M2 (l++[10]):=by rw[<-hjl];kernel_rfl
   rw[<-e];exact a8
  clear b2 b8 a8 a6;clear w3 w7 b4 bc wk ba a4 al ap;generalize hT:Array.setIfInBounds _ 12 _=T;have z2:T.size=70:=by subst hT;simp[a3]
  replace t3:T[3]= .pointer (some ⟨b3,0,none⟩):=by subst hT;simp[a3,t3]
  replace bb:T[11]= .int .i64 1:=by subst hT;simp[a3,bb]
  replace t12:T[12]= .int .i64 1:=by subst hT;simp
  clear hT t7 a3;rw[rounds_succ]
  go_wp2
  refine wp_cond_false (by simp[Act.eval,z2]) ?_
  go_wp2_with (first|(go_at_call 52;refine(Tryz.Builder_String w0.heap.size b3 (l++[10]) W3 (.inr hb4) (by simp)).mono ?_;rintro e W4 ⟨rfl,hB4⟩))
  refine bodyPost_ret (v:= .string ⟨(l++[10]).toArray⟩) ((results_tmp (t:=2) (fn:=Tryz.f20) rfl _ _ _).trans (by simp[z2])) rfl ⟨a5.trans (an.trans (b5.trans ((b6.mono (by have:=b5.size;omega)).trans (a7.trans hB4)))),_,rfl,?_⟩;rw[<-hjl];exact CD.str _
 .cases h
end Eng
end
