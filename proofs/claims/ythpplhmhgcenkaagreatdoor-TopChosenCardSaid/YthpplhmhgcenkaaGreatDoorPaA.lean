import Derived.Test.YthpplhmhgcenkaaGreatDoorEngE
import Derived.Deep.Slices
import Derived.OpenShut
import Derived.ChangeSame
import Derived.Carry
import Derived.RowKit
import Derived.Test.YthpplhmhgcenkaaGreatDoorProg
import Derived.WalkKit
import Derived.LoopTactic
import Derived.KernelRfl
import Derived.IntWalk
open Bool renaming and_eq_true->Aw, false_eq_true->Bx, not_false->J3, false_and->J4, true_and->Lm, not_true->Lr
open Eng.A renaming ag->Ls, c->Lv
open Eng.D renaming int->P1, sl->Sz, bool->Tk
open Eng.D.int renaming injEq->U0
open Eng.D.sl renaming injEq->U3
open Go.DataW renaming TrodAll->V1, trod->W0, Whole->W1
open Go.IntKind renaming wrap->W2, u64->ba, wrap_u32->bc, signed->bd, bits->be, u32->bh, wrap_u64->bm
open Go.RowKit renaming intOf->bs
open Go.Value renaming int->bw, okWide->b6
open Int renaming ofNat->b7, toNat->b8, ofNat_eq_natCast->b9, toNat_natCast->bF, natAbs_natCast->cb, natAbs_neg->cg, tmod->cm, tmod_eq_emod_of_nonneg->cp, tdiv->c0, natCast_mul->c1, ediv_one->c2, tdiv_eq_ediv_of_nonneg->c3, mul_neg->c4, ediv_emod_unique->c5
open List renaming length->c6, replicate->cF, take_of_length_le->cH, drop_eq_getElem_cons->cL, getElem?_eq_getElem->dc, take_length->dl, length_take->dv, getD->ec, append_nil->el, take_succ_eq_append_getElem->ep, drop_zero->ez, drop_eq_nil_of_le->e6, take->e7, drop->eH, map_cons->eL, eq_nil_of_length_eq_zero->eU, length_cons->fe, range->fg, take_append_drop->fk, mem_singleton->ft, cons_append->fx, nil_append->fy, mem_append->fR, getElem?_append_right->fS, mem_map->gb, length_eq_one_iff->gd, set_append_right->gk, length_singleton->gm, replicate_zero->gn, replicate_succ->gp, length_append->gu, getLast?_take->gv, mem_flatMap->gx, getElem_mem->gy, drop_length->gz, mem_range->g0, drop_drop->g2, take_add->g4
open List.cons renaming injEq->g5
open Nat renaming eq_of_beq_eq_true->g6, beq->g7, mul_add->hC, mul_assoc->hD, eq_zero_or_pos->hH, pow_le_pow_right->hK, mod_eq_of_lt->hL, mul_comm->hM, gcd->hP, mod_lt->hQ, pow_mul->hU, le_refl->hX, mul_le_mul_left->ia, pow_succ->ib, add_mul->ie, gcd_comm->im, div_add_mod->it, blt_eq->iz, lt_or_ge->j2, add_zero->j4, le_of_ble_eq_true->ka, div_lt_iff_lt_mul->kb, one_mul->kk, mul_le_mul_right->ks, lt_of_le_of_lt->ky, gcd_zero_right->k0, blt->k1, div_eq_of_lt->k2, min_eq_left->k3, one_lt_pow->k4, zero_mul->k5, zero_add->k6, le_of_lt->k7, zero_le->k8, pow_add->kH, gcd_rec->kO
open Option.some renaming injEq->lg, inj->ll
open Rat renaming divInt->lp
set_option maxRecDepth 1000000
section
namespace Eng
open Go Go.ChangeShapes Go.Deep Go.RowKit Go.WideShapes
variable [Env]
inductive CT where
 |int (k:IntKind)
 |bool
 |str
 |sl (es:List CT)
def yY (f:TypeId->Option (List CT)) (P:Program):List Field->Nat->Option (List CT)
 |[],_=>some []
 |x::r,off=>match f x.type with
  |some T=>match g7 x.offset off&&g7 (P.cellsOf x.type) T.length with
   |true=>match yY f P r (off+T.length)with
    |some R=>some (T++R)
    |none=>none
   |false=>none
  |none=>none
def et:Nat->List CT->List CT
 |0,_=>[]
 |n+1,T=>T++et n T
def zJ (P:Program):Nat->TypeId->Option (List CT)
 |0,_=>none
 |m+1,t=>match P.underlying t with
  |some (.int k)=>some [.int k]
  |some .bool=>some [.bool]
  |some .string=>some [.str]
  |some (.struct fs)=>match yY (zJ P m) P fs.toList 0 with
   |some T=>match g7 (P.cellsOf t) T.length with
    |true=>some T
    |false=>none
   |none=>none
  |some (.array n e)=>match zJ P m e with
   |some T=>match g7 (P.cellsOf e) T.length&&g7 (P.cellsOf t) (n*T.length)with
    |true=>some (et n T)
    |false=>none
   |none=>none
  |some (.slice e)=>match zJ P m e with
   |some T=>match g7 (P.cellsOf e) T.length&&k1 0 T.length with
    |true=>some [.sl T]
    |false=>none
   |none=>none
  |_=>none
mutual
def QV:CT->D->Prop
 | .int k,d=>∃n,d= .int k n/\(Lit.int k n).wf=true
 | .bool,d=>∃b,d= .bool b
 | .str,d=>∃s,d= .str s/\s.length<=maxLen
 | .sl T,d=>∃es:List (List D),d= .sl es/\es.length<=maxLen/\∀r∈es,wD T r
def wD:List CT->List D->Prop
 |[],ds=>ds=[]
 |T::Ts,ds=>∃d r,ds=d::r/\QV T d/\wD Ts r
end
omit [Env] in
theorem yn:∀{T:List CT} {ds:List D},wD T ds->ds.length=T.length
 |[],ds,h=>by simp only[wD]at h;rw[h];rfl
 |_::T,ds,h=>by simp only[wD]at h;obtain⟨d,r,rfl,_,h2⟩:=h;simp[yn h2]
omit [Env] in
theorem yr:∀{T R:List CT} {ds es:List D},wD T ds->wD R es->wD (T++R) (ds++es)
 |[],R,ds,es,h,h'=>by simp only[wD]at h;rw[h];exact h'
 |_::T,R,ds,es,h,h'=>by simp only[wD]at h;obtain⟨d,r,rfl,h1,h2⟩:=h;show wD (_::(T++R)) (d::(r++es));rw[wD];exact⟨d,r++es,rfl,h1,yr h2 h'⟩
omit [Env] in
theorem Q8 {size:Nat} (hs:0<size):∀{es:List (List D)},(∀r∈es,r.length=size)->∀j,j<es.length*size->nth .undef es.flatten j=nth .undef (nth [] es (j/size)) (j%size)
 |[],_,j,h=>by simp at h
 |r::es,hr,j,h=>by
  have hl:=hr r (by simp);rw[List.flatten_cons];by_cases hj:j<size
  .rw[k2 hj,hL hj];rw[qu,qu,List.getElem?_append_left (by omega)];rfl
  .have h2:=Q8 hs (es:=es) (λr hr'=>hr r (by simp[hr'])) (j-size) (by
    rw[fe,ie,kk]at h;omega)
   have e1:j/size=(j-size)/size+1:=by rw[<-Nat.div_eq_sub_div hs (by omega)]
   have e2:j%size=(j-size)%size:=Nat.mod_eq_sub_mod (by omega);rw[e1,e2];show _=nth .undef (nth [] es ((j-size)/size)) ((j-size)%size);rw[<-h2,qu,qu,fS (by omega),hl]
section
variable {H:Type} {enc:TypeId×Value->H} {P:Program} {w:World} {base:Nat} {spare:Nat->Bool} {held:Bool}
theorem Zq {f:TypeId->Option (List CT)} {F:Nat->Prop} {n:Nat} {cs:List Value}
 (hf:∀t T us x,f t=some T->W0 enc P w base spare held n t us=some x->∃ds,All2 (CD w F) ds us/\wD T ds):
 ∀(fs:List Field) (off:Nat) (T:List CT),yY f P fs off=some T->(∀x∈fs,∃y,W0 enc P w base spare held n x.type ((cs.drop x.offset).take (P.cellsOf x.type))=some y)->
  ∃ds,All2 (CD w F) ds ((cs.drop off).take T.length)/\wD T ds
 |[],off,T,h,_=>by simp only[yY,lg]at h;subst h;exact⟨[],by simp[All2],by simp[wD]⟩
 |x::fs,off,T,h,hy=>by
  simp only[yY]at h;split at h
  .rename_i T1 h1;split at h
   .rename_i hb;rw[Aw]at hb;have e1:=g6 hb.1;have e2:=g6 hb.2;split at h
    .rename_i R hR;simp only[lg]at h;subst h;obtain⟨y,hy1⟩:=hy x (by simp);rw[e1,e2]at hy1;obtain⟨ds1,a1,b1⟩:=hf _ _ _ _ h1 hy1;obtain⟨ds2,a2,b2⟩:=Zq hf fs _ R hR (λx hx=>hy x (by simp[hx]));refine⟨ds1++ds2,?_,yr b1 b2⟩;rw[gu,g4,g2];exact All2.append a1 a2
    .simp at h
   .simp at h
  .simp at h
omit [Env] in
theorem vY {R:D->Value->Prop} {T:List CT} {cs:List Value}:∀(n k:Nat),(∀i,i<n->∃ds,All2 R ds ((cs.drop ((k+i)*T.length)).take T.length)/\wD T ds)->
 ∃ds,All2 R ds ((cs.drop (k*T.length)).take (n*T.length))/\wD (et n T) ds
 |0,k,_=>⟨[],by simp[All2],by simp[et,wD]⟩
 |n+1,k,h=>by
  obtain⟨d1,a1,b1⟩:=h 0 (by omega);obtain⟨d2,a2,b2⟩:=vY n (k+1) (λi hi=>by
   have:=h (i+1) (by omega);rw[show k+(i+1)=k+1+i by omega]at this;exact this)
  refine⟨d1++d2,?_,yr b1 b2⟩;rw[show(n+1)*T.length=T.length+n*T.length by rw[ie,kk,Nat.add_comm],g4,g2];rw[j4]at a1;rw[ie,kk]at a2;exact All2.append a1 a2
theorem yZ {F:Nat->Prop} (hF:∀b,b<w.heap.size->F b):∀(m:Nat) (t:TypeId) (T:List CT) (fuel:Nat) (cs:List Value) (x:DataW H×List MemPlace),zJ P m t=some T->
 W0 enc P w base spare held fuel t cs=some x->∃ds,All2 (CD w F) ds cs/\wD T ds
 |0,_,_,_,_,_,h,_=>by simp[zJ]at h
 |m+1,t,T,fuel,cs,x,h,ht=>by
  simp only[zJ]at h;split at h
  .rename_i k hu;simp only[lg]at h;subst h;obtain⟨n,rfl,_,hw⟩:=DataW.trod_int hu ht;exact⟨[.int k n],⟨.int _ _,trivial⟩,by simp only[wD,QV];exact⟨_,_,rfl,⟨n,rfl,hw⟩,rfl⟩⟩
  .rename_i hu;simp only[lg]at h;subst h;obtain⟨b,rfl,_⟩:=DataW.trod_bool hu ht;exact⟨[.bool b],⟨.bool _,trivial⟩,by simp only[wD,QV];exact⟨_,_,rfl,⟨b,rfl⟩,rfl⟩⟩
  .rename_i hu;simp only[lg]at h;subst h;obtain⟨s,rfl,_,hs⟩:=DataW.trod_string hu ht;refine⟨[.str s.data.toList],⟨.str _,trivial⟩,?_⟩;simp only[wD,QV];refine⟨_,_,rfl,⟨_,rfl,?_⟩,rfl⟩;have:s.data.toList.length=s.size:=by simp
   rw[this];exact hs
  .rename_i fs hu;split at h
   .rename_i T' hT;split at h
    .rename_i hc;simp only[lg]at h;subst h;have hc:=g6 hc;obtain⟨xs,n,_,_,ad,ap,hf⟩:=DataW.trod_struct hu ht;obtain⟨ds,h1,h2⟩:=Zq (cs:=cs) (n:=n) (F:=F) (λt T us x h1 h2=>yZ hF m t T n us x h1 h2) fs.toList 0 T' hT (λf hf'=>by
      obtain⟨i,hi,rfl⟩:=List.mem_iff_getElem.1 hf';have:=hf i fs[i] (Array.getElem?_eq_getElem (by simpa using hi));rw[dc (by rw[ap];simpa using hi)]at this;exact⟨_,this⟩)
     rw[ez,cH (by omega)]at h1;exact⟨ds,h1,h2⟩
    .simp at h
   .simp at h
  .rename_i k e hu;split at h
   .rename_i T' hT;split at h
    .rename_i hc;simp only[lg]at h;subst h;rw[Aw]at hc;have a7:=g6 hc.1;have a3:=g6 hc.2;obtain⟨xs,n,_,_,ad,ap,hf⟩:=DataW.trod_array hu ht;obtain⟨ds,h1,h2⟩:=vY (R:=CD w F) (T:=T') (cs:=cs) k 0 (λi hi=>by
      have:=hf i hi;rw[dc (by omega),a7]at this;rw[k6];exact yZ hF m e T' n _ _ hT this)
     rw[k5,ez,cH (by omega)]at h1;exact⟨ds,h1,h2⟩
    .simp at h
   .simp at h
  .rename_i e hu;split at h
   .rename_i T' hT;split at h
    .rename_i hc;simp only[lg]at h;subst h;rw[Aw]at hc;have a7:=g6 hc.1;have a3:=hc.2;rw[iz]at a3;rcases open_slice hu ht with⟨rfl,_⟩|⟨a,a1,cap,k,n,Dd,Pl,rfl,_,hle,hcap,hk,_,hel⟩
     .exact⟨[.sl []],⟨.nil _ _,trivial⟩,by simp only[wD,QV];exact⟨_,_,rfl,⟨[],rfl,by simp,by simp⟩,rfl⟩⟩
     .by_cases hl0:a1=0
      .subst hl0;exact⟨[.sl []],⟨.nil _ _,trivial⟩,by simp only[wD,QV];exact⟨_,_,rfl,⟨[],rfl,by simp,by simp⟩,rfl⟩⟩
      .have hlk:a1<=k:=by rw[hk];split<;>omega
       have ag:∀i,i<a1->∃ds,(∀j,j<T'.length->∃v,w.cell? (a.add (i*T'.length+j))=some v/\CD w F (nth .undef ds j) v)/\wD T' ds:=by intro i hi;obtain⟨us,h1,h2⟩:=hel i (by omega);obtain⟨ds,h3,h4⟩:=yZ hF m e T' n us _ hT h2;refine⟨ds,λj hj=>?_,h4⟩;rw[a7]at h1;obtain⟨_,hul,hc⟩:=World.cells?_some h1;have:=hc j hj;rw[add_add,dc (by omega)]at this;have h5:=All2.nth (.undef) undef ds us j h3 (by rw[yn h4];exact hj);rw[qm undef (show j<us.length by omega)]at h5;exact⟨_,this,h5⟩
       obtain⟨es,a6⟩:=choose_lt ag;have al:a.spot=none:=by
        obtain⟨v,h1,_⟩:=(a6 0 (by omega)).1 0 a3;simp only[k5,j4,Addr.add,if_true]at h1;unfold World.cell? at h1;split at h1
        .split at h1
         .simp at h1
         .rename_i hs;simpa using hs
        .simp at h1
       obtain⟨b,o,sp⟩:=a;simp only at al;subst al;have a5:∀j,(⟨b,o,none⟩:Addr).add j=⟨b,o+j,none⟩:=by
        intro j;unfold Addr.add;by_cases hj:j=0
        .subst hj;simp
        .rw[if_neg hj]
       have hb:b<w.heap.size:=by
        obtain⟨v,h1,_⟩:=(a6 0 (by omega)).1 0 a3;rw[a5]at h1;unfold World.cell? at h1;split at h1
        .rename_i hh;exact(Array.getElem?_eq_some_iff.1 hh).1
        .simp at h1
       have a0:((fg a1).map es).length=a1:=by simp
       have a2:∀r∈(fg a1).map es,r.length=T'.length:=by intro r hr;simp only[gb,g0]at hr;obtain⟨i,hi,rfl⟩:=hr;exact yn (a6 i hi).2
       have a4:∀j,j<a1*T'.length->∃v,w.cell? ⟨b,o+j,none⟩=some v/\CD w F (nth .undef ((fg a1).map es).flatten j) v:=by
        intro j hj;have hi:j/T'.length<a1:=by rw[kb a3];exact hj
        obtain⟨v,h1,h2⟩:=(a6 _ hi).1 (j%T'.length) (hQ _ a3);rw[a5,hM,it]at h1;refine⟨v,h1,?_⟩;rw[Q8 a3 a2 j (by rw[a0];exact hj)];have:nth [] ((fg a1).map es) (j/T'.length)=es (j/T'.length):=by rw[qu];simp[hi]
        rw[this];exact h2
       obtain⟨vs,an⟩:=choose_lt a4;refine⟨[.sl ((fg a1).map es)],⟨?_,trivial⟩,?_⟩
       .have:=CD.sl (w:=w) (F:=F) ((fg a1).map es) b o cap T'.length vs (by rw[a0];exact hle) a2 (hF b hb) (λj hj=>(an j (by rw[a0]at hj;exact hj)).1) (λj hj=>(an j (by rw[a0]at hj;exact hj)).2);rw[a0]at this;exact this
       .simp only[wD,QV];refine⟨_,_,rfl,⟨_,rfl,by rw[a0];omega,λr hr=>?_⟩,rfl⟩;simp only[gb,g0]at hr;obtain⟨i,hi,rfl⟩:=hr;exact(a6 i hi).2
    .simp at h
   .simp at h
  .simp at h
end
end Eng
end
section
namespace Eng
open Go
theorem G5:∀{T:List CT} {r:List D},wD T r->∀i,i<r.length->∃t,QV t (nth .undef r i)
 |[],r,h,i,hi=>by simp only[wD]at h;subst h;simp at hi
 |t::T,r,h,i,hi=>by
  simp only[wD]at h;obtain⟨d,r',rfl,h1,h2⟩:=h;cases i with
  |zero=>exact⟨t,h1⟩
  |succ i=>exact G5 h2 i (by simpa using hi)
theorem It {E E':Env} {w:World} {F:Nat->Prop} {d:D} {v:Value} (h: @CD E w F d v):∀T,QV T d-> @CD E' w F d v:=by
 induction h with
 |undef v h=>intro _ _;exact @CD.undef E' w F v h
 |bool b=>intro _ _;exact @CD.bool E' w F b
 |int k n=>intro _ _;exact @CD.int E' w F k n
 |str s=>intro _ _;exact @CD.str E' w F s
 |nil a c=>intro _ _;exact @CD.nil E' w F a c
 |nilI=>intro _ _;exact @CD.nilI E' w F
 |someI t v h=>intro _ _;exact @CD.someI E' w F t v h
 |nilP=>intro _ _;exact @CD.nilP E' w F
 |fn f=>intro _ _;exact @CD.fn E' w F f
 |map l r es cl hFr hb hm=>intro _ _;exact @CD.map E' w F l r es cl hFr hb hm
 |sl es b o c size vs hlc hs hFb hc _ ih=>
  intro T hT;refine @CD.sl E' w F es b o c size vs hlc hs hFb hc λj hj=>?_
  have a2:0<size:=by
   rcases hH size with e|e
   .subst e;omega
   .exact e
  have a1:j/size<es.length:=Nat.div_lt_of_lt_mul (by rw[hM];exact hj);have a0:nth [] es (j/size)∈es:=by rw[qu,dc a1];exact gy a1
  cases T with
  |sl T'=>simp only[QV]at hT;obtain⟨es',e,_,hr⟩:=hT;cases e;obtain⟨t,ht⟩:=G5 (hr _ a0) (j%size) (by rw[hs _ a0];exact hQ _ a2);rw[<-Q8 a2 hs j hj]at ht;exact ih j hj t ht
  |int k=>simp only[QV]at hT;obtain⟨n,e,_⟩:=hT;cases e
  |bool=>simp only[QV]at hT;obtain⟨n,e⟩:=hT;cases e
  |str=>simp only[QV]at hT;obtain⟨n,e,_⟩:=hT;cases e
 |ptr cs b o vs hFb hc _ _=>
  intro T hT;cases T with
  |sl T'=>simp only[QV]at hT;obtain⟨n,e,_⟩:=hT;cases e
  |int k=>simp only[QV]at hT;obtain⟨n,e,_⟩:=hT;cases e
  |bool=>simp only[QV]at hT;obtain⟨n,e⟩:=hT;cases e
  |str=>simp only[QV]at hT;obtain⟨n,e,_⟩:=hT;cases e
 |clo f ps vs _ _=>
  intro T hT;cases T with
  |sl T'=>simp only[QV]at hT;obtain⟨n,e,_⟩:=hT;cases e
  |int k=>simp only[QV]at hT;obtain⟨n,e,_⟩:=hT;cases e
  |bool=>simp only[QV]at hT;obtain⟨n,e⟩:=hT;cases e
  |str=>simp only[QV]at hT;obtain⟨n,e,_⟩:=hT;cases e
 |tok p i v _ _=>
  intro T hT;cases T with
  |sl T'=>simp only[QV]at hT;obtain⟨n,e,_⟩:=hT;cases e
  |int k=>simp only[QV]at hT;obtain⟨n,e,_⟩:=hT;cases e
  |bool=>simp only[QV]at hT;obtain⟨n,e⟩:=hT;cases e
  |str=>simp only[QV]at hT;obtain⟨n,e,_⟩:=hT;cases e
end Eng
end
section
namespace Eng
open Go Go.RowKit Go.WideShapes Go.ChangeShapes
section
variable [Env] {H:Type} {enc:TypeId×Value->H} {P:Program}
omit [Env] in
theorem Jd {f:Func} {s:ChangeSpec} {apart fresh handsOn again:Bool} {W W':World} {args:Array Value} {v:Value} {ds gs:List (DataW H)} {before pa pv:List MemPlace}
 (hW:W1 enc P f.params.toList s.vars apart W args.toList ds gs before)
 (hres:∀(b:Nat) (sp:Nat->Bool) (hd:Bool),V1 enc P W' b sp hd f.resultTypes.toList (v.resultList f.resultTypes.size) (s.fn H (ds++gs)).results [])
 (hargs:∀sp:Nat->Bool,(∀p∈before,sp p.block=true)->V1 enc P W' 0 sp true f.params.toList args.toList (s.fn H (ds++gs)).args pa)
 (hvars:∀sp:Nat->Bool,(∀p∈before,sp p.block=true)->DataW.TrodVars enc P W' sp s.vars (s.fn H (ds++gs)).vars pv)
 (hps:before=pa++pv) (hb:Below W.heap.size W W')
 (hok:∀(j:Nat) (t:TypeId) (r:Value),f.resultTypes[j]? =some t->(v.resultList f.resultTypes.size)[j]? =some r->b6 P W' .any 0 t r):
 s.post enc P f apart fresh handsOn again W args v W':=by
 have a2:∀p∈before,p.block<W.heap.size:=λp hp=>hW.lt p hp
 have a0:∀p∈before,(λb=>decide (b<W.heap.size)) p.block=true:=λp hp=>by simpa using a2 p hp
 refine⟨ds,gs,before,[],pa,pv,hW,hres _ _ _,hargs _ a0,hvars _ a0,World.keptBut_mono (λp hp=>⟨hp,?_⟩) (hb.frame (· ∈before)),λ_=>?_⟩
 .rw[hps,fR]at hp;exact Or.inr hp
 .obtain⟨_,_,_,_,_,hz,hn⟩:=hW;refine⟨hok,_,_,([]++pa)++pv,⟨[]++pa,pv,trodAll_append (hargs _ (λ_ _=>rfl)) (hres _ _ _),hvars _ (λ_ _=>rfl),rfl,?_,?_⟩,?_⟩
  .intro b a3 hp;have a1:MemPlace.cell b a3∈before:=by rw[hps];simpa using hp
   rw[hb.frozen (a2 _ a1)];exact hz b a3 a1
  .intro ha;have:=hn ha;rw[hps]at this
   simpa using this
  .intro p hp _;rw[hps]
   simpa using hp
omit [Env] in
theorem Qa (hl:laidOutB P=true) {W W':World} (hb:Below W.heap.size W W') {sp:Nat->Bool}:∀{ts:List TypeId} {vs:List Value} {ds:List (DataW H)} {ps:List MemPlace},
 (∀t∈ts,P.readableRec t=true/\t<P.types.size)->V1 enc P W 0 (λ_=>true) true ts vs ds ps->(∀x∈ps,x.block<W.heap.size)->(∀x∈ps,sp x.block=true)->
 V1 enc P W' 0 sp true ts vs ds ps
 |[],[],[],_,_,h,_,_=>h
 |t::ts,v::vs,d::ds,_,ht,h,hlt,hsp=>by obtain⟨p,q,h1,h2,rfl⟩:=h;refine⟨p,q,?_,Qa hl hb (λt' h'=>ht t' (by simp[h'])) h2 (λx hx=>hlt x (by simp[hx])) (λx hx=>hsp x (by simp[hx])),rfl⟩;exact WideElems.Trod_stays hl (ht t (by simp)).1 (ht t (by simp)).2 h1 (λx hx=>hb.same (hlt x (by simp[hx]))) (λx hx=>hsp x (by simp[hx]))
 |[],[],_::_,_,_,h,_,_=>h.elim
 |[],_::_,_,_,_,h,_,_=>by cases ‹List (DataW H)› <;>exact h.elim
 |_::_,[],_,_,_,h,_,_=>by cases ‹List (DataW H)› <;>exact h.elim
 |_::_,_::_,[],_,_,h,_,_=>h.elim
def Pz (P:Program) (m:Nat) (t:TypeId) (a:A):Prop:=
 ∃T,zJ P m t=some T/\((wz P t=true/\∃ds,a= .ag ds/\wD T ds)\/(wz P t=false/\∃d,a= .c d/\wD T [d]))
omit [Env] in
theorem Va {n:Nat} {e t:TypeId} {w:World} {r:Reach} {b:Nat} {v:Value} (ht:P.underlying t=some (.array n e)) (h:b6 P w r b t v):∃cs,v= .agg cs/\cs.size=P.cellsOf t:=by
 simp only[b6,ht]at h;obtain⟨cs,h1,h2,_⟩:=h;exact⟨cs,h1,h2⟩
theorem P0 {w:World} {F:Nat->Prop} (hF:∀b,b<w.heap.size->F b) {m base b0:Nat} {r:Reach} {sp:Nat->Bool} {held:Bool} {t:TypeId} {T:List CT} {v:Value} {d:DataW H} {p:List MemPlace}
 (hT:zJ P m t=some T) (hv:b6 P w r b0 t v) (h:DataW.Trod enc P w base sp held t v d p):∃a,CA w F a v/\Pz P m t a:=by
 obtain⟨a1,hf⟩:=h;obtain⟨ds,h1,h2⟩:=yZ hF m t T a1 _ _ hT hf;have a0:v.cells= #[v]->wz P t=false->∃a,CA w F a v/\Pz P m t a:=by intro hc ht;rw[hc]at h1;have hl:=h1.length;simp only[gm]at hl;obtain⟨d0,rfl⟩:=gd.1 hl;exact⟨.c d0,h1.1,T,hT,.inr ⟨ht,d0,rfl,h2⟩⟩
 have ag:∀cs,v= .agg cs->wz P t=true->∃a,CA w F a v/\Pz P m t a:=by intro cs hc ht;subst hc;exact⟨.ag ds,⟨cs,rfl,h1⟩,T,hT,.inl ⟨ht,ds,rfl,h2⟩⟩
 cases m with
 |zero=>simp[zJ]at hT
 |succ m=>
  simp only[zJ]at hT;split at hT
  .rename_i k hu;obtain⟨n,rfl⟩:=okWide_int hu hv;exact a0 rfl (by unfold wz;rw[hu])
  .rename_i hu;obtain⟨b,rfl⟩:=okWide_bool hu hv;exact a0 rfl (by unfold wz;rw[hu])
  .rename_i hu;obtain⟨s,rfl⟩:=okWide_string hu hv;exact a0 rfl (by unfold wz;rw[hu])
  .rename_i fs hu;obtain⟨cs,rfl,_⟩:=okWide_struct hu hv;exact ag cs rfl (by unfold wz;rw[hu])
  .rename_i n e hu;obtain⟨cs,rfl,_⟩:=Va hu hv;exact ag cs rfl (by unfold wz;rw[hu])
  .rename_i e hu;obtain⟨a,len,cap,rfl⟩:=okWide_slice hu hv;exact a0 rfl (by unfold wz;rw[hu])
  .simp at hT
theorem Vb {w:World} {F:Nat->Prop} (hF:∀b,b<w.heap.size->F b) {m base b0:Nat} {r:Reach} {sp:Nat->Bool} {held:Bool}:∀{ts:List TypeId} {vs:List Value} {ds:List (DataW H)} {ps:List MemPlace},
 (∀t∈ts,(zJ P m t).isSome=true)->(∀(j:Nat) t v,ts[j]? =some t->vs[j]? =some v->b6 P w r b0 t v)->V1 enc P w base sp held ts vs ds ps->
 ∃as',All2 (CA w F) as' vs/\All2 (Pz P m) ts as'
 |[],[],[],_,_,_,_=>⟨[],trivial,trivial⟩
 |t::ts,v::vs,d::ds,_,ht,hv,h=>by obtain⟨p,q,h1,h2,rfl⟩:=h;obtain⟨T,hT⟩:=Option.isSome_iff_exists.1 (ht t (by simp));obtain⟨a,e1,e2⟩:=P0 hF hT (hv 0 t v rfl rfl) h1;obtain⟨as',e3,e4⟩:=Vb hF (λt' h'=>ht t' (by simp[h'])) (λj t' v' h3 h4=>hv (j+1) t' v' (by simpa using h3) (by simpa using h4)) h2;exact⟨a::as',⟨e1,e3⟩,⟨e2,e4⟩⟩
 |[],[],_::_,_,_,_,h=>h.elim
 |[],_::_,_,_,_,_,h=>by cases ‹List (DataW H)› <;>exact h.elim
 |_::_,[],_,_,_,_,h=>by cases ‹List (DataW H)› <;>exact h.elim
 |_::_,_::_,[],_,_,_,h=>h.elim
omit [Env] in
theorem K0 {E E':Env} {w:World} {F:Nat->Prop}:∀{T:List CT} {ds:List D} {vs:List Value},wD T ds->All2 (@CD E w F) ds vs->All2 (@CD E' w F) ds vs
 |[],ds,vs,h,k=>by simp only[wD]at h;subst h;cases vs<;>first|trivial|exact k.elim
 |t::T,ds,vs,h,k=>by
  simp only[wD]at h;obtain⟨d,r,rfl,h1,h2⟩:=h;cases vs with
  |nil=>exact k.elim
  |cons v vs=>exact⟨It k.1 t h1,K0 h2 k.2⟩
omit [Env] in
theorem CU {E E':Env} {w:World} {F:Nat->Prop} {m:Nat} {t:TypeId} {a:A} {v:Value} (h:Pz P m t a) (k: @CA E w F a v): @CA E' w F a v:=by
 obtain⟨T,_,h⟩:=h;rcases h with⟨_,ds,rfl,h⟩|⟨_,d,rfl,h⟩
 .obtain⟨vs,e,k⟩:=k;exact⟨vs,e,K0 h k⟩
 .have:=K0 (E':=E') (vs:=[v]) h ⟨k,trivial⟩;exact this.1
omit [Env] in
theorem G6 {E E':Env} {w:World} {F:Nat->Prop} {m:Nat}:∀{ts:List TypeId} {al:List A} {vs:List Value},All2 (Pz P m) ts al->All2 (@CA E w F) al vs->All2 (@CA E' w F) al vs
 |[],[],vs,_,k=>by cases vs<;>first|trivial|exact k.elim
 |t::ts,a::al,vs,h,k=>by
  cases vs with
  |nil=>exact k.elim
  |cons v vs=>exact⟨CU h.1 k.1,G6 h.2 k.2⟩
 |[],_::_,_,h,_=>h.elim
 |_::_,[],_,h,_=>h.elim
theorem eu {C:Cx} {f:Nat} {fn:Func} {s:ChangeSpec} {m bt:Nat} {apart fresh handsOn again:Bool} (hl:laidOutB C.P=true) (hbt:C.P.underlying bt=some .bool)
 (hres:fn.resultTypes= #[bt]) (hrd:∀t∈fn.params.toList,C.P.readableRec t=true/\t<C.P.types.size/\(zJ C.P m t).isSome=true)
 (hvars:s.vars=[]) (hfn:∀ds:List (DataW H),ds.length=fn.params.size->s.fn H ds={results:=[.lit (.bool true)],args:=ds})
 (hg:∀al:List A,All2 (Pz C.P m) fn.params.toList al->∃E:Env, @Gives E C f al [.c (.bool true)])
 {W:World} {base:Nat} {args:Array Value} {ds gs:List (DataW H)} {before:List MemPlace} (hi:∀E:Env, @Inv E C (λb=>b<W.heap.size) W)
 (hval:∀(j:Nat) t v,fn.params[j]? =some t->args[j]? =some v->b6 C.P W .any base t v)
 (hW:W1 enc C.P fn.params.toList s.vars apart W args.toList ds gs before):
 Calls C.P f args W λe W'=>∃v,e= .returned v/\s.post enc C.P fn apart fresh handsOn again W args v W':=by
 have hW':=hW;have hlt:∀p∈before,p.block<W.heap.size:=λp hp=>hW.lt p hp
 obtain⟨p,q,hA,hV,rfl,hfz,hnd⟩:=hW;rw[hvars]at hV;have hgq:gs=[]/\q=[]:=by
  cases gs with
  |nil=>exact⟨rfl,hV⟩
  |cons g gs=>exact hV.elim
 obtain⟨rfl,rfl⟩:=hgq;have a0:ds.length=fn.params.size:=by
  have key:∀{ts:List TypeId} {vs:List Value} {ds:List (DataW H)} {ps:List MemPlace},V1 enc C.P W 0 (λ_=>true) true ts vs ds ps->ds.length=ts.length:=by
   intro ts
   induction ts with
   |nil=>intro vs ds ps h;cases vs<;>cases ds<;>first|rfl|exact h.elim
   |cons t ts ih=>
    intro vs ds ps h;cases vs with
    |nil=>cases ds<;>exact h.elim
    |cons v vs=>cases ds with
     |nil=>exact h.elim
     |cons d ds=>obtain⟨p,q,_,h2,_⟩:=h;simp[ih h2]
  rw[key hA];simp
 obtain⟨al,h1,h2⟩:=Vb (F:=λb=>b<W.heap.size) (λ_ h=>h) (m:=m) (λt ht=>(hrd t ht).2.2) (λj t v h3 h4=>hval j t v (by simpa using h3) (by simpa using h4)) hA;obtain⟨E,hE⟩:=hg al h2;have hc:=hE W (λb=>b<W.heap.size) args.toList (λ_ h=>h) (hi E) (G6 h2 h1);have e0:args.toList.toArray=args:=by simp
 rw[e0]at hc;refine hc.mono λe W' he=>?_
 obtain⟨hb,v,rfl,hr⟩:=he;have hv:v= .bool true:=by have hr: @CD E _ _ (.bool true) v:=hr;cases hr;rfl
 subst hv;refine⟨_,rfl,Jd (pa:=p++[]) (pv:=[]) hW' ?_ ?_ ?_ (by simp) hb ?_⟩
 .intro b sp hd;rw[el,hfn ds a0,hres];exact trodAll_mk1 (shut_bool hbt true)
 .intro sp a1;rw[el,hfn ds a0,el];exact Qa hl hb (λt ht=>⟨(hrd t ht).1,(hrd t ht).2.1⟩) hA (λx hx=>hlt x (by simp[hx])) (λx hx=>a1 x (by simp[hx]))
 .intro sp a1;rw[el,hfn ds a0,hvars];rfl
 .exact ok_one hres rfl (okWide_bool_mk hbt _)
end
end Eng
end
section
namespace Eng
open Go Go.Proofs Go.RowKit Go.Sort
variable [Env]
omit [Env] in
theorem jB {us:List Int} {k:Nat} (h:k<us.length):us.drop k=us[k]::us.drop (k+1):=cL h
omit [Env] in
theorem Lj {done r:List Int} {x y:Int} {d:Array Int} (h:d.toList=done++x::r):(d.setIfInBounds done.length y).toList=(done++[y])++r:=by
 rw[Array.toList_setIfInBounds,h];simp
def G7 (by_:Int) (us vs:List Int) (d:Array Int) (k:Nat) (c b:Int):Prop:=
 ∃done:List Int,done.length=k/\d.toList=done++us.drop k/\kj by_ us vs 0 0=(done++(kj by_ (us.drop k) (vs.drop k) c b).1,(kj by_ (us.drop k) (vs.drop k) c b).2)
omit [Env] in
theorem Zr {by_:Int} {us vs:List Int} {d:Array Int} {k:Nat} {c b:Int} (h:G7 by_ us vs d k c b) (hk:k<us.length) {t z b':Int}
 (ht:t=ej by_ c (vs.drop k))
 (hz:(ba.wrap us[k]<ba.wrap (t.tmod 1000000000+b)/\z=bh.wrap (ba.wrap (ba.wrap (ba.wrap us[k]+1000000000)-ba.wrap (t.tmod 1000000000+b)))/\b'=1)\/
  (¬ba.wrap us[k]<ba.wrap (t.tmod 1000000000+b)/\z=bh.wrap (ba.wrap (ba.wrap us[k]-ba.wrap (t.tmod 1000000000+b)))/\b'=0)):
 G7 by_ us vs (d.setIfInBounds k z) (k+1) (ba.wrap (t.tdiv 1000000000)) b':=by
 obtain⟨done,h1,h2,h3⟩:=h;refine⟨done++[z],by simp[h1],?_,?_⟩
 .rw[jB hk]at h2;rw[<-h1];have:=Lj (y:=z) h2;rw[h1]at this ⊢;exact this
 .rw[h3,jB hk];have ht2:(vs.drop k).tail=vs.drop (k+1):=by simp
  simp only[kj];rw[<-ht,ht2];rcases hz with⟨h4,h5,h6⟩|⟨h4,h5,h6⟩
  .have:decide (ba.wrap us[k]<ba.wrap (t.tmod 1000000000+b))=true:=by simpa using h4
   rw[this];subst h5 h6;simp
  .have:decide (ba.wrap us[k]<ba.wrap (t.tmod 1000000000+b))=false:=by simpa using h4
   rw[this];subst h5 h6;simp
omit [Env] in
theorem Lk {us done:List Int} {d:Array Int} {k:Nat} (h1:done.length=k) (h2:d.toList=done++us.drop k) (hk:k<us.length):d[k]! =us[k]:=by
 have hsz:d.size=us.length:=by have:=congrArg c6 h2;simp at this;omega
 have:d.toList[k]? =some us[k]:=by rw[h2,fS (by omega),h1];simp[hk]
 have h3:d[k]? =some us[k]:=by simpa using this
 rw[getElem!_pos d k (by omega)];rw[Array.getElem?_eq_getElem (by omega)]at h3;exact ll h3
omit [Env] in
theorem G8 {us done:List Int} {d:Array Int} {k:Nat} (h1:done.length=k) (h2:d.toList=done++us.drop k) (hk:k<=us.length):d.size=us.length:=by
 have:=congrArg c6 h2;simp at this;omega
omit [Env] in
set_option maxHeartbeats 2000000 in
set_option maxRecDepth 100000 in
theorem Iu {w:World} {g off cap bv ov cv:Nat} (us vs:List Int) (by_:Int) (hu:Holds (bw .u32) w g off us.toArray) (hb:bv≠g) (hnu:us.length<=1073741824) (hnv2:vs.length<=1073741824)
 (hv:∀j (h:j<vs.length),w.cell? ⟨bv,ov+j,none⟩=some (.int .u32 vs[j])):
 Calls Tryz.prog 388 #[.slice (some ⟨g,off,none⟩) us.length cap,.slice (some ⟨bv,ov,none⟩) vs.length cv,.int .u64 by_] w λe w'=>
  e= .returned (.bool (decide (0<(kj by_ us vs 0 0).2.2)||decide (0<(kj by_ us vs 0 0).2.1)))/\w'=putRow (bw .u32) w g off (kj by_ us vs 0 0).1.toArray:=by
 have Hu:Hid (Holds (bw .u32) w g off us.toArray):=hu;have Hv:Hid (∀j (h:j<vs.length),w.cell? ⟨bv,ov+j,none⟩=some (.int .u32 vs[j])):=hv;have a4:=putRow_self (bw .u32) w g off us.toArray hu;have an:Hid (putRow (bw .u32) w g off us.toArray=w):=a4;clear hu hv a4;obtain⟨nu,a7⟩:∃nu,nu=us.length:=⟨_,rfl⟩;obtain⟨nv,ad⟩:∃nv,nv=vs.length:=⟨_,rfl⟩;rw[<-a7,<-ad];have b2:Hid (nu=us.length):=a7;have b3:Hid (nv=vs.length):=ad;have hnu':nu<=1073741824:=by omega
 have hnv':nv<=1073741824:=by omega
 clear a7 ad hnu hnv2
 go_enter Tryz.func388,Tryz.ntmps388
 go_wp2
 go_loopw [7,8,15] (λc b i wr=>∃(k:Nat) (cc bb:Int) (d:Array Int),k<=nu/\i= .int .i64 k/\c= .int .u64 cc/\b= .int .u64 bb/\G7 by_ us vs d k cc bb/\wr=putRow (bw .u32) w g off d) (λ_ _ i _=>nu-(bs i).toNat)
 case atStart=>exact⟨0,0,0,us.toArray,k8 _,rfl,rfl,rfl,⟨[],rfl,by simp,by simp⟩,an.out.symm⟩
 case round=>
  obtain⟨k,cc,bb,d,hk,rfl,rfl,rfl,a3,b5⟩:=hrel;have a1:Hid (G7 by_ us vs d k cc bb):=a3;have ag:Hid (wr=putRow (bw .u32) w g off d):=b5;clear a3 b5;by_cases hlt:k<nu
  .have a0:k<us.length:=by rw[<-b2.out];exact hlt
   obtain⟨done,h1,h2,_⟩:=a1.out;have b4:=G8 h1 h2 (k7 a0);have ap:wr.cell? ⟨g,off+k,none⟩=some (.int .u32 us[k]):=by rw[ag.out,cell?_putRow (bw .u32) w g off us.toArray d Hu.out (by simpa using b4) k (by omega),Lk h1 h2 a0]
   have hfz:wr.frozen? ⟨g,off+k,none⟩=false:=by rw[ag.out,frozen?_putRow];exact(Hu.out k (by simpa using a0)).2
   have a5:∀z,wr.setCell ⟨g,off+k,none⟩ (.int .u32 z)=putRow (bw .u32) w g off (d.setIfInBounds k z):=λz=>by rw[ag.out];exact putRow_set (bw .u32) w g off d k z (by omega)
   have a2:Hid (∀z,wr.setCell ⟨g,off+k,none⟩ (.int .u32 z)=putRow (bw .u32) w g off (d.setIfInBounds k z)):=a5;obtain⟨x,hx⟩:∃x,us[k]=x:=⟨_,rfl⟩;rw[hx]at ap;have Hx:Hid (us[k]=x):=hx;clear a5 h1 h2 b4 hx;by_cases hlv:k<nv
   .have b1:k<vs.length:=by rw[<-b3.out];exact hlv
    have a6:wr.cell? ⟨bv,ov+k,none⟩=some (.int .u32 vs[k]):=by rw[ag.out,cell?_putRow_other _ _ _ _ _ _ (.inl hb)];exact Hv.out k b1
    obtain⟨y,hy⟩:∃y,vs[k]=y:=⟨_,rfl⟩;rw[hy]at a6;have Hy:Hid (vs.drop k=y::vs.drop (k+1)):=by rw[<-hy];exact jB b1
    clear hy
    go_wp2
    all_goals
     go_roundw
     case rel=>
      refine⟨k+1,_,_,_,by omega,by go_num,rfl,rfl,Zr a1.out a0 (t:=ba.wrap (cc+ba.wrap (ba.wrap y*by_))) (by rw[Hy.out];rfl) ?_,a2.out _⟩
      first
       |exact .inl ⟨by rw[Hx.out];assumption,by rw[Hx.out,bc],rfl⟩
       |exact .inr ⟨by rw[Hx.out];omega,by rw[Hx.out,bc],rfl⟩
     case measure=>simp[bs];omega
   .have Hy:Hid (vs.drop k=[]):=by
     have:vs.length<=k:=by rw[<-b3.out];omega
     exact e6 this
    go_wp2
    all_goals
     go_roundw
     case rel=>
      refine⟨k+1,_,_,_,by omega,by go_num,rfl,rfl,Zr a1.out a0 (t:=cc) (by rw[Hy.out];rfl) ?_,a2.out _⟩
      first
       |exact .inl ⟨by rw[Hx.out];assumption,by rw[Hx.out,bc],rfl⟩
       |exact .inr ⟨by rw[Hx.out];omega,by rw[Hx.out,bc],rfl⟩
     case measure=>simp[bs];omega
  .have hkn:us.length<=k:=by rw[<-b2.out];omega
   have b0:kj by_ us vs 0 0=(d.toList,cc,bb):=by obtain⟨done,h1,h2,h3⟩:=a1.out;have:us.drop k=[]:=e6 hkn;rw[this]at h2 h3;rw[h3,h2];simp[kj]
   have al:Hid (kj by_ us vs 0 0=(d.toList,cc,bb)):=b0;clear b0;by_cases hbb:0<bb
   .go_wp2
    go_ret
    rw[al.out];refine⟨?_,?_⟩
    .simp[hbb]
    .rw[ag.out]
   .have hbb':decide (0<bb)=false:=by simpa using hbb
    go_wp2
    go_ret
    rw[al.out];refine⟨?_,?_⟩
    .simp;exact λh=>absurd h (by omega)
    .rw[ag.out]
def G9 (us vs:List Int) (d:Array Int) (k:Nat) (c:Int):Prop:=
 ∃done:List Int,done.length=k/\d.toList=done++us.drop k/\ZN us vs 0=done++ZN (us.drop k) (vs.drop k) c
omit [Env] in
theorem Zs {us vs:List Int} {d:Array Int} {k:Nat} {c:Int} (h:G9 us vs d k c) (hk:k<us.length) {t z c':Int}
 (ht:t=C9 us[k] c (vs.drop k)) (hz:(1000000000<=t/\z=bh.wrap (t-1000000000)/\c'=1)\/(¬1000000000<=t/\z=t/\c'=0)):
 G9 us vs (d.setIfInBounds k z) (k+1) c':=by
 obtain⟨done,h1,h2,h3⟩:=h;refine⟨done++[z],by simp[h1],?_,?_⟩
 .rw[jB hk]at h2;rw[<-h1];have:=Lj (y:=z) h2;rw[h1]at this ⊢;exact this
 .rw[h3,jB hk];have ht2:(vs.drop k).tail=vs.drop (k+1):=by simp
  simp only[ZN];rw[<-ht,ht2];rcases hz with⟨h4,h5,h6⟩|⟨h4,h5,h6⟩
  .have:decide (1000000000<=t)=true:=by simpa using h4
   rw[this];subst h5 h6;simp
  .have:decide (1000000000<=t)=false:=by simpa using h4
   rw[this];subst h5 h6;simp
omit [Env] in
set_option maxHeartbeats 2000000 in
set_option maxRecDepth 100000 in
theorem Iv {w:World} {g off cap bv ov cv:Nat} (us vs:List Int) (hu:Holds (bw .u32) w g off us.toArray) (hb:bv≠g) (hnu:us.length<=1073741824) (hnv2:vs.length<=1073741824)
 (hv:∀j (h:j<vs.length),w.cell? ⟨bv,ov+j,none⟩=some (.int .u32 vs[j])):
 Calls Tryz.prog 389 #[.slice (some ⟨g,off,none⟩) us.length cap,.slice (some ⟨bv,ov,none⟩) vs.length cv] w λe w'=>
  e= .returned (.tuple #[])/\w'=putRow (bw .u32) w g off (ZN us vs 0).toArray:=by
 have Hu:Hid (Holds (bw .u32) w g off us.toArray):=hu;have Hv:Hid (∀j (h:j<vs.length),w.cell? ⟨bv,ov+j,none⟩=some (.int .u32 vs[j])):=hv;have a4:=putRow_self (bw .u32) w g off us.toArray hu;have ag:Hid (putRow (bw .u32) w g off us.toArray=w):=a4;clear hu hv a4;obtain⟨nu,a7⟩:∃nu,nu=us.length:=⟨_,rfl⟩;obtain⟨nv,ad⟩:∃nv,nv=vs.length:=⟨_,rfl⟩;rw[<-a7,<-ad];have b2:Hid (nu=us.length):=a7;have b3:Hid (nv=vs.length):=ad;have hnu':nu<=1073741824:=by omega
 have hnv':nv<=1073741824:=by omega
 clear a7 ad hnu hnv2
 go_enter Tryz.func389,Tryz.ntmps389
 go_wp2
 go_loopw [4,9] (λc i wr=>∃(k:Nat) (cc:Int) (d:Array Int),k<=nu/\i= .int .i64 k/\c= .int .u32 cc/\G9 us vs d k cc/\wr=putRow (bw .u32) w g off d) (λ_ i _=>nu-(bs i).toNat)
 case atStart=>exact⟨0,0,us.toArray,k8 _,rfl,rfl,⟨[],rfl,by simp,by simp⟩,ag.out.symm⟩
 case round=>
  obtain⟨k,cc,d,hk,rfl,rfl,a3,b5⟩:=hrel;have a1:Hid (G9 us vs d k cc):=a3;have al:Hid (wr=putRow (bw .u32) w g off d):=b5;clear a3 b5;by_cases hlt:k<nu
  .have a0:k<us.length:=by rw[<-b2.out];exact hlt
   obtain⟨done,h1,h2,_⟩:=a1.out;have b4:=G8 h1 h2 (k7 a0);have an:wr.cell? ⟨g,off+k,none⟩=some (.int .u32 us[k]):=by rw[al.out,cell?_putRow (bw .u32) w g off us.toArray d Hu.out (by simpa using b4) k (by omega),Lk h1 h2 a0]
   have hfz:wr.frozen? ⟨g,off+k,none⟩=false:=by rw[al.out,frozen?_putRow];exact(Hu.out k (by simpa using a0)).2
   have a5:∀z,wr.setCell ⟨g,off+k,none⟩ (.int .u32 z)=putRow (bw .u32) w g off (d.setIfInBounds k z):=λz=>by rw[al.out];exact putRow_set (bw .u32) w g off d k z (by omega)
   have a2:Hid (∀z,wr.setCell ⟨g,off+k,none⟩ (.int .u32 z)=putRow (bw .u32) w g off (d.setIfInBounds k z)):=a5;obtain⟨x,hx⟩:∃x,us[k]=x:=⟨_,rfl⟩;rw[hx]at an;have Hx:Hid (us[k]=x):=hx;clear a5 h1 h2 b4 hx;by_cases hlv:k<nv
   .have b0:k<vs.length:=by rw[<-b3.out];exact hlv
    have a6:wr.cell? ⟨bv,ov+k,none⟩=some (.int .u32 vs[k]):=by rw[al.out,cell?_putRow_other _ _ _ _ _ _ (.inl hb)];exact Hv.out k b0
    obtain⟨y,hy⟩:∃y,vs[k]=y:=⟨_,rfl⟩;rw[hy]at a6;have Hy:Hid (vs.drop k=y::vs.drop (k+1)):=by rw[<-hy];exact jB b0
    clear hy
    go_wp2
    all_goals
     go_roundw
     case rel=>
      refine⟨k+1,_,_,by omega,by go_num,rfl,Zs a1.out a0 (t:=(x+cc+y)%4294967296) (by rw[Hy.out,Hx.out];simp only[C9,bc];omega) ?_,a2.out _⟩;simp only[bc]
      first
       |exact .inl ⟨by omega,by omega,trivial⟩
       |exact .inr ⟨by omega,trivial,trivial⟩
     case measure=>simp[bs];omega
   .have Hy:Hid (vs.drop k=[]):=by
     have:vs.length<=k:=by rw[<-b3.out];omega
     exact e6 this
    go_wp2
    all_goals
     go_roundw
     case rel=>
      refine⟨k+1,_,_,by omega,by go_num,rfl,Zs a1.out a0 (t:=(x+cc)%4294967296) (by rw[Hy.out,Hx.out];simp only[C9,bc]) ?_,a2.out _⟩;simp only[bc]
      first
       |exact .inl ⟨by omega,by omega,trivial⟩
       |exact .inr ⟨by omega,trivial,trivial⟩
     case measure=>simp[bs];omega
  .have hkn:us.length<=k:=by rw[<-b2.out];omega
   have ap:ZN us vs 0=d.toList:=by obtain⟨done,h1,h2,h3⟩:=a1.out;have:us.drop k=[]:=e6 hkn;rw[this]at h2 h3;rw[h3,h2];simp[ZN]
   have b1:Hid (ZN us vs 0=d.toList):=ap;clear ap
   go_wp2
   go_end0
   rw[b1.out];exact⟨rfl,by rw[al.out]⟩
omit [Env] in
theorem ew:SubK Tryz.prog 388 389 where
 there f hf:=by
  rcases hf with rfl|rfl
  .exact⟨_,Tryz.func388,by simp[Tryz.f388],by decide⟩
  .exact⟨_,Tryz.func389,by simp[Tryz.f389],by decide⟩
 sub us vs n h1 h2 h3 h4 h5:=Iu us vs n h1 h2 h3 h4 h5
 res us vs h1 h2 h3 h4 h5:=Iv us vs h1 h2 h3 h4 h5
end Eng
end
section
namespace Eng
open Go Go.Proofs Go.RowKit
variable [Env]
def Bf:A->Option Value
 | .c (.int k n)=>some (.int k n)
 | .c (.bool b)=>some (.bool b)
 | .c (.str s)=>some (.string ⟨⟨s⟩⟩)
 |_=>none
theorem Ll {w:World} {F:Nat->Prop} {a:A} {v u:Value} (h:Bf a=some v) (hc:CA w F a u):u=v:=by
 unfold Bf at h;split at h<;>simp only[lg,reduceCtorEq]at h<;>subst h<;>cases(hc:CD _ _ _ _)<;>rfl
noncomputable def C0:Cx:=⟨Tryz.prog,λ_=>none,λ_=>false,λ_=>none,λ_ _=>false,λ_=>false⟩
def noT:Nat->List A->Option (List A):=λ_ _=>none
omit [Env] in
theorem mixedT:Tryz.prog.follows .mixedOrders=true:=by kernel_rfl
instance:EffOk C0:=qV λf e h=>by simp[C0]at h
end Eng
end
section
namespace Eng
abbrev bB (b:Bool) (X Y:Prop):Prop:=br (toB (.bool b)) X Y
abbrev aR (x:R4):A:= .ag (rk x [])
abbrev aT (x y z:R4):A:= .ag (rk x (rk y (rk z [])))
abbrev aV (x y:R4):A:= .ag (rk x (rk y []))
abbrev aP (x:P20):A:= .ag (pk x [])
abbrev aC (x:C66):A:= .ag (ck x [])
abbrev aI (n:Int):A:= .c (.int .i64 n)
abbrev aB (b:Bool):A:= .c (.bool b)
abbrev aL (l:List (List D)):A:= .c (.sl l)
abbrev aZ (b:Bool) (l:List (List D)):A:= .ag [.bool b,.sl l]
abbrev dI (n:Int):D:= .int .i64 n
abbrev rO (l:List (List D)) (i:Int) (n:Nat):Prop:=0<=i/\i<b7 l.length/\(nth [] l i.toNat).length=n
abbrev cU (l:List (List D)) (i:Int) (a n:Nat) (r:List D):Prop:=cut (nth [] l i.toNat) a n r
open Go in
abbrev zC:List Value:=let r (t:List Value):List Value:= .bool false:: .slice none 0 0:: .bool false:: .slice none 0 0::t;let p (t:List Value):=r (r (r (r (r t))));.bool false::r (r (r (r (r (r (.bool false::p (p [])))))))
end Eng
end
section
open Go Go.Proofs Eng
namespace Eng
section
variable (Gv:Nat->List A->List A->Prop) (I0:List D->List D->Prop) (M0:List D->Nat) (I1:List D->List D->Prop) (M1:List D->Nat) (I2:List D->List D->Prop) (M2:List D->Nat) (I3:List D->List D->Prop) (M3:List D->Nat) (Q:List A->Prop)
theorem CW (es:List (List D)):wpF C0 Gv (λ_=>⟨[.slot 0 (.slice none 0 0)],[],I0,M0⟩) Tryz.f274 [.c (.sl es)] Q=(I0 [] [Sz es]/\∀(es:List (List D)),I0 [] [Sz es]->bB (decide ((b7 es.length)>0)) ((0<=W2 .i64 ((b7 es.length)-1)/\W2 .i64 ((b7 es.length)-1)<(b7 es.length)/\c6 (nth [] es (b8 (W2 .i64 ((b7 es.length)-1))))=1)/\∃n,cut (nth [] es (b8 (W2 .i64 ((b7 es.length)-1)))) 0 1 [P1 .u32 n]/\bB (n==0) (((0:Int)<=(0:Int)/\0<=W2 .i64 ((b7 es.length)-1)/\W2 .i64 ((b7 es.length)-1)<=(b7 es.length)/\lens 1 es)/\I0 [] [Sz (eH 0 (e7 (b8 (W2 .i64 ((b7 es.length)-1))) es))]/\M0 [Sz (eH 0 (e7 (b8 (W2 .i64 ((b7 es.length)-1))) es))]<M0 [Sz es]) (Q [aL es])) (Q [aL es])):=by kernel_rfl
theorem Uq (es fs:List (List D)):wpF C0 Gv (λ_=>⟨[.slot 5 (.int .i64 0)],[],I0,M0⟩) Tryz.f192 [.c (.sl es),.c (.sl fs)] Q=(∃e1,Gv 274 [aL es] [aL e1]/\∃es,Gv 274 [aL fs] [aL es]/\bB ((b7 e1.length) !=(b7 es.length)) (bB (decide ((b7 e1.length)<(b7 es.length))) (Q [aI (-1:Int)]) (Q [aI (1:Int)])) (I0 [] [dI (W2 .i64 ((b7 e1.length)-1))]/\∀(n:Int),I0 [] [dI n]->bB (decide (n>=0)) ((0<=n/\n<(b7 e1.length)/\c6 (nth [] e1 (b8 n))=1)/\∃n1,cut (nth [] e1 (b8 n)) 0 1 [P1 .u32 n1]/\(0<=n/\n<(b7 es.length)/\c6 (nth [] es (b8 n))=1)/\∃n2,cut (nth [] es (b8 n)) 0 1 [P1 .u32 n2]/\bB (decide (n1<n2)) (Q [aI (-1:Int)]) ((0<=n/\n<(b7 e1.length)/\c6 (nth [] e1 (b8 n))=1)/\∃n3,cut (nth [] e1 (b8 n)) 0 1 [P1 .u32 n3]/\(0<=n/\n<(b7 es.length)/\c6 (nth [] es (b8 n))=1)/\∃n4,cut (nth [] es (b8 n)) 0 1 [P1 .u32 n4]/\bB (decide (n3>n4)) (Q [aI (1:Int)]) (I0 [] [dI (W2 .i64 (n-1))]/\M0 [dI (W2 .i64 (n-1))]<M0 [dI n]))) (Q [aI (0:Int)]))):=by kernel_rfl
theorem Ln (b:Bool) (es:List (List D)):wpF C0 Gv (λ_=>⟨[.slot 5 (.int .i64 0)],[],I0,M0⟩) Tryz.f193 [.c (.bool b),.c (.sl es)] Q=(I0 [] [dI (b7 es.length)]/\∀(n:Int),I0 [] [dI n]->bB (decide (n>0)) ((0<=W2 .i64 (n-1)/\W2 .i64 (n-1)<(b7 es.length)/\c6 (nth [] es (b8 (W2 .i64 (n-1))))=1)/\∃n1,cut (nth [] es (b8 (W2 .i64 (n-1)))) 0 1 [P1 .u32 n1]/\bB (n1==0) (I0 [] [dI (W2 .i64 (n-1))]/\M0 [dI (W2 .i64 (n-1))]<M0 [dI n]) (br b (((0:Int)<=(0:Int)/\0<=n/\n<=n/\n<=(b7 es.length)/\lens 1 es)/\Q [aZ (decide (n>0)) (eH 0 (e7 (b8 n) es))]) (((0:Int)<=(0:Int)/\0<=n/\n<=n/\n<=(b7 es.length)/\lens 1 es)/\Q [aZ false (eH 0 (e7 (b8 n) es))]))) (br b (((0:Int)<=(0:Int)/\0<=n/\n<=n/\n<=(b7 es.length)/\lens 1 es)/\Q [aZ (decide (n>0)) (eH 0 (e7 (b8 n) es))]) (((0:Int)<=(0:Int)/\0<=n/\n<=n/\n<=(b7 es.length)/\lens 1 es)/\Q [aZ false (eH 0 (e7 (b8 n) es))]))):=by kernel_rfl
theorem P2 (n:Int):wpF C0 Gv an0 Tryz.f263 [.c (.int .u64 n)] Q=((1000000000:Int)≠(0:Int)/\(1000000000:Int)≠(0:Int)/\(1000000000:Int)≠(0:Int)/\(1000000000:Int)≠(0:Int)/\(1000000000:Int)≠(0:Int)/\Q [aL [[P1 .u32 (W2 .u32 (cm n (1000000000:Int)))],[P1 .u32 (W2 .u32 (cm (W2 .u64 (c0 n (1000000000:Int))) (1000000000:Int)))],[P1 .u32 (W2 .u32 (W2 .u64 (c0 (W2 .u64 (c0 n (1000000000:Int))) (1000000000:Int))))]]]):=by kernel_rfl
theorem Vc (n:Int):wpF C0 Gv an0 Tryz.f179 [.c (.int .i64 n)] Q=(bB (decide (n<0)) (∃es,Gv 263 [Lv (P1 .u64 (W2 .u64 (0-W2 .u64 n)))] [aL es]/\∃b e1,Gv 193 [aB (decide (n<0)),aL es] [aZ b e1]/\Q [aZ b e1]) (∃es,Gv 263 [Lv (P1 .u64 (W2 .u64 n))] [aL es]/\∃b e1,Gv 193 [aB (decide (n<0)),aL es] [aZ b e1]/\Q [aZ b e1])):=by kernel_rfl
theorem CY (p:Bool) (es:List (List D)):wpF C0 Gv an0 Tryz.f329 [.ag [.bool p,.sl es]] Q=(bB ((b7 es.length)==0) (Q [Lv (P1 .u64 0),aB true]) (bB ((b7 es.length)==1) (((0:Int)<=(0:Int)/\0<(b7 es.length)/\c6 (nth [] es 0)=1)/\∃n,cut (nth [] es 0) 0 1 [P1 .u32 n]/\Q [Lv (P1 .u64 (W2 .u64 n)),aB true]) (bB ((b7 es.length)==2) (((0:Int)<=(1:Int)/\1<(b7 es.length)/\c6 (nth [] es 1)=1)/\∃n,cut (nth [] es 1) 0 1 [P1 .u32 n]/\((0:Int)<=(0:Int)/\0<(b7 es.length)/\c6 (nth [] es 0)=1)/\∃n1,cut (nth [] es 0) 0 1 [P1 .u32 n1]/\Q [Lv (P1 .u64 (W2 .u64 (W2 .u64 (W2 .u64 n*1000000000)+W2 .u64 n1))),aB true]) (Q [Lv (P1 .u64 0),aB false])))):=by kernel_rfl
theorem CZ (p:Bool) (es:List (List D)):wpF C0 Gv an0 Tryz.f191 [.ag [.bool p,.sl es]] Q=(br p (Q [aI (-1:Int)]) (bB (decide ((b7 es.length)>0)) (Q [aI (1:Int)]) (Q [aI (0:Int)]))):=by kernel_rfl
theorem Iw (p q:Bool) (es fs:List (List D)):wpF C0 Gv an0 Tryz.f104 [.ag [.bool p,.sl es],.ag [.bool q,.sl fs]] Q=(bB (!p==q) (br p (Q [aI (-1:Int)]) (Q [aI (1:Int)])) (br p (∃n,Gv 192 [aL fs,aL es] [aI n]/\Q [aI n]) (∃n,Gv 192 [aL es,aL fs] [aI n]/\Q [aI n]))):=by kernel_rfl
theorem Lo (es fs:List (List D)):wpF C0 Gv (λ_=>⟨[.own 5 53 1,.slot 6 (.int .u32 0),.slot 22 (.int .i64 0)],[],I0,M0⟩) Tryz.f272 [.c (.sl es),.c (.sl fs)] Q=(bB (decide ((b7 es.length)<(b7 fs.length))) (((0:Int)<=(0:Int)/\0<=W2 .i64 ((b7 fs.length)+1)/\room (b8 (W2 .i64 ((b7 fs.length)+1))))/\I0 [] [Sz [],P1 .u32 0,dI (0:Int)]/\∀(e1:List (List D)) (n n1:Int),I0 [] [Sz e1,P1 .u32 n,dI n1]->bB (decide (n1<(b7 fs.length))) ((0<=n1/\n1<(b7 fs.length)/\c6 (nth [] fs (b8 n1))=1)/\∃n2,cut (nth [] fs (b8 n1)) 0 1 [P1 .u32 n2]/\bB (decide (n1<(b7 es.length))) ((0<=n1/\n1<(b7 es.length)/\c6 (nth [] es (b8 n1))=1)/\∃n3,cut (nth [] es (b8 n1)) 0 1 [P1 .u32 n3]/\bB (decide (W2 .u32 (W2 .u32 (n2+n)+n3)>=1000000000)) ((room (e1.length+1)/\lens 1 [[P1 .u32 (W2 .u32 (W2 .u32 (W2 .u32 (n2+n)+n3)-1000000000))]])/\I0 [] [Sz (e1++[[P1 .u32 (W2 .u32 (W2 .u32 (W2 .u32 (n2+n)+n3)-1000000000))]]),P1 .u32 1,dI (W2 .i64 (n1+1))]/\M0 [Sz (e1++[[P1 .u32 (W2 .u32 (W2 .u32 (W2 .u32 (n2+n)+n3)-1000000000))]]),P1 .u32 1,dI (W2 .i64 (n1+1))]<M0 [Sz e1,P1 .u32 n,dI n1]) ((room (e1.length+1)/\lens 1 [[P1 .u32 (W2 .u32 (W2 .u32 (n2+n)+n3))]])/\I0 [] [Sz (e1++[[P1 .u32 (W2 .u32 (W2 .u32 (n2+n)+n3))]]),P1 .u32 0,dI (W2 .i64 (n1+1))]/\M0 [Sz (e1++[[P1 .u32 (W2 .u32 (W2 .u32 (n2+n)+n3))]]),P1 .u32 0,dI (W2 .i64 (n1+1))]<M0 [Sz e1,P1 .u32 n,dI n1])) (bB (decide (W2 .u32 (n2+n)>=1000000000)) ((room (e1.length+1)/\lens 1 [[P1 .u32 (W2 .u32 (W2 .u32 (n2+n)-1000000000))]])/\I0 [] [Sz (e1++[[P1 .u32 (W2 .u32 (W2 .u32 (n2+n)-1000000000))]]),P1 .u32 1,dI (W2 .i64 (n1+1))]/\M0 [Sz (e1++[[P1 .u32 (W2 .u32 (W2 .u32 (n2+n)-1000000000))]]),P1 .u32 1,dI (W2 .i64 (n1+1))]<M0 [Sz e1,P1 .u32 n,dI n1]) ((room (e1.length+1)/\lens 1 [[P1 .u32 (W2 .u32 (n2+n))]])/\I0 [] [Sz (e1++[[P1 .u32 (W2 .u32 (n2+n))]]),P1 .u32 0,dI (W2 .i64 (n1+1))]/\M0 [Sz (e1++[[P1 .u32 (W2 .u32 (n2+n))]]),P1 .u32 0,dI (W2 .i64 (n1+1))]<M0 [Sz e1,P1 .u32 n,dI n1]))) ((room (e1.length+1)/\lens 1 [[P1 .u32 n]])/\Q [aL (e1++[[P1 .u32 n]])])) (((0:Int)<=(0:Int)/\0<=W2 .i64 ((b7 es.length)+1)/\room (b8 (W2 .i64 ((b7 es.length)+1))))/\I0 [] [Sz [],P1 .u32 0,dI (0:Int)]/\∀(e1:List (List D)) (n n1:Int),I0 [] [Sz e1,P1 .u32 n,dI n1]->bB (decide (n1<(b7 es.length))) ((0<=n1/\n1<(b7 es.length)/\c6 (nth [] es (b8 n1))=1)/\∃n2,cut (nth [] es (b8 n1)) 0 1 [P1 .u32 n2]/\bB (decide (n1<(b7 fs.length))) ((0<=n1/\n1<(b7 fs.length)/\c6 (nth [] fs (b8 n1))=1)/\∃n3,cut (nth [] fs (b8 n1)) 0 1 [P1 .u32 n3]/\bB (decide (W2 .u32 (W2 .u32 (n2+n)+n3)>=1000000000)) ((room (e1.length+1)/\lens 1 [[P1 .u32 (W2 .u32 (W2 .u32 (W2 .u32 (n2+n)+n3)-1000000000))]])/\I0 [] [Sz (e1++[[P1 .u32 (W2 .u32 (W2 .u32 (W2 .u32 (n2+n)+n3)-1000000000))]]),P1 .u32 1,dI (W2 .i64 (n1+1))]/\M0 [Sz (e1++[[P1 .u32 (W2 .u32 (W2 .u32 (W2 .u32 (n2+n)+n3)-1000000000))]]),P1 .u32 1,dI (W2 .i64 (n1+1))]<M0 [Sz e1,P1 .u32 n,dI n1]) ((room (e1.length+1)/\lens 1 [[P1 .u32 (W2 .u32 (W2 .u32 (n2+n)+n3))]])/\I0 [] [Sz (e1++[[P1 .u32 (W2 .u32 (W2 .u32 (n2+n)+n3))]]),P1 .u32 0,dI (W2 .i64 (n1+1))]/\M0 [Sz (e1++[[P1 .u32 (W2 .u32 (W2 .u32 (n2+n)+n3))]]),P1 .u32 0,dI (W2 .i64 (n1+1))]<M0 [Sz e1,P1 .u32 n,dI n1])) (bB (decide (W2 .u32 (n2+n)>=1000000000)) ((room (e1.length+1)/\lens 1 [[P1 .u32 (W2 .u32 (W2 .u32 (n2+n)-1000000000))]])/\I0 [] [Sz (e1++[[P1 .u32 (W2 .u32 (W2 .u32 (n2+n)-1000000000))]]),P1 .u32 1,dI (W2 .i64 (n1+1))]/\M0 [Sz (e1++[[P1 .u32 (W2 .u32 (W2 .u32 (n2+n)-1000000000))]]),P1 .u32 1,dI (W2 .i64 (n1+1))]<M0 [Sz e1,P1 .u32 n,dI n1]) ((room (e1.length+1)/\lens 1 [[P1 .u32 (W2 .u32 (n2+n))]])/\I0 [] [Sz (e1++[[P1 .u32 (W2 .u32 (n2+n))]]),P1 .u32 0,dI (W2 .i64 (n1+1))]/\M0 [Sz (e1++[[P1 .u32 (W2 .u32 (n2+n))]]),P1 .u32 0,dI (W2 .i64 (n1+1))]<M0 [Sz e1,P1 .u32 n,dI n1]))) ((room (e1.length+1)/\lens 1 [[P1 .u32 n]])/\Q [aL (e1++[[P1 .u32 n]])]))):=by kernel_rfl
theorem P3 (es fs:List (List D)):wpF C0 Gv (λ_=>⟨[.own 5 45 1,.slot 6 (.int .u32 0),.slot 15 (.int .i64 0)],[],I0,M0⟩) Tryz.f273 [.c (.sl es),.c (.sl fs)] Q=((0<=(b7 es.length)/\(b7 es.length)<=(b7 es.length)/\room (b8 (b7 es.length)))/\I0 [] [Sz (cF (b8 (b7 es.length)) [P1 .u32 0]),P1 .u32 0,dI (0:Int)]/\∀(e1:List (List D)) (n n1:Int),I0 [] [Sz e1,P1 .u32 n,dI n1]->bB (decide (n1<(b7 es.length))) ((0<=n1/\n1<(b7 es.length)/\c6 (nth [] es (b8 n1))=1)/\∃n2,cut (nth [] es (b8 n1)) 0 1 [P1 .u32 n2]/\bB (decide (n1<(b7 fs.length))) ((0<=n1/\n1<(b7 fs.length)/\c6 (nth [] fs (b8 n1))=1)/\∃n3,cut (nth [] fs (b8 n1)) 0 1 [P1 .u32 n3]/\bB (decide (n2<W2 .u32 (n+n3))) ((0<=n1/\n1<(b7 e1.length))/\0<1/\I0 [] [Sz (upd e1 (b8 n1) (upd (nth [] e1 (b8 n1)) 0 (P1 .u32 (W2 .u32 (W2 .u32 (n2+1000000000)-W2 .u32 (n+n3)))))),P1 .u32 1,dI (W2 .i64 (n1+1))]/\M0 [Sz (upd e1 (b8 n1) (upd (nth [] e1 (b8 n1)) 0 (P1 .u32 (W2 .u32 (W2 .u32 (n2+1000000000)-W2 .u32 (n+n3)))))),P1 .u32 1,dI (W2 .i64 (n1+1))]<M0 [Sz e1,P1 .u32 n,dI n1]) ((0<=n1/\n1<(b7 e1.length))/\0<1/\I0 [] [Sz (upd e1 (b8 n1) (upd (nth [] e1 (b8 n1)) 0 (P1 .u32 (W2 .u32 (n2-W2 .u32 (n+n3)))))),P1 .u32 0,dI (W2 .i64 (n1+1))]/\M0 [Sz (upd e1 (b8 n1) (upd (nth [] e1 (b8 n1)) 0 (P1 .u32 (W2 .u32 (n2-W2 .u32 (n+n3)))))),P1 .u32 0,dI (W2 .i64 (n1+1))]<M0 [Sz e1,P1 .u32 n,dI n1])) (bB (decide (n2<n)) ((0<=n1/\n1<(b7 e1.length))/\0<1/\I0 [] [Sz (upd e1 (b8 n1) (upd (nth [] e1 (b8 n1)) 0 (P1 .u32 (W2 .u32 (W2 .u32 (n2+1000000000)-n))))),P1 .u32 1,dI (W2 .i64 (n1+1))]/\M0 [Sz (upd e1 (b8 n1) (upd (nth [] e1 (b8 n1)) 0 (P1 .u32 (W2 .u32 (W2 .u32 (n2+1000000000)-n))))),P1 .u32 1,dI (W2 .i64 (n1+1))]<M0 [Sz e1,P1 .u32 n,dI n1]) ((0<=n1/\n1<(b7 e1.length))/\0<1/\I0 [] [Sz (upd e1 (b8 n1) (upd (nth [] e1 (b8 n1)) 0 (P1 .u32 (W2 .u32 (n2-n))))),P1 .u32 0,dI (W2 .i64 (n1+1))]/\M0 [Sz (upd e1 (b8 n1) (upd (nth [] e1 (b8 n1)) 0 (P1 .u32 (W2 .u32 (n2-n))))),P1 .u32 0,dI (W2 .i64 (n1+1))]<M0 [Sz e1,P1 .u32 n,dI n1]))) (Q [aL e1])):=by kernel_rfl
theorem Ix (p q:Bool) (es fs:List (List D)):wpF C0 Gv an0 Tryz.f188 [.ag [.bool p,.sl es],.ag [.bool q,.sl fs]] Q=(bB (p==q) (∃e1,Gv 272 [aL es,aL fs] [aL e1]/\∃b es,Gv 193 [aB p,aL e1] [aZ b es]/\Q [aZ b es]) (∃n,Gv 192 [aL es,aL fs] [aI n]/\bB (decide (n<0)) (∃e1,Gv 273 [aL fs,aL es] [aL e1]/\∃b es,Gv 193 [aB q,aL e1] [aZ b es]/\Q [aZ b es]) (∃e1,Gv 273 [aL es,aL fs] [aL e1]/\∃b es,Gv 193 [aB p,aL e1] [aZ b es]/\Q [aZ b es]))):=by kernel_rfl
theorem Iy (p q:Bool) (es fs:List (List D)):wpF C0 Gv an0 Tryz.f364 [.ag [.bool p,.sl es],.ag [.bool q,.sl fs]] Q=(bB (!q) (∃b e1,Gv 188 [aZ p es,aZ (decide ((b7 fs.length)>0)) fs] [aZ b e1]/\Q [aZ b e1]) (∃b e1,Gv 188 [aZ p es,aZ false fs] [aZ b e1]/\Q [aZ b e1])):=by kernel_rfl
theorem Iz (p:Bool) (es:List (List D)):wpF C0 Gv an0 Tryz.f189 [.ag [.bool p,.sl es]] Q=((room es.length/\lens 1 es)/\∃b e1,Gv 193 [aB (!p),aL es] [aZ b e1]/\Q [aZ b e1]):=by kernel_rfl
theorem I4 (p q:Bool) (es fs:List (List D)):wpF C0 Gv an0 Tryz.f105 [.ag [.bool p,.sl es],.ag [.bool q,.sl fs]] Q=(∃e1,Gv 194 [aL es,aL fs] [aL e1]/\∃b es,Gv 193 [Lv (Tk !p==q),aL e1] [aZ b es]/\Q [aZ b es]):=by kernel_rfl
theorem Lp (es:List (List D)) (n:Int):wpF C0 Gv (λ_=>⟨[.own 6 44 1,.slot 7 (.int .u64 0),.slot 8 (.int .i64 0)],[],I0,M0⟩) Tryz.f387 [.c (.sl es),.c (.int .u32 n)] Q=((0<=(b7 es.length)/\(b7 es.length)<=(b7 es.length)/\room (b8 (b7 es.length)))/\I0 [] [Sz (cF (b8 (b7 es.length)) [P1 .u32 0]),P1 .u64 0,dI (W2 .i64 ((b7 es.length)-1))]/\∀(e1:List (List D)) (n1 n2:Int),I0 [] [Sz e1,P1 .u64 n1,dI n2]->bB (decide (n2>=0)) ((0<=n2/\n2<(b7 es.length)/\c6 (nth [] es (b8 n2))=1)/\∃n3,cut (nth [] es (b8 n2)) 0 1 [P1 .u32 n3]/\W2 .u64 n≠0/\W2 .u64 n≠0/\(0<=n2/\n2<(b7 e1.length))/\0<1/\I0 [] [Sz (upd e1 (b8 n2) (upd (nth [] e1 (b8 n2)) 0 (P1 .u32 (W2 .u32 (W2 .u64 (c0 (W2 .u64 (W2 .u64 (n1*1000000000)+W2 .u64 n3)) (W2 .u64 n))))))),P1 .u64 (cm (W2 .u64 (W2 .u64 (n1*1000000000)+W2 .u64 n3)) (W2 .u64 n)),dI (W2 .i64 (n2-1))]/\M0 [Sz (upd e1 (b8 n2) (upd (nth [] e1 (b8 n2)) 0 (P1 .u32 (W2 .u32 (W2 .u64 (c0 (W2 .u64 (W2 .u64 (n1*1000000000)+W2 .u64 n3)) (W2 .u64 n))))))),P1 .u64 (cm (W2 .u64 (W2 .u64 (n1*1000000000)+W2 .u64 n3)) (W2 .u64 n)),dI (W2 .i64 (n2-1))]<M0 [Sz e1,P1 .u64 n1,dI n2]) (Q [aL e1,aL [[P1 .u32 (W2 .u32 n1)]]])):=by kernel_rfl
end
end Eng
end
section
namespace Eng
open Go
def raw (l:List Nat):List (List D):=l.map λ(x:Nat)=>[.int .u32 (x:Int)]
def Limbs (l:List Nat):Prop:=∀x∈l,x<1000000000
def val:List Nat->Nat
 |[]=>0
 |x::r=>x+1000000000*val r
def pad:Nat->Nat->List Nat
 |0,_=>[]
 |k+1,n=>n%1000000000::pad k (n/1000000000)
def O3:Nat->Nat->List Nat
 |0,_=>[]
 |f+1,n=>match n with
  |0=>[]
  |m+1=>(m+1)%1000000000::O3 f ((m+1)/1000000000)
def lim (n:Nat):List Nat:=O3 n n
theorem Limbs.nil:Limbs []:=λ_ h=>by simp at h
theorem Limbs.cons {x:Nat} {l:List Nat} (hx:x<1000000000) (h:Limbs l):Limbs (x::l):=λy hy=>by
 rcases List.mem_cons.1 hy with rfl|hy
 .exact hx
 .exact h y hy
theorem Limbs.of_cons {x:Nat} {l:List Nat} (h:Limbs (x::l)):x<1000000000/\Limbs l:=⟨h x (by simp),λy hy=>h y (by simp[hy])⟩
theorem Limbs.append {a b:List Nat} (ha:Limbs a) (hb:Limbs b):Limbs (a++b):=λy hy=>by
 rcases fR.1 hy with hy|hy
 .exact ha y hy
 .exact hb y hy
theorem Limbs.take {l:List Nat} (h:Limbs l) (k:Nat):Limbs (l.take k):=λy hy=>h y (List.mem_of_mem_take hy)
theorem Limbs.drop {l:List Nat} (h:Limbs l) (k:Nat):Limbs (l.drop k):=λy hy=>h y (List.mem_of_mem_drop hy)
theorem Limbs.get {l:List Nat} (h:Limbs l) {i:Nat} (hi:i<l.length):l[i]<1000000000:=h _ (gy hi)
theorem qU (a b:List Nat):val (a++b)=val a+1000000000^a.length*val b:=by
 induction a with
 |nil=>simp[val]
 |cons x a ih=>simp only[fx,val,ih,fe,ib];rw[hC,Nat.add_assoc,<-hD,hM (1000000000^a.length) 1000000000]
theorem qX {l:List Nat} (h:Limbs l):val l<1000000000^l.length:=by
 induction l with
 |nil=>simp[val]
 |cons x l ih=>obtain⟨h1,h2⟩:=h.of_cons;have:=ih h2;simp only[val,fe,ib];omega
theorem xw:∀(k n:Nat),(pad k n).length=k
 |0,_=>rfl
 |k+1,n=>by simp[pad,xw k]
theorem xU:∀(k n:Nat),Limbs (pad k n)
 |0,_=>Limbs.nil
 |k+1,n=>Limbs.cons (hQ _ (by omega)) (xU k _)
theorem jN:∀(k n:Nat),val (pad k n)=n%1000000000^k
 |0,n=>by simp[pad,val,Nat.mod_one]
 |k+1,n=>by simp only[pad,val,jN k];rw[Nat.pow_succ',Nat.mod_mul]
theorem kX {l:List Nat} (h:Limbs l):pad l.length (val l)=l:=by
 induction l with
 |nil=>rfl
 |cons x l ih=>
  obtain⟨h1,h2⟩:=h.of_cons;simp only[fe,pad,val];have e1:(x+1000000000*val l)%1000000000=x:=by omega
  have e2:(x+1000000000*val l)/1000000000=val l:=by omega
  rw[e1,e2,ih h2]
theorem Lt {a b:List Nat} (ha:Limbs a) (hb:Limbs b) (hl:a.length=b.length) (hv:val a=val b):a=b:=by
 rw[<-kX ha,<-kX hb,hl,hv]
theorem J5:∀(f n:Nat),Limbs (O3 f n)
 |0,_=>Limbs.nil
 |f+1,0=>Limbs.nil
 |f+1,m+1=>Limbs.cons (hQ _ (by omega)) (J5 f _)
theorem Xm:∀(f n:Nat),n<=f->val (O3 f n)=n
 |0,n,h=>by simp[O3,val];omega
 |f+1,0,_=>rfl
 |f+1,m+1,h=>by simp only[O3,val];rw[Xm f _ (by omega)];omega
theorem qc (n:Nat):Limbs (lim n):=J5 n n
theorem qh (n:Nat):val (lim n)=n:=Xm n n (hX n)
theorem Vd:∀(f n:Nat),n<=f->O3 f n=[]\/(O3 f n).getLast?≠some 0
 |0,_,_=> .inl rfl
 |f+1,0,_=> .inl rfl
 |f+1,m+1,h=>by
  refine .inr ?_;simp only[O3];rcases Vd f ((m+1)/1000000000) (by omega)with h1|h1
  .have:=Xm f ((m+1)/1000000000) (by omega);rw[h1]at this ⊢;simp only[val]at this;simp only[List.getLast?_singleton,ne_eq,lg];omega
  .rw[List.getLast?_cons];cases hh:(O3 f ((m+1)/1000000000)).getLast? with
   |none=>rw[List.getLast?_eq_none_iff]at hh;rw[hh]at h1;have:=Xm f ((m+1)/1000000000) (by omega);rw[hh]at this;simp only[val]at this;simp only[Option.getD_none,ne_eq,lg];omega
   |some x=>
    rw[hh]at h1
    simpa using h1
theorem jo (n:Nat):lim n=[]\/(lim n).getLast?≠some 0:=Vd n n (hX n)
theorem QW {a b:List Nat} (ha:Limbs a) (hb:b.getLast?≠some 0) (hbn:b≠[]) (h:a.length<b.length):val a<val b:=by
 have h1:=qX ha;have h2:1000000000^(b.length-1)<=val b:=by
  have hd:=List.dropLast_concat_getLast hbn;have hz:b.getLast hbn≠0:=by intro e;apply hb;rw[List.getLast?_eq_some_getLast hbn,e]
  rw[<-hd,qU];simp only[gu,List.length_dropLast,gm,val];have h0:0<b.getLast hbn:=Nat.pos_of_ne_zero hz;have e1:b.length-1+1-1=b.length-1:=by omega
  rw[e1];have:1000000000^(b.length-1)*1<=1000000000^(b.length-1)*(b.getLast hbn+1000000000*0):=ia _ (by omega);omega
 have h3:1000000000^a.length<=1000000000^(b.length-1):=hK (by omega) (by omega);omega
theorem v5 {l:List Nat} (hl:Limbs l) (hz:l=[]\/l.getLast?≠some 0):lim (val l)=l:=by
 have h1:=qc (val l);have h2:=qh (val l);have h3:=jo (val l);have a1:(lim (val l)).length=l.length:=by
  rcases Nat.lt_trichotomy (lim (val l)).length l.length with h|h|h
  .exfalso;have a0:l≠[]:=by intro e;subst e;simp at h
   have:=QW h1 (hz.resolve_left a0) a0 h;omega
  .exact h
  .exfalso;have a0:lim (val l)≠[]:=by intro e;rw[e]at h;simp at h
   have:=QW hl (h3.resolve_left a0) a0 h;omega
 exact Lt h1 hl a1 h2
theorem qp {n k:Nat} (h:n<1000000000^k):(lim n).length<=k:=by
 rcases j2 k (lim n).length with hk|hk
 .exfalso;have a0:lim n≠[]:=by intro e;rw[e]at hk;simp at hk
  have:=QW (xU k n) ((jo n).resolve_left a0) a0 (by rw[xw];exact hk);rw[jN,qh,hL h]at this;omega
 .exact hk
theorem jx {n k:Nat} (h:1000000000^k<=n):k<(lim n).length:=by
 rcases j2 k (lim n).length with hk|hk
 .exact hk
 .have:=qX (qc n);rw[qh]at this;have:1000000000^(lim n).length<=1000000000^k:=hK (by omega) hk;omega
theorem K1:lim 0=[]:=rfl
theorem yt {n:Nat}:lim n=[]↔n=0:=by
 constructor
 .intro h;have:=qh n;rw[h]at this;exact this.symm
 .rintro rfl;rfl
theorem qC {n:Nat}:0<(lim n).length↔0<n:=by
 rw[List.length_pos_iff,ne_eq,yt];omega
theorem qg (l:List Nat):(raw l).length=l.length:=by simp[raw]
theorem xd (a b:List Nat):raw (a++b)=raw a++raw b:=by simp[raw]
theorem j3 (l:List Nat) (k:Nat):(raw l).take k=raw (l.take k):=by simp[raw,List.map_take]
theorem Qb (l:List Nat) (k:Nat):(raw l).drop k=raw (l.drop k):=by simp[raw,List.map_drop]
theorem Ym {l:List Nat} {i:Nat} (h:i<l.length):nth [] (raw l) i=[.int .u32 ((l[i]:Nat))]:=by
 rw[qu];simp[raw,h]
theorem qw {l:List Nat} {i:Nat} (h:i<l.length):(nth [] (raw l) i).length=1:=by rw[Ym h];rfl
theorem qz {l:List Nat} {i:Nat} (h:i<l.length):cut (nth [] (raw l) i) 0 1 [.int .u32 ((l[i]:Nat))]:=by
 rw[Ym h];exact⟨rfl,by simp⟩
theorem zK (l:List Nat):lens 1 (raw l):=by
 intro e he;simp only[raw,gb]at he;obtain⟨x,_,rfl⟩:=he;rfl
theorem Da (l:List Nat) (i x:Nat):upd (raw l) i [.int .u32 (x:Int)]=raw (l.set i x):=by
 rw[xn];simp[raw]
theorem GA:∀(l:List Nat),z9 (raw l)=true
 |[]=>rfl
 |x::l=>by have:=GA l;simp only[raw,eL,z9]at this ⊢;rw[this];rfl
theorem xr (n:Nat):cF n [P1 .u32 (0:Int)]=raw (cF n 0):=by simp[raw]
theorem kY (n:Nat):val (cF n 0)=0:=by
 induction n with
 |zero=>rfl
 |succ n ih=>simp[gp,val,ih]
theorem Yn {a b:List Nat} (h:raw a=raw b):a=b:=by
 induction a generalizing b with
 |nil=>cases b with
  |nil=>rfl
  |cons y b=>simp[raw]at h
 |cons x a ih=>cases b with
  |nil=>simp[raw]at h
  |cons y b=>simp only[raw,eL,g5,U0,true_and,and_true]at h;rw[ih h.2,Int.ofNat.inj h.1]
theorem brd {c:Prop} [Decidable c] {X Y:Prop} (h1:c->X) (h2:¬c->Y):br (toB (Tk (decide c))) X Y:=by
 by_cases h:c
 .have:decide c=true:=decide_eq_true h;rw[this];exact h1 h
 .have:decide c=false:=decide_eq_false h;rw[this];exact h2 h
theorem brb {b:Bool} {X Y:Prop} (h1:b=true->X) (h2:b=false->Y):br (toB (Tk b)) X Y:=by
 cases b
 .exact h2 rfl
 .exact h1 rfl
theorem js {b:Bool} {X Y:Prop} (h1:b=true->X) (h2:b=false->Y):br b X Y:=by
 cases b
 .exact h2 rfl
 .exact h1 rfl
theorem qR {n:Int} (_: -9223372036854775808<=n:=by omega) (_:n<9223372036854775808:=by omega):W2 .i64 n=n:=by
 simp[W2,be,bd];omega
theorem xI {n:Int} (_:0<=n:=by omega) (_:n<18446744073709551616:=by omega):W2 .u64 n=n:=by
 simp[W2,be,bd];omega
theorem j5 {n:Int} (_:0<=n:=by omega) (_:n<4294967296:=by omega):W2 .u32 n=n:=by
 simp[W2,be,bd];omega
end Eng
end
section
namespace Eng
open Go Go.Proofs
variable [Env]
theorem v6 {l:List Nat} (hl:Limbs l) (hr:l.length<=1073741824):Gives C0 274 [.c (.sl (raw l))] [.c (.sl (raw (lim (val l))))]:=by
 refine qj (anns:=λ_=>⟨[.slot 0 (.slice none 0 0)],[],λ_ ds=>∃k,k<=l.length/\ds=[.sl (raw (l.take k))]/\val (l.take k)=val l,λds=>(toL (nth .undef ds 0)).length⟩) mixedT Tryz.func274 ?_;rw[CW];simp only[b9];refine⟨⟨l.length,hX _,by rw[dl],by rw[dl]⟩,?_⟩;rintro es ⟨k,hk,he,hv⟩;simp only[g5,U3,and_true]at he;subst he;have a0:(raw (l.take k)).length=k:=by rw[qg,dv];omega
 have a1:(k=0\/∃h:k-1<l.length,l[k-1]≠0)->[Lv (Sz (raw (l.take k)))]=[Lv (Sz (raw (lim (val l))))]:=by
  intro h;rw[<-hv,v5 (hl.take k)];rcases h with rfl|⟨h,hne⟩
  .exact .inl (by simp)
  .refine .inr ?_;rw[gv];split
   .simp
   .rw[dc h]
    simpa using hne
 refine brd (λh=>?_) (λh=>?_)
 .rw[a0]at h ⊢;have hk0:0<k:=by omega
  have hw:W2 .i64 ((k:Int)-1)=((k-1:Nat):Int):=by rw[qR];omega
  rw[hw];have a2:k-1<(l.take k).length:=by rw[dv];omega
  have hg:(l.take k)[k-1]=l[k-1]:=List.getElem_take ..;refine⟨⟨by omega,by omega,qw a2⟩,_,qz a2,brb (λhz=>?_) (λhz=>?_)⟩
  .have hz:l[k-1]=0:=by rw[hg]at hz;simpa using hz
   refine⟨⟨by omega,by omega,by omega,zK _⟩,⟨k-1,by omega,?_,?_⟩,?_⟩
   .simp only[bF,j3,ez,List.take_take];congr 4;omega
   .have:l.take k=l.take (k-1)++[l[k-1]]:=by have:=ep (l:=l) (i:=k-1) (by omega);rw[show k-1+1=k by omega]at this;exact this
    rw[<-hv,this,hz,qU];simp[val]
   .simp only[bF,nth,toL,ez,dv,a0];omega
  .exact a1 (.inr ⟨by omega,by rw[hg]at hz;simpa using hz⟩)
 .rw[a0]at h;exact a1 (.inl (by omega))
def Qw (a b:Nat):Int:=if a<b then-1 else if b<a then 1 else 0
omit [Env] in
theorem kZ {a b:List Nat} (ha:Limbs a) (hl:a.length=b.length) {k:Nat} (hk:k<a.length) (hd:a.drop (k+1)=b.drop (k+1)) (h:a[k]<b[k]):val a<val b:=by
 have e1:a=a.take k++a[k]::a.drop (k+1):=by rw[<-cL hk,fk]
 have e2:b=b.take k++b[k]::b.drop (k+1):=by rw[<-cL (by omega),fk]
 rw[e1,e2,qU,qU,hd];have l1:(a.take k).length=k:=by rw[dv];omega
 have l2:(b.take k).length=k:=by rw[dv];omega
 rw[l1,l2];have h1:=qX (ha.take k);rw[l1]at h1;simp only[val];have:1000000000^k*(a[k]+1+1000000000*val (b.drop (k+1)))<=1000000000^k*(b[k]+1000000000*val (b.drop (k+1))):=ia _ (by omega);have e3:1000000000^k*(a[k]+1+1000000000*val (b.drop (k+1)))=1000000000^k*(a[k]+1000000000*val (b.drop (k+1)))+1000000000^k:=by rw[show a[k]+1+1000000000*val (b.drop (k+1))=(a[k]+1000000000*val (b.drop (k+1)))+1 by omega,hC,Nat.mul_one]
 omega
theorem jO {a b:List Nat} (ha:Limbs a) (hb:Limbs b) (hra:a.length<=1073741824) (hrb:b.length<=1073741824):Gives C0 192 [.c (.sl (raw a)),.c (.sl (raw b))] [.c (.int .i64 (Qw (val a) (val b)))]:=by
 generalize hA:lim (val a)=A;generalize hB:lim (val b)=B;have lA:Limbs A:=hA▸qc _;have lB:Limbs B:=hB▸qc _;have vA:val A=val a:=hA▸qh _;have vB:val B=val b:=hB▸qh _;have zA:A=[]\/A.getLast?≠some 0:=hA▸jo _;have zB:B=[]\/B.getLast?≠some 0:=hB▸jo _;have nA:A.length<=a.length:=hA▸qp (qX ha);have nB:B.length<=b.length:=hB▸qp (qX hb);refine qj (anns:=λ_=>⟨[.slot 5 (.int .i64 0)],[],λ_ ds=>∃k:Nat,k<=A.length/\ds=[.int .i64 ((k:Int)-1)]/\A.drop k=B.drop k,λds=>(toI (nth .undef ds 0)+1).toNat⟩) mixedT Tryz.func192 ?_;rw[Uq];simp only[b9];refine⟨_,v6 ha hra,_,v6 hb hrb,?_⟩;rw[hA,hB,qg,qg];refine brb (λh=>?_) (λh=>?_)
 .have h:A.length≠B.length:=by intro e;rw[e]at h;simp at h
  refine brd (λh1=>?_) (λh1=>?_)
  .have a2:B≠[]:=(by intro e;have h0:B.length=0:=(by rw[e];rfl);omega);have:=QW lA (zB.resolve_left a2) a2 (by omega);rw[Qw,if_pos (by omega)]
  .have a2:A≠[]:=(by intro e;have h0:A.length=0:=(by rw[e];rfl);omega);have:=QW lB (zA.resolve_left a2) a2 (by omega);rw[Qw,if_neg (by omega),if_pos (by omega)]
 .have h:A.length=B.length:=by
   have:(A.length:Int)=B.length:=by simpa using h
   omega
  refine⟨⟨A.length,hX _,by rw[qR],by rw[gz,h,gz]⟩,?_⟩;rintro n ⟨k,hk,he,hd⟩;simp only[g5,U0,true_and,and_true]at he;subst he;refine brd (λh1=>?_) (λh1=>?_)
  .have a0:k-1<A.length:=by omega
   have a1:k-1<B.length:=by omega
   have ht:((k:Int)-1).toNat=k-1:=by omega
   have a3:A.drop (k-1+1)=B.drop (k-1+1):=by rw[show k-1+1=k by omega];exact hd
   rw[ht];refine⟨⟨by omega,by omega,qw a0⟩,_,qz a0,⟨by omega,by omega,qw a1⟩,_,qz a1,brd (λh2=>?_) (λh2=>?_)⟩
   .have:=kZ lA h a0 a3 (by omega);rw[Qw,if_pos (by omega)]
   .refine⟨⟨by omega,by omega,qw a0⟩,_,qz a0,⟨by omega,by omega,qw a1⟩,_,qz a1,brd (λh3=>?_) (λh3=>?_)⟩
    .have:=kZ lB h.symm a1 a3.symm (by omega);rw[Qw,if_neg (by omega),if_pos (by omega)]
    .have hw:W2 .i64 ((k:Int)-1-1)=((k-1:Nat):Int)-1:=by rw[qR];omega
     rw[hw];refine⟨⟨k-1,by omega,rfl,?_⟩,?_⟩
     .rw[cL a0,cL a1,a3];congr 1;omega
     .simp only[nth,toI];omega
  .have a0:k=0:=by omega
   subst a0;have:A=B:=by simpa using hd
   rw[Qw,<-vA,<-vB,this,if_neg (by omega),if_neg (by omega)]
theorem J6 {l:List Nat} (b:Bool) (hl:Limbs l) (hr:l.length<=1073741824):Gives C0 193 [.c (.bool b),.c (.sl (raw l))] [.ag [.bool (b&&decide (0<val l)),.sl (raw (lim (val l)))]]:=by
 refine qj (anns:=λ_=>⟨[.slot 5 (.int .i64 0)],[],λ_ ds=>∃k:Nat,k<=l.length/\ds=[.int .i64 (k:Int)]/\val (l.take k)=val l,λds=>(toI (nth .undef ds 0)).toNat⟩) mixedT Tryz.func193 ?_;rw[Ln];simp only[b9];refine⟨⟨l.length,hX _,by rw[qg],by rw[dl]⟩,?_⟩;rintro n ⟨k,hk,he,hv⟩;simp only[g5,U0,true_and,and_true]at he;subst he;have a1:(k=0\/∃h:k-1<l.length,l[k-1]≠0)->eH 0 (e7 (k:Int).toNat (raw l))=raw (lim (val l))/\(0<val l↔0<k):=by
  intro h;have h0:lim (val l)=l.take k:=by
   rw[<-hv,v5 (hl.take k)];rcases h with rfl|⟨h,hne⟩
   .exact .inl (by simp)
   .refine .inr ?_;rw[gv];split
    .simp
    .rw[dc h]
     simpa using hne
  refine⟨by rw[h0,bF,j3,ez],?_⟩;rw[<-qC,h0,dv];omega
 have a0:(k=0\/∃h:k-1<l.length,l[k-1]≠0)->
  br b
   (((0:Int)<=0/\(0:Int)<=k/\(k:Int)<=k/\(k:Int)<=(raw l).length/\lens 1 (raw l))/\
     [Ls [Tk (decide ((k:Int)>0)),Sz (eH 0 (e7 (k:Int).toNat (raw l)))]]=[.ag [.bool (b&&decide (0<val l)),.sl (raw (lim (val l)))]])
   (((0:Int)<=0/\(0:Int)<=k/\(k:Int)<=k/\(k:Int)<=(raw l).length/\lens 1 (raw l))/\
     [Ls [Tk false,Sz (eH 0 (e7 (k:Int).toNat (raw l)))]]=[.ag [.bool (b&&decide (0<val l)),.sl (raw (lim (val l)))]]):=by
  intro h;obtain⟨h1,h2⟩:=a1 h;rw[h1,qg];refine js (λhb=>?_) (λhb=>?_)
  .subst hb;refine⟨⟨by omega,by omega,by omega,by omega,zK _⟩,?_⟩;have:decide ((k:Int)>0)=decide (0<val l):=by rw[decide_eq_decide];omega
   rw[this,Lm]
  .subst hb;exact⟨⟨by omega,by omega,by omega,by omega,zK _⟩,by rw[J4]⟩
 refine brd (λh=>?_) (λh=>?_)
 .have hw:W2 .i64 ((k:Int)-1)=((k-1:Nat):Int):=by rw[qR];omega
  rw[hw,bF];have a2:k-1<l.length:=by omega
  refine⟨⟨by omega,by rw[qg];omega,qw a2⟩,_,qz a2,brb (λhz=>?_) (λhz=>?_)⟩
  .have hz:l[k-1]=0:=by simpa using hz
   refine⟨⟨k-1,by omega,rfl,?_⟩,?_⟩
   .have:l.take k=l.take (k-1)++[l[k-1]]:=by have:=ep (l:=l) (i:=k-1) (by omega);rw[show k-1+1=k by omega]at this;exact this
    rw[<-hv,this,hz,qU];simp[val]
   .simp only[nth,toI];omega
  .exact a0 (.inr ⟨a2,by simpa using hz⟩)
 .exact a0 (.inl (by omega))
end Eng
end
section
namespace Eng
open Go Go.Proofs
variable [Env]
omit [Env] in
theorem qM (l:List Nat) (k:Nat):val (l.take (k+1))=val (l.take k)+1000000000^k*l.getD k 0:=by
 by_cases h:k<l.length
 .rw[ep h,qU,dv,k3 (by omega)];simp[val,ec,h]
 .rw[cH (by omega),cH (by omega)];simp[ec,h]
omit [Env] in
theorem Zt {l:List Nat} {k:Nat} (h:l.length<=k):l.getD k 0=0:=by simp[ec,List.getElem?_eq_none h]
omit [Env] in
theorem Qc (o:List Nat) (d:Nat):val (o++[d])=val o+1000000000^o.length*d:=by rw[qU];simp[val]
omit [Env] in
theorem K2 {k d c t:Nat} (h:d+1000000000*c=t):1000000000^k*d+1000000000^(k+1)*c=1000000000^k*t:=by
 rw[<-h,hC,ib,hD]
omit [Env] in
theorem zL {x y o:List Nat} {k c d c':Nat} (hk:k<x.length) (ho:o.length=k) (hv:val o+1000000000^k*c=val (x.take k)+val (y.take k)) (ht:d+1000000000*c'=x[k]+c+y.getD k 0):
 val (o++[d])+1000000000^(k+1)*c'=val (x.take (k+1))+val (y.take (k+1)):=by
 rw[Qc,ho,qM,qM];have h1:=K2 (k:=k) ht;have h2:x.getD k 0=x[k]:=by simp[ec,hk]
 rw[h2];have h3:1000000000^k*(x[k]+c+y.getD k 0)=1000000000^k*x[k]+1000000000^k*c+1000000000^k*y.getD k 0:=by rw[hC,hC]
 omega
theorem P4 {a b:List Nat} (ha:Limbs a) (hb:Limbs b) (hra:a.length<=1073741823) (hrb:b.length<=1073741823):Gives C0 272 [.c (.sl (raw a)),.c (.sl (raw b))] [.c (.sl (raw (pad (max a.length b.length+1) (val a+val b))))]:=by
 by_cases hab:a.length<b.length
 .refine qj (anns:=λ_=>⟨[.own 5 53 1,.slot 6 (.int .u32 0),.slot 22 (.int .i64 0)],[],λ_ ds=>∃(k:Nat) (o:List Nat) (c:Nat),k<=b.length/\o.length=k/\ds=[.sl (raw o),.int .u32 (c:Int),.int .i64 (k:Int)]/\Limbs o/\c<=1/\val o+1000000000^k*c=val (b.take k)+val (a.take k),λds=>b.length-(toI (nth .undef ds 2)).toNat⟩) mixedT Tryz.func272 ?_;rw[Lo];simp only[b9,qg];refine brd (λh0=>?_) (λh0=>?_)
  .skip
   refine⟨⟨by omega,by rw[qR];omega,by rw[qR];unfold room;omega⟩,⟨0,[],0,by omega,rfl,rfl,Limbs.nil,by omega,by simp[val]⟩,?_⟩;rintro es n m ⟨k,o,c,hk,ho,he,lo,hc,hv⟩;simp only[g5,U0,U3,true_and,and_true]at he;obtain⟨rfl,rfl,rfl⟩:=he;refine brd (λh1=>?_) (λh1=>?_)
   .have a0:k<b.length:=by omega
    have hxk:=hb.get a0;have a4:W2 .i64 ((k:Int)+1)=((k+1:Nat):Int):=by rw[qR];omega
    rw[bF,a4,qg,ho];refine⟨⟨by omega,by omega,qw a0⟩,_,qz a0,brd (λh2=>?_) (λh2=>?_)⟩
    .have a2:k<a.length:=by omega
     have hyk:=ha.get a2;have a1:a.getD k 0=a[k]:=by simp[ec,a2]
     refine⟨⟨by omega,by omega,qw a2⟩,_,qz a2,?_⟩;have hw:W2 .u32 (W2 .u32 ((b[k]:Int)+(c:Int))+(a[k]:Int))=((b[k]+c+a[k]:Nat):Int):=by rw[j5 (n:=(b[k]:Int)+(c:Int)),j5];omega
     rw[hw];refine brd (λh3=>?_) (λh3=>?_)
     .have a3:W2 .u32 (((b[k]+c+a[k]:Nat):Int)-1000000000)=((b[k]+c+a[k]-1000000000:Nat):Int):=by rw[j5];omega
      rw[a3];refine⟨⟨by unfold room;omega,λe he=>by simp at he;subst he;rfl⟩,⟨k+1,o++[b[k]+c+a[k]-1000000000],1,by omega,by simp[ho],by rw[xd];rfl,lo.append (Limbs.cons (by omega) Limbs.nil),by omega,zL a0 ho hv (by have:=a1;omega)⟩,?_⟩;simp only[nth,toI];omega
     .refine⟨⟨by unfold room;omega,λe he=>by simp at he;subst he;rfl⟩,⟨k+1,o++[b[k]+c+a[k]],0,by omega,by simp[ho],by rw[xd];rfl,lo.append (Limbs.cons (by omega) Limbs.nil),by omega,zL a0 ho hv (by have:=a1;omega)⟩,?_⟩;simp only[nth,toI];omega
    .have a1:a.getD k 0=0:=Zt (by omega);have hw:W2 .u32 ((b[k]:Int)+(c:Int))=((b[k]+c:Nat):Int):=by rw[j5];omega
     rw[hw];refine brd (λh3=>?_) (λh3=>?_)
     .have a3:W2 .u32 (((b[k]+c:Nat):Int)-1000000000)=((b[k]+c-1000000000:Nat):Int):=by rw[j5];omega
      rw[a3];refine⟨⟨by unfold room;omega,λe he=>by simp at he;subst he;rfl⟩,⟨k+1,o++[b[k]+c-1000000000],1,by omega,by simp[ho],by rw[xd];rfl,lo.append (Limbs.cons (by omega) Limbs.nil),by omega,zL a0 ho hv (by have:=a1;omega)⟩,?_⟩;simp only[nth,toI];omega
     .refine⟨⟨by unfold room;omega,λe he=>by simp at he;subst he;rfl⟩,⟨k+1,o++[b[k]+c],0,by omega,by simp[ho],by rw[xd];rfl,lo.append (Limbs.cons (by omega) Limbs.nil),by omega,zL a0 ho hv (by have:=a1;omega)⟩,?_⟩;simp only[nth,toI];omega
   .have a0:k=b.length:=by omega
    subst a0;rw[qg,ho];refine⟨⟨by unfold room;omega,λe he=>by simp at he;subst he;rfl⟩,?_⟩;rw[dl,cH (by omega)]at hv;have e1:raw o++[[P1 .u32 (c:Int)]]=raw (o++[c]):=by rw[xd];rfl
    have l1:Limbs (o++[c]):=lo.append (Limbs.cons (by omega) Limbs.nil);have v1:val (o++[c])=val a+val b:=by rw[Qc,ho];omega
    have e2:o++[c]=pad (max a.length b.length+1) (val a+val b):=by
     rw[<-v1,<-kX l1];congr 1
     .simp[ho];omega
     .rw[kX l1]
    rw[e1,e2]
  .omega
 .refine qj (anns:=λ_=>⟨[.own 5 53 1,.slot 6 (.int .u32 0),.slot 22 (.int .i64 0)],[],λ_ ds=>∃(k:Nat) (o:List Nat) (c:Nat),k<=a.length/\o.length=k/\ds=[.sl (raw o),.int .u32 (c:Int),.int .i64 (k:Int)]/\Limbs o/\c<=1/\val o+1000000000^k*c=val (a.take k)+val (b.take k),λds=>a.length-(toI (nth .undef ds 2)).toNat⟩) mixedT Tryz.func272 ?_;rw[Lo];simp only[b9,qg];refine brd (λh0=>?_) (λh0=>?_)
  .omega
  .skip
   refine⟨⟨by omega,by rw[qR];omega,by rw[qR];unfold room;omega⟩,⟨0,[],0,by omega,rfl,rfl,Limbs.nil,by omega,by simp[val]⟩,?_⟩;rintro es n m ⟨k,o,c,hk,ho,he,lo,hc,hv⟩;simp only[g5,U0,U3,true_and,and_true]at he;obtain⟨rfl,rfl,rfl⟩:=he;refine brd (λh1=>?_) (λh1=>?_)
   .have a0:k<a.length:=by omega
    have hxk:=ha.get a0;have a4:W2 .i64 ((k:Int)+1)=((k+1:Nat):Int):=by rw[qR];omega
    rw[bF,a4,qg,ho];refine⟨⟨by omega,by omega,qw a0⟩,_,qz a0,brd (λh2=>?_) (λh2=>?_)⟩
    .have a2:k<b.length:=by omega
     have hyk:=hb.get a2;have a1:b.getD k 0=b[k]:=by simp[ec,a2]
     refine⟨⟨by omega,by omega,qw a2⟩,_,qz a2,?_⟩;have hw:W2 .u32 (W2 .u32 ((a[k]:Int)+(c:Int))+(b[k]:Int))=((a[k]+c+b[k]:Nat):Int):=by rw[j5 (n:=(a[k]:Int)+(c:Int)),j5];omega
     rw[hw];refine brd (λh3=>?_) (λh3=>?_)
     .have a3:W2 .u32 (((a[k]+c+b[k]:Nat):Int)-1000000000)=((a[k]+c+b[k]-1000000000:Nat):Int):=by rw[j5];omega
      rw[a3];refine⟨⟨by unfold room;omega,λe he=>by simp at he;subst he;rfl⟩,⟨k+1,o++[a[k]+c+b[k]-1000000000],1,by omega,by simp[ho],by rw[xd];rfl,lo.append (Limbs.cons (by omega) Limbs.nil),by omega,zL a0 ho hv (by have:=a1;omega)⟩,?_⟩;simp only[nth,toI];omega
     .refine⟨⟨by unfold room;omega,λe he=>by simp at he;subst he;rfl⟩,⟨k+1,o++[a[k]+c+b[k]],0,by omega,by simp[ho],by rw[xd];rfl,lo.append (Limbs.cons (by omega) Limbs.nil),by omega,zL a0 ho hv (by have:=a1;omega)⟩,?_⟩;simp only[nth,toI];omega
    .have a1:b.getD k 0=0:=Zt (by omega);have hw:W2 .u32 ((a[k]:Int)+(c:Int))=((a[k]+c:Nat):Int):=by rw[j5];omega
     rw[hw];refine brd (λh3=>?_) (λh3=>?_)
     .have a3:W2 .u32 (((a[k]+c:Nat):Int)-1000000000)=((a[k]+c-1000000000:Nat):Int):=by rw[j5];omega
      rw[a3];refine⟨⟨by unfold room;omega,λe he=>by simp at he;subst he;rfl⟩,⟨k+1,o++[a[k]+c-1000000000],1,by omega,by simp[ho],by rw[xd];rfl,lo.append (Limbs.cons (by omega) Limbs.nil),by omega,zL a0 ho hv (by have:=a1;omega)⟩,?_⟩;simp only[nth,toI];omega
     .refine⟨⟨by unfold room;omega,λe he=>by simp at he;subst he;rfl⟩,⟨k+1,o++[a[k]+c],0,by omega,by simp[ho],by rw[xd];rfl,lo.append (Limbs.cons (by omega) Limbs.nil),by omega,zL a0 ho hv (by have:=a1;omega)⟩,?_⟩;simp only[nth,toI];omega
   .have a0:k=a.length:=by omega
    subst a0;rw[qg,ho];refine⟨⟨by unfold room;omega,λe he=>by simp at he;subst he;rfl⟩,?_⟩;rw[dl,cH (by omega)]at hv;have e1:raw o++[[P1 .u32 (c:Int)]]=raw (o++[c]):=by rw[xd];rfl
    have l1:Limbs (o++[c]):=lo.append (Limbs.cons (by omega) Limbs.nil);have v1:val (o++[c])=val a+val b:=by rw[Qc,ho];omega
    have e2:o++[c]=pad (max a.length b.length+1) (val a+val b):=by
     rw[<-v1,<-kX l1];congr 1
     .simp[ho];omega
     .rw[kX l1]
    rw[e1,e2]
omit [Env] in
theorem xT {l:List Nat} {i x:Nat} (h:i<l.length):upd (raw l) i (upd (nth [] (raw l) i) 0 (.int .u32 (x:Int)))=raw (l.set i x):=by
 rw[Ym h];exact Da l i x
omit [Env] in
theorem wa {o:List Nat} {k m d:Nat} (ho:o.length=k) (hm:0<m):(o++cF m 0).set k d=(o++[d])++cF (m-1) 0:=by
 obtain⟨m,rfl⟩:∃m',m=m'+1:=⟨m-1,by omega⟩;rw[gp,gk _ _ (by omega),ho];simp
omit [Env] in
theorem zD {x y o:List Nat} {k c d c':Nat} (hk:k<x.length) (ho:o.length=k) (hv:val o+val (y.take k)=val (x.take k)+1000000000^k*c) (ht:d+c+y.getD k 0=x[k]+1000000000*c'):
 val (o++[d])+val (y.take (k+1))=val (x.take (k+1))+1000000000^(k+1)*c':=by
 rw[Qc,ho,qM,qM];have h2:x.getD k 0=x[k]:=by simp[ec,hk]
 rw[h2];have h3:1000000000^k*(d+c+y.getD k 0)=1000000000^k*d+1000000000^k*c+1000000000^k*y.getD k 0:=by rw[hC,hC]
 have h4:1000000000^k*(x[k]+1000000000*c')=1000000000^k*x[k]+1000000000^(k+1)*c':=by rw[hC,ib,hD]
 rw[ht]at h3;omega
theorem Ve {a b:List Nat} (ha:Limbs a) (hb:Limbs b) (hra:a.length<=1073741824) (hab:val b<=val a):Gives C0 273 [.c (.sl (raw a)),.c (.sl (raw b))] [.c (.sl (raw (pad a.length (val a-val b))))]:=by
 refine qj (anns:=λ_=>⟨[.own 5 45 1,.slot 6 (.int .u32 0),.slot 15 (.int .i64 0)],[],λ_ ds=>∃(k:Nat) (o:List Nat) (c:Nat),k<=a.length/\o.length=k/\ds=[.sl (raw (o++cF (a.length-k) 0)),.int .u32 (c:Int),.int .i64 (k:Int)]/\Limbs o/\c<=1/\val o+val (b.take k)=val (a.take k)+1000000000^k*c,λds=>a.length-(toI (nth .undef ds 2)).toNat⟩) mixedT Tryz.func273 ?_;rw[P3];simp only[b9,qg];refine⟨⟨by omega,by omega,by unfold room;omega⟩,⟨0,[],0,by omega,rfl,by rw[bF,xr];rfl,Limbs.nil,by omega,by simp[val]⟩,?_⟩;rintro es n m ⟨k,o,c,hk,ho,he,lo,hc,hv⟩;simp only[g5,U0,U3,true_and,and_true]at he;obtain⟨rfl,rfl,rfl⟩:=he;have hol:(o++cF (a.length-k) 0).length=a.length:=by simp[ho];omega
 refine brd (λh1=>?_) (λh1=>?_)
 .have a0:k<a.length:=by omega
  have hxk:=ha.get a0;have hk1:W2 .i64 ((k:Int)+1)=((k+1:Nat):Int):=by rw[qR];omega
  rw[bF,hk1,qg,hol];refine⟨⟨by omega,by omega,qw a0⟩,_,qz a0,brd (λh2=>?_) (λh2=>?_)⟩
  .have a3:k<b.length:=by omega
   have hyk:=hb.get a3;have a2:b.getD k 0=b[k]:=by simp[ec,a3]
   refine⟨⟨by omega,by omega,qw a3⟩,_,qz a3,?_⟩;have hw:W2 .u32 ((c:Int)+(b[k]:Int))=((c+b[k]:Nat):Int):=by rw[j5];omega
   rw[hw];refine brd (λh3=>?_) (λh3=>?_)
   .have a1:W2 .u32 (W2 .u32 ((a[k]:Int)+1000000000)-((c+b[k]:Nat):Int))=((a[k]+1000000000-(c+b[k]):Nat):Int):=by rw[j5 (n:=(a[k]:Int)+1000000000),j5];omega
    rw[a1,xT (by simp[ho];omega),wa ho (by omega)];refine⟨⟨by omega,by omega⟩,by omega,⟨k+1,o++[a[k]+1000000000-(c+b[k])],1,by omega,by simp[ho],by rw[show a.length-k-1=a.length-(k+1)by omega];rfl,lo.append (Limbs.cons (by omega) Limbs.nil),by omega,zD a0 ho hv (by have:=a2;omega)⟩,?_⟩;simp only[nth,toI];omega
   .have a1:W2 .u32 ((a[k]:Int)-((c+b[k]:Nat):Int))=((a[k]-(c+b[k]):Nat):Int):=by rw[j5];omega
    rw[a1,xT (by simp[ho];omega),wa ho (by omega)];refine⟨⟨by omega,by omega⟩,by omega,⟨k+1,o++[a[k]-(c+b[k])],0,by omega,by simp[ho],by rw[show a.length-k-1=a.length-(k+1)by omega];rfl,lo.append (Limbs.cons (by omega) Limbs.nil),by omega,zD a0 ho hv (by have:=a2;omega)⟩,?_⟩;simp only[nth,toI];omega
  .have a2:b.getD k 0=0:=Zt (by omega);refine brd (λh3=>?_) (λh3=>?_)
   .have a1:W2 .u32 (W2 .u32 ((a[k]:Int)+1000000000)-(c:Int))=((a[k]+1000000000-(c):Nat):Int):=by rw[j5 (n:=(a[k]:Int)+1000000000),j5];omega
    rw[a1,xT (by simp[ho];omega),wa ho (by omega)];refine⟨⟨by omega,by omega⟩,by omega,⟨k+1,o++[a[k]+1000000000-(c)],1,by omega,by simp[ho],by rw[show a.length-k-1=a.length-(k+1)by omega];rfl,lo.append (Limbs.cons (by omega) Limbs.nil),by omega,zD a0 ho hv (by have:=a2;omega)⟩,?_⟩;simp only[nth,toI];omega
   .have a1:W2 .u32 ((a[k]:Int)-(c:Int))=((a[k]-(c):Nat):Int):=by rw[j5];omega
    rw[a1,xT (by simp[ho];omega),wa ho (by omega)];refine⟨⟨by omega,by omega⟩,by omega,⟨k+1,o++[a[k]-(c)],0,by omega,by simp[ho],by rw[show a.length-k-1=a.length-(k+1)by omega];rfl,lo.append (Limbs.cons (by omega) Limbs.nil),by omega,zD a0 ho hv (by have:=a2;omega)⟩,?_⟩;simp only[nth,toI];omega
 .have a0:k=a.length:=by omega
  subst a0;rw[dl]at hv;rw[Nat.sub_self,gn,el];have h2:=qX lo;rw[ho]at h2;have h3:val b=val (b.take a.length)+1000000000^(b.take a.length).length*val (b.drop a.length):=by rw[<-qU,fk]
  have h4:=qX ha;have h5:val (b.take a.length)=val b:=by
   rcases j2 b.length a.length with hl|hl
   .rw[cH (by omega)]
   .rw[dv,k3 hl]at h3;rcases hH (val (b.drop a.length))with h6|h6
    .rw[h6]at h3;omega
    .have:=ia (1000000000^a.length) h6;omega
  have h6:c=0:=by
   rcases hH c with h6|h6
   .exact h6
   .have:=ia (1000000000^a.length) h6;omega
  subst h6;have h7:o=pad a.length (val a-val b):=by rw[show val a-val b=val o by omega];have:=kX lo;rw[ho]at this;exact this.symm
  rw[h7]
end Eng
end
section
open Go Go.Proofs Eng
namespace Eng
theorem P5 (Gv:Nat->List A->List A->Prop) (I0:List D->List D->Prop) (M0:List D->Nat) (I1:List D->List D->Prop) (M1:List D->Nat) (es fs:List (List D)) (Q:Nat->List (List D)->Prop):In C0 Gv (Kt ⟨[.own 5 68 1,.slot 20 (.int .i64 0)],[],I0,M0⟩ ⟨[.own 5 68 1,.slot 8 (.int .u64 0),.slot 27 (.int .i64 0)],[.slot 6 (.int .i64 0),.slot 7 (.int .u32 0),.own 5 68 1],I1,M1⟩) Tryz.f194 [.c (.sl es),.c (.sl fs)] Q=((0<=W2 .i64 ((b7 es.length)+(b7 fs.length))/\W2 .i64 ((b7 es.length)+(b7 fs.length))<=W2 .i64 ((b7 es.length)+(b7 fs.length))/\room (b8 (W2 .i64 ((b7 es.length)+(b7 fs.length)))))/\I0 [] [Sz (cF (b8 (W2 .i64 ((b7 es.length)+(b7 fs.length)))) [P1 .u32 0]),dI (0:Int)]/\∀(e1:List (List D)) (n:Int),I0 [] [Sz e1,dI n]->bB (decide (n<(b7 es.length))) ((0<=n/\n<(b7 es.length)/\c6 (nth [] es (b8 n))=1)/\∃n1,cut (nth [] es (b8 n)) 0 1 [P1 .u32 n1]/\I1 [dI n,P1 .u32 n1,Sz e1] [Sz e1,P1 .u64 0,dI (0:Int)]/\∀(es:List (List D)) (n2 n3:Int),I1 [dI n,P1 .u32 n1,Sz e1] [Sz es,P1 .u64 n2,dI n3]->bB (decide (n3<(b7 fs.length))) ((0<=n3/\n3<(b7 fs.length)/\c6 (nth [] fs (b8 n3))=1)/\∃n4,cut (nth [] fs (b8 n3)) 0 1 [P1 .u32 n4]/\(0<=W2 .i64 (n+n3)/\W2 .i64 (n+n3)<(b7 es.length))/\∃n5,cut (nth [] es (b8 (W2 .i64 (n+n3)))) 0 1 [P1 .u32 n5]/\(1000000000:Int)≠(0:Int)/\(1000000000:Int)≠(0:Int)/\(0<=W2 .i64 (n+n3)/\W2 .i64 (n+n3)<(b7 es.length))/\0<1/\I1 [dI n,P1 .u32 n1,Sz e1] [Sz (upd es (b8 (W2 .i64 (n+n3))) (upd (nth [] es (b8 (W2 .i64 (n+n3)))) 0 (P1 .u32 (W2 .u32 (cm (W2 .u64 (W2 .u64 (W2 .u64 n5+W2 .u64 (W2 .u64 n1*W2 .u64 n4))+n2)) (1000000000:Int)))))),P1 .u64 (W2 .u64 (c0 (W2 .u64 (W2 .u64 (W2 .u64 n5+W2 .u64 (W2 .u64 n1*W2 .u64 n4))+n2)) (1000000000:Int))),dI (W2 .i64 (n3+1))]/\M1 [Sz (upd es (b8 (W2 .i64 (n+n3))) (upd (nth [] es (b8 (W2 .i64 (n+n3)))) 0 (P1 .u32 (W2 .u32 (cm (W2 .u64 (W2 .u64 (W2 .u64 n5+W2 .u64 (W2 .u64 n1*W2 .u64 n4))+n2)) (1000000000:Int)))))),P1 .u64 (W2 .u64 (c0 (W2 .u64 (W2 .u64 (W2 .u64 n5+W2 .u64 (W2 .u64 n1*W2 .u64 n4))+n2)) (1000000000:Int))),dI (W2 .i64 (n3+1))]<M1 [Sz es,P1 .u64 n2,dI n3]) ((0<=W2 .i64 (n+(b7 fs.length))/\W2 .i64 (n+(b7 fs.length))<(b7 es.length))/\0<1/\I0 [] [Sz (upd es (b8 (W2 .i64 (n+(b7 fs.length)))) (upd (nth [] es (b8 (W2 .i64 (n+(b7 fs.length))))) 0 (P1 .u32 (W2 .u32 n2)))),dI (W2 .i64 (n+1))]/\M0 [Sz (upd es (b8 (W2 .i64 (n+(b7 fs.length)))) (upd (nth [] es (b8 (W2 .i64 (n+(b7 fs.length))))) 0 (P1 .u32 (W2 .u32 n2)))),dI (W2 .i64 (n+1))]<M0 [Sz e1,dI n])) ((e1≠[]/\z9 e1=true)/\Q 1 e1)):=by kernel_rfl
end Eng
end
section
namespace Eng
open Go Go.Proofs
variable [Env]
theorem QX {C:Cx} {f s:Nat} {args:List A} {es:List (List D)} (h:jn C f args s es):Gives C f args [.c (.sl es)]:=by
 intro w F vs hb hi ha;refine(h w F vs hb hi ha).mono λe w' he=>?_
 obtain⟨a0,b,c,cs,t,rfl,h1,h2,h3,h4,h5,h6,h7,h8,h9,h10⟩:=he;refine⟨a0,_,rfl,?_⟩;have a1:Row w' (λb=>F b\/(w.heap.size<=b/\b<w'.heap.size)) es b 0 s:=⟨h8,.inr ⟨h1,h2⟩,λj hj=>by
  obtain⟨v,q1,q2⟩:=h10 j hj;refine⟨v,?_,q2 _ _⟩;rw[k6,xR h3];exact q1⟩
 exact a1.CD h5.1
omit [Env] in
theorem Zu:∀{o:List Nat} {j:Nat} (d:Nat),j<o.length->val (o.set j d)+1000000000^j*o.getD j 0=val o+1000000000^j*d
 |[],_,_,h=>absurd h (by simp)
 |x::o,0,d,_=>by simp[val];omega
 |x::o,j+1,d,h=>by have ih:=Zu (o:=o) (j:=j) d (by simpa using h);simp only[List.set_cons_succ,val,List.getD_cons_succ];rw[ib,hM (1000000000^j) 1000000000,hD,hD];omega
omit [Env] in
theorem Qd {o:List Nat} (h:Limbs o) {j d:Nat} (hd:d<1000000000):Limbs (o.set j d):=λy hy=>by
 rcases List.mem_or_eq_of_mem_set hy with hy|rfl
 .exact h y hy
 .exact hd
omit [Env] in
theorem jd {o:List Nat} {i j d:Nat} (h:i≠j):(o.set i d).getD j 0=o.getD j 0:=by simp[ec,List.getElem?_set_ne h]
omit [Env] in
theorem xt {o:List Nat} {j:Nat} (h:j<o.length):o.getD j 0=o[j]:=by simp[ec,h]
omit [Env] in
theorem Ur (t:Nat):cm (t:Int) 1000000000=((t%1000000000:Nat):Int):=by rw[cp (by omega)];omega
omit [Env] in
theorem Us (t:Nat):c0 (t:Int) 1000000000=((t/1000000000:Nat):Int):=by rw[c3 (by omega)];omega
set_option maxHeartbeats 1000000 in
theorem J7 {a b:List Nat} (ha:Limbs a) (hb:Limbs b) (hra:a.length<=536870912) (hrb:b.length<=536870912) (hne:0<a.length+b.length):
 jn C0 194 [.c (.sl (raw a)),.c (.sl (raw b))] 1 (raw (pad (a.length+b.length) (val a*val b))):=by
 refine Yj (anns:=Kt
  ⟨[.own 5 68 1,.slot 20 (.int .i64 0)],[],λ_ ds=>∃(i:Nat) (o:List Nat),i<=a.length/\ds=[.sl (raw o),.int .i64 (i:Int)]/\o.length=a.length+b.length/\Limbs o/\(∀j,i+b.length<=j->o.getD j 0=0)/\val o=val (a.take i)*val b,λds=>a.length-(toI (nth .undef ds 1)).toNat⟩
  ⟨[.own 5 68 1,.slot 8 (.int .u64 0),.slot 27 (.int .i64 0)],[.slot 6 (.int .i64 0),.slot 7 (.int .u32 0),.own 5 68 1],λg ds=>∃(i k c:Nat) (o0 o:List Nat),g=[.int .i64 (i:Int),.int .u32 ((a.getD i 0:Nat):Int),.sl (raw o0)]/\i<a.length/\k<=b.length/\c<1000000000/\ds=[.sl (raw o),.int .u64 (c:Int),.int .i64 (k:Int)]/\o.length=a.length+b.length/\Limbs o/\(∀j,i+b.length<=j->o.getD j 0=0)/\val o+1000000000^(i+k)*c=val o0+1000000000^i*(a.getD i 0*val (b.take k)),λds=>b.length-(toI (nth .undef ds 2)).toNat⟩) mixedT Tryz.func194 ?_
 rw[P5];simp only[b9,qg];have hab:W2 .i64 ((a.length:Int)+(b.length:Int))=((a.length+b.length:Nat):Int):=by rw[qR];omega
 rw[hab,bF,xr];refine⟨⟨by omega,by omega,by unfold room;omega⟩,⟨0,cF (a.length+b.length) 0,by omega,rfl,by simp,λy hy=>by rw[List.eq_of_mem_replicate hy];omega,λj _=>by simp[ec,List.getElem?_replicate];split<;>rfl,by simp[kY,val]⟩,?_⟩;rintro es n ⟨i,o0,hi,he,ag,lo,hz,hv⟩;simp only[g5,U0,U3,true_and,and_true]at he;obtain⟨rfl,rfl⟩:=he;refine brd (λh1=>?_) (λh1=>?_)
 .have a0:i<a.length:=by omega
  have hai:=ha.get a0;rw[bF];refine⟨⟨by omega,by omega,qw a0⟩,_,qz a0,⟨i,0,0,o0,o0,by rw[xt a0],a0,by omega,by omega,rfl,ag,lo,hz,by simp[val]⟩,?_⟩;rintro es m k' ⟨i',k,c,o0',o,hg,_,hk,hc,he,a2,ad,a7,al⟩;simp only[g5,U0,U3,true_and,and_true]at hg he;obtain⟨hi',hx',a5⟩:=hg;obtain⟨rfl,rfl,rfl⟩:=he;have a3:i'=i:=by omega
  subst a3;have a5:=Yn a5;subst a5;rw[xt a0]at al;refine brd (λh2=>?_) (λh2=>?_)
  .have a1:k<b.length:=by omega
   have hbk:=hb.get a1;have hj:i'+k<o.length:=by omega
   have hoj:=ad.get hj;have hw:W2 .i64 ((i':Int)+(k:Int))=((i'+k:Nat):Int):=by rw[qR];omega
   have a4:W2 .i64 ((k:Int)+1)=((k+1:Nat):Int):=by rw[qR];omega
   rw[hw,a4,bF,bF,qg];refine⟨⟨by omega,by omega,qw a1⟩,_,qz a1,⟨by omega,by omega⟩,_,qz hj,by omega,by omega,⟨by omega,by omega⟩,by omega,?_⟩;have hp:a[i']*b[k]<=999999999*999999999:=Nat.mul_le_mul (by omega) (by omega);obtain⟨p,a6⟩:∃p,p=a[i']*b[k]:=⟨_,rfl⟩;rw[<-a6]at hp;have hpi:(a[i']:Int)*(b[k]:Int)=(p:Int):=by rw[a6];exact(c1 _ _).symm
   obtain⟨t,hte⟩:∃t,t=o[i'+k]+p+c:=⟨_,rfl⟩;have ht:W2 .u64 (W2 .u64 (W2 .u64 (o[i'+k]:Int)+W2 .u64 (W2 .u64 (a[i']:Int)*W2 .u64 (b[k]:Int)))+(c:Int))=(t:Int):=by rw[xI (n:=(o[i'+k]:Int)),xI (n:=(a[i']:Int)),xI (n:=(b[k]:Int)),hpi,xI (n:=(p:Int)),xI (n:=(o[i'+k]:Int)+(p:Int)),xI];omega
   rw[ht,Ur,Us,j5 (n:=((t%1000000000:Nat):Int)),xI (n:=((t/1000000000:Nat):Int)),xT hj];refine⟨⟨i',k+1,t/1000000000,o0,o.set (i'+k) (t%1000000000),by rw[xt a0],a0,by omega,by omega,rfl,by simp[a2],Qd ad (by omega),λj hjj=>by rw[jd (by omega)];exact a7 j hjj,?_⟩,?_⟩
   .have h3:=Zu (t%1000000000) hj;rw[xt hj]at h3;rw[xt a0,qM,xt a1];have h4:=K2 (k:=i'+k) (show t%1000000000+1000000000*(t/1000000000)=t by omega);rw[show i'+(k+1)=i'+k+1 by omega];have h5:1000000000^(i'+k)*t=1000000000^(i'+k)*o[i'+k]+1000000000^(i'+k)*p+1000000000^(i'+k)*c:=by rw[hte,hC,hC]
    have h6:1000000000^i'*(a[i']*(val (b.take k)+1000000000^k*b[k]))=1000000000^i'*(a[i']*val (b.take k))+1000000000^(i'+k)*p:=by rw[hC,hC,a6,kH];congr 1;simp only[hD,Nat.mul_left_comm]
    omega
   .simp only[nth,toI];omega
  .have a1:k=b.length:=by omega
   subst a1;have hj:i'+b.length<o.length:=by omega
   have hw:W2 .i64 ((i':Int)+(b.length:Int))=((i'+b.length:Nat):Int):=by rw[qR];omega
   have a4:W2 .i64 ((i':Int)+1)=((i'+1:Nat):Int):=by rw[qR];omega
   rw[hw,a4,bF,qg,j5 (n:=(c:Int)),xT hj];refine⟨⟨by omega,by omega⟩,by omega,⟨i'+1,o.set (i'+b.length) c,by omega,rfl,by simp[a2],Qd ad hc,λj hjj=>by rw[jd (by omega)];exact a7 j (by omega),?_⟩,?_⟩
   .have h3:=Zu c hj;rw[a7 _ (hX _)]at h3;rw[dl]at al;rw[qM,xt a0,ie,<-hv,hD];omega
   .simp only[nth,toI];omega
 .have a0:i=a.length:=by omega
  subst a0;rw[dl]at hv;refine⟨⟨λe=>?_,GA _⟩,trivial,?_⟩
  .have h0:=congrArg c6 e;rw[qg]at h0;have h0:o0.length=0:=h0;omega
  .rw[<-hv,<-ag,kX lo]
theorem Lw {a b:List Nat} (ha:Limbs a) (hb:Limbs b) (hra:a.length<=536870912) (hrb:b.length<=536870912):
 Gives C0 194 [.c (.sl (raw a)),.c (.sl (raw b))] [.c (.sl (raw (pad (a.length+b.length) (val a*val b))))]:=by
 rcases hH (a.length+b.length)with h|h
 .have h1:a=[]:=eU (by omega);have h2:b=[]:=eU (by omega);subst h1 h2;exact z2 (lim:=100) (n:=5) (tab:=noT) mixedT (λ_ _ _ h=>by simp[noT]at h) _ _ _ (by kernel_rfl)
 .exact QX (J7 ha hb hra hrb h)
theorem J8 {a:List Nat} {d:Nat} (ha:Limbs a) (hd0:0<d) (hd:d<1000000000) (hra:a.length<=1073741824):
 Gives C0 387 [.c (.sl (raw a)),.c (.int .u32 (d:Int))] [.c (.sl (raw (pad a.length (val a/d)))),.c (.sl (raw [val a%d]))]:=by
 refine qj (anns:=λ_=>⟨[.own 6 44 1,.slot 7 (.int .u64 0),.slot 8 (.int .i64 0)],[],λ_ ds=>∃(k r:Nat) (h:List Nat),k<=a.length/\r<d/\h.length=a.length-k/\Limbs h/\ds=[.sl (raw (cF k 0++h)),.int .u64 (r:Int),.int .i64 ((k:Int)-1)]/\val (a.drop k)=val h*d+r,λds=>(toI (nth .undef ds 2)+1).toNat⟩) mixedT Tryz.func387 ?_;rw[Lp];simp only[b9,qg,bF,xr];refine⟨⟨by omega,by omega,by unfold room;omega⟩,⟨a.length,0,[],hX _,hd0,by simp,Limbs.nil,by rw[qR,el];rfl,by simp[val]⟩,?_⟩;rintro es m n ⟨k,r,h,hk,hr,hl,lh,he,hv⟩;simp only[g5,U0,U3,true_and,and_true]at he;obtain⟨rfl,rfl,rfl⟩:=he;refine brd (λh1=>?_) (λh1=>?_)
 .have a0:k-1<a.length:=by omega
  have hak:=ha.get a0;have ht0:((k:Int)-1).toNat=k-1:=by omega
  have hk1:W2 .i64 ((k:Int)-1-1)=((k-1:Nat):Int)-1:=by rw[qR];omega
  have hdw:W2 .u64 (d:Int)=(d:Int):=xI;have a1:(cF k 0++h).length=a.length:=by simp[hl];omega
  rw[ht0,hk1,hdw,qg,a1];refine⟨⟨by omega,by omega,qw a0⟩,_,qz a0,by omega,by omega,⟨by omega,by omega⟩,by omega,?_⟩;have hrr:r*1000000000<=999999998*1000000000:=ks _ (by omega);obtain⟨t,hte⟩:∃t,t=r*1000000000+a[k-1]:=⟨_,rfl⟩;have ht:W2 .u64 (W2 .u64 ((r:Int)*1000000000)+W2 .u64 (a[k-1]:Int))=(t:Int):=by rw[xI (n:=(r:Int)*1000000000),xI (n:=(a[k-1]:Int)),xI];omega
  have hq:t/d<1000000000:=by rw[kb hd0];have:(r+1)*1000000000<=d*1000000000:=ks _ hr;omega
  have hm:t%d<d:=hQ _ hd0;have e1:c0 (t:Int) (d:Int)=((t/d:Nat):Int):=by rw[c3 (by omega)];rfl
  have e2:cm (t:Int) (d:Int)=((t%d:Nat):Int):=by rw[cp (by omega)];rfl
  have hdm:=it t d;rw[ht,e1,e2];obtain⟨q,a3⟩:∃q,q=t/d:=⟨_,rfl⟩;obtain⟨m,a2⟩:∃m,m=t%d:=⟨_,rfl⟩;rw[<-a3,<-a2]at hdm ⊢;rw[<-a3]at hq;rw[<-a2]at hm;rw[xI (n:=(q:Int)),j5 (n:=(q:Int)),xT (by omega)];refine⟨⟨k-1,m,q::h,by omega,hm,by simp[hl];omega,Limbs.cons hq lh,?_,?_⟩,?_⟩
  .have:(cF k 0++h).set (k-1) q=cF (k-1) 0++q::h:=by obtain⟨k',rfl⟩:∃k',k=k'+1:=⟨k-1,by omega⟩;rw[List.replicate_succ',List.append_assoc,Nat.add_sub_cancel,gk _ _ (by simp)];simp
   rw[this]
  .rw[cL a0,show k-1+1=k by omega];simp only[val];rw[hv];have h5:(q+1000000000*val h)*d=d*q+1000000000*(val h*d):=by rw[ie,hM q d,hD]
   omega
  .simp only[nth,toI];omega
 .have a0:k=0:=by omega
  subst a0;simp only[ez,gn,fy]at hv ⊢;have e1:val a/d=val h:=by rw[hv,hM,Nat.mul_add_div hd0,k2 hr,j4]
  have e2:val a%d=r:=by rw[hv,hM,Nat.mul_add_mod,hL hr]
  rw[e1,e2,j5];have:=kX lh;rw[hl,Nat.sub_zero]at this;rw[this];rfl
end Eng
end
section
namespace Eng
open Go Go.Proofs
variable [Env]
def cI (z:Int):List D:=[.bool (decide (z<0)),.sl (raw (lim z.natAbs))]
def qN (z:Int):A:= .ag (cI z)
def K3:Nat:=((1000000000^100)^100)^10
def Sm (z:Int):Prop:=z.natAbs<K3
omit [Env] in
theorem Yo {n j k:Nat} (h:n<(1000000000^j)^k):(lim n).length<=j*k:=qp (by rw[hU];exact h)
omit [Env] in
theorem Vf {n i j k:Nat} (h:n<((1000000000^i)^j)^k):(lim n).length<=i*j*k:=Yo (j:=i*j) (k:=k) (by rw[hU];exact h)
omit [Env] in
theorem P6 {n:Nat} (h:n<((1000000000^100)^100)^10):(lim n).length<=100000:=Nat.le_trans (Vf h) (by decide)
omit [Env] in
theorem Lx {b i j k m:Nat} (hb:0<b) (hm:m<=i*j*k):b^m<=((b^i)^j)^k:=by
 rw[<-hU,<-hU];exact hK hb (by rw[<-hD];exact hm)
omit [Env] in
theorem pow4 {b i j k l n:Nat} (hn:n=i*j*k*l):(((b^i)^j)^k)^l=b^n:=by
 subst hn;rw[hU,hU,hU]
omit [Env] in
theorem Sm.len {z:Int} (h:Sm z):(lim z.natAbs).length<=100000:=P6 h
theorem xe {l:List Nat} (b:Bool) (hl:Limbs l) (hr:l.length<=1073741824) {z:Int} (hz:z=if b then-(val l:Int)else(val l:Int)):
 Gives C0 193 [.c (.bool b),.c (.sl (raw l))] [qN z]:=by
 have h:=J6 b hl hr;have e1:z.natAbs=val l:=by rw[hz];split<;>omega
 have e2:decide (z<0)=(b&&decide (0<val l)):=by
  rw[hz];cases b
  .simp only[Bx,if_false,J4,decide_eq_false_iff_not];omega
  .simp only[if_true,Lm,decide_eq_decide];omega
 unfold qN cI;rw[e1,e2];exact h
theorem Vg {u:Nat} (hu:u<18446744073709551616):Gives C0 263 [.c (.int .u64 (u:Int))] [.c (.sl (raw [u%1000000000,u/1000000000%1000000000,u/1000000000/1000000000]))]:=by
 refine qj (anns:=an0) mixedT Tryz.func263 ?_;rw[P2];refine⟨by omega,by omega,by omega,by omega,by omega,?_⟩;rw[Ur,Us,xI (n:=((u/1000000000:Nat):Int)),Ur,Us,j5 (n:=((u%1000000000:Nat):Int)),j5 (n:=((u/1000000000%1000000000:Nat):Int)),
  xI (n:=((u/1000000000/1000000000:Nat):Int)),j5 (n:=((u/1000000000/1000000000:Nat):Int))]
 rfl
omit [Env] in
theorem Zv {u:Nat} (hu:u<18446744073709551616):Limbs [u%1000000000,u/1000000000%1000000000,u/1000000000/1000000000]/\val [u%1000000000,u/1000000000%1000000000,u/1000000000/1000000000]=u:=by
 refine⟨Limbs.cons (by omega) (Limbs.cons (by omega) (Limbs.cons (by omega) Limbs.nil)),?_⟩;simp only[val];omega
theorem xu {n:Int} (h1: -9223372036854775808<=n) (h2:n<9223372036854775808):Gives C0 179 [.c (.int .i64 n)] [qN n]:=by
 refine qj (anns:=an0) mixedT Tryz.func179 ?_;rw[Vc];have hu:n.natAbs<18446744073709551616:=by omega
 obtain⟨hl,hv⟩:=Zv hu;have hs:=Vg hu;refine brd (λh=>?_) (λh=>?_)
 .have e:W2 .u64 ((0:Int)-W2 .u64 n)=((n.natAbs:Nat):Int):=by simp only[bm];omega
  rw[e];refine⟨_,hs,_,_,xe _ hl (by simp) (z:=n) ?_,rfl⟩;rw[hv,decide_eq_true h,if_pos rfl];omega
 .have e:W2 .u64 n=((n.natAbs:Nat):Int):=by simp only[bm];omega
  rw[e];refine⟨_,hs,_,_,xe _ hl (by simp) (z:=n) ?_,rfl⟩;rw[hv,decide_eq_false h,if_neg (by simp)];omega
def sgn (z:Int):Int:=if z<0 then-1 else if 0<z then 1 else 0
def kh (x y:Int):Int:=if x<y then-1 else if y<x then 1 else 0
theorem Xn (z:Int):Gives C0 191 [qN z] [.c (.int .i64 (sgn z))]:=by
 refine qj (anns:=an0) mixedT Tryz.func191 ?_;unfold qN cI;rw[CZ];simp only[b9,qg];refine js (λh=>?_) (λh=>brd (λh1=>?_) (λh1=>?_))
 .have h:=of_decide_eq_true h;rw[sgn,if_pos h]
 .have h:=of_decide_eq_false h;have:0<z.natAbs:=qC.1 (by omega);rw[sgn,if_neg h,if_pos (by omega)]
 .have h:=of_decide_eq_false h;have:¬0<z.natAbs:=λh2=>h1 (by have:=qC.2 h2;omega)
  rw[sgn,if_neg h,if_neg (by omega)]
theorem jP {x y:Int} (hx:Sm x) (hy:Sm y):Gives C0 104 [qN x,qN y] [.c (.int .i64 (kh x y))]:=by
 refine qj (anns:=an0) mixedT Tryz.func104 ?_;unfold qN cI;rw[Iw];have lx:=hx.len;have ly:=hy.len;refine brb (λh=>?_) (λh=>?_)
 .have h:decide (x<0)≠decide (y<0):=by simpa using h
  have h:¬(x<0↔y<0):=λe=>h (by rw[decide_eq_decide];exact e)
  refine js (λh1=>?_) (λh1=>?_)
  .have h1:=of_decide_eq_true h1;rw[kh,if_pos (by omega)]
  .have h1:=of_decide_eq_false h1;rw[kh,if_neg (by omega),if_pos (by omega)]
 .have h:decide (x<0)=decide (y<0):=by simpa using h
  have h:x<0↔y<0:=by rw[decide_eq_decide]at h;exact h
  refine js (λh1=>?_) (λh1=>?_)
  .have h1:=of_decide_eq_true h1;refine⟨_,jO (qc _) (qc _) (by omega) (by omega),?_⟩;rw[qh,qh,Qw,kh];have e1:(y.natAbs<x.natAbs)=(x<y):=by rw[eq_iff_iff];omega
   have e2:(x.natAbs<y.natAbs)=(y<x):=by rw[eq_iff_iff];omega
   simp only[e1,e2]
  .have h1:=of_decide_eq_false h1;refine⟨_,jO (qc _) (qc _) (by omega) (by omega),?_⟩;rw[qh,qh,Qw,kh];have e1:(x.natAbs<y.natAbs)=(x<y):=by rw[eq_iff_iff];omega
   have e2:(y.natAbs<x.natAbs)=(y<x):=by rw[eq_iff_iff];omega
   simp only[e1,e2]
theorem Q9 {x:Int} (hx:Sm x):Gives C0 189 [qN x] [qN (-x)]:=by
 refine qj (anns:=an0) mixedT Tryz.func189 ?_;have lx:=hx.len;rw[show qN x= .ag (cI x)from rfl,cI,Iz,qg];refine⟨⟨by unfold room;omega,zK _⟩,_,_,xe _ (qc _) (by omega) (z:= -x) ?_,rfl⟩;rw[qh];by_cases h:x<0
 .rw[decide_eq_true h];simp;omega
 .rw[decide_eq_false h];simp;omega
theorem je {x y:Int} (hx:Sm x) (hy:Sm y):Gives C0 105 [qN x,qN y] [qN (x*y)]:=by
 refine qj (anns:=an0) mixedT Tryz.func105 ?_;have lx:=hx.len;have ly:=hy.len;rw[show qN x= .ag (cI x)from rfl,show qN y= .ag (cI y)from rfl,cI,cI,I4];refine⟨_,Lw (qc _) (qc _) (by omega) (by omega),_,_,xe _ (xU _ _) (by rw[xw];omega) (z:=x*y) ?_,rfl⟩;have hv:val (pad ((lim x.natAbs).length+(lim y.natAbs).length) (val (lim x.natAbs)*val (lim y.natAbs)))=x.natAbs*y.natAbs:=by rw[jN,qh,qh];refine hL ?_;have h1:=qX (qc x.natAbs);have h2:=qX (qc y.natAbs);rw[qh]at h1 h2;rw[kH];exact Nat.mul_lt_mul'' h1 h2
 rw[hv];obtain⟨a,ha⟩:∃a,a=x.natAbs:=⟨_,rfl⟩;obtain⟨b,hb⟩:∃b,b=y.natAbs:=⟨_,rfl⟩;rw[<-ha,<-hb,c1];by_cases h1:x<0<;>by_cases h2:y<0
 .have ex:x= -(a:Int):=by omega
  have ey:y= -(b:Int):=by omega
  rw[decide_eq_true h1,decide_eq_true h2,ex,ey];simp only[Lr,beq_self_eq_true,Bx,if_false];rw[Int.neg_mul_neg]
 .have ex:x= -(a:Int):=by omega
  have ey:y=(b:Int):=by omega
  rw[decide_eq_true h1,decide_eq_false h2,ex,ey];simp only[Lr,J3,beq_false,if_true];rw[Int.neg_mul]
 .have ex:x=(a:Int):=by omega
  have ey:y= -(b:Int):=by omega
  rw[decide_eq_false h1,decide_eq_true h2,ex,ey];simp only[J3,beq_true,if_true];rw[c4]
 .have ex:x=(a:Int):=by omega
  have ey:y=(b:Int):=by omega
  rw[decide_eq_false h1,decide_eq_false h2,ex,ey];simp
theorem QA {x y:Int} (hx:Sm x) (hy:Sm y):Gives C0 188 [qN x,qN y] [qN (x+y)]:=by
 refine qj (anns:=an0) mixedT Tryz.func188 ?_;have lx:=hx.len;have ly:=hy.len;rw[show qN x= .ag (cI x)from rfl,show qN y= .ag (cI y)from rfl,cI,cI,Ix];have hpv:∀(a b:List Nat),Limbs a->Limbs b->val (pad (max a.length b.length+1) (val a+val b))=val a+val b:=by intro a b ha hb;rw[jN];refine hL ?_;have h1:=qX ha;have h2:=qX hb;have h3:1000000000^a.length<=1000000000^max a.length b.length:=hK (by omega) (by omega);have h4:1000000000^b.length<=1000000000^max a.length b.length:=hK (by omega) (by omega);rw[ib];omega
 have a0:∀(a b:List Nat),Limbs a->val b<=val a->val (pad a.length (val a-val b))=val a-val b:=by intro a b ha hb;rw[jN];exact hL (by have:=qX ha;omega)
 refine brb (λh=>?_) (λh=>?_)
 .have h:decide (x<0)=decide (y<0):=by simpa using h
  have h':x<0↔y<0:=by rw[decide_eq_decide]at h;exact h
  refine⟨_,P4 (qc _) (qc _) (by omega) (by omega),_,_,xe _ (xU _ _) (by rw[xw];omega) (z:=x+y) ?_,rfl⟩;rw[hpv _ _ (qc _) (qc _),qh,qh];by_cases h:x<0
  .rw[decide_eq_true h,if_pos rfl];omega
  .rw[decide_eq_false h,if_neg (by simp)];omega
 .have h:decide (x<0)≠decide (y<0):=by simpa using h
  have h':¬(x<0↔y<0):=λe=>h (by rw[decide_eq_decide];exact e)
  refine⟨_,jO (qc _) (qc _) (by omega) (by omega),?_⟩;rw[qh,qh];have hc:Qw x.natAbs y.natAbs<0↔x.natAbs<y.natAbs:=by
   unfold Qw;split
   .simp;assumption
   .split<;>simp<;>omega
  refine brd (λh1=>?_) (λh1=>?_)
  .have h1:=hc.1 h1;refine⟨_,Ve (qc _) (qc _) (by omega) (by rw[qh,qh];omega),_,_,xe _ (xU _ _) (by rw[xw];omega) (z:=x+y) ?_,rfl⟩;rw[a0 _ _ (qc _) (by rw[qh,qh];omega),qh,qh];by_cases h:y<0
   .rw[decide_eq_true h,if_pos rfl];omega
   .rw[decide_eq_false h,if_neg (by simp)];omega
  .have h1:¬x.natAbs<y.natAbs:=λh2=>h1 (hc.2 h2)
   refine⟨_,Ve (qc _) (qc _) (by omega) (by rw[qh,qh];omega),_,_,xe _ (xU _ _) (by rw[xw];omega) (z:=x+y) ?_,rfl⟩;rw[a0 _ _ (qc _) (by rw[qh,qh];omega),qh,qh];by_cases h:x<0
   .rw[decide_eq_true h,if_pos rfl];omega
   .rw[decide_eq_false h,if_neg (by simp)];omega
theorem Ly {x y:Int} (hx:Sm x) (hy:Sm y):Gives C0 364 [qN x,qN y] [qN (x-y)]:=by
 refine qj (anns:=an0) mixedT Tryz.func364 ?_;have hn:Sm (-y):=by unfold Sm at *;rw[cg];exact hy
 have ha:=QA hx hn;rw[show qN x= .ag (cI x)from rfl,show qN y= .ag (cI y)from rfl,cI,cI,Iy];simp only[b9,qg];have e1:(-y).natAbs=y.natAbs:=cg y;refine brb (λh=>?_) (λh=>?_)
 .have h:¬y<0:=by simpa using h
  refine⟨_,_,?_,rfl⟩;have e2:decide (((lim y.natAbs).length:Int)>0)=decide (-y<0):=by rw[decide_eq_decide];have:=qC (n:=y.natAbs);omega
  rw[e2,<-e1];exact ha
 .have h:y<0:=by simpa using h
  refine⟨_,_,?_,rfl⟩;have e2:false=decide (-y<0):=by rw[eq_comm,decide_eq_false_iff_not];omega
  rw[e2,<-e1];exact ha
theorem GB {x:Int} (hx:Sm x):Gives C0 329 [qN x] (if x.natAbs<1000000000000000000 then [.c (.int .u64 (x.natAbs:Int)),.c (.bool true)]else [.c (.int .u64 0),.c (.bool false)]):=by
 refine qj (anns:=an0) mixedT Tryz.func329 ?_;have lx:=hx.len;rw[show qN x= .ag (cI x)from rfl,cI,CY];simp only[b9,qg];generalize hl:lim x.natAbs=l at *;have a0:Limbs l:=hl▸qc _;have hv:val l=x.natAbs:=hl▸qh _;have hge:1000000000000000000<=x.natAbs->2<l.length:=λh=>hl▸jx (k:=2) (by omega)
 have hlt:=qX a0;refine brb (λh=>?_) (λh=>brb (λh1=>?_) (λh1=>brb (λh2=>?_) (λh2=>?_)))
 .have h:l.length=0:=by have:(l.length:Int)=0:=by simpa using h
                        omega
  have:l=[]:=eU h;subst this;simp only[val]at hv;rw[if_pos (by omega),<-hv];rfl
 .have h1:l.length=1:=by have:(l.length:Int)=1:=by simpa using h1
                         omega
  obtain⟨a,rfl⟩:∃a,l=[a]:=gd.1 h1;have ha:=(a0.of_cons).1;simp only[val]at hv;refine⟨⟨by omega,by rw[h1];omega,rfl⟩,_,qz (l:=[a]) (i:=0) (by simp),?_⟩;rw[if_pos (by omega)];have:W2 .u64 (([a][0]:Nat):Int)=(x.natAbs:Int):=by show W2 .u64 (a:Int)=_;rw[xI];omega
  rw[this]
 .have h2:l.length=2:=by have:(l.length:Int)=2:=by simpa using h2
                         omega
  obtain⟨a,b,rfl⟩:∃a b,l=[a,b]:=(match l,h2 with|[a,b],_=>⟨a,b,rfl⟩);have ha:=(a0.of_cons).1;have hb:=((a0.of_cons).2.of_cons).1;simp only[val]at hv;refine⟨⟨by omega,by rw[h2];omega,rfl⟩,_,qz (l:=[a,b]) (i:=1) (by simp),⟨by omega,by rw[h2];omega,rfl⟩,_,qz (l:=[a,b]) (i:=0) (by simp),?_⟩;rw[if_pos (by omega)];have:W2 .u64 (W2 .u64 (W2 .u64 (([a,b][1]:Nat):Int)*1000000000)+W2 .u64 (([a,b][0]:Nat):Int))=(x.natAbs:Int):=by show W2 .u64 (W2 .u64 (W2 .u64 (b:Int)*1000000000)+W2 .u64 (a:Int))=_;rw[xI (n:=(b:Int)),xI (n:=(a:Int)),xI (n:=(b:Int)*1000000000),xI];omega
  rw[this]
 .have h:(l.length:Int)≠0:=by simpa using h
  have h1:(l.length:Int)≠1:=by simpa using h1
  have h2:(l.length:Int)≠2:=by simpa using h2
  have:¬x.natAbs<1000000000000000000:=by intro hc;have h5:=qp (n:=x.natAbs) (k:=2) (by omega);rw[hl]at h5;omega
  rw[if_neg this]
end Eng
end
section
namespace Eng
open Go Go.Proofs Go.RowKit
variable [Env]
def ki (chk:List A->Bool) (s:Nat) (mk:List A->List (List D)) (dst:Option Nat) (vs:List V) (ob:List Obj):R:=
 match dst with
 |none=> .fail
 |some d=>match qy ob d,jV ob vs with
  |true,some (al,us)=> .cond (chk al=true) (.arr d) (us++[(d,.arr s (mk al) false)])
  |_,_=> .fail
theorem v7 {C:Cx} {f s:Nat} {fn:Func} {chk:List A->Bool} {mk:List A->List (List D)} (hf:C.P.funcs[f]? =some fn) (hb:fn.body≠none) (hn:fn.name≠ "runtime.NumGoroutine") (h:∀al,chk al=true->jn C f al s (mk al)):EffAt C f (ki chk s mk):=by
 have h0:=TV (C:=C) (own:=λal=>match chk al with|true=>some (s,mk al)|false=>none) hf hb hn (λal s' es ho=>by
  split at ho
  .rename_i hc;simp only[lg,Prod.mk.injEq]at ho;obtain⟨rfl,rfl⟩:=ho;exact h al hc
  .simp at ho)
 have hE:∀(dst:Option Nat) (vs:List V) (ob:List Obj),(∃al us d,dst=some d/\qy ob d=true/\jV ob vs=some (al,us)/\ki chk s mk dst vs ob= .cond (chk al=true) (.arr d) (us++[(d,.arr s (mk al) false)])/\
  (chk al=true->J2 (λal=>match chk al with|true=>some (s,mk al)|false=>none) dst vs ob= .ok (.arr d) (us++[(d,.arr s (mk al) false)])))\/ki chk s mk dst vs ob= .fail:=by
  intro dst vs ob;unfold ki;split
  .exact .inr rfl
  .rename_i d;split
   .rename_i al us h1 h2;refine .inl ⟨al,us,d,rfl,h1,h2,rfl,λhc=>?_⟩;simp only[J2,h1,h2,hc]
   .exact .inr rfl
 refine⟨λ{B F0 w0 F loc st a w dst args ts ty pos after g} hc=>?_,λdst vs ob ob' hh hd=>?_,λdst vs ob hv hb=>?_⟩
 .rcases hE dst (args.toList.map (ev st)) st.objs with⟨al,us,d,h1,h2,h3,h4,h5⟩|h1
  .rw[h4];intro hcc;have:=h0.rs (dst:=dst) (args:=args) (ts:=ts) (ty:=ty) (pos:=pos) (after:=after) (g:=g) hc;rw[h5 hcc]at this;exact this
  .rw[h1];trivial
 .unfold ki;cases dst with
  |none=>rfl
  |some d=>
   have h1:jV ob vs=jV ob' vs:=jb (c:=2) λv hv k hk=> .inl (hh k (by
    rw[qB];exact⟨k,gx.2 ⟨v,hv,hk⟩,.inl rfl⟩))
   simp only[h1];rw[hd d (.inl rfl)]
 .rcases hE dst vs ob with⟨al,us,d,rfl,h2,h3,h4,h5⟩|h1
  .rw[h4];have hfz:=ke h3;refine⟨λp hp=>?_,λk hk=>?_⟩
   .rcases fR.1 hp with hp|hp
    .obtain⟨⟨v,hv1,hv2⟩,s',es',fz,h1,h2⟩:=hfz p hp;refine⟨.inr ⟨?_,by rw[h1];simp⟩,by rw[h2];simp,λu hu=>by rw[h2]at hu;simp[qW]at hu⟩;rw[qB];exact⟨p.1,gx.2 ⟨v,hv1,hv2⟩,.inl rfl⟩
    .simp only[ft]at hp;subst hp;exact⟨.inl ⟨.inl rfl,h2⟩,by simp,λu hu=>by simp[qW]at hu⟩
   .simp only[qk,ft]at hk;subst hk;exact .inr ⟨h2,_,List.mem_append_right _ (ft.2 rfl)⟩
  .rw[h1];trivial
def I5:List D->Bool
 |[.int .u32 (.ofNat n)]=>k1 n 1000000000
 |_=>false
def QY:List (List D)->Bool
 |[]=>true
 |e::r=>I5 e&&QY r
def Db:List D->Nat
 |[.int _ n]=>n.toNat
 |_=>0
def Je (es:List (List D)):List Nat:=es.map Db
def valD:List (List D)->Nat
 |[]=>0
 |e::r=>Db e+1000000000*valD r
omit [Env] in
theorem Qe:∀{es:List (List D)},QY es=true->es=raw (Je es)/\Limbs (Je es)/\val (Je es)=valD es
 |[],_=>⟨rfl,Limbs.nil,rfl⟩
 |e::r,h=>by
  simp only[QY,Aw]at h;obtain⟨h1,h2,h3⟩:=Qe h.2;have he:=h.1;unfold I5 at he;split at he
  .rename_i n;rw[iz]at he;refine⟨?_,Limbs.cons he h2,?_⟩
   .simp only[Je,eL,raw,Db]at h1 ⊢;rw[<-h1];rfl
   .simp only[Je,eL,val,valD,Db]at h3 ⊢;rw[h3]
  .simp at he
omit [Env] in
theorem QB:∀{l:List Nat},Limbs l->QY (raw l)=true
 |[],_=>rfl
 |x::l,h=>by obtain⟨h1,h2⟩:=h.of_cons;simp only[raw,eL,QY,Aw];refine⟨?_,QB h2⟩;show k1 x 1000000000=true;rw[iz];exact h1
omit [Env] in
theorem Qf:∀(l:List Nat),valD (raw l)=val l
 |[]=>rfl
 |x::l=>by have:=Qf l;simp only[raw,eL,valD,val,Db]at this ⊢;rw[this];rfl
def zy:List A->Bool
 |[.c (.sl a),.c (.sl b)]=>QY a&&(QY b&&(Nat.ble a.length 536870912&&(Nat.ble b.length 536870912&&k1 0 (a.length+b.length))))
 |_=>false
def jQ:List A->List (List D)
 |[.c (.sl a),.c (.sl b)]=>raw (pad (a.length+b.length) (valD a*valD b))
 |_=>[]
theorem Vh (al:List A) (h:zy al=true):jn C0 194 al 1 (jQ al):=by
 unfold zy at h;split at h
 .rename_i a b;simp only[Aw]at h;obtain⟨h1,h2,h3,h4,h5⟩:=h;obtain⟨ea,la,va⟩:=Qe h1;obtain⟨eb,lb,vb⟩:=Qe h2;have h3:=ka h3;have h4:=ka h4;rw[iz]at h5;have na:(Je a).length=a.length:=by simp[Je]
  have nb:(Je b).length=b.length:=by simp[Je]
  have:=J7 la lb (by omega) (by omega) (by omega);rw[<-ea,<-eb,va,vb,na,nb]at this;exact this
 .simp at h
def I6 (t:TypeId) (d:Option Nat):Bool:=
 match d with
 |some d=>match g7 t 84 with
  |true=>g7 d 148||(g7 d 160||g7 d 71)
  |false=>match g7 t 73 with
   |true=>g7 d 76||(g7 d 81||(g7 d 40||g7 d 44))
   |false=>(g7 t 41&&(g7 d 48||g7 d 53))||(g7 t 99999&&g7 d 10)
 |none=>false
def I7 (chk:List A->Bool) (mk:List A->List (List D)) (f:Nat):Option (Option Nat->List V->List Obj->R):=
 match g7 f 388 with
 |true=>some WN
 |false=>match g7 f 389 with
  |true=>some WO
  |false=>match g7 f 194 with
   |true=>some (ki chk 1 mk)
   |false=>none
noncomputable def CM (chk:List A->Bool) (mk:List A->List (List D)):Cx:=⟨Tryz.prog,λ_=>none,λ_=>false,I7 chk mk,I6,λ_=>false⟩
noncomputable def CC:Cx:=CM zy jQ
theorem Dc (f:Nat) (e:Option Nat->List V->List Obj->R) (h:CC.eff f=some e):EffAt CC f e:=by
 replace h:I7 zy jQ f=some e:=h;unfold I7 at h;split at h
 .rename_i hb;obtain rfl:=g6 hb;simp only[lg]at h;subst h;exact WP (C:=CC) ew
 .split at h
  .rename_i hb;obtain rfl:=g6 hb;simp only[lg]at h;subst h;exact WQ (C:=CC) ew
  .split at h
   .rename_i hb;obtain rfl:=g6 hb;simp only[lg]at h;subst h;exact v7 (C:=CC) Tryz.func194 (by simp[Tryz.f194]) (by decide) λal hc=>kU (C:=C0) (C':=CC) rfl rfl (Vh al hc)
   .simp at h
instance:EffOk CC:=qV Dc
end Eng
end
section
open Go Go.Proofs Eng
namespace Eng
section
variable (Gv:Nat->List A->List A->Prop) (I0:List D->List D->Prop) (M0:List D->Nat) (I1:List D->List D->Prop) (M1:List D->Nat) (I2:List D->List D->Prop) (M2:List D->Nat) (I3:List D->List D->Prop) (M3:List D->Nat) (Q:List A->Prop)
theorem De:wpF CC Gv an0 Tryz.f262 [] Q=(∃b es,Gv 179 [aI (1:Int)] [aZ b es]/\Q [aZ b es]):=by kernel_rfl
theorem P7 (p:Bool) (es:List (List D)):wpF CC Gv an0 Tryz.f178 [.ag [.bool p,.sl es]] Q=(∃b e1,Gv 262 [] [aZ b e1]/\Q [Ls [Tk p,Sz es,Tk b,Sz e1]]):=by kernel_rfl
theorem K4 (n:Int):wpF CC Gv an0 Tryz.f97 [.c (.int .i64 n)] Q=(∃b es,Gv 179 [aI n] [aZ b es]/\∃x,Gv 178 [aZ b es] [aR x]/\Q [aR x]):=by kernel_rfl
theorem P8 (p q:Bool) (es fs:List (List D)):wpF CC Gv an0 Tryz.f271 [.ag [.bool p,.sl es],.ag [.bool q,.sl fs]] Q=(∃b e1 b1 e2 i,Gv 308 [aZ p es,aZ q fs] [aZ b e1,aZ b1 e2,aI i]/\Q [aZ b e1]):=by kernel_rfl
theorem Lz (p q:Bool) (es fs:List (List D)):wpF CC Gv an0 Tryz.f187 [.ag [.bool p,.sl es],.ag [.bool q,.sl fs]] Q=(∃i,Gv 191 [aZ q fs] [aI i]/\bB (decide (i<0)) (∃b e1,Gv 189 [aZ p es] [aZ b e1]/\∃b1 es,Gv 189 [aZ q fs] [aZ b1 es]/\∃b2 e2,Gv 270 [aZ b e1,aZ b1 es] [aZ b2 e2]/\∃b3 e3,Gv 262 [] [aZ b3 e3]/\∃i,Gv 104 [aZ b2 e2,aZ b3 e3] [aI i]/\bB (i !=0) (∃b4 e4,Gv 271 [aZ b e1,aZ b2 e2] [aZ b4 e4]/\∃b e5,Gv 271 [aZ b1 es,aZ b2 e2] [aZ b e5]/\Q [Ls [Tk b4,Sz e4,Tk b,Sz e5]]) (Q [Ls [Tk b,Sz e1,Tk b1,Sz es]])) (∃b e1,Gv 270 [aZ p es,aZ q fs] [aZ b e1]/\∃b1 e2,Gv 262 [] [aZ b1 e2]/\∃i,Gv 104 [aZ b e1,aZ b1 e2] [aI i]/\bB (i !=0) (∃b2 e3,Gv 271 [aZ p es,aZ b e1] [aZ b2 e3]/\∃b3 es,Gv 271 [aZ q fs,aZ b e1] [aZ b3 es]/\Q [Ls [Tk b2,Sz e3,Tk b3,Sz es]]) (Q [Ls [Tk p,Sz es,Tk q,Sz fs]]))):=by kernel_rfl
theorem P9 (p q:Bool) (es fs:List (List D)):wpF CC Gv an0 Tryz.f103 [.ag [.bool p,.sl es,.bool q,.sl fs]] Q=(∃i,Gv 191 [aZ p es] [aI i]/\Q [aI i]):=by kernel_rfl
theorem K5 (m n:Int):wpF CC Gv an0 Tryz.f102 [.c (.int .i64 m),.c (.int .i64 n)] Q=(∃b,Gv 190 [aI m] [aB b]/\∃b1,Gv 190 [aI n] [aB b1]/\br b (br b1 (Q [aI (0:Int)]) (Q [aI (-1:Int)])) (br b1 (Q [aI (1:Int)]) (bB (decide (m<n)) (Q [aI (-1:Int)]) (bB (decide (m>n)) (Q [aI (1:Int)]) (Q [aI (0:Int)]))))):=by kernel_rfl
theorem PA (m:Int):wpF CC Gv an0 Tryz.f190 [.c (.int .i64 m)] Q=(Q [aB (m !=m)]):=by kernel_rfl
theorem Df (p q r s:Bool) (es fs gs hs:List (List D)):wpF CC Gv an0 Tryz.f49 [.ag [.bool p,.sl es,.bool q,.sl fs],.ag [.bool r,.sl gs,.bool s,.sl hs]] Q=(∃i,Gv 103 [Ls [Tk p,Sz es,Tk q,Sz fs]] [aI i]/\∃i_1,Gv 103 [Ls [Tk r,Sz gs,Tk s,Sz hs]] [aI i_1]/\∃i_2,Gv 102 [aI i,aI i_1] [aI i_2]/\bB (i_2 !=0) (Q [aI i_2]) (∃b e1,Gv 105 [aZ p es,aZ s hs] [aZ b e1]/\∃b1 es,Gv 105 [aZ r gs,aZ q fs] [aZ b1 es]/\∃i,Gv 104 [aZ b e1,aZ b1 es] [aI i]/\Q [aI i])):=by kernel_rfl
theorem Dg (p q r s:Bool) (es fs gs hs:List (List D)):wpF CC Gv an0 Tryz.f100 [.ag [.bool p,.sl es,.bool q,.sl fs],.ag [.bool r,.sl gs,.bool s,.sl hs]] Q=(∃i,Gv 104 [aZ q fs,aZ s hs] [aI i]/\bB (i==0) (∃b e1,Gv 188 [aZ p es,aZ r gs] [aZ b e1]/\∃x,Gv 187 [aZ b e1,aZ q fs] [aR x]/\Q [aR x]) (∃b e1,Gv 105 [aZ p es,aZ s hs] [aZ b e1]/\∃b1 es,Gv 105 [aZ r gs,aZ q fs] [aZ b1 es]/\∃b2 e2,Gv 188 [aZ b e1,aZ b1 es] [aZ b2 e2]/\∃b es,Gv 105 [aZ q fs,aZ s hs] [aZ b es]/\∃x,Gv 187 [aZ b2 e2,aZ b es] [aR x]/\Q [aR x])):=by kernel_rfl
theorem Dh (p q r s:Bool) (es fs gs hs:List (List D)):wpF CC Gv an0 Tryz.f48 [.ag [.bool p,.sl es,.bool q,.sl fs],.ag [.bool r,.sl gs,.bool s,.sl hs]] Q=(∃x,Gv 101 [Ls [Tk r,Sz gs,Tk s,Sz hs]] [aR x]/\∃x1,Gv 100 [Ls [Tk p,Sz es,Tk q,Sz fs],aR x] [aR x1]/\Q [aR x1]):=by kernel_rfl
theorem Di (p q:Bool) (es fs:List (List D)):wpF CC Gv an0 Tryz.f101 [.ag [.bool p,.sl es,.bool q,.sl fs]] Q=(∃b e1,Gv 189 [aZ p es] [aZ b e1]/\Q [Ls [Tk b,Sz e1,Tk q,Sz fs]]):=by kernel_rfl
theorem Dj (p q r s:Bool) (es fs gs hs:List (List D)):wpF CC Gv an0 Tryz.f146 [.ag [.bool p,.sl es,.bool q,.sl fs],.ag [.bool r,.sl gs,.bool s,.sl hs]] Q=(∃b e1,Gv 105 [aZ p es,aZ r gs] [aZ b e1]/\∃b1 es,Gv 105 [aZ q fs,aZ s hs] [aZ b1 es]/\∃x,Gv 187 [aZ b e1,aZ b1 es] [aR x]/\Q [aR x]):=by kernel_rfl
end
end Eng
end
section
open Go Go.Proofs Eng
namespace Eng
section
variable (Gv:Nat->List A->List A->Prop) (I0:List D->List D->Prop) (M0:List D->Nat) (I1:List D->List D->Prop) (M1:List D->Nat) (I2:List D->List D->Prop) (M2:List D->Nat) (I3:List D->List D->Prop) (M3:List D->Nat) (Q:List A->Prop)
theorem L0 (p q:Bool) (es fs:List (List D)):wpF CC Gv an0 Tryz.f308 [.ag [.bool p,.sl es],.ag [.bool q,.sl fs]] Q=(bB ((b7 fs.length)==0) (Q [aZ false [],aZ false [],aI (6:Int)]) (∃e1 e2,Gv 330 [aL es,aL fs] [aL e1,aL e2]/\∃b es,Gv 193 [Lv (Tk !p==q),aL e1] [aZ b es]/\∃b1 e3,Gv 193 [aB p,aL e2] [aZ b1 e3]/\bB (decide ((b7 e3.length)>0)) (bB (!b1==q) (∃b2 e4,Gv 179 [aI (1:Int)] [aZ b2 e4]/\∃b3 e5,Gv 364 [aZ b es,aZ b2 e4] [aZ b3 e5]/\∃b es,Gv 188 [aZ b1 e3,aZ q fs] [aZ b es]/\Q [aZ b3 e5,aZ b es,aI (0:Int)]) (Q [aZ b es,aZ b1 e3,aI (0:Int)])) (Q [aZ b es,aZ b1 e3,aI (0:Int)]))):=by kernel_rfl
theorem I8 (p q:Bool) (es fs:List (List D)):wpF CC Gv (Kt ⟨[.box 5 [.bool false,.slice none 0 0],.box 6 [.bool false,.slice none 0 0]],[],I0,M0⟩ ⟨[.slot 7 (.int .u64 0),.slot 9 (.int .u64 0)],[],I1,M1⟩) Tryz.f270 [.ag [.bool p,.sl es],.ag [.bool q,.sl fs]] Q=(∃b e1,Gv 193 [aB false,aL es] [aZ b e1]/\∃b1 es,Gv 193 [aB false,aL fs] [aZ b1 es]/\I0 [] [Tk b,Sz e1,Tk b1,Sz es]/\∀(b:Bool) (es:List (List D)) (b2:Bool) (e2:List (List D)),I0 [] [Tk b,Sz es,Tk b2,Sz e2]->bB (decide ((b7 e2.length)>0)) (∃n b3,Gv 329 [aZ b es] [Lv (P1 .u64 n),aB b3]/\∃n1 b4,Gv 329 [aZ b2 e2] [Lv (P1 .u64 n1),aB b4]/\br b3 (br b4 (I1 [] [P1 .u64 n,P1 .u64 n1]/\∀(n n2:Int),I1 [] [P1 .u64 n,P1 .u64 n2]->bB (decide (n2>0)) (n2≠0/\I1 [] [P1 .u64 n2,P1 .u64 (cm n n2)]/\M1 [P1 .u64 n2,P1 .u64 (cm n n2)]<M1 [P1 .u64 n,P1 .u64 n2]) (∃es,Gv 263 [Lv (P1 .u64 n)] [aL es]/\∃b e3,Gv 193 [aB false,aL es] [aZ b e3]/\Q [aZ b e3])) (∃e3 e4,Gv 330 [aL es,aL e2] [aL e3,aL e4]/\∃b5 e5,Gv 193 [aB false,aL e4] [aZ b5 e5]/\I0 [] [Tk b2,Sz e2,Tk b5,Sz e5]/\M0 [Tk b2,Sz e2,Tk b5,Sz e5]<M0 [Tk b,Sz es,Tk b2,Sz e2])) (∃e3 e4,Gv 330 [aL es,aL e2] [aL e3,aL e4]/\∃b5 e5,Gv 193 [aB false,aL e4] [aZ b5 e5]/\I0 [] [Tk b2,Sz e2,Tk b5,Sz e5]/\M0 [Tk b2,Sz e2,Tk b5,Sz e5]<M0 [Tk b,Sz es,Tk b2,Sz e2])) ((room es.length/\lens 1 es)/\∃b e3,Gv 193 [aB false,aL es] [aZ b e3]/\Q [aZ b e3])):=by kernel_rfl
end
end Eng
end
section
namespace Eng
open Go Go.Proofs
variable [Env]
theorem up {f:Nat} {al rs:List A} (h:Gives C0 f al rs):Gives CC f al rs:=qL rfl rfl h
def Vi:Prop:=∀(a b:List Nat),Limbs a->Limbs b->val b≠0->a.length<=100000->b.length<=100000->
 ∃q r,Gives CC 330 [.c (.sl (raw a)),.c (.sl (raw b))] [.c (.sl (raw q)),.c (.sl (raw r))]/\Limbs q/\Limbs r/\val q=val a/val b/\val r=val a%val b/\q.length<=1073741824/\r.length<=1073741824
omit [Env] in
theorem smN {n:Nat}:Sm (n:Int)↔n<K3:=by unfold Sm;rw[cb]
theorem Yp (hd:Vi) {x y:Int} (hx:Sm x) (hy:Sm y):Gives CC 270 [qN x,qN y] [qN (hP x.natAbs y.natAbs:Nat)]:=by
 generalize hG:hP x.natAbs y.natAbs=G;refine qj (anns:=Kt
  ⟨[.box 5 [.bool false,.slice none 0 0],.box 6 [.bool false,.slice none 0 0]],[],λ_ ds=>∃m n:Nat,ds=cI (m:Int)++cI (n:Int)/\hP m n=G/\m<K3/\n<K3,λds=>valD (toL (nth .undef ds 3))⟩
  ⟨[.slot 7 (.int .u64 0),.slot 9 (.int .u64 0)],[],λ_ ds=>∃u v:Nat,ds=[.int .u64 (u:Int),.int .u64 (v:Int)]/\hP u v=G/\u<1000000000000000000/\v<1000000000000000000,λds=>(toI (nth .undef ds 1)).toNat⟩) mixedT Tryz.func270 ?_
 have lx:=hx.len;have ly:=hy.len;rw[show qN x= .ag (cI x)from rfl,show qN y= .ag (cI y)from rfl];have vx:=xe false (qc x.natAbs) (by omega) (z:=(x.natAbs:Int)) (by simp[qh]);have vy:=xe false (qc y.natAbs) (by omega) (z:=(y.natAbs:Int)) (by simp[qh]);rw[cI,cI,I8];simp only[b9];refine⟨_,_,up vx,_,_,up vy,⟨x.natAbs,y.natAbs,rfl,hG,hx,hy⟩,?_⟩;rintro bx es by_ fs ⟨m,n,he,hg,hm,hn⟩;simp only[cI,fx,fy,g5,D.bool.injEq,U3,and_true,cb]at he;obtain⟨rfl,rfl,rfl,rfl⟩:=he;have lm:=(smN.2 hm).len;have ln:=(smN.2 hn).len;rw[cb]at lm ln;have em:qN (m:Int)=Ls [Tk (decide ((m:Int)<0)),Sz (raw (lim m))]:=by unfold qN cI;rw[cb]
 have en:qN (n:Int)=Ls [Tk (decide ((n:Int)<0)),Sz (raw (lim n))]:=by unfold qN cI;rw[cb]
 have wm:=GB (smN.2 hm);have wn:=GB (smN.2 hn);rw[cb]at wm wn;rw[em]at wm;rw[en]at wn;rw[qg,qg];have a0:0<n->∃es_3 es_4,
  Gives CC 330 [Lv (Sz (raw (lim m))),Lv (Sz (raw (lim n)))] [Lv (Sz es_3),Lv (Sz es_4)]/\
   ∃b_5 es_5,
    Gives CC 193 [Lv (Tk false),Lv (Sz es_4)] [Ls [Tk b_5,Sz es_5]]/\
     (∃m' n':Nat,[Tk (decide ((n:Int)<0)),Sz (raw (lim n)),Tk b_5,Sz es_5]=cI (m':Int)++cI (n':Int)/\hP m' n'=G/\m'<K3/\n'<K3)/\
      valD (toL (nth .undef [Tk (decide ((n:Int)<0)),Sz (raw (lim n)),Tk b_5,Sz es_5] 3))<valD (toL (nth .undef [Tk (decide ((m:Int)<0)),Sz (raw (lim m)),Tk (decide ((n:Int)<0)),Sz (raw (lim n))] 3)):=by
  intro a2;obtain⟨q,r,h1,lq,lr,vq,vr,q1,r1⟩:=hd (lim m) (lim n) (qc _) (qc _) (by rw[qh];omega) lm ln;rw[qh,qh]at vr;have a1:=hQ m a2;refine⟨_,_,h1,_,_,up (xe false lr r1 (z:=((m%n:Nat):Int)) (by simp[vr])),⟨n,m%n,?_,?_,hn,by omega⟩,?_⟩
  .simp only[cI,cb,fx,fy]
  .rw[<-hg,im n,<-kO,im]
  .simp only[nth,toL,cb,Qf,qh];exact a1
 refine brd (λh=>?_) (λh=>?_)
 .have a2:0<n:=qC.1 (by omega);by_cases sm:m<1000000000000000000
  .rw[if_pos sm]at wm;by_cases sn:n<1000000000000000000
   .rw[if_pos sn]at wn;refine⟨_,_,up wm,_,_,up wn,?_⟩;refine⟨⟨m,n,rfl,hg,sm,sn⟩,?_⟩;rintro a b ⟨u,v,he,a3,hu,hv⟩;simp only[g5,U0,true_and,and_true]at he;obtain⟨rfl,rfl⟩:=he;refine brd (λh2=>?_) (λh2=>?_)
    .have a4:0<v:=by omega
     have e2:cm (u:Int) (v:Int)=((u%v:Nat):Int):=by rw[cp (by omega)];rfl
     have a1:=hQ u a4;rw[e2];refine⟨by omega,⟨v,u%v,rfl,by rw[<-a3,im v,<-kO,im],hv,by omega⟩,?_⟩;simp only[nth,toI,bF];exact a1
    .have a4:v=0:=by omega
     subst a4;rw[k0]at a3;subst a3;obtain⟨l1,l2⟩:=Zv (u:=u) (by omega);exact⟨_,up (Vg (by omega)),_,_,up (xe false l1 (by simp) (z:=(u:Int)) (by rw[l2];rfl)),rfl⟩
   .rw[if_neg sn]at wn;exact⟨_,_,up wm,_,_,up wn,a0 a2⟩
  .rw[if_neg sm]at wm;by_cases sn:n<1000000000000000000
   .rw[if_pos sn]at wn;exact⟨_,_,up wm,_,_,up wn,a0 a2⟩
   .rw[if_neg sn]at wn;exact⟨_,_,up wm,_,_,up wn,a0 a2⟩
 .have a2:n=0:=by
   rcases hH n with h0|h0
   .exact h0
   .have:=qC.2 h0;omega
  subst a2;rw[k0]at hg;subst hg;exact⟨⟨by unfold room;omega,zK _⟩,_,_,up (xe false (qc m) (by omega) (z:=(m:Int)) (by simp[qh])),rfl⟩
theorem kx (hd:Vi) {x y:Int} (hx:Sm x) (hy:Sm y) (hy0:0<y):Gives CC 308 [qN x,qN y] [qN (x/y),qN (x%y),.c (.int .i64 0)]:=by
 refine qj (anns:=an0) mixedT Tryz.func308 ?_;have lx:=hx.len;have ly:=hy.len;have hyn:y.natAbs≠0:=by omega
 have hlp:0<(lim y.natAbs).length:=qC.2 (by omega);obtain⟨q,r,h1,lq,lr,vq,vr,q1,r1⟩:=hd (lim x.natAbs) (lim y.natAbs) (qc _) (qc _) (by rw[qh];exact hyn) lx ly;rw[qh,qh]at vq vr;rw[show qN x= .ag (cI x)from rfl,show qN y= .ag (cI y)from rfl,cI,cI,L0];simp only[b9];obtain⟨a,ha⟩:∃a:Nat,x.natAbs=a:=⟨_,rfl⟩;obtain⟨b,hb⟩:∃b:Nat,y=(b:Int):=⟨y.natAbs,by omega⟩;have a1:y.natAbs=b:=by omega
 have hb0:0<b:=by omega
 rw[ha,a1]at vq vr;have hdm:=it a b;have hml:=hQ a hb0;refine brb (λh=>?_) (λ_=>?_)
 .rw[qg]at h;have:((lim y.natAbs).length:Int)=0:=by simpa using h
  omega
 have a3:decide (y<0)=false:=decide_eq_false (by omega);rw[a3];by_cases hx0:x<0
 .have hxt:decide (x<0)=true:=decide_eq_true hx0;rw[hxt];have a0:x= -(a:Int):=by omega
  have gq:=xe true lq q1 (z:= -((a/b:Nat):Int)) (by rw[vq];rfl);have gr:=xe true lr r1 (z:= -((a%b:Nat):Int)) (by rw[vr];rfl);refine⟨_,_,h1,_,_,up gq,_,_,up gr,?_⟩;have e0:(-((a%b:Nat):Int)).natAbs=a%b:=by rw[cg,cb]
  rw[qg];have hq:(a/b)<K3:=ky (Nat.div_le_self _ _) (ha▸hx);refine brd (λh=>brb (λh2=>?_) (λh2=>?_)) (λh=>?_)
  .rw[e0]at h;have a2:0<a%b:=qC.1 (by omega);have g1:=xu (n:=1) (by omega) (by omega);have sq:Sm (-((a/b:Nat):Int)):=by unfold Sm;rw[cg,cb];exact hq
   have s1:Sm 1:=by unfold Sm K3;exact k4 (by omega) (k4 (by omega) (by omega))
   have sr:Sm (-((a%b:Nat):Int)):=by unfold Sm;rw[cg,cb];exact Nat.lt_trans hml (a1▸hy)
   have gs:=Ly sq s1;have ga:=QA sr hy;have ga2:Gives CC 188 [qN (-((a%b:Nat):Int)),.ag [.bool false,.sl (raw (lim y.natAbs))]] [qN (-((a%b:Nat):Int)+y)]:=by have:=up ga;rw[show qN y= .ag (cI y)from rfl,cI,a3]at this;exact this
   refine⟨_,_,up g1,_,_,up gs,_,_,ga2,?_⟩
   .have e1:x/y= -((a/b:Nat):Int)-1/\x%y= -((a%b:Nat):Int)+y:=by
     have:=c5 (a:=x) (b:=y) (r:= -((a%b:Nat):Int)+y) (q:= -((a/b:Nat):Int)-1) hy0;refine this.2 ⟨?_,by omega,by omega⟩;rw[a0,hb];have h5:(b:Int)*(-((a/b:Nat):Int)-1)= -((b*(a/b):Nat):Int)-b:=by rw[Int.mul_sub,c4,Int.mul_one,c1]
     rw[h5];omega
    rw[e1.1,e1.2];rfl
  .exfalso;rw[e0]at h;have a2:0<a%b:=qC.1 (by omega);have:decide (-((a%b:Nat):Int)<0)=true:=decide_eq_true (by omega);rw[this]at h2;simp at h2
  .have a2:a%b=0:=by
    rcases hH (a%b)with h0|h0
    .exact h0
    .have:=qC.2 h0;rw[e0]at h;omega
   have e1:x/y= -((a/b:Nat):Int)/\x%y= -((a%b:Nat):Int):=by have:=c5 (a:=x) (b:=y) (r:= -((a%b:Nat):Int)) (q:= -((a/b:Nat):Int)) hy0;refine this.2 ⟨?_,by omega,by omega⟩;rw[a0,hb,c4,<-c1];omega
   rw[e1.1,e1.2];simp only[qN,cI,cg,cb]
 .have hxf:decide (x<0)=false:=decide_eq_false hx0;rw[hxf];have a0:x=(a:Int):=by omega
  have gq:=xe false lq q1 (z:=((a/b:Nat):Int)) (by rw[vq];rfl);have gr:=xe false lr r1 (z:=((a%b:Nat):Int)) (by rw[vr];rfl);refine⟨_,_,h1,_,_,up gq,_,_,up gr,?_⟩;have hrf:decide (((a%b:Nat):Int)<0)=false:=decide_eq_false (by omega);have e1:x/y=((a/b:Nat):Int)/\x%y=((a%b:Nat):Int):=by rw[a0,hb];exact⟨rfl,rfl⟩
  refine brd (λh=>brb (λh2=>?_) (λh2=>?_)) (λh=>?_)
  .rw[hrf]at h2;simp at h2
  .rw[e1.1,e1.2];rfl
  .rw[e1.1,e1.2];rfl
end Eng
end
section
namespace Eng
open Go Go.Proofs
variable [Env]
def cR (r:Rat):List D:=cI r.num++cI (r.den:Int)
def xy (r:Rat):A:= .ag (cR r)
omit [Env] in
theorem GC:Sm 1:=by unfold Sm;decide
theorem Xo:Gives CC 262 [] [qN 1]:=by
 refine qj (anns:=an0) mixedT Tryz.func262 ?_;rw[De];exact⟨_,_,up (xu (n:=1) (by omega) (by omega)),rfl⟩
theorem Vj (hd:Vi) {x y:Int} (hx:Sm x) (hy:Sm y) (hy0:0<y):Gives CC 271 [qN x,qN y] [qN (x/y)]:=by
 refine qj (anns:=an0) mixedT Tryz.func271 ?_;rw[show qN x= .ag (cI x)from rfl,show qN y= .ag (cI y)from rfl,cI,cI,P8];exact⟨_,_,_,_,_,kx hd hx hy hy0,rfl⟩
omit [Env] in
theorem GD {x:Int} (h:Sm x):Sm (-x):=by unfold Sm at *;rw[cg];exact h
omit [Env] in
theorem L1 {g:Nat} (hg:0<g):(kh (g:Int) 1 !=0)=decide (g≠1):=by
 unfold kh;by_cases h:g=1
 .subst h;rfl
 .rw[if_neg (by omega),if_pos (by omega),decide_eq_true h];rfl
omit [Env] in
theorem Zw {n d:Int} (hd:0<d):(lp n d).num=n/(hP n.natAbs d.natAbs:Nat)/\((lp n d).den:Int)=d/(hP n.natAbs d.natAbs:Nat):=by
 have e:d.gcd n=hP n.natAbs d.natAbs:=by rw[Int.gcd_comm];rfl
 refine⟨?_,?_⟩
 .rw[Rat.num_divInt,Int.sign_eq_one_of_pos hd,Int.one_mul,e]
 .rw[Rat.den_divInt,if_neg (by omega),e];obtain⟨k,rfl⟩:∃k:Nat,d=(k:Int):=⟨d.toNat,by omega⟩;rw[cb,Int.natCast_ediv]
omit [Env] in
theorem wb {n d:Int} (hd:0<d):xy (lp n d)= .ag (cI (n/(hP n.natAbs d.natAbs:Nat))++cI (d/(hP n.natAbs d.natAbs:Nat))):=by
 unfold xy cR;rw[(Zw hd).1,(Zw hd).2]
theorem kz (hd:Vi) {x y:Int} (hx:Sm x) (hy:Sm y) (hy0:y≠0):Gives CC 187 [qN x,qN y] [xy (lp x y)]:=by
 refine qj (anns:=an0) mixedT Tryz.func187 ?_;have hS:=up (Xn y);have a0:∀{u v:Int},Sm u->Sm v->0<v->∃g:Nat,g=hP u.natAbs v.natAbs/\Gives CC 270 [qN u,qN v] [qN (g:Int)]/\Gives CC 104 [qN (g:Int),qN 1] [.c (.int .i64 (kh g 1))]/\0<g/\Gives CC 271 [qN u,qN (g:Int)] [qN (u/g)]/\Gives CC 271 [qN v,qN (g:Int)] [qN (v/g)]:=by intro u v hu hv hv0;refine⟨_,rfl,Yp hd hu hv,?_⟩;have hgp:0<hP u.natAbs v.natAbs:=Nat.gcd_pos_of_pos_right _ (by omega);have a1:Sm (hP u.natAbs v.natAbs:Nat):=smN.2 (ky (Nat.gcd_le_right _ (by omega)) hv);exact⟨up (jP a1 GC),hgp,Vj hd hu a1 (by omega),Vj hd hv a1 (by omega)⟩
 rw[show qN x= .ag (cI x)from rfl,show qN y= .ag (cI y)from rfl];rw[cI,cI,Lz];refine⟨_,hS,?_⟩;refine brd (λh=>?_) (λh=>?_)
 .have a2:y<0:=by
   unfold sgn at h;split at h
   .assumption
   .split at h<;>omega
  obtain⟨g,hg,h1,h2,h3,h4,h5⟩:=a0 (GD hx) (GD hy) (by omega);refine⟨_,_,up (Q9 hx),_,_,up (Q9 hy),_,_,h1,_,_,Xo,_,h2,?_⟩;have he:xy (lp x y)= .ag (cI ((-x)/(g:Int))++cI ((-y)/(g:Int))):=by
   have:lp x y=lp (-x) (-y):=by rw[Rat.neg_divInt_neg]
   rw[this,wb (by omega),hg]
  refine brb (λh=>?_) (λh=>?_)
  .refine⟨_,_,h4,_,_,h5,?_⟩;rw[he];rfl
  .rw[L1 h3]at h;have:g=1:=by simpa using h
   rw[he,this];rw[show((1:Nat):Int)=1 from rfl,c2,c2];rfl
 .have a2:0<y:=by
   unfold sgn at h;split at h
   .omega
   .omega
  obtain⟨g,hg,h1,h2,h3,h4,h5⟩:=a0 hx hy a2;refine⟨_,_,h1,_,_,Xo,_,h2,?_⟩;have he:xy (lp x y)= .ag (cI (x/(g:Int))++cI (y/(g:Int))):=by rw[wb a2,hg]
  refine brb (λh=>?_) (λh=>?_)
  .refine⟨_,_,h4,_,_,h5,?_⟩;rw[he];rfl
  .rw[L1 h3]at h;have:g=1:=by simpa using h
   rw[he,this];rw[show((1:Nat):Int)=1 from rfl,c2,c2];rfl
end Eng
end
