import Derived.Test.YtmfkgpfkpnmdnaaGreatDoorEngE
import Derived.Deep.Slices
import Derived.OpenShut
import Derived.ChangeSame
import Derived.Carry
import Derived.RowKit
import Derived.Test.YtmfkgpfkpnmdnaaGreatDoorProg
import Derived.WalkKit
import Derived.LoopTactic
import Derived.KernelRfl
import Derived.IntWalk
open Bool renaming and_eq_true->Aw, false_eq_true->Bx, not_false->J3, false_and->J4, true_and->Lm, not_true->Lr
open Eng.A renaming ag->Ls, c->Lv
open Eng.D renaming int->P1, sl->Sz, bool->Tk
open Eng.D.int renaming injEq->U0
open Eng.D.sl renaming injEq->U3
open Go.DataW renaming TrodAll->V1, trod->W0, Whole->W1
open Go.IntKind renaming wrap->W2, u64->ba, wrap_u32->bc, signed->bd, bits->be, u32->bh, wrap_u64->bm
open Go.RowKit renaming intOf->bs
open Go.Value renaming int->bw, okWide->b6
open Int renaming ofNat->bF, toNat->cb, ofNat_eq_natCast->cg, toNat_natCast->cm, natAbs_natCast->cp, natAbs_neg->c0, tmod->c1, tmod_eq_emod_of_nonneg->c2, tdiv->c3, natCast_mul->c4, ediv_one->cF, tdiv_eq_ediv_of_nonneg->cH, mul_neg->cL, ediv_emod_unique->dc
open List renaming length->dl, replicate->dv, take_of_length_le->ec, drop_eq_getElem_cons->ed, getElem?_eq_getElem->eg, take_length->ei, length_take->el, getD->ep, append_nil->et, take_succ_eq_append_getElem->eu, drop_zero->ez, drop_eq_nil_of_le->e6, take->e7, drop->eH, map_cons->eL, eq_nil_of_length_eq_zero->eU, length_cons->fe, range->fg, take_append_drop->fk, mem_singleton->ft, cons_append->fx, nil_append->fy, mem_append->fR, getElem?_append_right->fS, mem_map->gb, length_eq_one_iff->gd, set_append_right->gm, length_singleton->gn, replicate_zero->gp, replicate_succ->gu, length_append->gx, getLast?_take->gy, mem_flatMap->gz, getElem_mem->g0, drop_length->g2, mem_range->g4, drop_drop->g5, take_add->g6
open List.cons renaming injEq->g7
open Nat renaming eq_of_beq_eq_true->hC, beq->hD, mul_add->hH, mul_assoc->hK, eq_zero_or_pos->hL, pow_le_pow_right->hM, mod_eq_of_lt->hO, mul_comm->hP, gcd->hQ, mod_lt->hU, pow_mul->hX, le_refl->ia, mul_le_mul_left->ib, pow_succ->ie, add_mul->im, gcd_comm->it, div_add_mod->iz, blt_eq->j2, lt_or_ge->j4, add_zero->kh, le_of_ble_eq_true->kk, div_lt_iff_lt_mul->ks, one_mul->ky, mul_le_mul_right->k0, lt_of_le_of_lt->k1, gcd_zero_right->k2, blt->k3, div_eq_of_lt->k4, min_eq_left->k5, one_lt_pow->k6, zero_mul->k7, zero_add->k8, le_of_lt->kH, zero_le->kO, pow_add->lg, gcd_rec->ll
open Option.some renaming injEq->lp, inj->ls
open Rat renaming divInt->l0
set_option maxRecDepth 1000000
section
namespace Eng
open Go Go.ChangeShapes Go.Deep Go.RowKit Go.WideShapes
variable [Env]
inductive CT where
 |int (k:IntKind)
 |bool
 |str
 |sl (es:List CT)
def yL (f:TypeId->Option (List CT)) (P:Program):List Field->Nat->Option (List CT)
 |[],_=>some []
 |x::r,off=>match f x.type with
  |some T=>match hD x.offset off&&hD (P.cellsOf x.type) T.length with
   |true=>match yL f P r (off+T.length)with
    |some R=>some (T++R)
    |none=>none
   |false=>none
  |none=>none
def aN:Nat->List CT->List CT
 |0,_=>[]
 |n+1,T=>T++aN n T
def zF (P:Program):Nat->TypeId->Option (List CT)
 |0,_=>none
 |m+1,t=>match P.underlying t with
  |some (.int k)=>some [.int k]
  |some .bool=>some [.bool]
  |some .string=>some [.str]
  |some (.struct fs)=>match yL (zF P m) P fs.toList 0 with
   |some T=>match hD (P.cellsOf t) T.length with
    |true=>some T
    |false=>none
   |none=>none
  |some (.array n e)=>match zF P m e with
   |some T=>match hD (P.cellsOf e) T.length&&hD (P.cellsOf t) (n*T.length)with
    |true=>some (aN n T)
    |false=>none
   |none=>none
  |some (.slice e)=>match zF P m e with
   |some T=>match hD (P.cellsOf e) T.length&&k3 0 T.length with
    |true=>some [.sl T]
    |false=>none
   |none=>none
  |_=>none
mutual
def QF:CT->D->Prop
 | .int k,d=>∃n,d= .int k n/\(Lit.int k n).wf=true
 | .bool,d=>∃b,d= .bool b
 | .str,d=>∃s,d= .str s/\s.length<=maxLen
 | .sl T,d=>∃es:List (List D),d= .sl es/\es.length<=maxLen/\∀r∈es,ww T r
def ww:List CT->List D->Prop
 |[],ds=>ds=[]
 |T::Ts,ds=>∃d r,ds=d::r/\QF T d/\ww Ts r
end
omit [Env] in
theorem ye:∀{T:List CT} {ds:List D},ww T ds->ds.length=T.length
 |[],ds,h=>by simp only[ww]at h;rw[h];rfl
 |_::T,ds,h=>by simp only[ww]at h;obtain⟨d,r,rfl,_,h2⟩:=h;simp[ye h2]
omit [Env] in
theorem yf:∀{T R:List CT} {ds es:List D},ww T ds->ww R es->ww (T++R) (ds++es)
 |[],R,ds,es,h,h'=>by simp only[ww]at h;rw[h];exact h'
 |_::T,R,ds,es,h,h'=>by simp only[ww]at h;obtain⟨d,r,rfl,h1,h2⟩:=h;show ww (_::(T++R)) (d::(r++es));rw[ww];exact⟨d,r++es,rfl,h1,yf h2 h'⟩
omit [Env] in
theorem Qp {size:Nat} (hs:0<size):∀{es:List (List D)},(∀r∈es,r.length=size)->∀j,j<es.length*size->nth .undef es.flatten j=nth .undef (nth [] es (j/size)) (j%size)
 |[],_,j,h=>by simp at h
 |r::es,hr,j,h=>by
  have hl:=hr r (by simp);rw[List.flatten_cons];by_cases hj:j<size
  .rw[k4 hj,hO hj];rw[qw,qw,List.getElem?_append_left (by omega)];rfl
  .have h2:=Qp hs (es:=es) (λr hr'=>hr r (by simp[hr'])) (j-size) (by
    rw[fe,im,ky]at h;omega)
   have e1:j/size=(j-size)/size+1:=by rw[<-Nat.div_eq_sub_div hs (by omega)]
   have e2:j%size=(j-size)%size:=Nat.mod_eq_sub_mod (by omega);rw[e1,e2];show _=nth .undef (nth [] es ((j-size)/size)) ((j-size)%size);rw[<-h2,qw,qw,fS (by omega),hl]
section
variable {H:Type} {enc:TypeId×Value->H} {P:Program} {w:World} {base:Nat} {spare:Nat->Bool} {held:Bool}
theorem Zd {f:TypeId->Option (List CT)} {F:Nat->Prop} {n:Nat} {cs:List Value}
 (hf:∀t T us x,f t=some T->W0 enc P w base spare held n t us=some x->∃ds,All2 (CD w F) ds us/\ww T ds):
 ∀(fs:List Field) (off:Nat) (T:List CT),yL f P fs off=some T->(∀x∈fs,∃y,W0 enc P w base spare held n x.type ((cs.drop x.offset).take (P.cellsOf x.type))=some y)->
  ∃ds,All2 (CD w F) ds ((cs.drop off).take T.length)/\ww T ds
 |[],off,T,h,_=>by simp only[yL,lp]at h;subst h;exact⟨[],by simp[All2],by simp[ww]⟩
 |x::fs,off,T,h,hy=>by
  simp only[yL]at h;split at h
  .rename_i T1 h1;split at h
   .rename_i hb;rw[Aw]at hb;have e1:=hC hb.1;have e2:=hC hb.2;split at h
    .rename_i R hR;simp only[lp]at h;subst h;obtain⟨y,hy1⟩:=hy x (by simp);rw[e1,e2]at hy1;obtain⟨ds1,a1,b1⟩:=hf _ _ _ _ h1 hy1;obtain⟨ds2,a2,b2⟩:=Zd hf fs _ R hR (λx hx=>hy x (by simp[hx]));refine⟨ds1++ds2,?_,yf b1 b2⟩;rw[gx,g6,g5];exact All2.append a1 a2
    .simp at h
   .simp at h
  .simp at h
omit [Env] in
theorem vL {R:D->Value->Prop} {T:List CT} {cs:List Value}:∀(n k:Nat),(∀i,i<n->∃ds,All2 R ds ((cs.drop ((k+i)*T.length)).take T.length)/\ww T ds)->
 ∃ds,All2 R ds ((cs.drop (k*T.length)).take (n*T.length))/\ww (aN n T) ds
 |0,k,_=>⟨[],by simp[All2],by simp[aN,ww]⟩
 |n+1,k,h=>by
  obtain⟨d1,a1,b1⟩:=h 0 (by omega);obtain⟨d2,a2,b2⟩:=vL n (k+1) (λi hi=>by
   have:=h (i+1) (by omega);rw[show k+(i+1)=k+1+i by omega]at this;exact this)
  refine⟨d1++d2,?_,yf b1 b2⟩;rw[show(n+1)*T.length=T.length+n*T.length by rw[im,ky,Nat.add_comm],g6,g5];rw[kh]at a1;rw[im,ky]at a2;exact All2.append a1 a2
theorem yM {F:Nat->Prop} (hF:∀b,b<w.heap.size->F b):∀(m:Nat) (t:TypeId) (T:List CT) (fuel:Nat) (cs:List Value) (x:DataW H×List MemPlace),zF P m t=some T->
 W0 enc P w base spare held fuel t cs=some x->∃ds,All2 (CD w F) ds cs/\ww T ds
 |0,_,_,_,_,_,h,_=>by simp[zF]at h
 |m+1,t,T,fuel,cs,x,h,ht=>by
  simp only[zF]at h;split at h
  .rename_i k hu;simp only[lp]at h;subst h;obtain⟨n,rfl,_,hw⟩:=DataW.trod_int hu ht;exact⟨[.int k n],⟨.int _ _,trivial⟩,by simp only[ww,QF];exact⟨_,_,rfl,⟨n,rfl,hw⟩,rfl⟩⟩
  .rename_i hu;simp only[lp]at h;subst h;obtain⟨b,rfl,_⟩:=DataW.trod_bool hu ht;exact⟨[.bool b],⟨.bool _,trivial⟩,by simp only[ww,QF];exact⟨_,_,rfl,⟨b,rfl⟩,rfl⟩⟩
  .rename_i hu;simp only[lp]at h;subst h;obtain⟨s,rfl,_,hs⟩:=DataW.trod_string hu ht;refine⟨[.str s.data.toList],⟨.str _,trivial⟩,?_⟩;simp only[ww,QF];refine⟨_,_,rfl,⟨_,rfl,?_⟩,rfl⟩;have:s.data.toList.length=s.size:=by simp
   rw[this];exact hs
  .rename_i fs hu;split at h
   .rename_i T' hT;split at h
    .rename_i hc;simp only[lp]at h;subst h;have hc:=hC hc;obtain⟨xs,n,_,_,ad,ap,hf⟩:=DataW.trod_struct hu ht;obtain⟨ds,h1,h2⟩:=Zd (cs:=cs) (n:=n) (F:=F) (λt T us x h1 h2=>yM hF m t T n us x h1 h2) fs.toList 0 T' hT (λf hf'=>by
      obtain⟨i,hi,rfl⟩:=List.mem_iff_getElem.1 hf';have:=hf i fs[i] (Array.getElem?_eq_getElem (by simpa using hi));rw[eg (by rw[ap];simpa using hi)]at this;exact⟨_,this⟩)
     rw[ez,ec (by omega)]at h1;exact⟨ds,h1,h2⟩
    .simp at h
   .simp at h
  .rename_i k e hu;split at h
   .rename_i T' hT;split at h
    .rename_i hc;simp only[lp]at h;subst h;rw[Aw]at hc;have a7:=hC hc.1;have a3:=hC hc.2;obtain⟨xs,n,_,_,ad,ap,hf⟩:=DataW.trod_array hu ht;obtain⟨ds,h1,h2⟩:=vL (R:=CD w F) (T:=T') (cs:=cs) k 0 (λi hi=>by
      have:=hf i hi;rw[eg (by omega),a7]at this;rw[k8];exact yM hF m e T' n _ _ hT this)
     rw[k7,ez,ec (by omega)]at h1;exact⟨ds,h1,h2⟩
    .simp at h
   .simp at h
  .rename_i e hu;split at h
   .rename_i T' hT;split at h
    .rename_i hc;simp only[lp]at h;subst h;rw[Aw]at hc;have a7:=hC hc.1;have a3:=hc.2;rw[j2]at a3;rcases open_slice hu ht with⟨rfl,_⟩|⟨a,a1,cap,k,n,Dd,Pl,rfl,_,hle,hcap,hk,_,hel⟩
     .exact⟨[.sl []],⟨.nil _ _,trivial⟩,by simp only[ww,QF];exact⟨_,_,rfl,⟨[],rfl,by simp,by simp⟩,rfl⟩⟩
     .by_cases hl0:a1=0
      .subst hl0;exact⟨[.sl []],⟨.nil _ _,trivial⟩,by simp only[ww,QF];exact⟨_,_,rfl,⟨[],rfl,by simp,by simp⟩,rfl⟩⟩
      .have hlk:a1<=k:=by rw[hk];split<;>omega
       have ag:∀i,i<a1->∃ds,(∀j,j<T'.length->∃v,w.cell? (a.add (i*T'.length+j))=some v/\CD w F (nth .undef ds j) v)/\ww T' ds:=by intro i hi;obtain⟨us,h1,h2⟩:=hel i (by omega);obtain⟨ds,h3,h4⟩:=yM hF m e T' n us _ hT h2;refine⟨ds,λj hj=>?_,h4⟩;rw[a7]at h1;obtain⟨_,hul,hc⟩:=World.cells?_some h1;have:=hc j hj;rw[add_add,eg (by omega)]at this;have h5:=All2.nth (.undef) undef ds us j h3 (by rw[ye h4];exact hj);rw[qk undef (show j<us.length by omega)]at h5;exact⟨_,this,h5⟩
       obtain⟨es,a6⟩:=choose_lt ag;have al:a.spot=none:=by
        obtain⟨v,h1,_⟩:=(a6 0 (by omega)).1 0 a3;simp only[k7,kh,Addr.add,if_true]at h1;unfold World.cell? at h1;split at h1
        .split at h1
         .simp at h1
         .rename_i hs;simpa using hs
        .simp at h1
       obtain⟨b,o,sp⟩:=a;simp only at al;subst al;have a5:∀j,(⟨b,o,none⟩:Addr).add j=⟨b,o+j,none⟩:=by
        intro j;unfold Addr.add;by_cases hj:j=0
        .subst hj;simp
        .rw[if_neg hj]
       have hb:b<w.heap.size:=by
        obtain⟨v,h1,_⟩:=(a6 0 (by omega)).1 0 a3;rw[a5]at h1;unfold World.cell? at h1;split at h1
        .rename_i hh;exact(Array.getElem?_eq_some_iff.1 hh).1
        .simp at h1
       have a0:((fg a1).map es).length=a1:=by simp
       have a2:∀r∈(fg a1).map es,r.length=T'.length:=by intro r hr;simp only[gb,g4]at hr;obtain⟨i,hi,rfl⟩:=hr;exact ye (a6 i hi).2
       have a4:∀j,j<a1*T'.length->∃v,w.cell? ⟨b,o+j,none⟩=some v/\CD w F (nth .undef ((fg a1).map es).flatten j) v:=by
        intro j hj;have hi:j/T'.length<a1:=by rw[ks a3];exact hj
        obtain⟨v,h1,h2⟩:=(a6 _ hi).1 (j%T'.length) (hU _ a3);rw[a5,hP,iz]at h1;refine⟨v,h1,?_⟩;rw[Qp a3 a2 j (by rw[a0];exact hj)];have:nth [] ((fg a1).map es) (j/T'.length)=es (j/T'.length):=by rw[qw];simp[hi]
        rw[this];exact h2
       obtain⟨vs,an⟩:=choose_lt a4;refine⟨[.sl ((fg a1).map es)],⟨?_,trivial⟩,?_⟩
       .have:=CD.sl (w:=w) (F:=F) ((fg a1).map es) b o cap T'.length vs (by rw[a0];exact hle) a2 (hF b hb) (λj hj=>(an j (by rw[a0]at hj;exact hj)).1) (λj hj=>(an j (by rw[a0]at hj;exact hj)).2);rw[a0]at this;exact this
       .simp only[ww,QF];refine⟨_,_,rfl,⟨_,rfl,by rw[a0];omega,λr hr=>?_⟩,rfl⟩;simp only[gb,g4]at hr;obtain⟨i,hi,rfl⟩:=hr;exact(a6 i hi).2
    .simp at h
   .simp at h
  .simp at h
end
end Eng
end
section
namespace Eng
open Go
theorem Ge:∀{T:List CT} {r:List D},ww T r->∀i,i<r.length->∃t,QF t (nth .undef r i)
 |[],r,h,i,hi=>by simp only[ww]at h;subst h;simp at hi
 |t::T,r,h,i,hi=>by
  simp only[ww]at h;obtain⟨d,r',rfl,h1,h2⟩:=h;cases i with
  |zero=>exact⟨t,h1⟩
  |succ i=>exact Ge h2 i (by simpa using hi)
theorem F5 {E E':Env} {w:World} {F:Nat->Prop} {d:D} {v:Value} (h: @CD E w F d v):∀T,QF T d-> @CD E' w F d v:=by
 induction h with
 |undef v h=>intro _ _;exact @CD.undef E' w F v h
 |bool b=>intro _ _;exact @CD.bool E' w F b
 |int k n=>intro _ _;exact @CD.int E' w F k n
 |str s=>intro _ _;exact @CD.str E' w F s
 |nil a c=>intro _ _;exact @CD.nil E' w F a c
 |nilI=>intro _ _;exact @CD.nilI E' w F
 |someI t v h=>intro _ _;exact @CD.someI E' w F t v h
 |nilP=>intro _ _;exact @CD.nilP E' w F
 |fn f=>intro _ _;exact @CD.fn E' w F f
 |map l r es cl hFr hb hm=>intro _ _;exact @CD.map E' w F l r es cl hFr hb hm
 |sl es b o c size vs hlc hs hFb hc _ ih=>
  intro T hT;refine @CD.sl E' w F es b o c size vs hlc hs hFb hc λj hj=>?_
  have a2:0<size:=by
   rcases hL size with e|e
   .subst e;omega
   .exact e
  have a1:j/size<es.length:=Nat.div_lt_of_lt_mul (by rw[hP];exact hj);have a0:nth [] es (j/size)∈es:=by rw[qw,eg a1];exact g0 a1
  cases T with
  |sl T'=>simp only[QF]at hT;obtain⟨es',e,_,hr⟩:=hT;cases e;obtain⟨t,ht⟩:=Ge (hr _ a0) (j%size) (by rw[hs _ a0];exact hU _ a2);rw[<-Qp a2 hs j hj]at ht;exact ih j hj t ht
  |int k=>simp only[QF]at hT;obtain⟨n,e,_⟩:=hT;cases e
  |bool=>simp only[QF]at hT;obtain⟨n,e⟩:=hT;cases e
  |str=>simp only[QF]at hT;obtain⟨n,e,_⟩:=hT;cases e
 |ptr cs b o vs hFb hc _ _=>
  intro T hT;cases T with
  |sl T'=>simp only[QF]at hT;obtain⟨n,e,_⟩:=hT;cases e
  |int k=>simp only[QF]at hT;obtain⟨n,e,_⟩:=hT;cases e
  |bool=>simp only[QF]at hT;obtain⟨n,e⟩:=hT;cases e
  |str=>simp only[QF]at hT;obtain⟨n,e,_⟩:=hT;cases e
 |clo f ps vs _ _=>
  intro T hT;cases T with
  |sl T'=>simp only[QF]at hT;obtain⟨n,e,_⟩:=hT;cases e
  |int k=>simp only[QF]at hT;obtain⟨n,e,_⟩:=hT;cases e
  |bool=>simp only[QF]at hT;obtain⟨n,e⟩:=hT;cases e
  |str=>simp only[QF]at hT;obtain⟨n,e,_⟩:=hT;cases e
 |tok p i v _ _=>
  intro T hT;cases T with
  |sl T'=>simp only[QF]at hT;obtain⟨n,e,_⟩:=hT;cases e
  |int k=>simp only[QF]at hT;obtain⟨n,e,_⟩:=hT;cases e
  |bool=>simp only[QF]at hT;obtain⟨n,e⟩:=hT;cases e
  |str=>simp only[QF]at hT;obtain⟨n,e,_⟩:=hT;cases e
end Eng
end
section
namespace Eng
open Go Go.RowKit Go.WideShapes Go.ChangeShapes
section
variable [Env] {H:Type} {enc:TypeId×Value->H} {P:Program}
omit [Env] in
theorem ZN {f:Func} {s:ChangeSpec} {apart fresh handsOn again:Bool} {W W':World} {args:Array Value} {v:Value} {ds gs:List (DataW H)} {before pa pv:List MemPlace}
 (hW:W1 enc P f.params.toList s.vars apart W args.toList ds gs before)
 (hres:∀(b:Nat) (sp:Nat->Bool) (hd:Bool),V1 enc P W' b sp hd f.resultTypes.toList (v.resultList f.resultTypes.size) (s.fn H (ds++gs)).results [])
 (hargs:∀sp:Nat->Bool,(∀p∈before,sp p.block=true)->V1 enc P W' 0 sp true f.params.toList args.toList (s.fn H (ds++gs)).args pa)
 (hvars:∀sp:Nat->Bool,(∀p∈before,sp p.block=true)->DataW.TrodVars enc P W' sp s.vars (s.fn H (ds++gs)).vars pv)
 (hps:before=pa++pv) (hb:Below W.heap.size W W')
 (hok:∀(j:Nat) (t:TypeId) (r:Value),f.resultTypes[j]? =some t->(v.resultList f.resultTypes.size)[j]? =some r->b6 P W' .any 0 t r):
 s.post enc P f apart fresh handsOn again W args v W':=by
 have a2:∀p∈before,p.block<W.heap.size:=λp hp=>hW.lt p hp
 have a0:∀p∈before,(λb=>decide (b<W.heap.size)) p.block=true:=λp hp=>by simpa using a2 p hp
 refine⟨ds,gs,before,[],pa,pv,hW,hres _ _ _,hargs _ a0,hvars _ a0,World.keptBut_mono (λp hp=>⟨hp,?_⟩) (hb.frame (· ∈before)),λ_=>?_⟩
 .rw[hps,fR]at hp;exact Or.inr hp
 .obtain⟨_,_,_,_,_,hz,hn⟩:=hW;refine⟨hok,_,_,([]++pa)++pv,⟨[]++pa,pv,trodAll_append (hargs _ (λ_ _=>rfl)) (hres _ _ _),hvars _ (λ_ _=>rfl),rfl,?_,?_⟩,?_⟩
  .intro b a3 hp;have a1:MemPlace.cell b a3∈before:=by rw[hps];simpa using hp
   rw[hb.frozen (a2 _ a1)];exact hz b a3 a1
  .intro ha;have:=hn ha;rw[hps]at this
   simpa using this
  .intro p hp _;rw[hps]
   simpa using hp
omit [Env] in
theorem yN (hl:laidOutB P=true) {W W':World} (hb:Below W.heap.size W W') {sp:Nat->Bool}:∀{ts:List TypeId} {vs:List Value} {ds:List (DataW H)} {ps:List MemPlace},
 (∀t∈ts,P.readableRec t=true/\t<P.types.size)->V1 enc P W 0 (λ_=>true) true ts vs ds ps->(∀x∈ps,x.block<W.heap.size)->(∀x∈ps,sp x.block=true)->
 V1 enc P W' 0 sp true ts vs ds ps
 |[],[],[],_,_,h,_,_=>h
 |t::ts,v::vs,d::ds,_,ht,h,hlt,hsp=>by obtain⟨p,q,h1,h2,rfl⟩:=h;refine⟨p,q,?_,yN hl hb (λt' h'=>ht t' (by simp[h'])) h2 (λx hx=>hlt x (by simp[hx])) (λx hx=>hsp x (by simp[hx])),rfl⟩;exact WideElems.Trod_stays hl (ht t (by simp)).1 (ht t (by simp)).2 h1 (λx hx=>hb.same (hlt x (by simp[hx]))) (λx hx=>hsp x (by simp[hx]))
 |[],[],_::_,_,_,h,_,_=>h.elim
 |[],_::_,_,_,_,h,_,_=>by cases ‹List (DataW H)› <;>exact h.elim
 |_::_,[],_,_,_,h,_,_=>by cases ‹List (DataW H)› <;>exact h.elim
 |_::_,_::_,[],_,_,h,_,_=>h.elim
def OH (P:Program) (m:Nat) (t:TypeId) (a:A):Prop:=
 ∃T,zF P m t=some T/\((wk P t=true/\∃ds,a= .ag ds/\ww T ds)\/(wk P t=false/\∃d,a= .c d/\ww T [d]))
omit [Env] in
theorem WS {n:Nat} {e t:TypeId} {w:World} {r:Reach} {b:Nat} {v:Value} (ht:P.underlying t=some (.array n e)) (h:b6 P w r b t v):∃cs,v= .agg cs/\cs.size=P.cellsOf t:=by
 simp only[b6,ht]at h;obtain⟨cs,h1,h2,_⟩:=h;exact⟨cs,h1,h2⟩
theorem OI {w:World} {F:Nat->Prop} (hF:∀b,b<w.heap.size->F b) {m base b0:Nat} {r:Reach} {sp:Nat->Bool} {held:Bool} {t:TypeId} {T:List CT} {v:Value} {d:DataW H} {p:List MemPlace}
 (hT:zF P m t=some T) (hv:b6 P w r b0 t v) (h:DataW.Trod enc P w base sp held t v d p):∃a,CA w F a v/\OH P m t a:=by
 obtain⟨a1,hf⟩:=h;obtain⟨ds,h1,h2⟩:=yM hF m t T a1 _ _ hT hf;have a0:v.cells= #[v]->wk P t=false->∃a,CA w F a v/\OH P m t a:=by intro hc ht;rw[hc]at h1;have hl:=h1.length;simp only[gn]at hl;obtain⟨d0,rfl⟩:=gd.1 hl;exact⟨.c d0,h1.1,T,hT,.inr ⟨ht,d0,rfl,h2⟩⟩
 have ag:∀cs,v= .agg cs->wk P t=true->∃a,CA w F a v/\OH P m t a:=by intro cs hc ht;subst hc;exact⟨.ag ds,⟨cs,rfl,h1⟩,T,hT,.inl ⟨ht,ds,rfl,h2⟩⟩
 cases m with
 |zero=>simp[zF]at hT
 |succ m=>
  simp only[zF]at hT;split at hT
  .rename_i k hu;obtain⟨n,rfl⟩:=okWide_int hu hv;exact a0 rfl (by unfold wk;rw[hu])
  .rename_i hu;obtain⟨b,rfl⟩:=okWide_bool hu hv;exact a0 rfl (by unfold wk;rw[hu])
  .rename_i hu;obtain⟨s,rfl⟩:=okWide_string hu hv;exact a0 rfl (by unfold wk;rw[hu])
  .rename_i fs hu;obtain⟨cs,rfl,_⟩:=okWide_struct hu hv;exact ag cs rfl (by unfold wk;rw[hu])
  .rename_i n e hu;obtain⟨cs,rfl,_⟩:=WS hu hv;exact ag cs rfl (by unfold wk;rw[hu])
  .rename_i e hu;obtain⟨a,len,cap,rfl⟩:=okWide_slice hu hv;exact a0 rfl (by unfold wk;rw[hu])
  .simp at hT
theorem WT {w:World} {F:Nat->Prop} (hF:∀b,b<w.heap.size->F b) {m base b0:Nat} {r:Reach} {sp:Nat->Bool} {held:Bool}:∀{ts:List TypeId} {vs:List Value} {ds:List (DataW H)} {ps:List MemPlace},
 (∀t∈ts,(zF P m t).isSome=true)->(∀(j:Nat) t v,ts[j]? =some t->vs[j]? =some v->b6 P w r b0 t v)->V1 enc P w base sp held ts vs ds ps->
 ∃as',All2 (CA w F) as' vs/\All2 (OH P m) ts as'
 |[],[],[],_,_,_,_=>⟨[],trivial,trivial⟩
 |t::ts,v::vs,d::ds,_,ht,hv,h=>by obtain⟨p,q,h1,h2,rfl⟩:=h;obtain⟨T,hT⟩:=Option.isSome_iff_exists.1 (ht t (by simp));obtain⟨a,e1,e2⟩:=OI hF hT (hv 0 t v rfl rfl) h1;obtain⟨as',e3,e4⟩:=WT hF (λt' h'=>ht t' (by simp[h'])) (λj t' v' h3 h4=>hv (j+1) t' v' (by simpa using h3) (by simpa using h4)) h2;exact⟨a::as',⟨e1,e3⟩,⟨e2,e4⟩⟩
 |[],[],_::_,_,_,_,h=>h.elim
 |[],_::_,_,_,_,_,h=>by cases ‹List (DataW H)› <;>exact h.elim
 |_::_,[],_,_,_,_,h=>by cases ‹List (DataW H)› <;>exact h.elim
 |_::_,_::_,[],_,_,_,h=>h.elim
omit [Env] in
theorem Kh {E E':Env} {w:World} {F:Nat->Prop}:∀{T:List CT} {ds:List D} {vs:List Value},ww T ds->All2 (@CD E w F) ds vs->All2 (@CD E' w F) ds vs
 |[],ds,vs,h,k=>by simp only[ww]at h;subst h;cases vs<;>first|trivial|exact k.elim
 |t::T,ds,vs,h,k=>by
  simp only[ww]at h;obtain⟨d,r,rfl,h1,h2⟩:=h;cases vs with
  |nil=>exact k.elim
  |cons v vs=>exact⟨F5 k.1 t h1,Kh h2 k.2⟩
omit [Env] in
theorem B3 {E E':Env} {w:World} {F:Nat->Prop} {m:Nat} {t:TypeId} {a:A} {v:Value} (h:OH P m t a) (k: @CA E w F a v): @CA E' w F a v:=by
 obtain⟨T,_,h⟩:=h;rcases h with⟨_,ds,rfl,h⟩|⟨_,d,rfl,h⟩
 .obtain⟨vs,e,k⟩:=k;exact⟨vs,e,Kh h k⟩
 .have:=Kh (E':=E') (vs:=[v]) h ⟨k,trivial⟩;exact this.1
omit [Env] in
theorem Gf {E E':Env} {w:World} {F:Nat->Prop} {m:Nat}:∀{ts:List TypeId} {al:List A} {vs:List Value},All2 (OH P m) ts al->All2 (@CA E w F) al vs->All2 (@CA E' w F) al vs
 |[],[],vs,_,k=>by cases vs<;>first|trivial|exact k.elim
 |t::ts,a::al,vs,h,k=>by
  cases vs with
  |nil=>exact k.elim
  |cons v vs=>exact⟨B3 h.1 k.1,Gf h.2 k.2⟩
 |[],_::_,_,h,_=>h.elim
 |_::_,[],_,h,_=>h.elim
theorem aO {C:Cx} {f:Nat} {fn:Func} {s:ChangeSpec} {m bt:Nat} {apart fresh handsOn again:Bool} (hl:laidOutB C.P=true) (hbt:C.P.underlying bt=some .bool)
 (hres:fn.resultTypes= #[bt]) (hrd:∀t∈fn.params.toList,C.P.readableRec t=true/\t<C.P.types.size/\(zF C.P m t).isSome=true)
 (hvars:s.vars=[]) (hfn:∀ds:List (DataW H),ds.length=fn.params.size->s.fn H ds={results:=[.lit (.bool true)],args:=ds})
 (hg:∀al:List A,All2 (OH C.P m) fn.params.toList al->∃E:Env, @Gives E C f al [.c (.bool true)])
 {W:World} {base:Nat} {args:Array Value} {ds gs:List (DataW H)} {before:List MemPlace} (hi:∀E:Env, @Inv E C (λb=>b<W.heap.size) W)
 (hval:∀(j:Nat) t v,fn.params[j]? =some t->args[j]? =some v->b6 C.P W .any base t v)
 (hW:W1 enc C.P fn.params.toList s.vars apart W args.toList ds gs before):
 Calls C.P f args W λe W'=>∃v,e= .returned v/\s.post enc C.P fn apart fresh handsOn again W args v W':=by
 have hW':=hW;have hlt:∀p∈before,p.block<W.heap.size:=λp hp=>hW.lt p hp
 obtain⟨p,q,hA,hV,rfl,hfz,hnd⟩:=hW;rw[hvars]at hV;have hgq:gs=[]/\q=[]:=by
  cases gs with
  |nil=>exact⟨rfl,hV⟩
  |cons g gs=>exact hV.elim
 obtain⟨rfl,rfl⟩:=hgq;have a0:ds.length=fn.params.size:=by
  have key:∀{ts:List TypeId} {vs:List Value} {ds:List (DataW H)} {ps:List MemPlace},V1 enc C.P W 0 (λ_=>true) true ts vs ds ps->ds.length=ts.length:=by
   intro ts
   induction ts with
   |nil=>intro vs ds ps h;cases vs<;>cases ds<;>first|rfl|exact h.elim
   |cons t ts ih=>
    intro vs ds ps h;cases vs with
    |nil=>cases ds<;>exact h.elim
    |cons v vs=>cases ds with
     |nil=>exact h.elim
     |cons d ds=>obtain⟨p,q,_,h2,_⟩:=h;simp[ih h2]
  rw[key hA];simp
 obtain⟨al,h1,h2⟩:=WT (F:=λb=>b<W.heap.size) (λ_ h=>h) (m:=m) (λt ht=>(hrd t ht).2.2) (λj t v h3 h4=>hval j t v (by simpa using h3) (by simpa using h4)) hA;obtain⟨E,hE⟩:=hg al h2;have hc:=hE W (λb=>b<W.heap.size) args.toList (λ_ h=>h) (hi E) (Gf h2 h1);have e0:args.toList.toArray=args:=by simp
 rw[e0]at hc;refine hc.mono λe W' he=>?_
 obtain⟨hb,v,rfl,hr⟩:=he;have hv:v= .bool true:=by have hr: @CD E _ _ (.bool true) v:=hr;cases hr;rfl
 subst hv;refine⟨_,rfl,ZN (pa:=p++[]) (pv:=[]) hW' ?_ ?_ ?_ (by simp) hb ?_⟩
 .intro b sp hd;rw[et,hfn ds a0,hres];exact trodAll_mk1 (shut_bool hbt true)
 .intro sp a1;rw[et,hfn ds a0,et];exact yN hl hb (λt ht=>⟨(hrd t ht).1,(hrd t ht).2.1⟩) hA (λx hx=>hlt x (by simp[hx])) (λx hx=>a1 x (by simp[hx]))
 .intro sp a1;rw[et,hfn ds a0,hvars];rfl
 .exact ok_one hres rfl (okWide_bool_mk hbt _)
end
end Eng
end
section
namespace Eng
open Go Go.Proofs Go.RowKit Go.Sort
variable [Env]
omit [Env] in
theorem j8 {us:List Int} {k:Nat} (h:k<us.length):us.drop k=us[k]::us.drop (k+1):=ed h
omit [Env] in
theorem Lb {done r:List Int} {x y:Int} {d:Array Int} (h:d.toList=done++x::r):(d.setIfInBounds done.length y).toList=(done++[y])++r:=by
 rw[Array.toList_setIfInBounds,h];simp
def Gg (by_:Int) (us vs:List Int) (d:Array Int) (k:Nat) (c b:Int):Prop:=
 ∃done:List Int,done.length=k/\d.toList=done++us.drop k/\ke by_ us vs 0 0=(done++(ke by_ (us.drop k) (vs.drop k) c b).1,(ke by_ (us.drop k) (vs.drop k) c b).2)
omit [Env] in
theorem Ze {by_:Int} {us vs:List Int} {d:Array Int} {k:Nat} {c b:Int} (h:Gg by_ us vs d k c b) (hk:k<us.length) {t z b':Int}
 (ht:t=aJ by_ c (vs.drop k))
 (hz:(ba.wrap us[k]<ba.wrap (t.tmod 1000000000+b)/\z=bh.wrap (ba.wrap (ba.wrap (ba.wrap us[k]+1000000000)-ba.wrap (t.tmod 1000000000+b)))/\b'=1)\/
  (¬ba.wrap us[k]<ba.wrap (t.tmod 1000000000+b)/\z=bh.wrap (ba.wrap (ba.wrap us[k]-ba.wrap (t.tmod 1000000000+b)))/\b'=0)):
 Gg by_ us vs (d.setIfInBounds k z) (k+1) (ba.wrap (t.tdiv 1000000000)) b':=by
 obtain⟨done,h1,h2,h3⟩:=h;refine⟨done++[z],by simp[h1],?_,?_⟩
 .rw[j8 hk]at h2;rw[<-h1];have:=Lb (y:=z) h2;rw[h1]at this ⊢;exact this
 .rw[h3,j8 hk];have ht2:(vs.drop k).tail=vs.drop (k+1):=by simp
  simp only[ke];rw[<-ht,ht2];rcases hz with⟨h4,h5,h6⟩|⟨h4,h5,h6⟩
  .have:decide (ba.wrap us[k]<ba.wrap (t.tmod 1000000000+b))=true:=by simpa using h4
   rw[this];subst h5 h6;simp
  .have:decide (ba.wrap us[k]<ba.wrap (t.tmod 1000000000+b))=false:=by simpa using h4
   rw[this];subst h5 h6;simp
omit [Env] in
theorem Lc {us done:List Int} {d:Array Int} {k:Nat} (h1:done.length=k) (h2:d.toList=done++us.drop k) (hk:k<us.length):d[k]! =us[k]:=by
 have hsz:d.size=us.length:=by have:=congrArg dl h2;simp at this;omega
 have:d.toList[k]? =some us[k]:=by rw[h2,fS (by omega),h1];simp[hk]
 have h3:d[k]? =some us[k]:=by simpa using this
 rw[getElem!_pos d k (by omega)];rw[Array.getElem?_eq_getElem (by omega)]at h3;exact ls h3
omit [Env] in
theorem Gh {us done:List Int} {d:Array Int} {k:Nat} (h1:done.length=k) (h2:d.toList=done++us.drop k) (hk:k<=us.length):d.size=us.length:=by
 have:=congrArg dl h2;simp at this;omega
omit [Env] in
set_option maxHeartbeats 2000000 in
set_option maxRecDepth 100000 in
theorem F6 {w:World} {g off cap bv ov cv:Nat} (us vs:List Int) (by_:Int) (hu:Holds (bw .u32) w g off us.toArray) (hb:bv≠g) (hnu:us.length<=1073741824) (hnv2:vs.length<=1073741824)
 (hv:∀j (h:j<vs.length),w.cell? ⟨bv,ov+j,none⟩=some (.int .u32 vs[j])):
 Calls Tryz.prog 336 #[.slice (some ⟨g,off,none⟩) us.length cap,.slice (some ⟨bv,ov,none⟩) vs.length cv,.int .u64 by_] w λe w'=>
  e= .returned (.bool (decide (0<(ke by_ us vs 0 0).2.2)||decide (0<(ke by_ us vs 0 0).2.1)))/\w'=putRow (bw .u32) w g off (ke by_ us vs 0 0).1.toArray:=by
 have Hu:Hid (Holds (bw .u32) w g off us.toArray):=hu;have Hv:Hid (∀j (h:j<vs.length),w.cell? ⟨bv,ov+j,none⟩=some (.int .u32 vs[j])):=hv;have a4:=putRow_self (bw .u32) w g off us.toArray hu;have an:Hid (putRow (bw .u32) w g off us.toArray=w):=a4;clear hu hv a4;obtain⟨nu,a7⟩:∃nu,nu=us.length:=⟨_,rfl⟩;obtain⟨nv,ad⟩:∃nv,nv=vs.length:=⟨_,rfl⟩;rw[<-a7,<-ad];have b2:Hid (nu=us.length):=a7;have b3:Hid (nv=vs.length):=ad;have hnu':nu<=1073741824:=by omega
 have hnv':nv<=1073741824:=by omega
 clear a7 ad hnu hnv2
 go_enter Tryz.func336,Tryz.ntmps336
 go_wp2
 go_loopw [7,8,15] (λc b i wr=>∃(k:Nat) (cc bb:Int) (d:Array Int),k<=nu/\i= .int .i64 k/\c= .int .u64 cc/\b= .int .u64 bb/\Gg by_ us vs d k cc bb/\wr=putRow (bw .u32) w g off d) (λ_ _ i _=>nu-(bs i).toNat)
 case atStart=>exact⟨0,0,0,us.toArray,kO _,rfl,rfl,rfl,⟨[],rfl,by simp,by simp⟩,an.out.symm⟩
 case round=>
  obtain⟨k,cc,bb,d,hk,rfl,rfl,rfl,a3,b5⟩:=hrel;have a1:Hid (Gg by_ us vs d k cc bb):=a3;have ag:Hid (wr=putRow (bw .u32) w g off d):=b5;clear a3 b5;by_cases hlt:k<nu
  .have a0:k<us.length:=by rw[<-b2.out];exact hlt
   obtain⟨done,h1,h2,_⟩:=a1.out;have b4:=Gh h1 h2 (kH a0);have ap:wr.cell? ⟨g,off+k,none⟩=some (.int .u32 us[k]):=by rw[ag.out,cell?_putRow (bw .u32) w g off us.toArray d Hu.out (by simpa using b4) k (by omega),Lc h1 h2 a0]
   have hfz:wr.frozen? ⟨g,off+k,none⟩=false:=by rw[ag.out,frozen?_putRow];exact(Hu.out k (by simpa using a0)).2
   have a5:∀z,wr.setCell ⟨g,off+k,none⟩ (.int .u32 z)=putRow (bw .u32) w g off (d.setIfInBounds k z):=λz=>by rw[ag.out];exact putRow_set (bw .u32) w g off d k z (by omega)
   have a2:Hid (∀z,wr.setCell ⟨g,off+k,none⟩ (.int .u32 z)=putRow (bw .u32) w g off (d.setIfInBounds k z)):=a5;obtain⟨x,hx⟩:∃x,us[k]=x:=⟨_,rfl⟩;rw[hx]at ap;have Hx:Hid (us[k]=x):=hx;clear a5 h1 h2 b4 hx;by_cases hlv:k<nv
   .have b1:k<vs.length:=by rw[<-b3.out];exact hlv
    have a6:wr.cell? ⟨bv,ov+k,none⟩=some (.int .u32 vs[k]):=by rw[ag.out,cell?_putRow_other _ _ _ _ _ _ (.inl hb)];exact Hv.out k b1
    obtain⟨y,hy⟩:∃y,vs[k]=y:=⟨_,rfl⟩;rw[hy]at a6;have Hy:Hid (vs.drop k=y::vs.drop (k+1)):=by rw[<-hy];exact j8 b1
    clear hy
    go_wp2
    all_goals
     go_roundw
     case rel=>
      refine⟨k+1,_,_,_,by omega,by go_num,rfl,rfl,Ze a1.out a0 (t:=ba.wrap (cc+ba.wrap (ba.wrap y*by_))) (by rw[Hy.out];rfl) ?_,a2.out _⟩
      first
       |exact .inl ⟨by rw[Hx.out];assumption,by rw[Hx.out,bc],rfl⟩
       |exact .inr ⟨by rw[Hx.out];omega,by rw[Hx.out,bc],rfl⟩
     case measure=>simp[bs];omega
   .have Hy:Hid (vs.drop k=[]):=by
     have:vs.length<=k:=by rw[<-b3.out];omega
     exact e6 this
    go_wp2
    all_goals
     go_roundw
     case rel=>
      refine⟨k+1,_,_,_,by omega,by go_num,rfl,rfl,Ze a1.out a0 (t:=cc) (by rw[Hy.out];rfl) ?_,a2.out _⟩
      first
       |exact .inl ⟨by rw[Hx.out];assumption,by rw[Hx.out,bc],rfl⟩
       |exact .inr ⟨by rw[Hx.out];omega,by rw[Hx.out,bc],rfl⟩
     case measure=>simp[bs];omega
  .have hkn:us.length<=k:=by rw[<-b2.out];omega
   have b0:ke by_ us vs 0 0=(d.toList,cc,bb):=by obtain⟨done,h1,h2,h3⟩:=a1.out;have:us.drop k=[]:=e6 hkn;rw[this]at h2 h3;rw[h3,h2];simp[ke]
   have al:Hid (ke by_ us vs 0 0=(d.toList,cc,bb)):=b0;clear b0;by_cases hbb:0<bb
   .go_wp2
    go_ret
    rw[al.out];refine⟨?_,?_⟩
    .simp[hbb]
    .rw[ag.out]
   .have hbb':decide (0<bb)=false:=by simpa using hbb
    go_wp2
    go_ret
    rw[al.out];refine⟨?_,?_⟩
    .simp;exact λh=>absurd h (by omega)
    .rw[ag.out]
def Gi (us vs:List Int) (d:Array Int) (k:Nat) (c:Int):Prop:=
 ∃done:List Int,done.length=k/\d.toList=done++us.drop k/\Z9 us vs 0=done++Z9 (us.drop k) (vs.drop k) c
omit [Env] in
theorem Zf {us vs:List Int} {d:Array Int} {k:Nat} {c:Int} (h:Gi us vs d k c) (hk:k<us.length) {t z c':Int}
 (ht:t=Br us[k] c (vs.drop k)) (hz:(1000000000<=t/\z=bh.wrap (t-1000000000)/\c'=1)\/(¬1000000000<=t/\z=t/\c'=0)):
 Gi us vs (d.setIfInBounds k z) (k+1) c':=by
 obtain⟨done,h1,h2,h3⟩:=h;refine⟨done++[z],by simp[h1],?_,?_⟩
 .rw[j8 hk]at h2;rw[<-h1];have:=Lb (y:=z) h2;rw[h1]at this ⊢;exact this
 .rw[h3,j8 hk];have ht2:(vs.drop k).tail=vs.drop (k+1):=by simp
  simp only[Z9];rw[<-ht,ht2];rcases hz with⟨h4,h5,h6⟩|⟨h4,h5,h6⟩
  .have:decide (1000000000<=t)=true:=by simpa using h4
   rw[this];subst h5 h6;simp
  .have:decide (1000000000<=t)=false:=by simpa using h4
   rw[this];subst h5 h6;simp
omit [Env] in
set_option maxHeartbeats 2000000 in
set_option maxRecDepth 100000 in
theorem F7 {w:World} {g off cap bv ov cv:Nat} (us vs:List Int) (hu:Holds (bw .u32) w g off us.toArray) (hb:bv≠g) (hnu:us.length<=1073741824) (hnv2:vs.length<=1073741824)
 (hv:∀j (h:j<vs.length),w.cell? ⟨bv,ov+j,none⟩=some (.int .u32 vs[j])):
 Calls Tryz.prog 337 #[.slice (some ⟨g,off,none⟩) us.length cap,.slice (some ⟨bv,ov,none⟩) vs.length cv] w λe w'=>
  e= .returned (.tuple #[])/\w'=putRow (bw .u32) w g off (Z9 us vs 0).toArray:=by
 have Hu:Hid (Holds (bw .u32) w g off us.toArray):=hu;have Hv:Hid (∀j (h:j<vs.length),w.cell? ⟨bv,ov+j,none⟩=some (.int .u32 vs[j])):=hv;have a4:=putRow_self (bw .u32) w g off us.toArray hu;have ag:Hid (putRow (bw .u32) w g off us.toArray=w):=a4;clear hu hv a4;obtain⟨nu,a7⟩:∃nu,nu=us.length:=⟨_,rfl⟩;obtain⟨nv,ad⟩:∃nv,nv=vs.length:=⟨_,rfl⟩;rw[<-a7,<-ad];have b2:Hid (nu=us.length):=a7;have b3:Hid (nv=vs.length):=ad;have hnu':nu<=1073741824:=by omega
 have hnv':nv<=1073741824:=by omega
 clear a7 ad hnu hnv2
 go_enter Tryz.func337,Tryz.ntmps337
 go_wp2
 go_loopw [4,9] (λc i wr=>∃(k:Nat) (cc:Int) (d:Array Int),k<=nu/\i= .int .i64 k/\c= .int .u32 cc/\Gi us vs d k cc/\wr=putRow (bw .u32) w g off d) (λ_ i _=>nu-(bs i).toNat)
 case atStart=>exact⟨0,0,us.toArray,kO _,rfl,rfl,⟨[],rfl,by simp,by simp⟩,ag.out.symm⟩
 case round=>
  obtain⟨k,cc,d,hk,rfl,rfl,a3,b5⟩:=hrel;have a1:Hid (Gi us vs d k cc):=a3;have al:Hid (wr=putRow (bw .u32) w g off d):=b5;clear a3 b5;by_cases hlt:k<nu
  .have a0:k<us.length:=by rw[<-b2.out];exact hlt
   obtain⟨done,h1,h2,_⟩:=a1.out;have b4:=Gh h1 h2 (kH a0);have an:wr.cell? ⟨g,off+k,none⟩=some (.int .u32 us[k]):=by rw[al.out,cell?_putRow (bw .u32) w g off us.toArray d Hu.out (by simpa using b4) k (by omega),Lc h1 h2 a0]
   have hfz:wr.frozen? ⟨g,off+k,none⟩=false:=by rw[al.out,frozen?_putRow];exact(Hu.out k (by simpa using a0)).2
   have a5:∀z,wr.setCell ⟨g,off+k,none⟩ (.int .u32 z)=putRow (bw .u32) w g off (d.setIfInBounds k z):=λz=>by rw[al.out];exact putRow_set (bw .u32) w g off d k z (by omega)
   have a2:Hid (∀z,wr.setCell ⟨g,off+k,none⟩ (.int .u32 z)=putRow (bw .u32) w g off (d.setIfInBounds k z)):=a5;obtain⟨x,hx⟩:∃x,us[k]=x:=⟨_,rfl⟩;rw[hx]at an;have Hx:Hid (us[k]=x):=hx;clear a5 h1 h2 b4 hx;by_cases hlv:k<nv
   .have b0:k<vs.length:=by rw[<-b3.out];exact hlv
    have a6:wr.cell? ⟨bv,ov+k,none⟩=some (.int .u32 vs[k]):=by rw[al.out,cell?_putRow_other _ _ _ _ _ _ (.inl hb)];exact Hv.out k b0
    obtain⟨y,hy⟩:∃y,vs[k]=y:=⟨_,rfl⟩;rw[hy]at a6;have Hy:Hid (vs.drop k=y::vs.drop (k+1)):=by rw[<-hy];exact j8 b0
    clear hy
    go_wp2
    all_goals
     go_roundw
     case rel=>
      refine⟨k+1,_,_,by omega,by go_num,rfl,Zf a1.out a0 (t:=(x+cc+y)%4294967296) (by rw[Hy.out,Hx.out];simp only[Br,bc];omega) ?_,a2.out _⟩;simp only[bc]
      first
       |exact .inl ⟨by omega,by omega,trivial⟩
       |exact .inr ⟨by omega,trivial,trivial⟩
     case measure=>simp[bs];omega
   .have Hy:Hid (vs.drop k=[]):=by
     have:vs.length<=k:=by rw[<-b3.out];omega
     exact e6 this
    go_wp2
    all_goals
     go_roundw
     case rel=>
      refine⟨k+1,_,_,by omega,by go_num,rfl,Zf a1.out a0 (t:=(x+cc)%4294967296) (by rw[Hy.out,Hx.out];simp only[Br,bc]) ?_,a2.out _⟩;simp only[bc]
      first
       |exact .inl ⟨by omega,by omega,trivial⟩
       |exact .inr ⟨by omega,trivial,trivial⟩
     case measure=>simp[bs];omega
  .have hkn:us.length<=k:=by rw[<-b2.out];omega
   have ap:Z9 us vs 0=d.toList:=by obtain⟨done,h1,h2,h3⟩:=a1.out;have:us.drop k=[]:=e6 hkn;rw[this]at h2 h3;rw[h3,h2];simp[Z9]
   have b1:Hid (Z9 us vs 0=d.toList):=ap;clear ap
   go_wp2
   go_end0
   rw[b1.out];exact⟨rfl,by rw[al.out]⟩
omit [Env] in
theorem aQ:SubK Tryz.prog 336 337 where
 there f hf:=by
  rcases hf with rfl|rfl
  .exact⟨_,Tryz.func336,by simp[Tryz.f336],by decide⟩
  .exact⟨_,Tryz.func337,by simp[Tryz.f337],by decide⟩
 sub us vs n h1 h2 h3 h4 h5:=F6 us vs n h1 h2 h3 h4 h5
 res us vs h1 h2 h3 h4 h5:=F7 us vs h1 h2 h3 h4 h5
end Eng
end
section
namespace Eng
open Go Go.Proofs Go.RowKit
variable [Env]
def RO:A->Option Value
 | .c (.int k n)=>some (.int k n)
 | .c (.bool b)=>some (.bool b)
 | .c (.str s)=>some (.string ⟨⟨s⟩⟩)
 |_=>none
theorem Ld {w:World} {F:Nat->Prop} {a:A} {v u:Value} (h:RO a=some v) (hc:CA w F a u):u=v:=by
 unfold RO at h;split at h<;>simp only[lp,reduceCtorEq]at h<;>subst h<;>cases(hc:CD _ _ _ _)<;>rfl
noncomputable def C0:Cx:=⟨Tryz.prog,λ_=>none,λ_=>false,λ_=>none,λ_ _=>false,λ_=>false⟩
def noT:Nat->List A->Option (List A):=λ_ _=>none
omit [Env] in
theorem mixedT:Tryz.prog.follows .mixedOrders=true:=by kernel_rfl
instance:EffOk C0:=xd λf e h=>by simp[C0]at h
end Eng
end
section
namespace Eng
abbrev bB (b:Bool) (X Y:Prop):Prop:=br (toB (.bool b)) X Y
abbrev aR (x:R4):A:= .ag (rk x [])
abbrev aT (x y z:R4):A:= .ag (rk x (rk y (rk z [])))
abbrev aV (x y:R4):A:= .ag (rk x (rk y []))
abbrev aP (x:P20):A:= .ag (pk x [])
abbrev aI (n:Int):A:= .c (.int .i64 n)
abbrev aB (b:Bool):A:= .c (.bool b)
abbrev aL (l:List (List D)):A:= .c (.sl l)
abbrev aZ (b:Bool) (l:List (List D)):A:= .ag [.bool b,.sl l]
abbrev dI (n:Int):D:= .int .i64 n
end Eng
end
section
open Go Go.Proofs Eng
namespace Eng
section
variable (Gv:Nat->List A->List A->Prop) (I0:List D->List D->Prop) (M0:List D->Nat) (I1:List D->List D->Prop) (M1:List D->Nat) (I2:List D->List D->Prop) (M2:List D->Nat) (I3:List D->List D->Prop) (M3:List D->Nat) (Q:List A->Prop)
theorem B4 (es:List (List D)):wpF C0 Gv (λ_=>⟨[.slot 0 (.slice none 0 0)],[],I0,M0⟩) Tryz.f214 [.c (.sl es)] Q=(I0 [] [Sz es]/\∀(es:List (List D)),I0 [] [Sz es]->bB (decide ((bF es.length)>0)) ((0<=W2 .i64 ((bF es.length)-1)/\W2 .i64 ((bF es.length)-1)<(bF es.length)/\dl (nth [] es (cb (W2 .i64 ((bF es.length)-1))))=1)/\∃n,cut (nth [] es (cb (W2 .i64 ((bF es.length)-1)))) 0 1 [P1 .u32 n]/\bB (n==0) (((0:Int)<=(0:Int)/\0<=W2 .i64 ((bF es.length)-1)/\W2 .i64 ((bF es.length)-1)<=(bF es.length)/\lens 1 es)/\I0 [] [Sz (eH 0 (e7 (cb (W2 .i64 ((bF es.length)-1))) es))]/\M0 [Sz (eH 0 (e7 (cb (W2 .i64 ((bF es.length)-1))) es))]<M0 [Sz es]) (Q [aL es])) (Q [aL es])):=by kernel_rfl
theorem HI (es fs:List (List D)):wpF C0 Gv (λ_=>⟨[.slot 5 (.int .i64 0)],[],I0,M0⟩) Tryz.f145 [.c (.sl es),.c (.sl fs)] Q=(∃e1,Gv 214 [aL es] [aL e1]/\∃es,Gv 214 [aL fs] [aL es]/\bB ((bF e1.length) !=(bF es.length)) (bB (decide ((bF e1.length)<(bF es.length))) (Q [aI (-1:Int)]) (Q [aI (1:Int)])) (I0 [] [dI (W2 .i64 ((bF e1.length)-1))]/\∀(n:Int),I0 [] [dI n]->bB (decide (n>=0)) ((0<=n/\n<(bF e1.length)/\dl (nth [] e1 (cb n))=1)/\∃n1,cut (nth [] e1 (cb n)) 0 1 [P1 .u32 n1]/\(0<=n/\n<(bF es.length)/\dl (nth [] es (cb n))=1)/\∃n2,cut (nth [] es (cb n)) 0 1 [P1 .u32 n2]/\bB (decide (n1<n2)) (Q [aI (-1:Int)]) ((0<=n/\n<(bF e1.length)/\dl (nth [] e1 (cb n))=1)/\∃n3,cut (nth [] e1 (cb n)) 0 1 [P1 .u32 n3]/\(0<=n/\n<(bF es.length)/\dl (nth [] es (cb n))=1)/\∃n4,cut (nth [] es (cb n)) 0 1 [P1 .u32 n4]/\bB (decide (n3>n4)) (Q [aI (1:Int)]) (I0 [] [dI (W2 .i64 (n-1))]/\M0 [dI (W2 .i64 (n-1))]<M0 [dI n]))) (Q [aI (0:Int)]))):=by kernel_rfl
theorem Lf (b:Bool) (es:List (List D)):wpF C0 Gv (λ_=>⟨[.slot 5 (.int .i64 0)],[],I0,M0⟩) Tryz.f146 [.c (.bool b),.c (.sl es)] Q=(I0 [] [dI (bF es.length)]/\∀(n:Int),I0 [] [dI n]->bB (decide (n>0)) ((0<=W2 .i64 (n-1)/\W2 .i64 (n-1)<(bF es.length)/\dl (nth [] es (cb (W2 .i64 (n-1))))=1)/\∃n1,cut (nth [] es (cb (W2 .i64 (n-1)))) 0 1 [P1 .u32 n1]/\bB (n1==0) (I0 [] [dI (W2 .i64 (n-1))]/\M0 [dI (W2 .i64 (n-1))]<M0 [dI n]) (br b (((0:Int)<=(0:Int)/\0<=n/\n<=n/\n<=(bF es.length)/\lens 1 es)/\Q [aZ (decide (n>0)) (eH 0 (e7 (cb n) es))]) (((0:Int)<=(0:Int)/\0<=n/\n<=n/\n<=(bF es.length)/\lens 1 es)/\Q [aZ false (eH 0 (e7 (cb n) es))]))) (br b (((0:Int)<=(0:Int)/\0<=n/\n<=n/\n<=(bF es.length)/\lens 1 es)/\Q [aZ (decide (n>0)) (eH 0 (e7 (cb n) es))]) (((0:Int)<=(0:Int)/\0<=n/\n<=n/\n<=(bF es.length)/\lens 1 es)/\Q [aZ false (eH 0 (e7 (cb n) es))]))):=by kernel_rfl
theorem OJ (n:Int):wpF C0 Gv an0 Tryz.f203 [.c (.int .u64 n)] Q=((1000000000:Int)≠(0:Int)/\(1000000000:Int)≠(0:Int)/\(1000000000:Int)≠(0:Int)/\(1000000000:Int)≠(0:Int)/\(1000000000:Int)≠(0:Int)/\Q [aL [[P1 .u32 (W2 .u32 (c1 n (1000000000:Int)))],[P1 .u32 (W2 .u32 (c1 (W2 .u64 (c3 n (1000000000:Int))) (1000000000:Int)))],[P1 .u32 (W2 .u32 (W2 .u64 (c3 (W2 .u64 (c3 n (1000000000:Int))) (1000000000:Int))))]]]):=by kernel_rfl
theorem WU (n:Int):wpF C0 Gv an0 Tryz.f132 [.c (.int .i64 n)] Q=(bB (decide (n<0)) (∃es,Gv 203 [Lv (P1 .u64 (W2 .u64 (0-W2 .u64 n)))] [aL es]/\∃b e1,Gv 146 [aB (decide (n<0)),aL es] [aZ b e1]/\Q [aZ b e1]) (∃es,Gv 203 [Lv (P1 .u64 (W2 .u64 n))] [aL es]/\∃b e1,Gv 146 [aB (decide (n<0)),aL es] [aZ b e1]/\Q [aZ b e1])):=by kernel_rfl
theorem B5 (p:Bool) (es:List (List D)):wpF C0 Gv an0 Tryz.f267 [.ag [.bool p,.sl es]] Q=(bB ((bF es.length)==0) (Q [Lv (P1 .u64 0),aB true]) (bB ((bF es.length)==1) (((0:Int)<=(0:Int)/\0<(bF es.length)/\dl (nth [] es 0)=1)/\∃n,cut (nth [] es 0) 0 1 [P1 .u32 n]/\Q [Lv (P1 .u64 (W2 .u64 n)),aB true]) (bB ((bF es.length)==2) (((0:Int)<=(1:Int)/\1<(bF es.length)/\dl (nth [] es 1)=1)/\∃n,cut (nth [] es 1) 0 1 [P1 .u32 n]/\((0:Int)<=(0:Int)/\0<(bF es.length)/\dl (nth [] es 0)=1)/\∃n1,cut (nth [] es 0) 0 1 [P1 .u32 n1]/\Q [Lv (P1 .u64 (W2 .u64 (W2 .u64 (W2 .u64 n*1000000000)+W2 .u64 n1))),aB true]) (Q [Lv (P1 .u64 0),aB false])))):=by kernel_rfl
theorem B6 (p:Bool) (es:List (List D)):wpF C0 Gv an0 Tryz.f144 [.ag [.bool p,.sl es]] Q=(br p (Q [aI (-1:Int)]) (bB (decide ((bF es.length)>0)) (Q [aI (1:Int)]) (Q [aI (0:Int)]))):=by kernel_rfl
theorem F8 (p q:Bool) (es fs:List (List D)):wpF C0 Gv an0 Tryz.f79 [.ag [.bool p,.sl es],.ag [.bool q,.sl fs]] Q=(bB (!p==q) (br p (Q [aI (-1:Int)]) (Q [aI (1:Int)])) (br p (∃n,Gv 145 [aL fs,aL es] [aI n]/\Q [aI n]) (∃n,Gv 145 [aL es,aL fs] [aI n]/\Q [aI n]))):=by kernel_rfl
theorem Lg (es fs:List (List D)):wpF C0 Gv (λ_=>⟨[.own 5 53 1,.slot 6 (.int .u32 0),.slot 22 (.int .i64 0)],[],I0,M0⟩) Tryz.f212 [.c (.sl es),.c (.sl fs)] Q=(bB (decide ((bF es.length)<(bF fs.length))) (((0:Int)<=(0:Int)/\0<=W2 .i64 ((bF fs.length)+1)/\room (cb (W2 .i64 ((bF fs.length)+1))))/\I0 [] [Sz [],P1 .u32 0,dI (0:Int)]/\∀(e1:List (List D)) (n n1:Int),I0 [] [Sz e1,P1 .u32 n,dI n1]->bB (decide (n1<(bF fs.length))) ((0<=n1/\n1<(bF fs.length)/\dl (nth [] fs (cb n1))=1)/\∃n2,cut (nth [] fs (cb n1)) 0 1 [P1 .u32 n2]/\bB (decide (n1<(bF es.length))) ((0<=n1/\n1<(bF es.length)/\dl (nth [] es (cb n1))=1)/\∃n3,cut (nth [] es (cb n1)) 0 1 [P1 .u32 n3]/\bB (decide (W2 .u32 (W2 .u32 (n2+n)+n3)>=1000000000)) ((room (e1.length+1)/\lens 1 [[P1 .u32 (W2 .u32 (W2 .u32 (W2 .u32 (n2+n)+n3)-1000000000))]])/\I0 [] [Sz (e1++[[P1 .u32 (W2 .u32 (W2 .u32 (W2 .u32 (n2+n)+n3)-1000000000))]]),P1 .u32 1,dI (W2 .i64 (n1+1))]/\M0 [Sz (e1++[[P1 .u32 (W2 .u32 (W2 .u32 (W2 .u32 (n2+n)+n3)-1000000000))]]),P1 .u32 1,dI (W2 .i64 (n1+1))]<M0 [Sz e1,P1 .u32 n,dI n1]) ((room (e1.length+1)/\lens 1 [[P1 .u32 (W2 .u32 (W2 .u32 (n2+n)+n3))]])/\I0 [] [Sz (e1++[[P1 .u32 (W2 .u32 (W2 .u32 (n2+n)+n3))]]),P1 .u32 0,dI (W2 .i64 (n1+1))]/\M0 [Sz (e1++[[P1 .u32 (W2 .u32 (W2 .u32 (n2+n)+n3))]]),P1 .u32 0,dI (W2 .i64 (n1+1))]<M0 [Sz e1,P1 .u32 n,dI n1])) (bB (decide (W2 .u32 (n2+n)>=1000000000)) ((room (e1.length+1)/\lens 1 [[P1 .u32 (W2 .u32 (W2 .u32 (n2+n)-1000000000))]])/\I0 [] [Sz (e1++[[P1 .u32 (W2 .u32 (W2 .u32 (n2+n)-1000000000))]]),P1 .u32 1,dI (W2 .i64 (n1+1))]/\M0 [Sz (e1++[[P1 .u32 (W2 .u32 (W2 .u32 (n2+n)-1000000000))]]),P1 .u32 1,dI (W2 .i64 (n1+1))]<M0 [Sz e1,P1 .u32 n,dI n1]) ((room (e1.length+1)/\lens 1 [[P1 .u32 (W2 .u32 (n2+n))]])/\I0 [] [Sz (e1++[[P1 .u32 (W2 .u32 (n2+n))]]),P1 .u32 0,dI (W2 .i64 (n1+1))]/\M0 [Sz (e1++[[P1 .u32 (W2 .u32 (n2+n))]]),P1 .u32 0,dI (W2 .i64 (n1+1))]<M0 [Sz e1,P1 .u32 n,dI n1]))) ((room (e1.length+1)/\lens 1 [[P1 .u32 n]])/\Q [aL (e1++[[P1 .u32 n]])])) (((0:Int)<=(0:Int)/\0<=W2 .i64 ((bF es.length)+1)/\room (cb (W2 .i64 ((bF es.length)+1))))/\I0 [] [Sz [],P1 .u32 0,dI (0:Int)]/\∀(e1:List (List D)) (n n1:Int),I0 [] [Sz e1,P1 .u32 n,dI n1]->bB (decide (n1<(bF es.length))) ((0<=n1/\n1<(bF es.length)/\dl (nth [] es (cb n1))=1)/\∃n2,cut (nth [] es (cb n1)) 0 1 [P1 .u32 n2]/\bB (decide (n1<(bF fs.length))) ((0<=n1/\n1<(bF fs.length)/\dl (nth [] fs (cb n1))=1)/\∃n3,cut (nth [] fs (cb n1)) 0 1 [P1 .u32 n3]/\bB (decide (W2 .u32 (W2 .u32 (n2+n)+n3)>=1000000000)) ((room (e1.length+1)/\lens 1 [[P1 .u32 (W2 .u32 (W2 .u32 (W2 .u32 (n2+n)+n3)-1000000000))]])/\I0 [] [Sz (e1++[[P1 .u32 (W2 .u32 (W2 .u32 (W2 .u32 (n2+n)+n3)-1000000000))]]),P1 .u32 1,dI (W2 .i64 (n1+1))]/\M0 [Sz (e1++[[P1 .u32 (W2 .u32 (W2 .u32 (W2 .u32 (n2+n)+n3)-1000000000))]]),P1 .u32 1,dI (W2 .i64 (n1+1))]<M0 [Sz e1,P1 .u32 n,dI n1]) ((room (e1.length+1)/\lens 1 [[P1 .u32 (W2 .u32 (W2 .u32 (n2+n)+n3))]])/\I0 [] [Sz (e1++[[P1 .u32 (W2 .u32 (W2 .u32 (n2+n)+n3))]]),P1 .u32 0,dI (W2 .i64 (n1+1))]/\M0 [Sz (e1++[[P1 .u32 (W2 .u32 (W2 .u32 (n2+n)+n3))]]),P1 .u32 0,dI (W2 .i64 (n1+1))]<M0 [Sz e1,P1 .u32 n,dI n1])) (bB (decide (W2 .u32 (n2+n)>=1000000000)) ((room (e1.length+1)/\lens 1 [[P1 .u32 (W2 .u32 (W2 .u32 (n2+n)-1000000000))]])/\I0 [] [Sz (e1++[[P1 .u32 (W2 .u32 (W2 .u32 (n2+n)-1000000000))]]),P1 .u32 1,dI (W2 .i64 (n1+1))]/\M0 [Sz (e1++[[P1 .u32 (W2 .u32 (W2 .u32 (n2+n)-1000000000))]]),P1 .u32 1,dI (W2 .i64 (n1+1))]<M0 [Sz e1,P1 .u32 n,dI n1]) ((room (e1.length+1)/\lens 1 [[P1 .u32 (W2 .u32 (n2+n))]])/\I0 [] [Sz (e1++[[P1 .u32 (W2 .u32 (n2+n))]]),P1 .u32 0,dI (W2 .i64 (n1+1))]/\M0 [Sz (e1++[[P1 .u32 (W2 .u32 (n2+n))]]),P1 .u32 0,dI (W2 .i64 (n1+1))]<M0 [Sz e1,P1 .u32 n,dI n1]))) ((room (e1.length+1)/\lens 1 [[P1 .u32 n]])/\Q [aL (e1++[[P1 .u32 n]])]))):=by kernel_rfl
theorem OK (es fs:List (List D)):wpF C0 Gv (λ_=>⟨[.own 5 45 1,.slot 6 (.int .u32 0),.slot 15 (.int .i64 0)],[],I0,M0⟩) Tryz.f213 [.c (.sl es),.c (.sl fs)] Q=((0<=(bF es.length)/\(bF es.length)<=(bF es.length)/\room (cb (bF es.length)))/\I0 [] [Sz (dv (cb (bF es.length)) [P1 .u32 0]),P1 .u32 0,dI (0:Int)]/\∀(e1:List (List D)) (n n1:Int),I0 [] [Sz e1,P1 .u32 n,dI n1]->bB (decide (n1<(bF es.length))) ((0<=n1/\n1<(bF es.length)/\dl (nth [] es (cb n1))=1)/\∃n2,cut (nth [] es (cb n1)) 0 1 [P1 .u32 n2]/\bB (decide (n1<(bF fs.length))) ((0<=n1/\n1<(bF fs.length)/\dl (nth [] fs (cb n1))=1)/\∃n3,cut (nth [] fs (cb n1)) 0 1 [P1 .u32 n3]/\bB (decide (n2<W2 .u32 (n+n3))) ((0<=n1/\n1<(bF e1.length))/\0<1/\I0 [] [Sz (upd e1 (cb n1) (upd (nth [] e1 (cb n1)) 0 (P1 .u32 (W2 .u32 (W2 .u32 (n2+1000000000)-W2 .u32 (n+n3)))))),P1 .u32 1,dI (W2 .i64 (n1+1))]/\M0 [Sz (upd e1 (cb n1) (upd (nth [] e1 (cb n1)) 0 (P1 .u32 (W2 .u32 (W2 .u32 (n2+1000000000)-W2 .u32 (n+n3)))))),P1 .u32 1,dI (W2 .i64 (n1+1))]<M0 [Sz e1,P1 .u32 n,dI n1]) ((0<=n1/\n1<(bF e1.length))/\0<1/\I0 [] [Sz (upd e1 (cb n1) (upd (nth [] e1 (cb n1)) 0 (P1 .u32 (W2 .u32 (n2-W2 .u32 (n+n3)))))),P1 .u32 0,dI (W2 .i64 (n1+1))]/\M0 [Sz (upd e1 (cb n1) (upd (nth [] e1 (cb n1)) 0 (P1 .u32 (W2 .u32 (n2-W2 .u32 (n+n3)))))),P1 .u32 0,dI (W2 .i64 (n1+1))]<M0 [Sz e1,P1 .u32 n,dI n1])) (bB (decide (n2<n)) ((0<=n1/\n1<(bF e1.length))/\0<1/\I0 [] [Sz (upd e1 (cb n1) (upd (nth [] e1 (cb n1)) 0 (P1 .u32 (W2 .u32 (W2 .u32 (n2+1000000000)-n))))),P1 .u32 1,dI (W2 .i64 (n1+1))]/\M0 [Sz (upd e1 (cb n1) (upd (nth [] e1 (cb n1)) 0 (P1 .u32 (W2 .u32 (W2 .u32 (n2+1000000000)-n))))),P1 .u32 1,dI (W2 .i64 (n1+1))]<M0 [Sz e1,P1 .u32 n,dI n1]) ((0<=n1/\n1<(bF e1.length))/\0<1/\I0 [] [Sz (upd e1 (cb n1) (upd (nth [] e1 (cb n1)) 0 (P1 .u32 (W2 .u32 (n2-n))))),P1 .u32 0,dI (W2 .i64 (n1+1))]/\M0 [Sz (upd e1 (cb n1) (upd (nth [] e1 (cb n1)) 0 (P1 .u32 (W2 .u32 (n2-n))))),P1 .u32 0,dI (W2 .i64 (n1+1))]<M0 [Sz e1,P1 .u32 n,dI n1]))) (Q [aL e1])):=by kernel_rfl
theorem F9 (p q:Bool) (es fs:List (List D)):wpF C0 Gv an0 Tryz.f141 [.ag [.bool p,.sl es],.ag [.bool q,.sl fs]] Q=(bB (p==q) (∃e1,Gv 212 [aL es,aL fs] [aL e1]/\∃b es,Gv 146 [aB p,aL e1] [aZ b es]/\Q [aZ b es]) (∃n,Gv 145 [aL es,aL fs] [aI n]/\bB (decide (n<0)) (∃e1,Gv 213 [aL fs,aL es] [aL e1]/\∃b es,Gv 146 [aB q,aL e1] [aZ b es]/\Q [aZ b es]) (∃e1,Gv 213 [aL es,aL fs] [aL e1]/\∃b es,Gv 146 [aB p,aL e1] [aZ b es]/\Q [aZ b es]))):=by kernel_rfl
theorem FA (p q:Bool) (es fs:List (List D)):wpF C0 Gv an0 Tryz.f312 [.ag [.bool p,.sl es],.ag [.bool q,.sl fs]] Q=(bB (!q) (∃b e1,Gv 141 [aZ p es,aZ (decide ((bF fs.length)>0)) fs] [aZ b e1]/\Q [aZ b e1]) (∃b e1,Gv 141 [aZ p es,aZ false fs] [aZ b e1]/\Q [aZ b e1])):=by kernel_rfl
theorem FC (p:Bool) (es:List (List D)):wpF C0 Gv an0 Tryz.f142 [.ag [.bool p,.sl es]] Q=((room es.length/\lens 1 es)/\∃b e1,Gv 146 [aB (!p),aL es] [aZ b e1]/\Q [aZ b e1]):=by kernel_rfl
theorem FD (p q:Bool) (es fs:List (List D)):wpF C0 Gv an0 Tryz.f80 [.ag [.bool p,.sl es],.ag [.bool q,.sl fs]] Q=(∃e1,Gv 147 [aL es,aL fs] [aL e1]/\∃b es,Gv 146 [Lv (Tk !p==q),aL e1] [aZ b es]/\Q [aZ b es]):=by kernel_rfl
theorem Lh (es:List (List D)) (n:Int):wpF C0 Gv (λ_=>⟨[.own 6 44 1,.slot 7 (.int .u64 0),.slot 8 (.int .i64 0)],[],I0,M0⟩) Tryz.f335 [.c (.sl es),.c (.int .u32 n)] Q=((0<=(bF es.length)/\(bF es.length)<=(bF es.length)/\room (cb (bF es.length)))/\I0 [] [Sz (dv (cb (bF es.length)) [P1 .u32 0]),P1 .u64 0,dI (W2 .i64 ((bF es.length)-1))]/\∀(e1:List (List D)) (n1 n2:Int),I0 [] [Sz e1,P1 .u64 n1,dI n2]->bB (decide (n2>=0)) ((0<=n2/\n2<(bF es.length)/\dl (nth [] es (cb n2))=1)/\∃n3,cut (nth [] es (cb n2)) 0 1 [P1 .u32 n3]/\W2 .u64 n≠0/\W2 .u64 n≠0/\(0<=n2/\n2<(bF e1.length))/\0<1/\I0 [] [Sz (upd e1 (cb n2) (upd (nth [] e1 (cb n2)) 0 (P1 .u32 (W2 .u32 (W2 .u64 (c3 (W2 .u64 (W2 .u64 (n1*1000000000)+W2 .u64 n3)) (W2 .u64 n))))))),P1 .u64 (c1 (W2 .u64 (W2 .u64 (n1*1000000000)+W2 .u64 n3)) (W2 .u64 n)),dI (W2 .i64 (n2-1))]/\M0 [Sz (upd e1 (cb n2) (upd (nth [] e1 (cb n2)) 0 (P1 .u32 (W2 .u32 (W2 .u64 (c3 (W2 .u64 (W2 .u64 (n1*1000000000)+W2 .u64 n3)) (W2 .u64 n))))))),P1 .u64 (c1 (W2 .u64 (W2 .u64 (n1*1000000000)+W2 .u64 n3)) (W2 .u64 n)),dI (W2 .i64 (n2-1))]<M0 [Sz e1,P1 .u64 n1,dI n2]) (Q [aL e1,aL [[P1 .u32 (W2 .u32 n1)]]])):=by kernel_rfl
end
end Eng
end
section
namespace Eng
open Go
def raw (l:List Nat):List (List D):=l.map λ(x:Nat)=>[.int .u32 (x:Int)]
def Limbs (l:List Nat):Prop:=∀x∈l,x<1000000000
def val:List Nat->Nat
 |[]=>0
 |x::r=>x+1000000000*val r
def pad:Nat->Nat->List Nat
 |0,_=>[]
 |k+1,n=>n%1000000000::pad k (n/1000000000)
def N4:Nat->Nat->List Nat
 |0,_=>[]
 |f+1,n=>match n with
  |0=>[]
  |m+1=>(m+1)%1000000000::N4 f ((m+1)/1000000000)
def lim (n:Nat):List Nat:=N4 n n
theorem Limbs.nil:Limbs []:=λ_ h=>by simp at h
theorem Limbs.cons {x:Nat} {l:List Nat} (hx:x<1000000000) (h:Limbs l):Limbs (x::l):=λy hy=>by
 rcases List.mem_cons.1 hy with rfl|hy
 .exact hx
 .exact h y hy
theorem Limbs.of_cons {x:Nat} {l:List Nat} (h:Limbs (x::l)):x<1000000000/\Limbs l:=⟨h x (by simp),λy hy=>h y (by simp[hy])⟩
theorem Limbs.append {a b:List Nat} (ha:Limbs a) (hb:Limbs b):Limbs (a++b):=λy hy=>by
 rcases fR.1 hy with hy|hy
 .exact ha y hy
 .exact hb y hy
theorem Limbs.take {l:List Nat} (h:Limbs l) (k:Nat):Limbs (l.take k):=λy hy=>h y (List.mem_of_mem_take hy)
theorem Limbs.drop {l:List Nat} (h:Limbs l) (k:Nat):Limbs (l.drop k):=λy hy=>h y (List.mem_of_mem_drop hy)
theorem Limbs.get {l:List Nat} (h:Limbs l) {i:Nat} (hi:i<l.length):l[i]<1000000000:=h _ (g0 hi)
theorem qR (a b:List Nat):val (a++b)=val a+1000000000^a.length*val b:=by
 induction a with
 |nil=>simp[val]
 |cons x a ih=>simp only[fx,val,ih,fe,ie];rw[hH,Nat.add_assoc,<-hK,hP (1000000000^a.length) 1000000000]
theorem qS {l:List Nat} (h:Limbs l):val l<1000000000^l.length:=by
 induction l with
 |nil=>simp[val]
 |cons x l ih=>obtain⟨h1,h2⟩:=h.of_cons;have:=ih h2;simp only[val,fe,ie];omega
theorem xu:∀(k n:Nat),(pad k n).length=k
 |0,_=>rfl
 |k+1,n=>by simp[pad,xu k]
theorem xR:∀(k n:Nat),Limbs (pad k n)
 |0,_=>Limbs.nil
 |k+1,n=>Limbs.cons (hU _ (by omega)) (xR k _)
theorem jI:∀(k n:Nat),val (pad k n)=n%1000000000^k
 |0,n=>by simp[pad,val,Nat.mod_one]
 |k+1,n=>by simp only[pad,val,jI k];rw[Nat.pow_succ',Nat.mod_mul]
theorem kU {l:List Nat} (h:Limbs l):pad l.length (val l)=l:=by
 induction l with
 |nil=>rfl
 |cons x l ih=>
  obtain⟨h1,h2⟩:=h.of_cons;simp only[fe,pad,val];have e1:(x+1000000000*val l)%1000000000=x:=by omega
  have e2:(x+1000000000*val l)/1000000000=val l:=by omega
  rw[e1,e2,ih h2]
theorem Li {a b:List Nat} (ha:Limbs a) (hb:Limbs b) (hl:a.length=b.length) (hv:val a=val b):a=b:=by
 rw[<-kU ha,<-kU hb,hl,hv]
theorem Jr:∀(f n:Nat),Limbs (N4 f n)
 |0,_=>Limbs.nil
 |f+1,0=>Limbs.nil
 |f+1,m+1=>Limbs.cons (hU _ (by omega)) (Jr f _)
theorem QX:∀(f n:Nat),n<=f->val (N4 f n)=n
 |0,n,h=>by simp[N4,val];omega
 |f+1,0,_=>rfl
 |f+1,m+1,h=>by simp only[N4,val];rw[QX f _ (by omega)];omega
theorem qc (n:Nat):Limbs (lim n):=Jr n n
theorem qi (n:Nat):val (lim n)=n:=QX n n (ia n)
theorem WV:∀(f n:Nat),n<=f->N4 f n=[]\/(N4 f n).getLast?≠some 0
 |0,_,_=> .inl rfl
 |f+1,0,_=> .inl rfl
 |f+1,m+1,h=>by
  refine .inr ?_;simp only[N4];rcases WV f ((m+1)/1000000000) (by omega)with h1|h1
  .have:=QX f ((m+1)/1000000000) (by omega);rw[h1]at this ⊢;simp only[val]at this;simp only[List.getLast?_singleton,ne_eq,lp];omega
  .rw[List.getLast?_cons];cases hh:(N4 f ((m+1)/1000000000)).getLast? with
   |none=>rw[List.getLast?_eq_none_iff]at hh;rw[hh]at h1;have:=QX f ((m+1)/1000000000) (by omega);rw[hh]at this;simp only[val]at this;simp only[Option.getD_none,ne_eq,lp];omega
   |some x=>
    rw[hh]at h1
    simpa using h1
theorem jk (n:Nat):lim n=[]\/(lim n).getLast?≠some 0:=WV n n (ia n)
theorem QG {a b:List Nat} (ha:Limbs a) (hb:b.getLast?≠some 0) (hbn:b≠[]) (h:a.length<b.length):val a<val b:=by
 have h1:=qS ha;have h2:1000000000^(b.length-1)<=val b:=by
  have hd:=List.dropLast_concat_getLast hbn;have hz:b.getLast hbn≠0:=by intro e;apply hb;rw[List.getLast?_eq_some_getLast hbn,e]
  rw[<-hd,qR];simp only[gx,List.length_dropLast,gn,val];have h0:0<b.getLast hbn:=Nat.pos_of_ne_zero hz;have e1:b.length-1+1-1=b.length-1:=by omega
  rw[e1];have:1000000000^(b.length-1)*1<=1000000000^(b.length-1)*(b.getLast hbn+1000000000*0):=ib _ (by omega);omega
 have h3:1000000000^a.length<=1000000000^(b.length-1):=hM (by omega) (by omega);omega
theorem vp {l:List Nat} (hl:Limbs l) (hz:l=[]\/l.getLast?≠some 0):lim (val l)=l:=by
 have h1:=qc (val l);have h2:=qi (val l);have h3:=jk (val l);have a1:(lim (val l)).length=l.length:=by
  rcases Nat.lt_trichotomy (lim (val l)).length l.length with h|h|h
  .exfalso;have a0:l≠[]:=by intro e;subst e;simp at h
   have:=QG h1 (hz.resolve_left a0) a0 h;omega
  .exact h
  .exfalso;have a0:lim (val l)≠[]:=by intro e;rw[e]at h;simp at h
   have:=QG hl (h3.resolve_left a0) a0 h;omega
 exact Li h1 hl a1 h2
theorem qp {n k:Nat} (h:n<1000000000^k):(lim n).length<=k:=by
 rcases j4 k (lim n).length with hk|hk
 .exfalso;have a0:lim n≠[]:=by intro e;rw[e]at hk;simp at hk
  have:=QG (xR k n) ((jk n).resolve_left a0) a0 (by rw[xu];exact hk);rw[jI,qi,hO h]at this;omega
 .exact hk
theorem jt {n k:Nat} (h:1000000000^k<=n):k<(lim n).length:=by
 rcases j4 k (lim n).length with hk|hk
 .exact hk
 .have:=qS (qc n);rw[qi]at this;have:1000000000^(lim n).length<=1000000000^k:=hM (by omega) hk;omega
theorem Ki:lim 0=[]:=rfl
theorem yg {n:Nat}:lim n=[]↔n=0:=by
 constructor
 .intro h;have:=qi n;rw[h]at this;exact this.symm
 .rintro rfl;rfl
theorem qD {n:Nat}:0<(lim n).length↔0<n:=by
 rw[List.length_pos_iff,ne_eq,yg];omega
theorem qe (l:List Nat):(raw l).length=l.length:=by simp[raw]
theorem qZ (a b:List Nat):raw (a++b)=raw a++raw b:=by simp[raw]
theorem jz (l:List Nat) (k:Nat):(raw l).take k=raw (l.take k):=by simp[raw,List.map_take]
theorem yO (l:List Nat) (k:Nat):(raw l).drop k=raw (l.drop k):=by simp[raw,List.map_drop]
theorem VW {l:List Nat} {i:Nat} (h:i<l.length):nth [] (raw l) i=[.int .u32 ((l[i]:Nat))]:=by
 rw[qw];simp[raw,h]
theorem qz {l:List Nat} {i:Nat} (h:i<l.length):(nth [] (raw l) i).length=1:=by rw[VW h];rfl
theorem qA {l:List Nat} {i:Nat} (h:i<l.length):cut (nth [] (raw l) i) 0 1 [.int .u32 ((l[i]:Nat))]:=by
 rw[VW h];exact⟨rfl,by simp⟩
theorem zG (l:List Nat):lens 1 (raw l):=by
 intro e he;simp only[raw,gb]at he;obtain⟨x,_,rfl⟩:=he;rfl
theorem B7 (l:List Nat) (i x:Nat):upd (raw l) i [.int .u32 (x:Int)]=raw (l.set i x):=by
 rw[xh];simp[raw]
theorem Gj:∀(l:List Nat),wP (raw l)=true
 |[]=>rfl
 |x::l=>by have:=Gj l;simp only[raw,eL,wP]at this ⊢;rw[this];rfl
theorem xn (n:Nat):dv n [P1 .u32 (0:Int)]=raw (dv n 0):=by simp[raw]
theorem kV (n:Nat):val (dv n 0)=0:=by
 induction n with
 |zero=>rfl
 |succ n ih=>simp[gu,val,ih]
theorem VX {a b:List Nat} (h:raw a=raw b):a=b:=by
 induction a generalizing b with
 |nil=>cases b with
  |nil=>rfl
  |cons y b=>simp[raw]at h
 |cons x a ih=>cases b with
  |nil=>simp[raw]at h
  |cons y b=>simp only[raw,eL,g7,U0,true_and,and_true]at h;rw[ih h.2,Int.ofNat.inj h.1]
theorem brd {c:Prop} [Decidable c] {X Y:Prop} (h1:c->X) (h2:¬c->Y):br (toB (Tk (decide c))) X Y:=by
 by_cases h:c
 .have:decide c=true:=decide_eq_true h;rw[this];exact h1 h
 .have:decide c=false:=decide_eq_false h;rw[this];exact h2 h
theorem brb {b:Bool} {X Y:Prop} (h1:b=true->X) (h2:b=false->Y):br (toB (Tk b)) X Y:=by
 cases b
 .exact h2 rfl
 .exact h1 rfl
theorem Qd {b:Bool} {X Y:Prop} (h1:b=true->X) (h2:b=false->Y):br b X Y:=by
 cases b
 .exact h2 rfl
 .exact h1 rfl
theorem xb {n:Int} (_: -9223372036854775808<=n:=by omega) (_:n<9223372036854775808:=by omega):W2 .i64 n=n:=by
 simp[W2,be,bd];omega
theorem xH {n:Int} (_:0<=n:=by omega) (_:n<18446744073709551616:=by omega):W2 .u64 n=n:=by
 simp[W2,be,bd];omega
theorem j0 {n:Int} (_:0<=n:=by omega) (_:n<4294967296:=by omega):W2 .u32 n=n:=by
 simp[W2,be,bd];omega
end Eng
end
section
namespace Eng
open Go Go.Proofs
variable [Env]
theorem vt {l:List Nat} (hl:Limbs l) (hr:l.length<=1073741824):Gives C0 214 [.c (.sl (raw l))] [.c (.sl (raw (lim (val l))))]:=by
 refine qm (anns:=λ_=>⟨[.slot 0 (.slice none 0 0)],[],λ_ ds=>∃k,k<=l.length/\ds=[.sl (raw (l.take k))]/\val (l.take k)=val l,λds=>(toL (nth .undef ds 0)).length⟩) mixedT Tryz.func214 ?_;rw[B4];simp only[cg];refine⟨⟨l.length,ia _,by rw[ei],by rw[ei]⟩,?_⟩;rintro es ⟨k,hk,he,hv⟩;simp only[g7,U3,and_true]at he;subst he;have a0:(raw (l.take k)).length=k:=by rw[qe,el];omega
 have a1:(k=0\/∃h:k-1<l.length,l[k-1]≠0)->[Lv (Sz (raw (l.take k)))]=[Lv (Sz (raw (lim (val l))))]:=by
  intro h;rw[<-hv,vp (hl.take k)];rcases h with rfl|⟨h,hne⟩
  .exact .inl (by simp)
  .refine .inr ?_;rw[gy];split
   .simp
   .rw[eg h]
    simpa using hne
 refine brd (λh=>?_) (λh=>?_)
 .rw[a0]at h ⊢;have hk0:0<k:=by omega
  have hw:W2 .i64 ((k:Int)-1)=((k-1:Nat):Int):=by rw[xb];omega
  rw[hw];have a2:k-1<(l.take k).length:=by rw[el];omega
  have hg:(l.take k)[k-1]=l[k-1]:=List.getElem_take ..;refine⟨⟨by omega,by omega,qz a2⟩,_,qA a2,brb (λhz=>?_) (λhz=>?_)⟩
  .have hz:l[k-1]=0:=by rw[hg]at hz;simpa using hz
   refine⟨⟨by omega,by omega,by omega,zG _⟩,⟨k-1,by omega,?_,?_⟩,?_⟩
   .simp only[cm,jz,ez,List.take_take];congr 4;omega
   .have:l.take k=l.take (k-1)++[l[k-1]]:=by have:=eu (l:=l) (i:=k-1) (by omega);rw[show k-1+1=k by omega]at this;exact this
    rw[<-hv,this,hz,qR];simp[val]
   .simp only[cm,nth,toL,ez,el,a0];omega
  .exact a1 (.inr ⟨by omega,by rw[hg]at hz;simpa using hz⟩)
 .rw[a0]at h;exact a1 (.inl (by omega))
def Qe (a b:Nat):Int:=if a<b then-1 else if b<a then 1 else 0
omit [Env] in
theorem kW {a b:List Nat} (ha:Limbs a) (hl:a.length=b.length) {k:Nat} (hk:k<a.length) (hd:a.drop (k+1)=b.drop (k+1)) (h:a[k]<b[k]):val a<val b:=by
 have e1:a=a.take k++a[k]::a.drop (k+1):=by rw[<-ed hk,fk]
 have e2:b=b.take k++b[k]::b.drop (k+1):=by rw[<-ed (by omega),fk]
 rw[e1,e2,qR,qR,hd];have l1:(a.take k).length=k:=by rw[el];omega
 have l2:(b.take k).length=k:=by rw[el];omega
 rw[l1,l2];have h1:=qS (ha.take k);rw[l1]at h1;simp only[val];have:1000000000^k*(a[k]+1+1000000000*val (b.drop (k+1)))<=1000000000^k*(b[k]+1000000000*val (b.drop (k+1))):=ib _ (by omega);have e3:1000000000^k*(a[k]+1+1000000000*val (b.drop (k+1)))=1000000000^k*(a[k]+1000000000*val (b.drop (k+1)))+1000000000^k:=by rw[show a[k]+1+1000000000*val (b.drop (k+1))=(a[k]+1000000000*val (b.drop (k+1)))+1 by omega,hH,Nat.mul_one]
 omega
theorem jJ {a b:List Nat} (ha:Limbs a) (hb:Limbs b) (hra:a.length<=1073741824) (hrb:b.length<=1073741824):Gives C0 145 [.c (.sl (raw a)),.c (.sl (raw b))] [.c (.int .i64 (Qe (val a) (val b)))]:=by
 generalize hA:lim (val a)=A;generalize hB:lim (val b)=B;have lA:Limbs A:=hA▸qc _;have lB:Limbs B:=hB▸qc _;have vA:val A=val a:=hA▸qi _;have vB:val B=val b:=hB▸qi _;have zA:A=[]\/A.getLast?≠some 0:=hA▸jk _;have zB:B=[]\/B.getLast?≠some 0:=hB▸jk _;have nA:A.length<=a.length:=hA▸qp (qS ha);have nB:B.length<=b.length:=hB▸qp (qS hb);refine qm (anns:=λ_=>⟨[.slot 5 (.int .i64 0)],[],λ_ ds=>∃k:Nat,k<=A.length/\ds=[.int .i64 ((k:Int)-1)]/\A.drop k=B.drop k,λds=>(toI (nth .undef ds 0)+1).toNat⟩) mixedT Tryz.func145 ?_;rw[HI];simp only[cg];refine⟨_,vt ha hra,_,vt hb hrb,?_⟩;rw[hA,hB,qe,qe];refine brb (λh=>?_) (λh=>?_)
 .have h:A.length≠B.length:=by intro e;rw[e]at h;simp at h
  refine brd (λh1=>?_) (λh1=>?_)
  .have a2:B≠[]:=(by intro e;have h0:B.length=0:=(by rw[e];rfl);omega);have:=QG lA (zB.resolve_left a2) a2 (by omega);rw[Qe,if_pos (by omega)]
  .have a2:A≠[]:=(by intro e;have h0:A.length=0:=(by rw[e];rfl);omega);have:=QG lB (zA.resolve_left a2) a2 (by omega);rw[Qe,if_neg (by omega),if_pos (by omega)]
 .have h:A.length=B.length:=by
   have:(A.length:Int)=B.length:=by simpa using h
   omega
  refine⟨⟨A.length,ia _,by rw[xb],by rw[g2,h,g2]⟩,?_⟩;rintro n ⟨k,hk,he,hd⟩;simp only[g7,U0,true_and,and_true]at he;subst he;refine brd (λh1=>?_) (λh1=>?_)
  .have a0:k-1<A.length:=by omega
   have a1:k-1<B.length:=by omega
   have ht:((k:Int)-1).toNat=k-1:=by omega
   have a3:A.drop (k-1+1)=B.drop (k-1+1):=by rw[show k-1+1=k by omega];exact hd
   rw[ht];refine⟨⟨by omega,by omega,qz a0⟩,_,qA a0,⟨by omega,by omega,qz a1⟩,_,qA a1,brd (λh2=>?_) (λh2=>?_)⟩
   .have:=kW lA h a0 a3 (by omega);rw[Qe,if_pos (by omega)]
   .refine⟨⟨by omega,by omega,qz a0⟩,_,qA a0,⟨by omega,by omega,qz a1⟩,_,qA a1,brd (λh3=>?_) (λh3=>?_)⟩
    .have:=kW lB h.symm a1 a3.symm (by omega);rw[Qe,if_neg (by omega),if_pos (by omega)]
    .have hw:W2 .i64 ((k:Int)-1-1)=((k-1:Nat):Int)-1:=by rw[xb];omega
     rw[hw];refine⟨⟨k-1,by omega,rfl,?_⟩,?_⟩
     .rw[ed a0,ed a1,a3];congr 1;omega
     .simp only[nth,toI];omega
  .have a0:k=0:=by omega
   subst a0;have:A=B:=by simpa using hd
   rw[Qe,<-vA,<-vB,this,if_neg (by omega),if_neg (by omega)]
theorem Js {l:List Nat} (b:Bool) (hl:Limbs l) (hr:l.length<=1073741824):Gives C0 146 [.c (.bool b),.c (.sl (raw l))] [.ag [.bool (b&&decide (0<val l)),.sl (raw (lim (val l)))]]:=by
 refine qm (anns:=λ_=>⟨[.slot 5 (.int .i64 0)],[],λ_ ds=>∃k:Nat,k<=l.length/\ds=[.int .i64 (k:Int)]/\val (l.take k)=val l,λds=>(toI (nth .undef ds 0)).toNat⟩) mixedT Tryz.func146 ?_;rw[Lf];simp only[cg];refine⟨⟨l.length,ia _,by rw[qe],by rw[ei]⟩,?_⟩;rintro n ⟨k,hk,he,hv⟩;simp only[g7,U0,true_and,and_true]at he;subst he;have a1:(k=0\/∃h:k-1<l.length,l[k-1]≠0)->eH 0 (e7 (k:Int).toNat (raw l))=raw (lim (val l))/\(0<val l↔0<k):=by
  intro h;have h0:lim (val l)=l.take k:=by
   rw[<-hv,vp (hl.take k)];rcases h with rfl|⟨h,hne⟩
   .exact .inl (by simp)
   .refine .inr ?_;rw[gy];split
    .simp
    .rw[eg h]
     simpa using hne
  refine⟨by rw[h0,cm,jz,ez],?_⟩;rw[<-qD,h0,el];omega
 have a0:(k=0\/∃h:k-1<l.length,l[k-1]≠0)->
  br b
   (((0:Int)<=0/\(0:Int)<=k/\(k:Int)<=k/\(k:Int)<=(raw l).length/\lens 1 (raw l))/\
     [Ls [Tk (decide ((k:Int)>0)),Sz (eH 0 (e7 (k:Int).toNat (raw l)))]]=[.ag [.bool (b&&decide (0<val l)),.sl (raw (lim (val l)))]])
   (((0:Int)<=0/\(0:Int)<=k/\(k:Int)<=k/\(k:Int)<=(raw l).length/\lens 1 (raw l))/\
     [Ls [Tk false,Sz (eH 0 (e7 (k:Int).toNat (raw l)))]]=[.ag [.bool (b&&decide (0<val l)),.sl (raw (lim (val l)))]]):=by
  intro h;obtain⟨h1,h2⟩:=a1 h;rw[h1,qe];refine Qd (λhb=>?_) (λhb=>?_)
  .subst hb;refine⟨⟨by omega,by omega,by omega,by omega,zG _⟩,?_⟩;have:decide ((k:Int)>0)=decide (0<val l):=by rw[decide_eq_decide];omega
   rw[this,Lm]
  .subst hb;exact⟨⟨by omega,by omega,by omega,by omega,zG _⟩,by rw[J4]⟩
 refine brd (λh=>?_) (λh=>?_)
 .have hw:W2 .i64 ((k:Int)-1)=((k-1:Nat):Int):=by rw[xb];omega
  rw[hw,cm];have a2:k-1<l.length:=by omega
  refine⟨⟨by omega,by rw[qe];omega,qz a2⟩,_,qA a2,brb (λhz=>?_) (λhz=>?_)⟩
  .have hz:l[k-1]=0:=by simpa using hz
   refine⟨⟨k-1,by omega,rfl,?_⟩,?_⟩
   .have:l.take k=l.take (k-1)++[l[k-1]]:=by have:=eu (l:=l) (i:=k-1) (by omega);rw[show k-1+1=k by omega]at this;exact this
    rw[<-hv,this,hz,qR];simp[val]
   .simp only[nth,toI];omega
  .exact a0 (.inr ⟨a2,by simpa using hz⟩)
 .exact a0 (.inl (by omega))
end Eng
end
section
namespace Eng
open Go Go.Proofs
variable [Env]
omit [Env] in
theorem qK (l:List Nat) (k:Nat):val (l.take (k+1))=val (l.take k)+1000000000^k*l.getD k 0:=by
 by_cases h:k<l.length
 .rw[eu h,qR,el,k5 (by omega)];simp[val,ep,h]
 .rw[ec (by omega),ec (by omega)];simp[ep,h]
omit [Env] in
theorem Zg {l:List Nat} {k:Nat} (h:l.length<=k):l.getD k 0=0:=by simp[ep,List.getElem?_eq_none h]
omit [Env] in
theorem yP (o:List Nat) (d:Nat):val (o++[d])=val o+1000000000^o.length*d:=by rw[qR];simp[val]
omit [Env] in
theorem Kj {k d c t:Nat} (h:d+1000000000*c=t):1000000000^k*d+1000000000^(k+1)*c=1000000000^k*t:=by
 rw[<-h,hH,ie,hK]
omit [Env] in
theorem zH {x y o:List Nat} {k c d c':Nat} (hk:k<x.length) (ho:o.length=k) (hv:val o+1000000000^k*c=val (x.take k)+val (y.take k)) (ht:d+1000000000*c'=x[k]+c+y.getD k 0):
 val (o++[d])+1000000000^(k+1)*c'=val (x.take (k+1))+val (y.take (k+1)):=by
 rw[yP,ho,qK,qK];have h1:=Kj (k:=k) ht;have h2:x.getD k 0=x[k]:=by simp[ep,hk]
 rw[h2];have h3:1000000000^k*(x[k]+c+y.getD k 0)=1000000000^k*x[k]+1000000000^k*c+1000000000^k*y.getD k 0:=by rw[hH,hH]
 omega
theorem OL {a b:List Nat} (ha:Limbs a) (hb:Limbs b) (hra:a.length<=1073741823) (hrb:b.length<=1073741823):Gives C0 212 [.c (.sl (raw a)),.c (.sl (raw b))] [.c (.sl (raw (pad (max a.length b.length+1) (val a+val b))))]:=by
 by_cases hab:a.length<b.length
 .refine qm (anns:=λ_=>⟨[.own 5 53 1,.slot 6 (.int .u32 0),.slot 22 (.int .i64 0)],[],λ_ ds=>∃(k:Nat) (o:List Nat) (c:Nat),k<=b.length/\o.length=k/\ds=[.sl (raw o),.int .u32 (c:Int),.int .i64 (k:Int)]/\Limbs o/\c<=1/\val o+1000000000^k*c=val (b.take k)+val (a.take k),λds=>b.length-(toI (nth .undef ds 2)).toNat⟩) mixedT Tryz.func212 ?_;rw[Lg];simp only[cg,qe];refine brd (λh0=>?_) (λh0=>?_)
  .skip
   refine⟨⟨by omega,by rw[xb];omega,by rw[xb];unfold room;omega⟩,⟨0,[],0,by omega,rfl,rfl,Limbs.nil,by omega,by simp[val]⟩,?_⟩;rintro es n m ⟨k,o,c,hk,ho,he,lo,hc,hv⟩;simp only[g7,U0,U3,true_and,and_true]at he;obtain⟨rfl,rfl,rfl⟩:=he;refine brd (λh1=>?_) (λh1=>?_)
   .have a0:k<b.length:=by omega
    have hxk:=hb.get a0;have a4:W2 .i64 ((k:Int)+1)=((k+1:Nat):Int):=by rw[xb];omega
    rw[cm,a4,qe,ho];refine⟨⟨by omega,by omega,qz a0⟩,_,qA a0,brd (λh2=>?_) (λh2=>?_)⟩
    .have a2:k<a.length:=by omega
     have hyk:=ha.get a2;have a1:a.getD k 0=a[k]:=by simp[ep,a2]
     refine⟨⟨by omega,by omega,qz a2⟩,_,qA a2,?_⟩;have hw:W2 .u32 (W2 .u32 ((b[k]:Int)+(c:Int))+(a[k]:Int))=((b[k]+c+a[k]:Nat):Int):=by rw[j0 (n:=(b[k]:Int)+(c:Int)),j0];omega
     rw[hw];refine brd (λh3=>?_) (λh3=>?_)
     .have a3:W2 .u32 (((b[k]+c+a[k]:Nat):Int)-1000000000)=((b[k]+c+a[k]-1000000000:Nat):Int):=by rw[j0];omega
      rw[a3];refine⟨⟨by unfold room;omega,λe he=>by simp at he;subst he;rfl⟩,⟨k+1,o++[b[k]+c+a[k]-1000000000],1,by omega,by simp[ho],by rw[qZ];rfl,lo.append (Limbs.cons (by omega) Limbs.nil),by omega,zH a0 ho hv (by have:=a1;omega)⟩,?_⟩;simp only[nth,toI];omega
     .refine⟨⟨by unfold room;omega,λe he=>by simp at he;subst he;rfl⟩,⟨k+1,o++[b[k]+c+a[k]],0,by omega,by simp[ho],by rw[qZ];rfl,lo.append (Limbs.cons (by omega) Limbs.nil),by omega,zH a0 ho hv (by have:=a1;omega)⟩,?_⟩;simp only[nth,toI];omega
    .have a1:a.getD k 0=0:=Zg (by omega);have hw:W2 .u32 ((b[k]:Int)+(c:Int))=((b[k]+c:Nat):Int):=by rw[j0];omega
     rw[hw];refine brd (λh3=>?_) (λh3=>?_)
     .have a3:W2 .u32 (((b[k]+c:Nat):Int)-1000000000)=((b[k]+c-1000000000:Nat):Int):=by rw[j0];omega
      rw[a3];refine⟨⟨by unfold room;omega,λe he=>by simp at he;subst he;rfl⟩,⟨k+1,o++[b[k]+c-1000000000],1,by omega,by simp[ho],by rw[qZ];rfl,lo.append (Limbs.cons (by omega) Limbs.nil),by omega,zH a0 ho hv (by have:=a1;omega)⟩,?_⟩;simp only[nth,toI];omega
     .refine⟨⟨by unfold room;omega,λe he=>by simp at he;subst he;rfl⟩,⟨k+1,o++[b[k]+c],0,by omega,by simp[ho],by rw[qZ];rfl,lo.append (Limbs.cons (by omega) Limbs.nil),by omega,zH a0 ho hv (by have:=a1;omega)⟩,?_⟩;simp only[nth,toI];omega
   .have a0:k=b.length:=by omega
    subst a0;rw[qe,ho];refine⟨⟨by unfold room;omega,λe he=>by simp at he;subst he;rfl⟩,?_⟩;rw[ei,ec (by omega)]at hv;have e1:raw o++[[P1 .u32 (c:Int)]]=raw (o++[c]):=by rw[qZ];rfl
    have l1:Limbs (o++[c]):=lo.append (Limbs.cons (by omega) Limbs.nil);have v1:val (o++[c])=val a+val b:=by rw[yP,ho];omega
    have e2:o++[c]=pad (max a.length b.length+1) (val a+val b):=by
     rw[<-v1,<-kU l1];congr 1
     .simp[ho];omega
     .rw[kU l1]
    rw[e1,e2]
  .omega
 .refine qm (anns:=λ_=>⟨[.own 5 53 1,.slot 6 (.int .u32 0),.slot 22 (.int .i64 0)],[],λ_ ds=>∃(k:Nat) (o:List Nat) (c:Nat),k<=a.length/\o.length=k/\ds=[.sl (raw o),.int .u32 (c:Int),.int .i64 (k:Int)]/\Limbs o/\c<=1/\val o+1000000000^k*c=val (a.take k)+val (b.take k),λds=>a.length-(toI (nth .undef ds 2)).toNat⟩) mixedT Tryz.func212 ?_;rw[Lg];simp only[cg,qe];refine brd (λh0=>?_) (λh0=>?_)
  .omega
  .skip
   refine⟨⟨by omega,by rw[xb];omega,by rw[xb];unfold room;omega⟩,⟨0,[],0,by omega,rfl,rfl,Limbs.nil,by omega,by simp[val]⟩,?_⟩;rintro es n m ⟨k,o,c,hk,ho,he,lo,hc,hv⟩;simp only[g7,U0,U3,true_and,and_true]at he;obtain⟨rfl,rfl,rfl⟩:=he;refine brd (λh1=>?_) (λh1=>?_)
   .have a0:k<a.length:=by omega
    have hxk:=ha.get a0;have a4:W2 .i64 ((k:Int)+1)=((k+1:Nat):Int):=by rw[xb];omega
    rw[cm,a4,qe,ho];refine⟨⟨by omega,by omega,qz a0⟩,_,qA a0,brd (λh2=>?_) (λh2=>?_)⟩
    .have a2:k<b.length:=by omega
     have hyk:=hb.get a2;have a1:b.getD k 0=b[k]:=by simp[ep,a2]
     refine⟨⟨by omega,by omega,qz a2⟩,_,qA a2,?_⟩;have hw:W2 .u32 (W2 .u32 ((a[k]:Int)+(c:Int))+(b[k]:Int))=((a[k]+c+b[k]:Nat):Int):=by rw[j0 (n:=(a[k]:Int)+(c:Int)),j0];omega
     rw[hw];refine brd (λh3=>?_) (λh3=>?_)
     .have a3:W2 .u32 (((a[k]+c+b[k]:Nat):Int)-1000000000)=((a[k]+c+b[k]-1000000000:Nat):Int):=by rw[j0];omega
      rw[a3];refine⟨⟨by unfold room;omega,λe he=>by simp at he;subst he;rfl⟩,⟨k+1,o++[a[k]+c+b[k]-1000000000],1,by omega,by simp[ho],by rw[qZ];rfl,lo.append (Limbs.cons (by omega) Limbs.nil),by omega,zH a0 ho hv (by have:=a1;omega)⟩,?_⟩;simp only[nth,toI];omega
     .refine⟨⟨by unfold room;omega,λe he=>by simp at he;subst he;rfl⟩,⟨k+1,o++[a[k]+c+b[k]],0,by omega,by simp[ho],by rw[qZ];rfl,lo.append (Limbs.cons (by omega) Limbs.nil),by omega,zH a0 ho hv (by have:=a1;omega)⟩,?_⟩;simp only[nth,toI];omega
    .have a1:b.getD k 0=0:=Zg (by omega);have hw:W2 .u32 ((a[k]:Int)+(c:Int))=((a[k]+c:Nat):Int):=by rw[j0];omega
     rw[hw];refine brd (λh3=>?_) (λh3=>?_)
     .have a3:W2 .u32 (((a[k]+c:Nat):Int)-1000000000)=((a[k]+c-1000000000:Nat):Int):=by rw[j0];omega
      rw[a3];refine⟨⟨by unfold room;omega,λe he=>by simp at he;subst he;rfl⟩,⟨k+1,o++[a[k]+c-1000000000],1,by omega,by simp[ho],by rw[qZ];rfl,lo.append (Limbs.cons (by omega) Limbs.nil),by omega,zH a0 ho hv (by have:=a1;omega)⟩,?_⟩;simp only[nth,toI];omega
     .refine⟨⟨by unfold room;omega,λe he=>by simp at he;subst he;rfl⟩,⟨k+1,o++[a[k]+c],0,by omega,by simp[ho],by rw[qZ];rfl,lo.append (Limbs.cons (by omega) Limbs.nil),by omega,zH a0 ho hv (by have:=a1;omega)⟩,?_⟩;simp only[nth,toI];omega
   .have a0:k=a.length:=by omega
    subst a0;rw[qe,ho];refine⟨⟨by unfold room;omega,λe he=>by simp at he;subst he;rfl⟩,?_⟩;rw[ei,ec (by omega)]at hv;have e1:raw o++[[P1 .u32 (c:Int)]]=raw (o++[c]):=by rw[qZ];rfl
    have l1:Limbs (o++[c]):=lo.append (Limbs.cons (by omega) Limbs.nil);have v1:val (o++[c])=val a+val b:=by rw[yP,ho];omega
    have e2:o++[c]=pad (max a.length b.length+1) (val a+val b):=by
     rw[<-v1,<-kU l1];congr 1
     .simp[ho];omega
     .rw[kU l1]
    rw[e1,e2]
omit [Env] in
theorem xQ {l:List Nat} {i x:Nat} (h:i<l.length):upd (raw l) i (upd (nth [] (raw l) i) 0 (.int .u32 (x:Int)))=raw (l.set i x):=by
 rw[VW h];exact B7 l i x
omit [Env] in
theorem kX {o:List Nat} {k m d:Nat} (ho:o.length=k) (hm:0<m):(o++dv m 0).set k d=(o++[d])++dv (m-1) 0:=by
 obtain⟨m,rfl⟩:∃m',m=m'+1:=⟨m-1,by omega⟩;rw[gu,gm _ _ (by omega),ho];simp
omit [Env] in
theorem z3 {x y o:List Nat} {k c d c':Nat} (hk:k<x.length) (ho:o.length=k) (hv:val o+val (y.take k)=val (x.take k)+1000000000^k*c) (ht:d+c+y.getD k 0=x[k]+1000000000*c'):
 val (o++[d])+val (y.take (k+1))=val (x.take (k+1))+1000000000^(k+1)*c':=by
 rw[yP,ho,qK,qK];have h2:x.getD k 0=x[k]:=by simp[ep,hk]
 rw[h2];have h3:1000000000^k*(d+c+y.getD k 0)=1000000000^k*d+1000000000^k*c+1000000000^k*y.getD k 0:=by rw[hH,hH]
 have h4:1000000000^k*(x[k]+1000000000*c')=1000000000^k*x[k]+1000000000^(k+1)*c':=by rw[hH,ie,hK]
 rw[ht]at h3;omega
theorem WW {a b:List Nat} (ha:Limbs a) (hb:Limbs b) (hra:a.length<=1073741824) (hab:val b<=val a):Gives C0 213 [.c (.sl (raw a)),.c (.sl (raw b))] [.c (.sl (raw (pad a.length (val a-val b))))]:=by
 refine qm (anns:=λ_=>⟨[.own 5 45 1,.slot 6 (.int .u32 0),.slot 15 (.int .i64 0)],[],λ_ ds=>∃(k:Nat) (o:List Nat) (c:Nat),k<=a.length/\o.length=k/\ds=[.sl (raw (o++dv (a.length-k) 0)),.int .u32 (c:Int),.int .i64 (k:Int)]/\Limbs o/\c<=1/\val o+val (b.take k)=val (a.take k)+1000000000^k*c,λds=>a.length-(toI (nth .undef ds 2)).toNat⟩) mixedT Tryz.func213 ?_;rw[OK];simp only[cg,qe];refine⟨⟨by omega,by omega,by unfold room;omega⟩,⟨0,[],0,by omega,rfl,by rw[cm,xn];rfl,Limbs.nil,by omega,by simp[val]⟩,?_⟩;rintro es n m ⟨k,o,c,hk,ho,he,lo,hc,hv⟩;simp only[g7,U0,U3,true_and,and_true]at he;obtain⟨rfl,rfl,rfl⟩:=he;have hol:(o++dv (a.length-k) 0).length=a.length:=by simp[ho];omega
 refine brd (λh1=>?_) (λh1=>?_)
 .have a0:k<a.length:=by omega
  have hxk:=ha.get a0;have hk1:W2 .i64 ((k:Int)+1)=((k+1:Nat):Int):=by rw[xb];omega
  rw[cm,hk1,qe,hol];refine⟨⟨by omega,by omega,qz a0⟩,_,qA a0,brd (λh2=>?_) (λh2=>?_)⟩
  .have a3:k<b.length:=by omega
   have hyk:=hb.get a3;have a2:b.getD k 0=b[k]:=by simp[ep,a3]
   refine⟨⟨by omega,by omega,qz a3⟩,_,qA a3,?_⟩;have hw:W2 .u32 ((c:Int)+(b[k]:Int))=((c+b[k]:Nat):Int):=by rw[j0];omega
   rw[hw];refine brd (λh3=>?_) (λh3=>?_)
   .have a1:W2 .u32 (W2 .u32 ((a[k]:Int)+1000000000)-((c+b[k]:Nat):Int))=((a[k]+1000000000-(c+b[k]):Nat):Int):=by rw[j0 (n:=(a[k]:Int)+1000000000),j0];omega
    rw[a1,xQ (by simp[ho];omega),kX ho (by omega)];refine⟨⟨by omega,by omega⟩,by omega,⟨k+1,o++[a[k]+1000000000-(c+b[k])],1,by omega,by simp[ho],by rw[show a.length-k-1=a.length-(k+1)by omega];rfl,lo.append (Limbs.cons (by omega) Limbs.nil),by omega,z3 a0 ho hv (by have:=a2;omega)⟩,?_⟩;simp only[nth,toI];omega
   .have a1:W2 .u32 ((a[k]:Int)-((c+b[k]:Nat):Int))=((a[k]-(c+b[k]):Nat):Int):=by rw[j0];omega
    rw[a1,xQ (by simp[ho];omega),kX ho (by omega)];refine⟨⟨by omega,by omega⟩,by omega,⟨k+1,o++[a[k]-(c+b[k])],0,by omega,by simp[ho],by rw[show a.length-k-1=a.length-(k+1)by omega];rfl,lo.append (Limbs.cons (by omega) Limbs.nil),by omega,z3 a0 ho hv (by have:=a2;omega)⟩,?_⟩;simp only[nth,toI];omega
  .have a2:b.getD k 0=0:=Zg (by omega);refine brd (λh3=>?_) (λh3=>?_)
   .have a1:W2 .u32 (W2 .u32 ((a[k]:Int)+1000000000)-(c:Int))=((a[k]+1000000000-(c):Nat):Int):=by rw[j0 (n:=(a[k]:Int)+1000000000),j0];omega
    rw[a1,xQ (by simp[ho];omega),kX ho (by omega)];refine⟨⟨by omega,by omega⟩,by omega,⟨k+1,o++[a[k]+1000000000-(c)],1,by omega,by simp[ho],by rw[show a.length-k-1=a.length-(k+1)by omega];rfl,lo.append (Limbs.cons (by omega) Limbs.nil),by omega,z3 a0 ho hv (by have:=a2;omega)⟩,?_⟩;simp only[nth,toI];omega
   .have a1:W2 .u32 ((a[k]:Int)-(c:Int))=((a[k]-(c):Nat):Int):=by rw[j0];omega
    rw[a1,xQ (by simp[ho];omega),kX ho (by omega)];refine⟨⟨by omega,by omega⟩,by omega,⟨k+1,o++[a[k]-(c)],0,by omega,by simp[ho],by rw[show a.length-k-1=a.length-(k+1)by omega];rfl,lo.append (Limbs.cons (by omega) Limbs.nil),by omega,z3 a0 ho hv (by have:=a2;omega)⟩,?_⟩;simp only[nth,toI];omega
 .have a0:k=a.length:=by omega
  subst a0;rw[ei]at hv;rw[Nat.sub_self,gp,et];have h2:=qS lo;rw[ho]at h2;have h3:val b=val (b.take a.length)+1000000000^(b.take a.length).length*val (b.drop a.length):=by rw[<-qR,fk]
  have h4:=qS ha;have h5:val (b.take a.length)=val b:=by
   rcases j4 b.length a.length with hl|hl
   .rw[ec (by omega)]
   .rw[el,k5 hl]at h3;rcases hL (val (b.drop a.length))with h6|h6
    .rw[h6]at h3;omega
    .have:=ib (1000000000^a.length) h6;omega
  have h6:c=0:=by
   rcases hL c with h6|h6
   .exact h6
   .have:=ib (1000000000^a.length) h6;omega
  subst h6;have h7:o=pad a.length (val a-val b):=by rw[show val a-val b=val o by omega];have:=kU lo;rw[ho]at this;exact this.symm
  rw[h7]
end Eng
end
section
open Go Go.Proofs Eng
namespace Eng
theorem OM (Gv:Nat->List A->List A->Prop) (I0:List D->List D->Prop) (M0:List D->Nat) (I1:List D->List D->Prop) (M1:List D->Nat) (es fs:List (List D)) (Q:Nat->List (List D)->Prop):cQ C0 Gv (YR ⟨[.own 5 68 1,.slot 20 (.int .i64 0)],[],I0,M0⟩ ⟨[.own 5 68 1,.slot 8 (.int .u64 0),.slot 27 (.int .i64 0)],[.slot 6 (.int .i64 0),.slot 7 (.int .u32 0),.own 5 68 1],I1,M1⟩) Tryz.f147 [.c (.sl es),.c (.sl fs)] Q=((0<=W2 .i64 ((bF es.length)+(bF fs.length))/\W2 .i64 ((bF es.length)+(bF fs.length))<=W2 .i64 ((bF es.length)+(bF fs.length))/\room (cb (W2 .i64 ((bF es.length)+(bF fs.length)))))/\I0 [] [Sz (dv (cb (W2 .i64 ((bF es.length)+(bF fs.length)))) [P1 .u32 0]),dI (0:Int)]/\∀(e1:List (List D)) (n:Int),I0 [] [Sz e1,dI n]->bB (decide (n<(bF es.length))) ((0<=n/\n<(bF es.length)/\dl (nth [] es (cb n))=1)/\∃n1,cut (nth [] es (cb n)) 0 1 [P1 .u32 n1]/\I1 [dI n,P1 .u32 n1,Sz e1] [Sz e1,P1 .u64 0,dI (0:Int)]/\∀(es:List (List D)) (n2 n3:Int),I1 [dI n,P1 .u32 n1,Sz e1] [Sz es,P1 .u64 n2,dI n3]->bB (decide (n3<(bF fs.length))) ((0<=n3/\n3<(bF fs.length)/\dl (nth [] fs (cb n3))=1)/\∃n4,cut (nth [] fs (cb n3)) 0 1 [P1 .u32 n4]/\(0<=W2 .i64 (n+n3)/\W2 .i64 (n+n3)<(bF es.length))/\∃n5,cut (nth [] es (cb (W2 .i64 (n+n3)))) 0 1 [P1 .u32 n5]/\(1000000000:Int)≠(0:Int)/\(1000000000:Int)≠(0:Int)/\(0<=W2 .i64 (n+n3)/\W2 .i64 (n+n3)<(bF es.length))/\0<1/\I1 [dI n,P1 .u32 n1,Sz e1] [Sz (upd es (cb (W2 .i64 (n+n3))) (upd (nth [] es (cb (W2 .i64 (n+n3)))) 0 (P1 .u32 (W2 .u32 (c1 (W2 .u64 (W2 .u64 (W2 .u64 n5+W2 .u64 (W2 .u64 n1*W2 .u64 n4))+n2)) (1000000000:Int)))))),P1 .u64 (W2 .u64 (c3 (W2 .u64 (W2 .u64 (W2 .u64 n5+W2 .u64 (W2 .u64 n1*W2 .u64 n4))+n2)) (1000000000:Int))),dI (W2 .i64 (n3+1))]/\M1 [Sz (upd es (cb (W2 .i64 (n+n3))) (upd (nth [] es (cb (W2 .i64 (n+n3)))) 0 (P1 .u32 (W2 .u32 (c1 (W2 .u64 (W2 .u64 (W2 .u64 n5+W2 .u64 (W2 .u64 n1*W2 .u64 n4))+n2)) (1000000000:Int)))))),P1 .u64 (W2 .u64 (c3 (W2 .u64 (W2 .u64 (W2 .u64 n5+W2 .u64 (W2 .u64 n1*W2 .u64 n4))+n2)) (1000000000:Int))),dI (W2 .i64 (n3+1))]<M1 [Sz es,P1 .u64 n2,dI n3]) ((0<=W2 .i64 (n+(bF fs.length))/\W2 .i64 (n+(bF fs.length))<(bF es.length))/\0<1/\I0 [] [Sz (upd es (cb (W2 .i64 (n+(bF fs.length)))) (upd (nth [] es (cb (W2 .i64 (n+(bF fs.length))))) 0 (P1 .u32 (W2 .u32 n2)))),dI (W2 .i64 (n+1))]/\M0 [Sz (upd es (cb (W2 .i64 (n+(bF fs.length)))) (upd (nth [] es (cb (W2 .i64 (n+(bF fs.length))))) 0 (P1 .u32 (W2 .u32 n2)))),dI (W2 .i64 (n+1))]<M0 [Sz e1,dI n])) ((e1≠[]/\wP e1=true)/\Q 1 e1)):=by kernel_rfl
end Eng
end
section
namespace Eng
open Go Go.Proofs
variable [Env]
theorem WX {C:Cx} {f s:Nat} {args:List A} {es:List (List D)} (h:jX C f args s es):Gives C f args [.c (.sl es)]:=by
 intro w F vs hb hi ha;refine(h w F vs hb hi ha).mono λe w' he=>?_
 obtain⟨a0,b,c,cs,t,rfl,h1,h2,h3,h4,h5,h6,h7,h8,h9,h10⟩:=he;refine⟨a0,_,rfl,?_⟩;have a1:Row w' (λb=>F b\/(w.heap.size<=b/\b<w'.heap.size)) es b 0 s:=⟨h8,.inr ⟨h1,h2⟩,λj hj=>by
  obtain⟨v,q1,q2⟩:=h10 j hj;refine⟨v,?_,q2 _ _⟩;rw[k8,xI h3];exact q1⟩
 exact a1.CD h5.1
omit [Env] in
theorem Zh:∀{o:List Nat} {j:Nat} (d:Nat),j<o.length->val (o.set j d)+1000000000^j*o.getD j 0=val o+1000000000^j*d
 |[],_,_,h=>absurd h (by simp)
 |x::o,0,d,_=>by simp[val];omega
 |x::o,j+1,d,h=>by have ih:=Zh (o:=o) (j:=j) d (by simpa using h);simp only[List.set_cons_succ,val,List.getD_cons_succ];rw[ie,hP (1000000000^j) 1000000000,hK,hK];omega
omit [Env] in
theorem yQ {o:List Nat} (h:Limbs o) {j d:Nat} (hd:d<1000000000):Limbs (o.set j d):=λy hy=>by
 rcases List.mem_or_eq_of_mem_set hy with hy|rfl
 .exact h y hy
 .exact hd
omit [Env] in
theorem jc {o:List Nat} {i j d:Nat} (h:i≠j):(o.set i d).getD j 0=o.getD j 0:=by simp[ep,List.getElem?_set_ne h]
omit [Env] in
theorem xp {o:List Nat} {j:Nat} (h:j<o.length):o.getD j 0=o[j]:=by simp[ep,h]
omit [Env] in
theorem HJ (t:Nat):c1 (t:Int) 1000000000=((t%1000000000:Nat):Int):=by rw[c2 (by omega)];omega
omit [Env] in
theorem HK (t:Nat):c3 (t:Int) 1000000000=((t/1000000000:Nat):Int):=by rw[cH (by omega)];omega
set_option maxHeartbeats 1000000 in
theorem Jt {a b:List Nat} (ha:Limbs a) (hb:Limbs b) (hra:a.length<=536870912) (hrb:b.length<=536870912) (hne:0<a.length+b.length):
 jX C0 147 [.c (.sl (raw a)),.c (.sl (raw b))] 1 (raw (pad (a.length+b.length) (val a*val b))):=by
 refine Bu (anns:=YR
  ⟨[.own 5 68 1,.slot 20 (.int .i64 0)],[],λ_ ds=>∃(i:Nat) (o:List Nat),i<=a.length/\ds=[.sl (raw o),.int .i64 (i:Int)]/\o.length=a.length+b.length/\Limbs o/\(∀j,i+b.length<=j->o.getD j 0=0)/\val o=val (a.take i)*val b,λds=>a.length-(toI (nth .undef ds 1)).toNat⟩
  ⟨[.own 5 68 1,.slot 8 (.int .u64 0),.slot 27 (.int .i64 0)],[.slot 6 (.int .i64 0),.slot 7 (.int .u32 0),.own 5 68 1],λg ds=>∃(i k c:Nat) (o0 o:List Nat),g=[.int .i64 (i:Int),.int .u32 ((a.getD i 0:Nat):Int),.sl (raw o0)]/\i<a.length/\k<=b.length/\c<1000000000/\ds=[.sl (raw o),.int .u64 (c:Int),.int .i64 (k:Int)]/\o.length=a.length+b.length/\Limbs o/\(∀j,i+b.length<=j->o.getD j 0=0)/\val o+1000000000^(i+k)*c=val o0+1000000000^i*(a.getD i 0*val (b.take k)),λds=>b.length-(toI (nth .undef ds 2)).toNat⟩) mixedT Tryz.func147 ?_
 rw[OM];simp only[cg,qe];have hab:W2 .i64 ((a.length:Int)+(b.length:Int))=((a.length+b.length:Nat):Int):=by rw[xb];omega
 rw[hab,cm,xn];refine⟨⟨by omega,by omega,by unfold room;omega⟩,⟨0,dv (a.length+b.length) 0,by omega,rfl,by simp,λy hy=>by rw[List.eq_of_mem_replicate hy];omega,λj _=>by simp[ep,List.getElem?_replicate];split<;>rfl,by simp[kV,val]⟩,?_⟩;rintro es n ⟨i,o0,hi,he,ag,lo,hz,hv⟩;simp only[g7,U0,U3,true_and,and_true]at he;obtain⟨rfl,rfl⟩:=he;refine brd (λh1=>?_) (λh1=>?_)
 .have a0:i<a.length:=by omega
  have hai:=ha.get a0;rw[cm];refine⟨⟨by omega,by omega,qz a0⟩,_,qA a0,⟨i,0,0,o0,o0,by rw[xp a0],a0,by omega,by omega,rfl,ag,lo,hz,by simp[val]⟩,?_⟩;rintro es m k' ⟨i',k,c,o0',o,hg,_,hk,hc,he,a2,ad,a7,al⟩;simp only[g7,U0,U3,true_and,and_true]at hg he;obtain⟨hi',hx',a5⟩:=hg;obtain⟨rfl,rfl,rfl⟩:=he;have a3:i'=i:=by omega
  subst a3;have a5:=VX a5;subst a5;rw[xp a0]at al;refine brd (λh2=>?_) (λh2=>?_)
  .have a1:k<b.length:=by omega
   have hbk:=hb.get a1;have hj:i'+k<o.length:=by omega
   have hoj:=ad.get hj;have hw:W2 .i64 ((i':Int)+(k:Int))=((i'+k:Nat):Int):=by rw[xb];omega
   have a4:W2 .i64 ((k:Int)+1)=((k+1:Nat):Int):=by rw[xb];omega
   rw[hw,a4,cm,cm,qe];refine⟨⟨by omega,by omega,qz a1⟩,_,qA a1,⟨by omega,by omega⟩,_,qA hj,by omega,by omega,⟨by omega,by omega⟩,by omega,?_⟩;have hp:a[i']*b[k]<=999999999*999999999:=Nat.mul_le_mul (by omega) (by omega);obtain⟨p,a6⟩:∃p,p=a[i']*b[k]:=⟨_,rfl⟩;rw[<-a6]at hp;have hpi:(a[i']:Int)*(b[k]:Int)=(p:Int):=by rw[a6];exact(c4 _ _).symm
   obtain⟨t,hte⟩:∃t,t=o[i'+k]+p+c:=⟨_,rfl⟩;have ht:W2 .u64 (W2 .u64 (W2 .u64 (o[i'+k]:Int)+W2 .u64 (W2 .u64 (a[i']:Int)*W2 .u64 (b[k]:Int)))+(c:Int))=(t:Int):=by rw[xH (n:=(o[i'+k]:Int)),xH (n:=(a[i']:Int)),xH (n:=(b[k]:Int)),hpi,xH (n:=(p:Int)),xH (n:=(o[i'+k]:Int)+(p:Int)),xH];omega
   rw[ht,HJ,HK,j0 (n:=((t%1000000000:Nat):Int)),xH (n:=((t/1000000000:Nat):Int)),xQ hj];refine⟨⟨i',k+1,t/1000000000,o0,o.set (i'+k) (t%1000000000),by rw[xp a0],a0,by omega,by omega,rfl,by simp[a2],yQ ad (by omega),λj hjj=>by rw[jc (by omega)];exact a7 j hjj,?_⟩,?_⟩
   .have h3:=Zh (t%1000000000) hj;rw[xp hj]at h3;rw[xp a0,qK,xp a1];have h4:=Kj (k:=i'+k) (show t%1000000000+1000000000*(t/1000000000)=t by omega);rw[show i'+(k+1)=i'+k+1 by omega];have h5:1000000000^(i'+k)*t=1000000000^(i'+k)*o[i'+k]+1000000000^(i'+k)*p+1000000000^(i'+k)*c:=by rw[hte,hH,hH]
    have h6:1000000000^i'*(a[i']*(val (b.take k)+1000000000^k*b[k]))=1000000000^i'*(a[i']*val (b.take k))+1000000000^(i'+k)*p:=by rw[hH,hH,a6,lg];congr 1;simp only[hK,Nat.mul_left_comm]
    omega
   .simp only[nth,toI];omega
  .have a1:k=b.length:=by omega
   subst a1;have hj:i'+b.length<o.length:=by omega
   have hw:W2 .i64 ((i':Int)+(b.length:Int))=((i'+b.length:Nat):Int):=by rw[xb];omega
   have a4:W2 .i64 ((i':Int)+1)=((i'+1:Nat):Int):=by rw[xb];omega
   rw[hw,a4,cm,qe,j0 (n:=(c:Int)),xQ hj];refine⟨⟨by omega,by omega⟩,by omega,⟨i'+1,o.set (i'+b.length) c,by omega,rfl,by simp[a2],yQ ad hc,λj hjj=>by rw[jc (by omega)];exact a7 j (by omega),?_⟩,?_⟩
   .have h3:=Zh c hj;rw[a7 _ (ia _)]at h3;rw[ei]at al;rw[qK,xp a0,im,<-hv,hK];omega
   .simp only[nth,toI];omega
 .have a0:i=a.length:=by omega
  subst a0;rw[ei]at hv;refine⟨⟨λe=>?_,Gj _⟩,trivial,?_⟩
  .have h0:=congrArg dl e;rw[qe]at h0;have h0:o0.length=0:=h0;omega
  .rw[<-hv,<-ag,kU lo]
theorem Lj {a b:List Nat} (ha:Limbs a) (hb:Limbs b) (hra:a.length<=536870912) (hrb:b.length<=536870912):
 Gives C0 147 [.c (.sl (raw a)),.c (.sl (raw b))] [.c (.sl (raw (pad (a.length+b.length) (val a*val b))))]:=by
 rcases hL (a.length+b.length)with h|h
 .have h1:a=[]:=eU (by omega);have h2:b=[]:=eU (by omega);subst h1 h2;exact z9 (lim:=100) (n:=5) (tab:=noT) mixedT (λ_ _ _ h=>by simp[noT]at h) _ _ _ (by kernel_rfl)
 .exact WX (Jt ha hb hra hrb h)
theorem Ju {a:List Nat} {d:Nat} (ha:Limbs a) (hd0:0<d) (hd:d<1000000000) (hra:a.length<=1073741824):
 Gives C0 335 [.c (.sl (raw a)),.c (.int .u32 (d:Int))] [.c (.sl (raw (pad a.length (val a/d)))),.c (.sl (raw [val a%d]))]:=by
 refine qm (anns:=λ_=>⟨[.own 6 44 1,.slot 7 (.int .u64 0),.slot 8 (.int .i64 0)],[],λ_ ds=>∃(k r:Nat) (h:List Nat),k<=a.length/\r<d/\h.length=a.length-k/\Limbs h/\ds=[.sl (raw (dv k 0++h)),.int .u64 (r:Int),.int .i64 ((k:Int)-1)]/\val (a.drop k)=val h*d+r,λds=>(toI (nth .undef ds 2)+1).toNat⟩) mixedT Tryz.func335 ?_;rw[Lh];simp only[cg,qe,cm,xn];refine⟨⟨by omega,by omega,by unfold room;omega⟩,⟨a.length,0,[],ia _,hd0,by simp,Limbs.nil,by rw[xb,et];rfl,by simp[val]⟩,?_⟩;rintro es m n ⟨k,r,h,hk,hr,hl,lh,he,hv⟩;simp only[g7,U0,U3,true_and,and_true]at he;obtain⟨rfl,rfl,rfl⟩:=he;refine brd (λh1=>?_) (λh1=>?_)
 .have a0:k-1<a.length:=by omega
  have hak:=ha.get a0;have ht0:((k:Int)-1).toNat=k-1:=by omega
  have hk1:W2 .i64 ((k:Int)-1-1)=((k-1:Nat):Int)-1:=by rw[xb];omega
  have hdw:W2 .u64 (d:Int)=(d:Int):=xH;have a1:(dv k 0++h).length=a.length:=by simp[hl];omega
  rw[ht0,hk1,hdw,qe,a1];refine⟨⟨by omega,by omega,qz a0⟩,_,qA a0,by omega,by omega,⟨by omega,by omega⟩,by omega,?_⟩;have hrr:r*1000000000<=999999998*1000000000:=k0 _ (by omega);obtain⟨t,hte⟩:∃t,t=r*1000000000+a[k-1]:=⟨_,rfl⟩;have ht:W2 .u64 (W2 .u64 ((r:Int)*1000000000)+W2 .u64 (a[k-1]:Int))=(t:Int):=by rw[xH (n:=(r:Int)*1000000000),xH (n:=(a[k-1]:Int)),xH];omega
  have hq:t/d<1000000000:=by rw[ks hd0];have:(r+1)*1000000000<=d*1000000000:=k0 _ hr;omega
  have hm:t%d<d:=hU _ hd0;have e1:c3 (t:Int) (d:Int)=((t/d:Nat):Int):=by rw[cH (by omega)];rfl
  have e2:c1 (t:Int) (d:Int)=((t%d:Nat):Int):=by rw[c2 (by omega)];rfl
  have hdm:=iz t d;rw[ht,e1,e2];obtain⟨q,a3⟩:∃q,q=t/d:=⟨_,rfl⟩;obtain⟨m,a2⟩:∃m,m=t%d:=⟨_,rfl⟩;rw[<-a3,<-a2]at hdm ⊢;rw[<-a3]at hq;rw[<-a2]at hm;rw[xH (n:=(q:Int)),j0 (n:=(q:Int)),xQ (by omega)];refine⟨⟨k-1,m,q::h,by omega,hm,by simp[hl];omega,Limbs.cons hq lh,?_,?_⟩,?_⟩
  .have:(dv k 0++h).set (k-1) q=dv (k-1) 0++q::h:=by obtain⟨k',rfl⟩:∃k',k=k'+1:=⟨k-1,by omega⟩;rw[List.replicate_succ',List.append_assoc,Nat.add_sub_cancel,gm _ _ (by simp)];simp
   rw[this]
  .rw[ed a0,show k-1+1=k by omega];simp only[val];rw[hv];have h5:(q+1000000000*val h)*d=d*q+1000000000*(val h*d):=by rw[im,hP q d,hK]
   omega
  .simp only[nth,toI];omega
 .have a0:k=0:=by omega
  subst a0;simp only[ez,gp,fy]at hv ⊢;have e1:val a/d=val h:=by rw[hv,hP,Nat.mul_add_div hd0,k4 hr,kh]
  have e2:val a%d=r:=by rw[hv,hP,Nat.mul_add_mod,hO hr]
  rw[e1,e2,j0];have:=kU lh;rw[hl,Nat.sub_zero]at this;rw[this];rfl
end Eng
end
section
namespace Eng
open Go Go.Proofs
variable [Env]
def cI (z:Int):List D:=[.bool (decide (z<0)),.sl (raw (lim z.natAbs))]
def qL (z:Int):A:= .ag (cI z)
def Kk:Nat:=((1000000000^100)^100)^10
def Sm (z:Int):Prop:=z.natAbs<Kk
omit [Env] in
theorem VY {n j k:Nat} (h:n<(1000000000^j)^k):(lim n).length<=j*k:=qp (by rw[hX];exact h)
omit [Env] in
theorem WY {n i j k:Nat} (h:n<((1000000000^i)^j)^k):(lim n).length<=i*j*k:=VY (j:=i*j) (k:=k) (by rw[hX];exact h)
omit [Env] in
theorem ON {n:Nat} (h:n<((1000000000^100)^100)^10):(lim n).length<=100000:=Nat.le_trans (WY h) (by decide)
omit [Env] in
theorem Lk {b i j k m:Nat} (hb:0<b) (hm:m<=i*j*k):b^m<=((b^i)^j)^k:=by
 rw[<-hX,<-hX];exact hM hb (by rw[<-hK];exact hm)
omit [Env] in
theorem pow4 {b i j k l n:Nat} (hn:n=i*j*k*l):(((b^i)^j)^k)^l=b^n:=by
 subst hn;rw[hX,hX,hX]
omit [Env] in
theorem Sm.len {z:Int} (h:Sm z):(lim z.natAbs).length<=100000:=ON h
theorem xa {l:List Nat} (b:Bool) (hl:Limbs l) (hr:l.length<=1073741824) {z:Int} (hz:z=if b then-(val l:Int)else(val l:Int)):
 Gives C0 146 [.c (.bool b),.c (.sl (raw l))] [qL z]:=by
 have h:=Js b hl hr;have e1:z.natAbs=val l:=by rw[hz];split<;>omega
 have e2:decide (z<0)=(b&&decide (0<val l)):=by
  rw[hz];cases b
  .simp only[Bx,if_false,J4,decide_eq_false_iff_not];omega
  .simp only[if_true,Lm,decide_eq_decide];omega
 unfold qL cI;rw[e1,e2];exact h
theorem WZ {u:Nat} (hu:u<18446744073709551616):Gives C0 203 [.c (.int .u64 (u:Int))] [.c (.sl (raw [u%1000000000,u/1000000000%1000000000,u/1000000000/1000000000]))]:=by
 refine qm (anns:=an0) mixedT Tryz.func203 ?_;rw[OJ];refine⟨by omega,by omega,by omega,by omega,by omega,?_⟩;rw[HJ,HK,xH (n:=((u/1000000000:Nat):Int)),HJ,HK,j0 (n:=((u%1000000000:Nat):Int)),j0 (n:=((u/1000000000%1000000000:Nat):Int)),
  xH (n:=((u/1000000000/1000000000:Nat):Int)),j0 (n:=((u/1000000000/1000000000:Nat):Int))]
 rfl
omit [Env] in
theorem Zi {u:Nat} (hu:u<18446744073709551616):Limbs [u%1000000000,u/1000000000%1000000000,u/1000000000/1000000000]/\val [u%1000000000,u/1000000000%1000000000,u/1000000000/1000000000]=u:=by
 refine⟨Limbs.cons (by omega) (Limbs.cons (by omega) (Limbs.cons (by omega) Limbs.nil)),?_⟩;simp only[val];omega
theorem xq {n:Int} (h1: -9223372036854775808<=n) (h2:n<9223372036854775808):Gives C0 132 [.c (.int .i64 n)] [qL n]:=by
 refine qm (anns:=an0) mixedT Tryz.func132 ?_;rw[WU];have hu:n.natAbs<18446744073709551616:=by omega
 obtain⟨hl,hv⟩:=Zi hu;have hs:=WZ hu;refine brd (λh=>?_) (λh=>?_)
 .have e:W2 .u64 ((0:Int)-W2 .u64 n)=((n.natAbs:Nat):Int):=by simp only[bm];omega
  rw[e];refine⟨_,hs,_,_,xa _ hl (by simp) (z:=n) ?_,rfl⟩;rw[hv,decide_eq_true h,if_pos rfl];omega
 .have e:W2 .u64 n=((n.natAbs:Nat):Int):=by simp only[bm];omega
  rw[e];refine⟨_,hs,_,_,xa _ hl (by simp) (z:=n) ?_,rfl⟩;rw[hv,decide_eq_false h,if_neg (by simp)];omega
def sgn (z:Int):Int:=if z<0 then-1 else if 0<z then 1 else 0
def kd (x y:Int):Int:=if x<y then-1 else if y<x then 1 else 0
theorem QY (z:Int):Gives C0 144 [qL z] [.c (.int .i64 (sgn z))]:=by
 refine qm (anns:=an0) mixedT Tryz.func144 ?_;unfold qL cI;rw[B6];simp only[cg,qe];refine Qd (λh=>?_) (λh=>brd (λh1=>?_) (λh1=>?_))
 .have h:=of_decide_eq_true h;rw[sgn,if_pos h]
 .have h:=of_decide_eq_false h;have:0<z.natAbs:=qD.1 (by omega);rw[sgn,if_neg h,if_pos (by omega)]
 .have h:=of_decide_eq_false h;have:¬0<z.natAbs:=λh2=>h1 (by have:=qD.2 h2;omega)
  rw[sgn,if_neg h,if_neg (by omega)]
theorem jK {x y:Int} (hx:Sm x) (hy:Sm y):Gives C0 79 [qL x,qL y] [.c (.int .i64 (kd x y))]:=by
 refine qm (anns:=an0) mixedT Tryz.func79 ?_;unfold qL cI;rw[F8];have lx:=hx.len;have ly:=hy.len;refine brb (λh=>?_) (λh=>?_)
 .have h:decide (x<0)≠decide (y<0):=by simpa using h
  have h:¬(x<0↔y<0):=λe=>h (by rw[decide_eq_decide];exact e)
  refine Qd (λh1=>?_) (λh1=>?_)
  .have h1:=of_decide_eq_true h1;rw[kd,if_pos (by omega)]
  .have h1:=of_decide_eq_false h1;rw[kd,if_neg (by omega),if_pos (by omega)]
 .have h:decide (x<0)=decide (y<0):=by simpa using h
  have h:x<0↔y<0:=by rw[decide_eq_decide]at h;exact h
  refine Qd (λh1=>?_) (λh1=>?_)
  .have h1:=of_decide_eq_true h1;refine⟨_,jJ (qc _) (qc _) (by omega) (by omega),?_⟩;rw[qi,qi,Qe,kd];have e1:(y.natAbs<x.natAbs)=(x<y):=by rw[eq_iff_iff];omega
   have e2:(x.natAbs<y.natAbs)=(y<x):=by rw[eq_iff_iff];omega
   simp only[e1,e2]
  .have h1:=of_decide_eq_false h1;refine⟨_,jJ (qc _) (qc _) (by omega) (by omega),?_⟩;rw[qi,qi,Qe,kd];have e1:(x.natAbs<y.natAbs)=(x<y):=by rw[eq_iff_iff];omega
   have e2:(y.natAbs<x.natAbs)=(y<x):=by rw[eq_iff_iff];omega
   simp only[e1,e2]
theorem Qq {x:Int} (hx:Sm x):Gives C0 142 [qL x] [qL (-x)]:=by
 refine qm (anns:=an0) mixedT Tryz.func142 ?_;have lx:=hx.len;rw[show qL x= .ag (cI x)from rfl,cI,FC,qe];refine⟨⟨by unfold room;omega,zG _⟩,_,_,xa _ (qc _) (by omega) (z:= -x) ?_,rfl⟩;rw[qi];by_cases h:x<0
 .rw[decide_eq_true h];simp;omega
 .rw[decide_eq_false h];simp;omega
theorem jd {x y:Int} (hx:Sm x) (hy:Sm y):Gives C0 80 [qL x,qL y] [qL (x*y)]:=by
 refine qm (anns:=an0) mixedT Tryz.func80 ?_;have lx:=hx.len;have ly:=hy.len;rw[show qL x= .ag (cI x)from rfl,show qL y= .ag (cI y)from rfl,cI,cI,FD];refine⟨_,Lj (qc _) (qc _) (by omega) (by omega),_,_,xa _ (xR _ _) (by rw[xu];omega) (z:=x*y) ?_,rfl⟩;have hv:val (pad ((lim x.natAbs).length+(lim y.natAbs).length) (val (lim x.natAbs)*val (lim y.natAbs)))=x.natAbs*y.natAbs:=by rw[jI,qi,qi];refine hO ?_;have h1:=qS (qc x.natAbs);have h2:=qS (qc y.natAbs);rw[qi]at h1 h2;rw[lg];exact Nat.mul_lt_mul'' h1 h2
 rw[hv];obtain⟨a,ha⟩:∃a,a=x.natAbs:=⟨_,rfl⟩;obtain⟨b,hb⟩:∃b,b=y.natAbs:=⟨_,rfl⟩;rw[<-ha,<-hb,c4];by_cases h1:x<0<;>by_cases h2:y<0
 .have ex:x= -(a:Int):=by omega
  have ey:y= -(b:Int):=by omega
  rw[decide_eq_true h1,decide_eq_true h2,ex,ey];simp only[Lr,beq_self_eq_true,Bx,if_false];rw[Int.neg_mul_neg]
 .have ex:x= -(a:Int):=by omega
  have ey:y=(b:Int):=by omega
  rw[decide_eq_true h1,decide_eq_false h2,ex,ey];simp only[Lr,J3,beq_false,if_true];rw[Int.neg_mul]
 .have ex:x=(a:Int):=by omega
  have ey:y= -(b:Int):=by omega
  rw[decide_eq_false h1,decide_eq_true h2,ex,ey];simp only[J3,beq_true,if_true];rw[cL]
 .have ex:x=(a:Int):=by omega
  have ey:y=(b:Int):=by omega
  rw[decide_eq_false h1,decide_eq_false h2,ex,ey];simp
theorem Qr {x y:Int} (hx:Sm x) (hy:Sm y):Gives C0 141 [qL x,qL y] [qL (x+y)]:=by
 refine qm (anns:=an0) mixedT Tryz.func141 ?_;have lx:=hx.len;have ly:=hy.len;rw[show qL x= .ag (cI x)from rfl,show qL y= .ag (cI y)from rfl,cI,cI,F9];have hpv:∀(a b:List Nat),Limbs a->Limbs b->val (pad (max a.length b.length+1) (val a+val b))=val a+val b:=by intro a b ha hb;rw[jI];refine hO ?_;have h1:=qS ha;have h2:=qS hb;have h3:1000000000^a.length<=1000000000^max a.length b.length:=hM (by omega) (by omega);have h4:1000000000^b.length<=1000000000^max a.length b.length:=hM (by omega) (by omega);rw[ie];omega
 have a0:∀(a b:List Nat),Limbs a->val b<=val a->val (pad a.length (val a-val b))=val a-val b:=by intro a b ha hb;rw[jI];exact hO (by have:=qS ha;omega)
 refine brb (λh=>?_) (λh=>?_)
 .have h:decide (x<0)=decide (y<0):=by simpa using h
  have h':x<0↔y<0:=by rw[decide_eq_decide]at h;exact h
  refine⟨_,OL (qc _) (qc _) (by omega) (by omega),_,_,xa _ (xR _ _) (by rw[xu];omega) (z:=x+y) ?_,rfl⟩;rw[hpv _ _ (qc _) (qc _),qi,qi];by_cases h:x<0
  .rw[decide_eq_true h,if_pos rfl];omega
  .rw[decide_eq_false h,if_neg (by simp)];omega
 .have h:decide (x<0)≠decide (y<0):=by simpa using h
  have h':¬(x<0↔y<0):=λe=>h (by rw[decide_eq_decide];exact e)
  refine⟨_,jJ (qc _) (qc _) (by omega) (by omega),?_⟩;rw[qi,qi];have hc:Qe x.natAbs y.natAbs<0↔x.natAbs<y.natAbs:=by
   unfold Qe;split
   .simp;assumption
   .split<;>simp<;>omega
  refine brd (λh1=>?_) (λh1=>?_)
  .have h1:=hc.1 h1;refine⟨_,WW (qc _) (qc _) (by omega) (by rw[qi,qi];omega),_,_,xa _ (xR _ _) (by rw[xu];omega) (z:=x+y) ?_,rfl⟩;rw[a0 _ _ (qc _) (by rw[qi,qi];omega),qi,qi];by_cases h:y<0
   .rw[decide_eq_true h,if_pos rfl];omega
   .rw[decide_eq_false h,if_neg (by simp)];omega
  .have h1:¬x.natAbs<y.natAbs:=λh2=>h1 (hc.2 h2)
   refine⟨_,WW (qc _) (qc _) (by omega) (by rw[qi,qi];omega),_,_,xa _ (xR _ _) (by rw[xu];omega) (z:=x+y) ?_,rfl⟩;rw[a0 _ _ (qc _) (by rw[qi,qi];omega),qi,qi];by_cases h:x<0
   .rw[decide_eq_true h,if_pos rfl];omega
   .rw[decide_eq_false h,if_neg (by simp)];omega
theorem Ll {x y:Int} (hx:Sm x) (hy:Sm y):Gives C0 312 [qL x,qL y] [qL (x-y)]:=by
 refine qm (anns:=an0) mixedT Tryz.func312 ?_;have hn:Sm (-y):=by unfold Sm at *;rw[c0];exact hy
 have ha:=Qr hx hn;rw[show qL x= .ag (cI x)from rfl,show qL y= .ag (cI y)from rfl,cI,cI,FA];simp only[cg,qe];have e1:(-y).natAbs=y.natAbs:=c0 y;refine brb (λh=>?_) (λh=>?_)
 .have h:¬y<0:=by simpa using h
  refine⟨_,_,?_,rfl⟩;have e2:decide (((lim y.natAbs).length:Int)>0)=decide (-y<0):=by rw[decide_eq_decide];have:=qD (n:=y.natAbs);omega
  rw[e2,<-e1];exact ha
 .have h:y<0:=by simpa using h
  refine⟨_,_,?_,rfl⟩;have e2:false=decide (-y<0):=by rw[eq_comm,decide_eq_false_iff_not];omega
  rw[e2,<-e1];exact ha
theorem Gk {x:Int} (hx:Sm x):Gives C0 267 [qL x] (if x.natAbs<1000000000000000000 then [.c (.int .u64 (x.natAbs:Int)),.c (.bool true)]else [.c (.int .u64 0),.c (.bool false)]):=by
 refine qm (anns:=an0) mixedT Tryz.func267 ?_;have lx:=hx.len;rw[show qL x= .ag (cI x)from rfl,cI,B5];simp only[cg,qe];generalize hl:lim x.natAbs=l at *;have a0:Limbs l:=hl▸qc _;have hv:val l=x.natAbs:=hl▸qi _;have hge:1000000000000000000<=x.natAbs->2<l.length:=λh=>hl▸jt (k:=2) (by omega)
 have hlt:=qS a0;refine brb (λh=>?_) (λh=>brb (λh1=>?_) (λh1=>brb (λh2=>?_) (λh2=>?_)))
 .have h:l.length=0:=by have:(l.length:Int)=0:=by simpa using h
                        omega
  have:l=[]:=eU h;subst this;simp only[val]at hv;rw[if_pos (by omega),<-hv];rfl
 .have h1:l.length=1:=by have:(l.length:Int)=1:=by simpa using h1
                         omega
  obtain⟨a,rfl⟩:∃a,l=[a]:=gd.1 h1;have ha:=(a0.of_cons).1;simp only[val]at hv;refine⟨⟨by omega,by rw[h1];omega,rfl⟩,_,qA (l:=[a]) (i:=0) (by simp),?_⟩;rw[if_pos (by omega)];have:W2 .u64 (([a][0]:Nat):Int)=(x.natAbs:Int):=by show W2 .u64 (a:Int)=_;rw[xH];omega
  rw[this]
 .have h2:l.length=2:=by have:(l.length:Int)=2:=by simpa using h2
                         omega
  obtain⟨a,b,rfl⟩:∃a b,l=[a,b]:=(match l,h2 with|[a,b],_=>⟨a,b,rfl⟩);have ha:=(a0.of_cons).1;have hb:=((a0.of_cons).2.of_cons).1;simp only[val]at hv;refine⟨⟨by omega,by rw[h2];omega,rfl⟩,_,qA (l:=[a,b]) (i:=1) (by simp),⟨by omega,by rw[h2];omega,rfl⟩,_,qA (l:=[a,b]) (i:=0) (by simp),?_⟩;rw[if_pos (by omega)];have:W2 .u64 (W2 .u64 (W2 .u64 (([a,b][1]:Nat):Int)*1000000000)+W2 .u64 (([a,b][0]:Nat):Int))=(x.natAbs:Int):=by show W2 .u64 (W2 .u64 (W2 .u64 (b:Int)*1000000000)+W2 .u64 (a:Int))=_;rw[xH (n:=(b:Int)),xH (n:=(a:Int)),xH (n:=(b:Int)*1000000000),xH];omega
  rw[this]
 .have h:(l.length:Int)≠0:=by simpa using h
  have h1:(l.length:Int)≠1:=by simpa using h1
  have h2:(l.length:Int)≠2:=by simpa using h2
  have:¬x.natAbs<1000000000000000000:=by intro hc;have h5:=qp (n:=x.natAbs) (k:=2) (by omega);rw[hl]at h5;omega
  rw[if_neg this]
end Eng
end
section
namespace Eng
open Go Go.Proofs Go.RowKit
variable [Env]
def Qs (chk:List A->Bool) (s:Nat) (mk:List A->List (List D)) (dst:Option Nat) (vs:List V) (ob:List Obj):R:=
 match dst with
 |none=> .fail
 |some d=>match qx ob d,j5 ob vs with
  |true,some (al,us)=> .cond (chk al=true) (.arr d) (us++[(d,.arr s (mk al) false)])
  |_,_=> .fail
theorem Jv {C:Cx} {f s:Nat} {fn:Func} {chk:List A->Bool} {mk:List A->List (List D)} (hf:C.P.funcs[f]? =some fn) (hb:fn.body≠none) (hn:fn.name≠ "runtime.NumGoroutine") (h:∀al,chk al=true->jX C f al s (mk al)):EffAt C f (Qs chk s mk):=by
 have h0:=TC (C:=C) (own:=λal=>match chk al with|true=>some (s,mk al)|false=>none) hf hb hn (λal s' es ho=>by
  split at ho
  .rename_i hc;simp only[lp,Prod.mk.injEq]at ho;obtain⟨rfl,rfl⟩:=ho;exact h al hc
  .simp at ho)
 have hE:∀(dst:Option Nat) (vs:List V) (ob:List Obj),(∃al us d,dst=some d/\qx ob d=true/\j5 ob vs=some (al,us)/\Qs chk s mk dst vs ob= .cond (chk al=true) (.arr d) (us++[(d,.arr s (mk al) false)])/\
  (chk al=true->Jp (λal=>match chk al with|true=>some (s,mk al)|false=>none) dst vs ob= .ok (.arr d) (us++[(d,.arr s (mk al) false)])))\/Qs chk s mk dst vs ob= .fail:=by
  intro dst vs ob;unfold Qs;split
  .exact .inr rfl
  .rename_i d;split
   .rename_i al us h1 h2;refine .inl ⟨al,us,d,rfl,h1,h2,rfl,λhc=>?_⟩;simp only[Jp,h1,h2,hc]
   .exact .inr rfl
 refine⟨λ{B F0 w0 F loc st a w dst args ts ty pos after g} hc=>?_,λdst vs ob ob' hh hd=>?_,λdst vs ob hv hb=>?_⟩
 .rcases hE dst (args.toList.map (ev st)) st.objs with⟨al,us,d,h1,h2,h3,h4,h5⟩|h1
  .rw[h4];intro hcc;have:=h0.rs (dst:=dst) (args:=args) (ts:=ts) (ty:=ty) (pos:=pos) (after:=after) (g:=g) hc;rw[h5 hcc]at this;exact this
  .rw[h1];trivial
 .unfold Qs;cases dst with
  |none=>rfl
  |some d=>
   have h1:j5 ob vs=j5 ob' vs:=z7 (c:=2) λv hv k hk=> .inl (hh k (by
    rw[qq];exact⟨k,gz.2 ⟨v,hv,hk⟩,.inl rfl⟩))
   simp only[h1];rw[hd d (.inl rfl)]
 .rcases hE dst vs ob with⟨al,us,d,rfl,h2,h3,h4,h5⟩|h1
  .rw[h4];have hfz:=kb h3;refine⟨λp hp=>?_,λk hk=>?_⟩
   .rcases fR.1 hp with hp|hp
    .obtain⟨⟨v,hv1,hv2⟩,s',es',fz,h1,h2⟩:=hfz p hp;refine⟨.inr ⟨?_,by rw[h1];simp⟩,by rw[h2];simp,λu hu=>by rw[h2]at hu;simp[qQ]at hu⟩;rw[qq];exact⟨p.1,gz.2 ⟨v,hv1,hv2⟩,.inl rfl⟩
    .simp only[ft]at hp;subst hp;exact⟨.inl ⟨.inl rfl,h2⟩,by simp,λu hu=>by simp[qQ]at hu⟩
   .simp only[qh,ft]at hk;subst hk;exact .inr ⟨h2,_,List.mem_append_right _ (ft.2 rfl)⟩
  .rw[h1];trivial
def FE:List D->Bool
 |[.int .u32 (.ofNat n)]=>k3 n 1000000000
 |_=>false
def QH:List (List D)->Bool
 |[]=>true
 |e::r=>FE e&&QH r
def B8:List D->Nat
 |[.int _ n]=>n.toNat
 |_=>0
def ZO (es:List (List D)):List Nat:=es.map B8
def valD:List (List D)->Nat
 |[]=>0
 |e::r=>B8 e+1000000000*valD r
omit [Env] in
theorem yR:∀{es:List (List D)},QH es=true->es=raw (ZO es)/\Limbs (ZO es)/\val (ZO es)=valD es
 |[],_=>⟨rfl,Limbs.nil,rfl⟩
 |e::r,h=>by
  simp only[QH,Aw]at h;obtain⟨h1,h2,h3⟩:=yR h.2;have he:=h.1;unfold FE at he;split at he
  .rename_i n;rw[j2]at he;refine⟨?_,Limbs.cons he h2,?_⟩
   .simp only[ZO,eL,raw,B8]at h1 ⊢;rw[<-h1];rfl
   .simp only[ZO,eL,val,valD,B8]at h3 ⊢;rw[h3]
  .simp at he
omit [Env] in
theorem Qt:∀{l:List Nat},Limbs l->QH (raw l)=true
 |[],_=>rfl
 |x::l,h=>by obtain⟨h1,h2⟩:=h.of_cons;simp only[raw,eL,QH,Aw];refine⟨?_,Qt h2⟩;show k3 x 1000000000=true;rw[j2];exact h1
omit [Env] in
theorem yS:∀(l:List Nat),valD (raw l)=val l
 |[]=>rfl
 |x::l=>by have:=yS l;simp only[raw,eL,valD,val,B8]at this ⊢;rw[this];rfl
def zu:List A->Bool
 |[.c (.sl a),.c (.sl b)]=>QH a&&(QH b&&(Nat.ble a.length 536870912&&(Nat.ble b.length 536870912&&k3 0 (a.length+b.length))))
 |_=>false
def jL:List A->List (List D)
 |[.c (.sl a),.c (.sl b)]=>raw (pad (a.length+b.length) (valD a*valD b))
 |_=>[]
theorem Va (al:List A) (h:zu al=true):jX C0 147 al 1 (jL al):=by
 unfold zu at h;split at h
 .rename_i a b;simp only[Aw]at h;obtain⟨h1,h2,h3,h4,h5⟩:=h;obtain⟨ea,la,va⟩:=yR h1;obtain⟨eb,lb,vb⟩:=yR h2;have h3:=kk h3;have h4:=kk h4;rw[j2]at h5;have na:(ZO a).length=a.length:=by simp[ZO]
  have nb:(ZO b).length=b.length:=by simp[ZO]
  have:=Jt la lb (by omega) (by omega) (by omega);rw[<-ea,<-eb,va,vb,na,nb]at this;exact this
 .simp at h
def FF (t:TypeId) (d:Option Nat):Bool:=
 match d with
 |some d=>match hD t 81 with
  |true=>hD d 148||(hD d 160||hD d 71)
  |false=>match hD t 70 with
   |true=>hD d 76||(hD d 81||(hD d 40||hD d 44))
   |false=>(hD t 54&&(hD d 48||hD d 53))||(hD t 99999&&hD d 10)
 |none=>false
def FG (chk:List A->Bool) (mk:List A->List (List D)) (f:Nat):Option (Option Nat->List V->List Obj->R):=
 match hD f 336 with
 |true=>some W3
 |false=>match hD f 337 with
  |true=>some W4
  |false=>match hD f 147 with
   |true=>some (Qs chk 1 mk)
   |false=>none
noncomputable def CM (chk:List A->Bool) (mk:List A->List (List D)):Cx:=⟨Tryz.prog,λ_=>none,λ_=>false,FG chk mk,FF,λ_=>false⟩
noncomputable def CC:Cx:=CM zu jL
theorem B9 (f:Nat) (e:Option Nat->List V->List Obj->R) (h:CC.eff f=some e):EffAt CC f e:=by
 replace h:FG zu jL f=some e:=h;unfold FG at h;split at h
 .rename_i hb;obtain rfl:=hC hb;simp only[lp]at h;subst h;exact W5 (C:=CC) aQ
 .split at h
  .rename_i hb;obtain rfl:=hC hb;simp only[lp]at h;subst h;exact W6 (C:=CC) aQ
  .split at h
   .rename_i hb;obtain rfl:=hC hb;simp only[lp]at h;subst h;exact Jv (C:=CC) Tryz.func147 (by simp[Tryz.f147]) (by decide) λal hc=>XY (C:=C0) (C':=CC) rfl rfl (Va al hc)
   .simp at h
instance:EffOk CC:=xd B9
end Eng
end
section
open Go Go.Proofs Eng
namespace Eng
section
variable (Gv:Nat->List A->List A->Prop) (I0:List D->List D->Prop) (M0:List D->Nat) (I1:List D->List D->Prop) (M1:List D->Nat) (I2:List D->List D->Prop) (M2:List D->Nat) (I3:List D->List D->Prop) (M3:List D->Nat) (Q:List A->Prop)
theorem BA:wpF CC Gv an0 Tryz.f202 [] Q=(∃b es,Gv 132 [aI (1:Int)] [aZ b es]/\Q [aZ b es]):=by kernel_rfl
theorem OO (p:Bool) (es:List (List D)):wpF CC Gv an0 Tryz.f131 [.ag [.bool p,.sl es]] Q=(∃b e1,Gv 202 [] [aZ b e1]/\Q [Ls [Tk p,Sz es,Tk b,Sz e1]]):=by kernel_rfl
theorem Kl (n:Int):wpF CC Gv an0 Tryz.f72 [.c (.int .i64 n)] Q=(∃b es,Gv 132 [aI n] [aZ b es]/\∃x,Gv 131 [aZ b es] [aR x]/\Q [aR x]):=by kernel_rfl
theorem OP (p q:Bool) (es fs:List (List D)):wpF CC Gv an0 Tryz.f211 [.ag [.bool p,.sl es],.ag [.bool q,.sl fs]] Q=(∃b e1 b1 e2 i,Gv 246 [aZ p es,aZ q fs] [aZ b e1,aZ b1 e2,aI i]/\Q [aZ b e1]):=by kernel_rfl
theorem Ln (p q:Bool) (es fs:List (List D)):wpF CC Gv an0 Tryz.f140 [.ag [.bool p,.sl es],.ag [.bool q,.sl fs]] Q=(∃i,Gv 144 [aZ q fs] [aI i]/\bB (decide (i<0)) (∃b e1,Gv 142 [aZ p es] [aZ b e1]/\∃b1 es,Gv 142 [aZ q fs] [aZ b1 es]/\∃b2 e2,Gv 210 [aZ b e1,aZ b1 es] [aZ b2 e2]/\∃b3 e3,Gv 202 [] [aZ b3 e3]/\∃i,Gv 79 [aZ b2 e2,aZ b3 e3] [aI i]/\bB (i !=0) (∃b4 e4,Gv 211 [aZ b e1,aZ b2 e2] [aZ b4 e4]/\∃b e5,Gv 211 [aZ b1 es,aZ b2 e2] [aZ b e5]/\Q [Ls [Tk b4,Sz e4,Tk b,Sz e5]]) (Q [Ls [Tk b,Sz e1,Tk b1,Sz es]])) (∃b e1,Gv 210 [aZ p es,aZ q fs] [aZ b e1]/\∃b1 e2,Gv 202 [] [aZ b1 e2]/\∃i,Gv 79 [aZ b e1,aZ b1 e2] [aI i]/\bB (i !=0) (∃b2 e3,Gv 211 [aZ p es,aZ b e1] [aZ b2 e3]/\∃b3 es,Gv 211 [aZ q fs,aZ b e1] [aZ b3 es]/\Q [Ls [Tk b2,Sz e3,Tk b3,Sz es]]) (Q [Ls [Tk p,Sz es,Tk q,Sz fs]]))):=by kernel_rfl
theorem OQ (p q:Bool) (es fs:List (List D)):wpF CC Gv an0 Tryz.f78 [.ag [.bool p,.sl es,.bool q,.sl fs]] Q=(∃i,Gv 144 [aZ p es] [aI i]/\Q [aI i]):=by kernel_rfl
theorem Km (m n:Int):wpF CC Gv an0 Tryz.f77 [.c (.int .i64 m),.c (.int .i64 n)] Q=(∃b,Gv 143 [aI m] [aB b]/\∃b1,Gv 143 [aI n] [aB b1]/\br b (br b1 (Q [aI (0:Int)]) (Q [aI (-1:Int)])) (br b1 (Q [aI (1:Int)]) (bB (decide (m<n)) (Q [aI (-1:Int)]) (bB (decide (m>n)) (Q [aI (1:Int)]) (Q [aI (0:Int)]))))):=by kernel_rfl
theorem OT (m:Int):wpF CC Gv an0 Tryz.f143 [.c (.int .i64 m)] Q=(Q [aB (m !=m)]):=by kernel_rfl
theorem BB (p q r s:Bool) (es fs gs hs:List (List D)):wpF CC Gv an0 Tryz.f34 [.ag [.bool p,.sl es,.bool q,.sl fs],.ag [.bool r,.sl gs,.bool s,.sl hs]] Q=(∃i,Gv 78 [Ls [Tk p,Sz es,Tk q,Sz fs]] [aI i]/\∃i_1,Gv 78 [Ls [Tk r,Sz gs,Tk s,Sz hs]] [aI i_1]/\∃i_2,Gv 77 [aI i,aI i_1] [aI i_2]/\bB (i_2 !=0) (Q [aI i_2]) (∃b e1,Gv 80 [aZ p es,aZ s hs] [aZ b e1]/\∃b1 es,Gv 80 [aZ r gs,aZ q fs] [aZ b1 es]/\∃i,Gv 79 [aZ b e1,aZ b1 es] [aI i]/\Q [aI i])):=by kernel_rfl
theorem BC (p q r s:Bool) (es fs gs hs:List (List D)):wpF CC Gv an0 Tryz.f75 [.ag [.bool p,.sl es,.bool q,.sl fs],.ag [.bool r,.sl gs,.bool s,.sl hs]] Q=(∃i,Gv 79 [aZ q fs,aZ s hs] [aI i]/\bB (i==0) (∃b e1,Gv 141 [aZ p es,aZ r gs] [aZ b e1]/\∃x,Gv 140 [aZ b e1,aZ q fs] [aR x]/\Q [aR x]) (∃b e1,Gv 80 [aZ p es,aZ s hs] [aZ b e1]/\∃b1 es,Gv 80 [aZ r gs,aZ q fs] [aZ b1 es]/\∃b2 e2,Gv 141 [aZ b e1,aZ b1 es] [aZ b2 e2]/\∃b es,Gv 80 [aZ q fs,aZ s hs] [aZ b es]/\∃x,Gv 140 [aZ b2 e2,aZ b es] [aR x]/\Q [aR x])):=by kernel_rfl
theorem BD (p q r s:Bool) (es fs gs hs:List (List D)):wpF CC Gv an0 Tryz.f33 [.ag [.bool p,.sl es,.bool q,.sl fs],.ag [.bool r,.sl gs,.bool s,.sl hs]] Q=(∃x,Gv 76 [Ls [Tk r,Sz gs,Tk s,Sz hs]] [aR x]/\∃x1,Gv 75 [Ls [Tk p,Sz es,Tk q,Sz fs],aR x] [aR x1]/\Q [aR x1]):=by kernel_rfl
theorem BE (p q:Bool) (es fs:List (List D)):wpF CC Gv an0 Tryz.f76 [.ag [.bool p,.sl es,.bool q,.sl fs]] Q=(∃b e1,Gv 142 [aZ p es] [aZ b e1]/\Q [Ls [Tk b,Sz e1,Tk q,Sz fs]]):=by kernel_rfl
theorem BF (p q r s:Bool) (es fs gs hs:List (List D)):wpF CC Gv an0 Tryz.f157 [.ag [.bool p,.sl es,.bool q,.sl fs],.ag [.bool r,.sl gs,.bool s,.sl hs]] Q=(∃b e1,Gv 80 [aZ p es,aZ r gs] [aZ b e1]/\∃b1 es,Gv 80 [aZ q fs,aZ s hs] [aZ b1 es]/\∃x,Gv 140 [aZ b e1,aZ b1 es] [aR x]/\Q [aR x]):=by kernel_rfl
end
end Eng
end
section
open Go Go.Proofs Eng
namespace Eng
section
variable (Gv:Nat->List A->List A->Prop) (I0:List D->List D->Prop) (M0:List D->Nat) (I1:List D->List D->Prop) (M1:List D->Nat) (I2:List D->List D->Prop) (M2:List D->Nat) (I3:List D->List D->Prop) (M3:List D->Nat) (Q:List A->Prop)
theorem Lo (p q:Bool) (es fs:List (List D)):wpF CC Gv an0 Tryz.f246 [.ag [.bool p,.sl es],.ag [.bool q,.sl fs]] Q=(bB ((bF fs.length)==0) (Q [aZ false [],aZ false [],aI (6:Int)]) (∃e1 e2,Gv 268 [aL es,aL fs] [aL e1,aL e2]/\∃b es,Gv 146 [Lv (Tk !p==q),aL e1] [aZ b es]/\∃b1 e3,Gv 146 [aB p,aL e2] [aZ b1 e3]/\bB (decide ((bF e3.length)>0)) (bB (!b1==q) (∃b2 e4,Gv 132 [aI (1:Int)] [aZ b2 e4]/\∃b3 e5,Gv 312 [aZ b es,aZ b2 e4] [aZ b3 e5]/\∃b es,Gv 141 [aZ b1 e3,aZ q fs] [aZ b es]/\Q [aZ b3 e5,aZ b es,aI (0:Int)]) (Q [aZ b es,aZ b1 e3,aI (0:Int)])) (Q [aZ b es,aZ b1 e3,aI (0:Int)]))):=by kernel_rfl
theorem FH (p q:Bool) (es fs:List (List D)):wpF CC Gv (YR ⟨[.box 5 [.bool false,.slice none 0 0],.box 6 [.bool false,.slice none 0 0]],[],I0,M0⟩ ⟨[.slot 7 (.int .u64 0),.slot 9 (.int .u64 0)],[],I1,M1⟩) Tryz.f210 [.ag [.bool p,.sl es],.ag [.bool q,.sl fs]] Q=(∃b e1,Gv 146 [aB false,aL es] [aZ b e1]/\∃b1 es,Gv 146 [aB false,aL fs] [aZ b1 es]/\I0 [] [Tk b,Sz e1,Tk b1,Sz es]/\∀(b:Bool) (es:List (List D)) (b2:Bool) (e2:List (List D)),I0 [] [Tk b,Sz es,Tk b2,Sz e2]->bB (decide ((bF e2.length)>0)) (∃n b3,Gv 267 [aZ b es] [Lv (P1 .u64 n),aB b3]/\∃n1 b4,Gv 267 [aZ b2 e2] [Lv (P1 .u64 n1),aB b4]/\br b3 (br b4 (I1 [] [P1 .u64 n,P1 .u64 n1]/\∀(n n2:Int),I1 [] [P1 .u64 n,P1 .u64 n2]->bB (decide (n2>0)) (n2≠0/\I1 [] [P1 .u64 n2,P1 .u64 (c1 n n2)]/\M1 [P1 .u64 n2,P1 .u64 (c1 n n2)]<M1 [P1 .u64 n,P1 .u64 n2]) (∃es,Gv 203 [Lv (P1 .u64 n)] [aL es]/\∃b e3,Gv 146 [aB false,aL es] [aZ b e3]/\Q [aZ b e3])) (∃e3 e4,Gv 268 [aL es,aL e2] [aL e3,aL e4]/\∃b5 e5,Gv 146 [aB false,aL e4] [aZ b5 e5]/\I0 [] [Tk b2,Sz e2,Tk b5,Sz e5]/\M0 [Tk b2,Sz e2,Tk b5,Sz e5]<M0 [Tk b,Sz es,Tk b2,Sz e2])) (∃e3 e4,Gv 268 [aL es,aL e2] [aL e3,aL e4]/\∃b5 e5,Gv 146 [aB false,aL e4] [aZ b5 e5]/\I0 [] [Tk b2,Sz e2,Tk b5,Sz e5]/\M0 [Tk b2,Sz e2,Tk b5,Sz e5]<M0 [Tk b,Sz es,Tk b2,Sz e2])) ((room es.length/\lens 1 es)/\∃b e3,Gv 146 [aB false,aL es] [aZ b e3]/\Q [aZ b e3])):=by kernel_rfl
end
end Eng
end
section
namespace Eng
open Go Go.Proofs
variable [Env]
theorem up {f:Nat} {al rs:List A} (h:Gives C0 f al rs):Gives CC f al rs:=xP rfl rfl h
def Vb:Prop:=∀(a b:List Nat),Limbs a->Limbs b->val b≠0->a.length<=100000->b.length<=100000->
 ∃q r,Gives CC 268 [.c (.sl (raw a)),.c (.sl (raw b))] [.c (.sl (raw q)),.c (.sl (raw r))]/\Limbs q/\Limbs r/\val q=val a/val b/\val r=val a%val b/\q.length<=1073741824/\r.length<=1073741824
omit [Env] in
theorem smN {n:Nat}:Sm (n:Int)↔n<Kk:=by unfold Sm;rw[cp]
theorem VZ (hd:Vb) {x y:Int} (hx:Sm x) (hy:Sm y):Gives CC 210 [qL x,qL y] [qL (hQ x.natAbs y.natAbs:Nat)]:=by
 generalize hG:hQ x.natAbs y.natAbs=G;refine qm (anns:=YR
  ⟨[.box 5 [.bool false,.slice none 0 0],.box 6 [.bool false,.slice none 0 0]],[],λ_ ds=>∃m n:Nat,ds=cI (m:Int)++cI (n:Int)/\hQ m n=G/\m<Kk/\n<Kk,λds=>valD (toL (nth .undef ds 3))⟩
  ⟨[.slot 7 (.int .u64 0),.slot 9 (.int .u64 0)],[],λ_ ds=>∃u v:Nat,ds=[.int .u64 (u:Int),.int .u64 (v:Int)]/\hQ u v=G/\u<1000000000000000000/\v<1000000000000000000,λds=>(toI (nth .undef ds 1)).toNat⟩) mixedT Tryz.func210 ?_
 have lx:=hx.len;have ly:=hy.len;rw[show qL x= .ag (cI x)from rfl,show qL y= .ag (cI y)from rfl];have vx:=xa false (qc x.natAbs) (by omega) (z:=(x.natAbs:Int)) (by simp[qi]);have vy:=xa false (qc y.natAbs) (by omega) (z:=(y.natAbs:Int)) (by simp[qi]);rw[cI,cI,FH];simp only[cg];refine⟨_,_,up vx,_,_,up vy,⟨x.natAbs,y.natAbs,rfl,hG,hx,hy⟩,?_⟩;rintro bx es by_ fs ⟨m,n,he,hg,hm,hn⟩;simp only[cI,fx,fy,g7,D.bool.injEq,U3,and_true,cp]at he;obtain⟨rfl,rfl,rfl,rfl⟩:=he;have lm:=(smN.2 hm).len;have ln:=(smN.2 hn).len;rw[cp]at lm ln;have em:qL (m:Int)=Ls [Tk (decide ((m:Int)<0)),Sz (raw (lim m))]:=by unfold qL cI;rw[cp]
 have en:qL (n:Int)=Ls [Tk (decide ((n:Int)<0)),Sz (raw (lim n))]:=by unfold qL cI;rw[cp]
 have wm:=Gk (smN.2 hm);have wn:=Gk (smN.2 hn);rw[cp]at wm wn;rw[em]at wm;rw[en]at wn;rw[qe,qe];have a0:0<n->∃es_3 es_4,
  Gives CC 268 [Lv (Sz (raw (lim m))),Lv (Sz (raw (lim n)))] [Lv (Sz es_3),Lv (Sz es_4)]/\
   ∃b_5 es_5,
    Gives CC 146 [Lv (Tk false),Lv (Sz es_4)] [Ls [Tk b_5,Sz es_5]]/\
     (∃m' n':Nat,[Tk (decide ((n:Int)<0)),Sz (raw (lim n)),Tk b_5,Sz es_5]=cI (m':Int)++cI (n':Int)/\hQ m' n'=G/\m'<Kk/\n'<Kk)/\
      valD (toL (nth .undef [Tk (decide ((n:Int)<0)),Sz (raw (lim n)),Tk b_5,Sz es_5] 3))<valD (toL (nth .undef [Tk (decide ((m:Int)<0)),Sz (raw (lim m)),Tk (decide ((n:Int)<0)),Sz (raw (lim n))] 3)):=by
  intro a2;obtain⟨q,r,h1,lq,lr,vq,vr,q1,r1⟩:=hd (lim m) (lim n) (qc _) (qc _) (by rw[qi];omega) lm ln;rw[qi,qi]at vr;have a1:=hU m a2;refine⟨_,_,h1,_,_,up (xa false lr r1 (z:=((m%n:Nat):Int)) (by simp[vr])),⟨n,m%n,?_,?_,hn,by omega⟩,?_⟩
  .simp only[cI,cp,fx,fy]
  .rw[<-hg,it n,<-ll,it]
  .simp only[nth,toL,cp,yS,qi];exact a1
 refine brd (λh=>?_) (λh=>?_)
 .have a2:0<n:=qD.1 (by omega);by_cases sm:m<1000000000000000000
  .rw[if_pos sm]at wm;by_cases sn:n<1000000000000000000
   .rw[if_pos sn]at wn;refine⟨_,_,up wm,_,_,up wn,?_⟩;refine⟨⟨m,n,rfl,hg,sm,sn⟩,?_⟩;rintro a b ⟨u,v,he,a3,hu,hv⟩;simp only[g7,U0,true_and,and_true]at he;obtain⟨rfl,rfl⟩:=he;refine brd (λh2=>?_) (λh2=>?_)
    .have a4:0<v:=by omega
     have e2:c1 (u:Int) (v:Int)=((u%v:Nat):Int):=by rw[c2 (by omega)];rfl
     have a1:=hU u a4;rw[e2];refine⟨by omega,⟨v,u%v,rfl,by rw[<-a3,it v,<-ll,it],hv,by omega⟩,?_⟩;simp only[nth,toI,cm];exact a1
    .have a4:v=0:=by omega
     subst a4;rw[k2]at a3;subst a3;obtain⟨l1,l2⟩:=Zi (u:=u) (by omega);exact⟨_,up (WZ (by omega)),_,_,up (xa false l1 (by simp) (z:=(u:Int)) (by rw[l2];rfl)),rfl⟩
   .rw[if_neg sn]at wn;exact⟨_,_,up wm,_,_,up wn,a0 a2⟩
  .rw[if_neg sm]at wm;by_cases sn:n<1000000000000000000
   .rw[if_pos sn]at wn;exact⟨_,_,up wm,_,_,up wn,a0 a2⟩
   .rw[if_neg sn]at wn;exact⟨_,_,up wm,_,_,up wn,a0 a2⟩
 .have a2:n=0:=by
   rcases hL n with h0|h0
   .exact h0
   .have:=qD.2 h0;omega
  subst a2;rw[k2]at hg;subst hg;exact⟨⟨by unfold room;omega,zG _⟩,_,_,up (xa false (qc m) (by omega) (z:=(m:Int)) (by simp[qi])),rfl⟩
theorem ku (hd:Vb) {x y:Int} (hx:Sm x) (hy:Sm y) (hy0:0<y):Gives CC 246 [qL x,qL y] [qL (x/y),qL (x%y),.c (.int .i64 0)]:=by
 refine qm (anns:=an0) mixedT Tryz.func246 ?_;have lx:=hx.len;have ly:=hy.len;have hyn:y.natAbs≠0:=by omega
 have hlp:0<(lim y.natAbs).length:=qD.2 (by omega);obtain⟨q,r,h1,lq,lr,vq,vr,q1,r1⟩:=hd (lim x.natAbs) (lim y.natAbs) (qc _) (qc _) (by rw[qi];exact hyn) lx ly;rw[qi,qi]at vq vr;rw[show qL x= .ag (cI x)from rfl,show qL y= .ag (cI y)from rfl,cI,cI,Lo];simp only[cg];obtain⟨a,ha⟩:∃a:Nat,x.natAbs=a:=⟨_,rfl⟩;obtain⟨b,hb⟩:∃b:Nat,y=(b:Int):=⟨y.natAbs,by omega⟩;have a1:y.natAbs=b:=by omega
 have hb0:0<b:=by omega
 rw[ha,a1]at vq vr;have hdm:=iz a b;have hml:=hU a hb0;refine brb (λh=>?_) (λ_=>?_)
 .rw[qe]at h;have:((lim y.natAbs).length:Int)=0:=by simpa using h
  omega
 have a3:decide (y<0)=false:=decide_eq_false (by omega);rw[a3];by_cases hx0:x<0
 .have hxt:decide (x<0)=true:=decide_eq_true hx0;rw[hxt];have a0:x= -(a:Int):=by omega
  have gq:=xa true lq q1 (z:= -((a/b:Nat):Int)) (by rw[vq];rfl);have gr:=xa true lr r1 (z:= -((a%b:Nat):Int)) (by rw[vr];rfl);refine⟨_,_,h1,_,_,up gq,_,_,up gr,?_⟩;have e0:(-((a%b:Nat):Int)).natAbs=a%b:=by rw[c0,cp]
  rw[qe];have hq:(a/b)<Kk:=k1 (Nat.div_le_self _ _) (ha▸hx);refine brd (λh=>brb (λh2=>?_) (λh2=>?_)) (λh=>?_)
  .rw[e0]at h;have a2:0<a%b:=qD.1 (by omega);have g1:=xq (n:=1) (by omega) (by omega);have sq:Sm (-((a/b:Nat):Int)):=by unfold Sm;rw[c0,cp];exact hq
   have s1:Sm 1:=by unfold Sm Kk;exact k6 (by omega) (k6 (by omega) (by omega))
   have sr:Sm (-((a%b:Nat):Int)):=by unfold Sm;rw[c0,cp];exact Nat.lt_trans hml (a1▸hy)
   have gs:=Ll sq s1;have ga:=Qr sr hy;have ga2:Gives CC 141 [qL (-((a%b:Nat):Int)),.ag [.bool false,.sl (raw (lim y.natAbs))]] [qL (-((a%b:Nat):Int)+y)]:=by have:=up ga;rw[show qL y= .ag (cI y)from rfl,cI,a3]at this;exact this
   refine⟨_,_,up g1,_,_,up gs,_,_,ga2,?_⟩
   .have e1:x/y= -((a/b:Nat):Int)-1/\x%y= -((a%b:Nat):Int)+y:=by
     have:=dc (a:=x) (b:=y) (r:= -((a%b:Nat):Int)+y) (q:= -((a/b:Nat):Int)-1) hy0;refine this.2 ⟨?_,by omega,by omega⟩;rw[a0,hb];have h5:(b:Int)*(-((a/b:Nat):Int)-1)= -((b*(a/b):Nat):Int)-b:=by rw[Int.mul_sub,cL,Int.mul_one,c4]
     rw[h5];omega
    rw[e1.1,e1.2];rfl
  .exfalso;rw[e0]at h;have a2:0<a%b:=qD.1 (by omega);have:decide (-((a%b:Nat):Int)<0)=true:=decide_eq_true (by omega);rw[this]at h2;simp at h2
  .have a2:a%b=0:=by
    rcases hL (a%b)with h0|h0
    .exact h0
    .have:=qD.2 h0;rw[e0]at h;omega
   have e1:x/y= -((a/b:Nat):Int)/\x%y= -((a%b:Nat):Int):=by have:=dc (a:=x) (b:=y) (r:= -((a%b:Nat):Int)) (q:= -((a/b:Nat):Int)) hy0;refine this.2 ⟨?_,by omega,by omega⟩;rw[a0,hb,cL,<-c4];omega
   rw[e1.1,e1.2];simp only[qL,cI,c0,cp]
 .have hxf:decide (x<0)=false:=decide_eq_false hx0;rw[hxf];have a0:x=(a:Int):=by omega
  have gq:=xa false lq q1 (z:=((a/b:Nat):Int)) (by rw[vq];rfl);have gr:=xa false lr r1 (z:=((a%b:Nat):Int)) (by rw[vr];rfl);refine⟨_,_,h1,_,_,up gq,_,_,up gr,?_⟩;have hrf:decide (((a%b:Nat):Int)<0)=false:=decide_eq_false (by omega);have e1:x/y=((a/b:Nat):Int)/\x%y=((a%b:Nat):Int):=by rw[a0,hb];exact⟨rfl,rfl⟩
  refine brd (λh=>brb (λh2=>?_) (λh2=>?_)) (λh=>?_)
  .rw[hrf]at h2;simp at h2
  .rw[e1.1,e1.2];rfl
  .rw[e1.1,e1.2];rfl
end Eng
end
section
namespace Eng
open Go Go.Proofs
variable [Env]
def cR (r:Rat):List D:=cI r.num++cI (r.den:Int)
def xv (r:Rat):A:= .ag (cR r)
omit [Env] in
theorem Gl:Sm 1:=by unfold Sm;decide
theorem QZ:Gives CC 202 [] [qL 1]:=by
 refine qm (anns:=an0) mixedT Tryz.func202 ?_;rw[BA];exact⟨_,_,up (xq (n:=1) (by omega) (by omega)),rfl⟩
theorem Vc (hd:Vb) {x y:Int} (hx:Sm x) (hy:Sm y) (hy0:0<y):Gives CC 211 [qL x,qL y] [qL (x/y)]:=by
 refine qm (anns:=an0) mixedT Tryz.func211 ?_;rw[show qL x= .ag (cI x)from rfl,show qL y= .ag (cI y)from rfl,cI,cI,OP];exact⟨_,_,_,_,_,ku hd hx hy hy0,rfl⟩
omit [Env] in
theorem Gm {x:Int} (h:Sm x):Sm (-x):=by unfold Sm at *;rw[c0];exact h
omit [Env] in
theorem Lp {g:Nat} (hg:0<g):(kd (g:Int) 1 !=0)=decide (g≠1):=by
 unfold kd;by_cases h:g=1
 .subst h;rfl
 .rw[if_neg (by omega),if_pos (by omega),decide_eq_true h];rfl
omit [Env] in
theorem Zj {n d:Int} (hd:0<d):(l0 n d).num=n/(hQ n.natAbs d.natAbs:Nat)/\((l0 n d).den:Int)=d/(hQ n.natAbs d.natAbs:Nat):=by
 have e:d.gcd n=hQ n.natAbs d.natAbs:=by rw[Int.gcd_comm];rfl
 refine⟨?_,?_⟩
 .rw[Rat.num_divInt,Int.sign_eq_one_of_pos hd,Int.one_mul,e]
 .rw[Rat.den_divInt,if_neg (by omega),e];obtain⟨k,rfl⟩:∃k:Nat,d=(k:Int):=⟨d.toNat,by omega⟩;rw[cp,Int.natCast_ediv]
omit [Env] in
theorem kY {n d:Int} (hd:0<d):xv (l0 n d)= .ag (cI (n/(hQ n.natAbs d.natAbs:Nat))++cI (d/(hQ n.natAbs d.natAbs:Nat))):=by
 unfold xv cR;rw[(Zj hd).1,(Zj hd).2]
theorem kv (hd:Vb) {x y:Int} (hx:Sm x) (hy:Sm y) (hy0:y≠0):Gives CC 140 [qL x,qL y] [xv (l0 x y)]:=by
 refine qm (anns:=an0) mixedT Tryz.func140 ?_;have hS:=up (QY y);have a0:∀{u v:Int},Sm u->Sm v->0<v->∃g:Nat,g=hQ u.natAbs v.natAbs/\Gives CC 210 [qL u,qL v] [qL (g:Int)]/\Gives CC 79 [qL (g:Int),qL 1] [.c (.int .i64 (kd g 1))]/\0<g/\Gives CC 211 [qL u,qL (g:Int)] [qL (u/g)]/\Gives CC 211 [qL v,qL (g:Int)] [qL (v/g)]:=by intro u v hu hv hv0;refine⟨_,rfl,VZ hd hu hv,?_⟩;have hgp:0<hQ u.natAbs v.natAbs:=Nat.gcd_pos_of_pos_right _ (by omega);have a1:Sm (hQ u.natAbs v.natAbs:Nat):=smN.2 (k1 (Nat.gcd_le_right _ (by omega)) hv);exact⟨up (jK a1 Gl),hgp,Vc hd hu a1 (by omega),Vc hd hv a1 (by omega)⟩
 rw[show qL x= .ag (cI x)from rfl,show qL y= .ag (cI y)from rfl];rw[cI,cI,Ln];refine⟨_,hS,?_⟩;refine brd (λh=>?_) (λh=>?_)
 .have a2:y<0:=by
   unfold sgn at h;split at h
   .assumption
   .split at h<;>omega
  obtain⟨g,hg,h1,h2,h3,h4,h5⟩:=a0 (Gm hx) (Gm hy) (by omega);refine⟨_,_,up (Qq hx),_,_,up (Qq hy),_,_,h1,_,_,QZ,_,h2,?_⟩;have he:xv (l0 x y)= .ag (cI ((-x)/(g:Int))++cI ((-y)/(g:Int))):=by
   have:l0 x y=l0 (-x) (-y):=by rw[Rat.neg_divInt_neg]
   rw[this,kY (by omega),hg]
  refine brb (λh=>?_) (λh=>?_)
  .refine⟨_,_,h4,_,_,h5,?_⟩;rw[he];rfl
  .rw[Lp h3]at h;have:g=1:=by simpa using h
   rw[he,this];rw[show((1:Nat):Int)=1 from rfl,cF,cF];rfl
 .have a2:0<y:=by
   unfold sgn at h;split at h
   .omega
   .omega
  obtain⟨g,hg,h1,h2,h3,h4,h5⟩:=a0 hx hy a2;refine⟨_,_,h1,_,_,QZ,_,h2,?_⟩;have he:xv (l0 x y)= .ag (cI (x/(g:Int))++cI (y/(g:Int))):=by rw[kY a2,hg]
  refine brb (λh=>?_) (λh=>?_)
  .refine⟨_,_,h4,_,_,h5,?_⟩;rw[he];rfl
  .rw[Lp h3]at h;have:g=1:=by simpa using h
   rw[he,this];rw[show((1:Nat):Int)=1 from rfl,cF,cF];rfl
end Eng
end
