import Derived.Test.YtkaghlcopjaclaaGreatDoorEngA
import Derived.Test.YtkaghlcopjaclaaGreatDoorEngD
import Derived.Deep.Slices
import Derived.OpenShut
import Derived.ChangeSame
import Derived.Carry
import Derived.RowKit
import Derived.Test.YtkaghlcopjaclaaGreatDoorProg
import Derived.WalkKit
import Derived.LoopTactic
import Derived.KernelRfl
import Derived.IntWalk
open Bool renaming and_eq_true->B0, false_eq_true->F2, not_false->HZ, false_and->J3, true_and->J4, not_true->J5
open Eng.A renaming ag->J7, c->J8
open Eng.D renaming int->J9, sl->Lm, bool->Lr
open Eng.D.int renaming injEq->Ls
open Eng.D.sl renaming injEq->Lv
open Go.DataW renaming TrodAll->P1, trod->Sz, Whole->U0
open Go.IntKind renaming wrap->U3, u64->V1, wrap_u32->W0, signed->W1, bits->W2, u32->W3, wrap_u64->W4
open Go.RowKit renaming intOf->aE
open Go.Value renaming int->ba, okWide->bc
open Int renaming ofNat->bd, toNat->be, ofNat_eq_natCast->bh, toNat_natCast->bk, natAbs_natCast->bm, natAbs_neg->bs, tmod->bw, tmod_eq_emod_of_nonneg->b8, tdiv->b9, natCast_mul->cb, ediv_one->cf, tdiv_eq_ediv_of_nonneg->cg, mul_neg->ch, ediv_emod_unique->cp
open List renaming length->cr, replicate->c0, take_of_length_le->c3, drop_eq_getElem_cons->c4, take_length->c7, length_take->cH, getElem?_eq_getElem->cL, getD->dc, append_nil->dk, take_succ_eq_append_getElem->dn, drop_zero->dp, drop_eq_nil_of_le->dv, take->dy, drop->dA, map_cons->ec, eq_nil_of_length_eq_zero->eg, length_cons->el, range->er, take_append_drop->et, mem_singleton->ew, cons_append->ez, nil_append->e6, mem_append->eH, getElem?_append_right->fg, mem_map->fl, length_eq_one_iff->ft, set_append_right->fw, length_singleton->fx, replicate_zero->fR, replicate_succ->fS, length_append->gb, getLast?_take->gd, mem_flatMap->gm, drop_length->gn, mem_range->gp, drop_drop->gz, take_add->hC
open List.cons renaming injEq->hD
open Nat renaming eq_of_beq_eq_true->hK, mul_add->hM, mul_assoc->hP, beq->hQ, pow_le_pow_right->hU, mod_eq_of_lt->hX, eq_zero_or_pos->hY, gcd->ia, pow_mul->ib, le_refl->ic, mul_le_mul_left->ie, pow_succ->im, mul_comm->it, mod_lt->ix, add_mul->iy, gcd_comm->iz, div_add_mod->j0, blt_eq->j1, lt_or_ge->j2, add_zero->j3, le_of_ble_eq_true->j4, div_lt_iff_lt_mul->j5, one_mul->j6, mul_le_mul_right->j7, lt_of_le_of_lt->kk, gcd_zero_right->ks, blt->kz, div_eq_of_lt->k0, min_eq_left->k1, one_lt_pow->k2, zero_mul->k3, zero_add->k4, le_of_lt->k5, zero_le->k6, pow_add->k7, gcd_rec->k8
open Option.some renaming injEq->k9, inj->lg
open Rat renaming divInt->ll
set_option maxRecDepth 1000000
section
namespace Eng
open Go Go.ChangeShapes Go.Deep Go.RowKit Go.WideShapes
inductive CT where
 |int (k:IntKind)
 |bool
 |str
 |sl (es:List CT)
def XH (f:TypeId->Option (List CT)) (P:Program):List Field->Nat->Option (List CT)
 |[],_=>some []
 |x::r,off=>match f x.type with
  |some T=>match hQ x.offset off&&hQ (P.cellsOf x.type) T.length with
   |true=>match XH f P r (off+T.length)with
    |some R=>some (T++R)
    |none=>none
   |false=>none
  |none=>none
def oA:Nat->List CT->List CT
 |0,_=>[]
 |n+1,T=>T++oA n T
def js (P:Program):Nat->TypeId->Option (List CT)
 |0,_=>none
 |m+1,t=>match P.underlying t with
  |some (.int k)=>some [.int k]
  |some .bool=>some [.bool]
  |some .string=>some [.str]
  |some (.struct fs)=>match XH (js P m) P fs.toList 0 with
   |some T=>match hQ (P.cellsOf t) T.length with
    |true=>some T
    |false=>none
   |none=>none
  |some (.array n e)=>match js P m e with
   |some T=>match hQ (P.cellsOf e) T.length&&hQ (P.cellsOf t) (n*T.length)with
    |true=>some (oA n T)
    |false=>none
   |none=>none
  |some (.slice e)=>match js P m e with
   |some T=>match hQ (P.cellsOf e) T.length&&kz 0 T.length with
    |true=>some [.sl T]
    |false=>none
   |none=>none
  |_=>none
mutual
def LB:CT->D->Prop
 | .int k,d=>∃n,d= .int k n/\(Lit.int k n).wf=true
 | .bool,d=>∃b,d= .bool b
 | .str,d=>∃s,d= .str s/\s.length<=maxLen
 | .sl T,d=>∃es:List (List D),d= .sl es/\es.length<=maxLen/\∀r∈es,Qi T r
def Qi:List CT->List D->Prop
 |[],ds=>ds=[]
 |T::Ts,ds=>∃d r,ds=d::r/\LB T d/\Qi Ts r
end
theorem QU:∀{T:List CT} {ds:List D},Qi T ds->ds.length=T.length
 |[],ds,h=>by simp only[Qi]at h;rw[h];rfl
 |_::T,ds,h=>by simp only[Qi]at h;obtain⟨d,r,rfl,_,h2⟩:=h;simp[QU h2]
theorem QV:∀{T R:List CT} {ds es:List D},Qi T ds->Qi R es->Qi (T++R) (ds++es)
 |[],R,ds,es,h,h'=>by simp only[Qi]at h;rw[h];exact h'
 |_::T,R,ds,es,h,h'=>by simp only[Qi]at h;obtain⟨d,r,rfl,h1,h2⟩:=h;show Qi (_::(T++R)) (d::(r++es));rw[Qi];exact⟨d,r++es,rfl,h1,QV h2 h'⟩
theorem VR{size:Nat}(hs:0<size):∀{es:List (List D)},(∀r∈es,r.length=size)->∀j,j<es.length*size->nth .undef es.flatten j=nth .undef (nth [] es (j/size)) (j%size)
 |[],_,j,h=>by simp at h
 |r::es,hr,j,h=>by
  have hl:=hr r (by simp);rw[List.flatten_cons];by_cases hj:j<size
  .rw[k0 hj,hX hj];rw[qF,qF,List.getElem?_append_left (by omega)];rfl
  .have h2:=VR hs (es:=es) (λr hr'=>hr r (by simp[hr'])) (j-size) (by
    rw[el,iy,j6]at h;omega)
   have e1:j/size=(j-size)/size+1:=by rw[<-Nat.div_eq_sub_div hs (by omega)]
   have e2:j%size=(j-size)%size:=Nat.mod_eq_sub_mod (by omega);rw[e1,e2];show _=nth .undef (nth [] es ((j-size)/size)) ((j-size)%size);rw[<-h2,qF,qF,fg (by omega),hl]
section
variable {H:Type}{enc:TypeId×Value->H}{P:Program}{w:World}{base:Nat}{spare:Nat->Bool}{held:Bool}
theorem KY{f:TypeId->Option (List CT)}{F:Nat->Prop}{n:Nat}{cs:List Value}(hf:∀t T us x,f t=some T->Sz enc P w base spare held n t us=some x->∃ds,All2 (CD w F) ds us/\Qi T ds):
 ∀(fs:List Field) (off:Nat) (T:List CT),XH f P fs off=some T->(∀x∈fs,∃y,Sz enc P w base spare held n x.type ((cs.drop x.offset).take (P.cellsOf x.type))=some y)->
  ∃ds,All2 (CD w F) ds ((cs.drop off).take T.length)/\Qi T ds
 |[],off,T,h,_=>by simp only[XH,k9]at h;subst h;exact⟨[],by simp[All2],by simp[Qi]⟩
 |x::fs,off,T,h,hy=>by
  simp only[XH]at h;split at h
  .rename_i T1 h1;split at h
   .rename_i hb;rw[B0]at hb;have e1:=hK hb.1;have e2:=hK hb.2;split at h
    .rename_i R hR;simp only[k9]at h;subst h;obtain⟨y,hy1⟩:=hy x (by simp);rw[e1,e2]at hy1;obtain⟨ds1,a1,b1⟩:=hf _ _ _ _ h1 hy1;obtain⟨ds2,a2,b2⟩:=KY hf fs _ R hR (λx hx=>hy x (by simp[hx]));refine⟨ds1++ds2,?_,QV b1 b2⟩;rw[gb,hC,gz];exact All2.append a1 a2
    .simp at h
   .simp at h
  .simp at h
theorem Q9{R:D->Value->Prop}{T:List CT}{cs:List Value}:∀(n k:Nat),(∀i,i<n->∃ds,All2 R ds ((cs.drop ((k+i)*T.length)).take T.length)/\Qi T ds)->
 ∃ds,All2 R ds ((cs.drop (k*T.length)).take (n*T.length))/\Qi (oA n T) ds
 |0,k,_=>⟨[],by simp[All2],by simp[oA,Qi]⟩
 |n+1,k,h=>by
  obtain⟨d1,a1,b1⟩:=h 0 (by omega);obtain⟨d2,a2,b2⟩:=Q9 n (k+1) (λi hi=>by
   have:=h (i+1) (by omega);rw[show k+(i+1)=k+1+i by omega]at this;exact this)
  refine⟨d1++d2,?_,QV b1 b2⟩;rw[show(n+1)*T.length=T.length+n*T.length by rw[iy,j6,Nat.add_comm],hC,gz];rw[j3]at a1;rw[iy,j6]at a2;exact All2.append a1 a2
theorem XI{F:Nat->Prop}(hF:∀b,b<w.heap.size->F b):∀(m:Nat) (t:TypeId) (T:List CT) (fuel:Nat) (cs:List Value) (x:DataW H×List MemPlace),js P m t=some T->
 Sz enc P w base spare held fuel t cs=some x->∃ds,All2 (CD w F) ds cs/\Qi T ds
 |0,_,_,_,_,_,h,_=>by simp[js]at h
 |m+1,t,T,fuel,cs,x,h,ht=>by
  simp only[js]at h;split at h
  .rename_i k hu;simp only[k9]at h;subst h;obtain⟨n,rfl,_,hw⟩:=DataW.trod_int hu ht;exact⟨[.int k n],⟨.int _ _,trivial⟩,by simp only[Qi,LB];exact⟨_,_,rfl,⟨n,rfl,hw⟩,rfl⟩⟩
  .rename_i hu;simp only[k9]at h;subst h;obtain⟨b,rfl,_⟩:=DataW.trod_bool hu ht;exact⟨[.bool b],⟨.bool _,trivial⟩,by simp only[Qi,LB];exact⟨_,_,rfl,⟨b,rfl⟩,rfl⟩⟩
  .rename_i hu;simp only[k9]at h;subst h;obtain⟨s,rfl,_,hs⟩:=DataW.trod_string hu ht;refine⟨[.str s.data.toList],⟨.str _,trivial⟩,?_⟩;simp only[Qi,LB];refine⟨_,_,rfl,⟨_,rfl,?_⟩,rfl⟩;have:s.data.toList.length=s.size:=by simp
   rw[this];exact hs
  .rename_i fs hu;split at h
   .rename_i T' hT;split at h
    .rename_i hc;simp only[k9]at h;subst h;have hc:=hK hc;obtain⟨xs,n,_,_,ag,b1,hf⟩:=DataW.trod_struct hu ht;obtain⟨ds,h1,h2⟩:=KY (cs:=cs) (n:=n) (F:=F) (λt T us x h1 h2=>XI hF m t T n us x h1 h2) fs.toList 0 T' hT (λf hf'=>by
      obtain⟨i,hi,rfl⟩:=List.mem_iff_getElem.1 hf';have:=hf i fs[i] (Array.getElem?_eq_getElem (by simpa using hi));rw[cL (by rw[b1];simpa using hi)]at this;exact⟨_,this⟩)
     rw[dp,c3 (by omega)]at h1;exact⟨ds,h1,h2⟩
    .simp at h
   .simp at h
  .rename_i k e hu;split at h
   .rename_i T' hT;split at h
    .rename_i hc;simp only[k9]at h;subst h;rw[B0]at hc;have ad:=hK hc.1;have a6:=hK hc.2;obtain⟨xs,n,_,_,ag,b1,hf⟩:=DataW.trod_array hu ht;obtain⟨ds,h1,h2⟩:=Q9 (R:=CD w F) (T:=T') (cs:=cs) k 0 (λi hi=>by
      have:=hf i hi;rw[cL (by omega),ad]at this;rw[k4];exact XI hF m e T' n _ _ hT this)
     rw[k3,dp,c3 (by omega)]at h1;exact⟨ds,h1,h2⟩
    .simp at h
   .simp at h
  .rename_i e hu;split at h
   .rename_i T' hT;split at h
    .rename_i hc;simp only[k9]at h;subst h;rw[B0]at hc;have ad:=hK hc.1;have a6:=hc.2;rw[j1]at a6;rcases open_slice hu ht with⟨rfl,_⟩|⟨a,a4,cap,k,n,Dd,Pl,rfl,_,hle,hcap,hk,_,hel⟩
     .exact⟨[.sl []],⟨.nil _ _,trivial⟩,by simp only[Qi,LB];exact⟨_,_,rfl,⟨[],rfl,by simp,by simp⟩,rfl⟩⟩
     .by_cases hl0:a4=0
      .subst hl0;exact⟨[.sl []],⟨.nil _ _,trivial⟩,by simp only[Qi,LB];exact⟨_,_,rfl,⟨[],rfl,by simp,by simp⟩,rfl⟩⟩
      .have hlk:a4<=k:=by rw[hk];split<;>omega
       have al:∀i,i<a4->∃ds,(∀j,j<T'.length->∃v,w.cell? (a.add (i*T'.length+j))=some v/\CD w F (nth .undef ds j) v)/\Qi T' ds:=by intro i hi;obtain⟨us,h1,h2⟩:=hel i (by omega);obtain⟨ds,h3,h4⟩:=XI hF m e T' n us _ hT h2;refine⟨ds,λj hj=>?_,h4⟩;rw[ad]at h1;obtain⟨_,hul,hc⟩:=World.cells?_some h1;have:=hc j hj;rw[add_add,cL (by omega)]at this;have h5:=All2.nth (.undef) undef ds us j h3 (by rw[QU h4];exact hj);rw[qm undef (show j<us.length by omega)]at h5;exact⟨_,this,h5⟩
       obtain⟨es,a9⟩:=choose_lt al;have an:a.spot=none:=by
        obtain⟨v,h1,_⟩:=(a9 0 (by omega)).1 0 a6;simp only[k3,j3,Addr.add,if_true]at h1;unfold World.cell? at h1;split at h1
        .split at h1
         .simp at h1
         .rename_i hs;simpa using hs
        .simp at h1
       obtain⟨b,o,sp⟩:=a;simp only at an;subst an;have a8:∀j,(⟨b,o,none⟩:Addr).add j=⟨b,o+j,none⟩:=by
        intro j;unfold Addr.add;by_cases hj:j=0
        .subst hj;simp
        .rw[if_neg hj]
       have hb:b<w.heap.size:=by
        obtain⟨v,h1,_⟩:=(a9 0 (by omega)).1 0 a6;rw[a8]at h1;unfold World.cell? at h1;split at h1
        .rename_i hh;exact(Array.getElem?_eq_some_iff.1 hh).1
        .simp at h1
       have a3:((er a4).map es).length=a4:=by simp
       have a5:∀r∈(er a4).map es,r.length=T'.length:=by intro r hr;simp only[fl,gp]at hr;obtain⟨i,hi,rfl⟩:=hr;exact QU (a9 i hi).2
       have a7:∀j,j<a4*T'.length->∃v,w.cell? ⟨b,o+j,none⟩=some v/\CD w F (nth .undef ((er a4).map es).flatten j) v:=by
        intro j hj;have hi:j/T'.length<a4:=by rw[j5 a6];exact hj
        obtain⟨v,h1,h2⟩:=(a9 _ hi).1 (j%T'.length) (ix _ a6);rw[a8,it,j0]at h1;refine⟨v,h1,?_⟩;rw[VR a6 a5 j (by rw[a3];exact hj)];have:nth [] ((er a4).map es) (j/T'.length)=es (j/T'.length):=by rw[qF];simp[hi]
        rw[this];exact h2
       obtain⟨vs,ap⟩:=choose_lt a7;refine⟨[.sl ((er a4).map es)],⟨?_,trivial⟩,?_⟩
       .have:=CD.sl (w:=w) (F:=F) ((er a4).map es) b o cap T'.length vs (by rw[a3];exact hle) a5 (hF b hb) (λj hj=>(ap j (by rw[a3]at hj;exact hj)).1) (λj hj=>(ap j (by rw[a3]at hj;exact hj)).2);rw[a3]at this;exact this
       .simp only[Qi,LB];refine⟨_,_,rfl,⟨_,rfl,by rw[a3];omega,λr hr=>?_⟩,rfl⟩;simp only[fl,gp]at hr;obtain⟨i,hi,rfl⟩:=hr;exact(a9 i hi).2
    .simp at h
   .simp at h
  .simp at h
end
end Eng
end
section
namespace Eng
open Go Go.RowKit Go.WideShapes Go.ChangeShapes
section
variable {H:Type}{enc:TypeId×Value->H}{P:Program}
theorem Vw{f:Func}{s:ChangeSpec}{apart fresh handsOn again:Bool}{W W':World}{args:Array Value}{v:Value}{ds gs:List (DataW H)}{before pa pv:List MemPlace}(hW:U0 enc P f.params.toList s.vars apart W args.toList ds gs before)(hres:∀(b:Nat) (sp:Nat->Bool) (hd:Bool),P1 enc P W' b sp hd f.resultTypes.toList (v.resultList f.resultTypes.size) (s.fn H (ds++gs)).results [])(hargs:∀sp:Nat->Bool,(∀p∈before,sp p.block=true)->P1 enc P W' 0 sp true f.params.toList args.toList (s.fn H (ds++gs)).args pa)(hvars:∀sp:Nat->Bool,(∀p∈before,sp p.block=true)->DataW.TrodVars enc P W' sp s.vars (s.fn H (ds++gs)).vars pv)(hps:before=pa++pv)(hb:Below W.heap.size W W')(hok:∀(j:Nat) (t:TypeId) (r:Value),f.resultTypes[j]? =some t->(v.resultList f.resultTypes.size)[j]? =some r->bc P W' .any 0 t r):
 s.post enc P f apart fresh handsOn again W args v W':=by
 have a5:∀p∈before,p.block<W.heap.size:=λp hp=>hW.lt p hp
 have a3:∀p∈before,(λb=>decide (b<W.heap.size)) p.block=true:=λp hp=>by simpa using a5 p hp
 refine⟨ds,gs,before,[],pa,pv,hW,hres _ _ _,hargs _ a3,hvars _ a3,World.keptBut_mono (λp hp=>⟨hp,?_⟩) (hb.frame (· ∈before)),λ_=>?_⟩
 .rw[hps,eH]at hp;exact Or.inr hp
 .obtain⟨_,_,_,_,_,hz,hn⟩:=hW;refine⟨hok,_,_,([]++pa)++pv,⟨[]++pa,pv,trodAll_append (hargs _ (λ_ _=>rfl)) (hres _ _ _),hvars _ (λ_ _=>rfl),rfl,?_,?_⟩,?_⟩
  .intro b a6 hp;have a4:MemPlace.cell b a6∈before:=by rw[hps];simpa using hp
   rw[hb.frozen (a5 _ a4)];exact hz b a6 a4
  .intro ha;have:=hn ha;rw[hps]at this
   simpa using this
  .intro p hp _;rw[hps]
   simpa using hp
theorem XJ(hl:laidOutB P=true){W W':World}(hb:Below W.heap.size W W'){sp:Nat->Bool}:∀{ts:List TypeId} {vs:List Value} {ds:List (DataW H)} {ps:List MemPlace},
 (∀t∈ts,P.readableRec t=true/\t<P.types.size)->P1 enc P W 0 (λ_=>true) true ts vs ds ps->(∀x∈ps,x.block<W.heap.size)->(∀x∈ps,sp x.block=true)->
 P1 enc P W' 0 sp true ts vs ds ps
 |[],[],[],_,_,h,_,_=>h
 |t::ts,v::vs,d::ds,_,ht,h,hlt,hsp=>by obtain⟨p,q,h1,h2,rfl⟩:=h;refine⟨p,q,?_,XJ hl hb (λt' h'=>ht t' (by simp[h'])) h2 (λx hx=>hlt x (by simp[hx])) (λx hx=>hsp x (by simp[hx])),rfl⟩;exact WideElems.Trod_stays hl (ht t (by simp)).1 (ht t (by simp)).2 h1 (λx hx=>hb.same (hlt x (by simp[hx]))) (λx hx=>hsp x (by simp[hx]))
 |[],[],_::_,_,_,h,_,_=>h.elim
 |[],_::_,_,_,_,h,_,_=>by cases ‹List (DataW H)› <;>exact h.elim
 |_::_,[],_,_,_,h,_,_=>by cases ‹List (DataW H)› <;>exact h.elim
 |_::_,_::_,[],_,_,h,_,_=>h.elim
def aA (P:Program) (m:Nat) (t:TypeId) (a:A):Prop:=
 ∃T,js P m t=some T/\((y9 P t=true/\∃ds,a= .ag ds/\Qi T ds)\/(y9 P t=false/\∃d,a= .c d/\Qi T [d]))
theorem Ul{n:Nat}{e t:TypeId}{w:World}{r:Reach}{b:Nat}{v:Value}(ht:P.underlying t=some (.array n e))(h:bc P w r b t v):∃cs,v= .agg cs/\cs.size=P.cellsOf t:=by
 simp only[bc,ht]at h;obtain⟨cs,h1,h2,_⟩:=h;exact⟨cs,h1,h2⟩
theorem FG{w:World}{F:Nat->Prop}(hF:∀b,b<w.heap.size->F b){m base b0:Nat}{r:Reach}{sp:Nat->Bool}{held:Bool}{t:TypeId}{T:List CT}{v:Value}{d:DataW H}{p:List MemPlace}(hT:js P m t=some T)(hv:bc P w r b0 t v)(h:DataW.Trod enc P w base sp held t v d p):∃a,CA w F a v/\aA P m t a:=by
 obtain⟨a4,hf⟩:=h;obtain⟨ds,h1,h2⟩:=XI hF m t T a4 _ _ hT hf;have a3:v.cells= #[v]->y9 P t=false->∃a,CA w F a v/\aA P m t a:=by intro hc ht;rw[hc]at h1;have hl:=h1.length;simp only[fx]at hl;obtain⟨d0,rfl⟩:=ft.1 hl;exact⟨.c d0,h1.1,T,hT,.inr ⟨ht,d0,rfl,h2⟩⟩
 have ag:∀cs,v= .agg cs->y9 P t=true->∃a,CA w F a v/\aA P m t a:=by intro cs hc ht;subst hc;exact⟨.ag ds,⟨cs,rfl,h1⟩,T,hT,.inl ⟨ht,ds,rfl,h2⟩⟩
 cases m with
 |zero=>simp[js]at hT
 |succ m=>
  simp only[js]at hT;split at hT
  .rename_i k hu;obtain⟨n,rfl⟩:=okWide_int hu hv;exact a3 rfl (by unfold y9;rw[hu])
  .rename_i hu;obtain⟨b,rfl⟩:=okWide_bool hu hv;exact a3 rfl (by unfold y9;rw[hu])
  .rename_i hu;obtain⟨s,rfl⟩:=okWide_string hu hv;exact a3 rfl (by unfold y9;rw[hu])
  .rename_i fs hu;obtain⟨cs,rfl,_⟩:=okWide_struct hu hv;exact ag cs rfl (by unfold y9;rw[hu])
  .rename_i n e hu;obtain⟨cs,rfl,_⟩:=Ul hu hv;exact ag cs rfl (by unfold y9;rw[hu])
  .rename_i e hu;obtain⟨a,len,cap,rfl⟩:=okWide_slice hu hv;exact a3 rfl (by unfold y9;rw[hu])
  .simp at hT
theorem Um{w:World}{F:Nat->Prop}(hF:∀b,b<w.heap.size->F b){m base b0:Nat}{r:Reach}{sp:Nat->Bool}{held:Bool}:∀{ts:List TypeId} {vs:List Value} {ds:List (DataW H)} {ps:List MemPlace},
 (∀t∈ts,(js P m t).isSome=true)->(∀(j:Nat) t v,ts[j]? =some t->vs[j]? =some v->bc P w r b0 t v)->P1 enc P w base sp held ts vs ds ps->
 ∃as',All2 (CA w F) as' vs/\All2 (aA P m) ts as'
 |[],[],[],_,_,_,_=>⟨[],trivial,trivial⟩
 |t::ts,v::vs,d::ds,_,ht,hv,h=>by obtain⟨p,q,h1,h2,rfl⟩:=h;obtain⟨T,hT⟩:=Option.isSome_iff_exists.1 (ht t (by simp));obtain⟨a,e1,e2⟩:=FG hF hT (hv 0 t v rfl rfl) h1;obtain⟨as',e3,e4⟩:=Um hF (λt' h'=>ht t' (by simp[h'])) (λj t' v' h3 h4=>hv (j+1) t' v' (by simpa using h3) (by simpa using h4)) h2;exact⟨a::as',⟨e1,e3⟩,⟨e2,e4⟩⟩
 |[],[],_::_,_,_,_,h=>h.elim
 |[],_::_,_,_,_,_,h=>by cases ‹List (DataW H)› <;>exact h.elim
 |_::_,[],_,_,_,_,h=>by cases ‹List (DataW H)› <;>exact h.elim
 |_::_,_::_,[],_,_,_,h=>h.elim
theorem oB{C:Cx}{f:Nat}{fn:Func}{s:ChangeSpec}{m bt:Nat}{apart fresh handsOn again:Bool}(hl:laidOutB C.P=true)(hbt:C.P.underlying bt=some .bool)(hres:fn.resultTypes= #[bt])(hrd:∀t∈fn.params.toList,C.P.readableRec t=true/\t<C.P.types.size/\(js C.P m t).isSome=true)(hvars:s.vars=[])(hfn:∀ds:List (DataW H),ds.length=fn.params.size->s.fn H ds={results:=[.lit (.bool true)],args:=ds})(hg:∀al:List A,All2 (aA C.P m) fn.params.toList al->qa C f al [.c (.bool true)]){W:World}{base:Nat}{args:Array Value}{ds gs:List (DataW H)}{before:List MemPlace}(hi:Inv C (λb=>b<W.heap.size) W)(hval:∀(j:Nat) t v,fn.params[j]? =some t->args[j]? =some v->bc C.P W .any base t v)(hW:U0 enc C.P fn.params.toList s.vars apart W args.toList ds gs before):
 Calls C.P f args W λe W'=>∃v,e= .returned v/\s.post enc C.P fn apart fresh handsOn again W args v W':=by
 have hW':=hW;have hlt:∀p∈before,p.block<W.heap.size:=λp hp=>hW.lt p hp
 obtain⟨p,q,hA,hV,rfl,hfz,hnd⟩:=hW;rw[hvars]at hV;have hgq:gs=[]/\q=[]:=by
  cases gs with
  |nil=>exact⟨rfl,hV⟩
  |cons g gs=>exact hV.elim
 obtain⟨rfl,rfl⟩:=hgq;have a3:ds.length=fn.params.size:=by
  have key:∀{ts:List TypeId} {vs:List Value} {ds:List (DataW H)} {ps:List MemPlace},P1 enc C.P W 0 (λ_=>true) true ts vs ds ps->ds.length=ts.length:=by
   intro ts
   induction ts with
   |nil=>intro vs ds ps h;cases vs<;>cases ds<;>first|rfl|exact h.elim
   |cons t ts ih=>
    intro vs ds ps h;cases vs with
    |nil=>cases ds<;>exact h.elim
    |cons v vs=>cases ds with
     |nil=>exact h.elim
     |cons d ds=>obtain⟨p,q,_,h2,_⟩:=h;simp[ih h2]
  rw[key hA];simp
 obtain⟨al,h1,h2⟩:=Um (F:=λb=>b<W.heap.size) (λ_ h=>h) (m:=m) (λt ht=>(hrd t ht).2.2) (λj t v h3 h4=>hval j t v (by simpa using h3) (by simpa using h4)) hA;have hc:=hg al h2 W (λb=>b<W.heap.size) args.toList (λ_ h=>h) hi h1;have e0:args.toList.toArray=args:=by simp
 rw[e0]at hc;refine hc.mono λe W' he=>?_
 obtain⟨hb,v,rfl,hr⟩:=he;have hv:v= .bool true:=by have hr:CD _ _ (.bool true) v:=hr;cases hr;rfl
 subst hv;refine⟨_,rfl,Vw (pa:=p++[]) (pv:=[]) hW' ?_ ?_ ?_ (by simp) hb ?_⟩
 .intro b sp hd;rw[dk,hfn ds a3,hres];exact trodAll_mk1 (shut_bool hbt true)
 .intro sp a4;rw[dk,hfn ds a3,dk];exact XJ hl hb (λt ht=>⟨(hrd t ht).1,(hrd t ht).2.1⟩) hA (λx hx=>hlt x (by simp[hx])) (λx hx=>a4 x (by simp[hx]))
 .intro sp a4;rw[dk,hfn ds a3,hvars];rfl
 .exact ok_one hres rfl (okWide_bool_mk hbt _)
end
end Eng
end
section
namespace Eng
open Go Go.Proofs Go.RowKit Go.Sort
theorem kM{us:List Int}{k:Nat}(h:k<us.length):us.drop k=us[k]::us.drop (k+1):=c4 h
theorem Bw{done r:List Int}{x y:Int}{d:Array Int}(h:d.toList=done++x::r):(d.setIfInBounds done.length y).toList=(done++[y])++r:=by
 rw[Array.toList_setIfInBounds,h];simp
def NA (by_:Int) (us vs:List Int) (d:Array Int) (k:Nat) (c b:Int):Prop:=
 ∃done:List Int,done.length=k/\d.toList=done++us.drop k/\vd by_ us vs 0 0=(done++(vd by_ (us.drop k) (vs.drop k) c b).1,(vd by_ (us.drop k) (vs.drop k) c b).2)
theorem KZ{by_:Int}{us vs:List Int}{d:Array Int}{k:Nat}{c b:Int}(h:NA by_ us vs d k c b)(hk:k<us.length){t z b':Int}(ht:t=ou by_ c (vs.drop k))(hz:(V1.wrap us[k]<V1.wrap (t.tmod 1000000000+b)/\z=W3.wrap (V1.wrap (V1.wrap (V1.wrap us[k]+1000000000)-V1.wrap (t.tmod 1000000000+b)))/\b'=1)\/
  (¬V1.wrap us[k]<V1.wrap (t.tmod 1000000000+b)/\z=W3.wrap (V1.wrap (V1.wrap us[k]-V1.wrap (t.tmod 1000000000+b)))/\b'=0)):
 NA by_ us vs (d.setIfInBounds k z) (k+1) (V1.wrap (t.tdiv 1000000000)) b':=by
 obtain⟨done,h1,h2,h3⟩:=h;refine⟨done++[z],by simp[h1],?_,?_⟩
 .rw[kM hk]at h2;rw[<-h1];have:=Bw (y:=z) h2;rw[h1]at this ⊢;exact this
 .rw[h3,kM hk];have ht2:(vs.drop k).tail=vs.drop (k+1):=by simp
  simp only[vd];rw[<-ht,ht2];rcases hz with⟨h4,h5,h6⟩|⟨h4,h5,h6⟩
  .have:decide (V1.wrap us[k]<V1.wrap (t.tmod 1000000000+b))=true:=by simpa using h4
   rw[this];subst h5 h6;simp
  .have:decide (V1.wrap us[k]<V1.wrap (t.tmod 1000000000+b))=false:=by simpa using h4
   rw[this];subst h5 h6;simp
theorem By{us done:List Int}{d:Array Int}{k:Nat}(h1:done.length=k)(h2:d.toList=done++us.drop k)(hk:k<us.length):d[k]! =us[k]:=by
 have hsz:d.size=us.length:=by have:=congrArg cr h2;simp at this;omega
 have:d.toList[k]? =some us[k]:=by rw[h2,fg (by omega),h1];simp[hk]
 have h3:d[k]? =some us[k]:=by simpa using this
 rw[getElem!_pos d k (by omega)];rw[Array.getElem?_eq_getElem (by omega)]at h3;exact lg h3
theorem NB{us done:List Int}{d:Array Int}{k:Nat}(h1:done.length=k)(h2:d.toList=done++us.drop k)(hk:k<=us.length):d.size=us.length:=by
 have:=congrArg cr h2;simp at this;omega
set_option maxHeartbeats 2000000 in
set_option maxRecDepth 100000 in
theorem l8{w:World}{g off cap bv ov cv:Nat}(us vs:List Int)(by_:Int)(hu:Holds (ba .u32) w g off us.toArray)(hb:bv≠g)(hnu:us.length<=1073741824)(hnv2:vs.length<=1073741824)(hv:∀j (h:j<vs.length),w.cell? ⟨bv,ov+j,none⟩=some (.int .u32 vs[j])):
 Calls Tryz.prog 231 #[.slice (some ⟨g,off,none⟩) us.length cap,.slice (some ⟨bv,ov,none⟩) vs.length cv,.int .u64 by_] w λe w'=>
  e= .returned (.bool (decide (0<(vd by_ us vs 0 0).2.2)||decide (0<(vd by_ us vs 0 0).2.1)))/\w'=putRow (ba .u32) w g off (vd by_ us vs 0 0).1.toArray:=by
 have Hu:Hid (Holds (ba .u32) w g off us.toArray):=hu;have Hv:Hid (∀j (h:j<vs.length),w.cell? ⟨bv,ov+j,none⟩=some (.int .u32 vs[j])):=hv;have a7:=putRow_self (ba .u32) w g off us.toArray hu;have ap:Hid (putRow (ba .u32) w g off us.toArray=w):=a7;clear hu hv a7;obtain⟨nu,ad⟩:∃nu,nu=us.length:=⟨_,rfl⟩;obtain⟨nv,ag⟩:∃nv,nv=vs.length:=⟨_,rfl⟩;rw[<-ad,<-ag];have b4:Hid (nu=us.length):=ad;have b5:Hid (nv=vs.length):=ag;have hnu':nu<=1073741824:=by omega
 have hnv':nv<=1073741824:=by omega
 clear ad ag hnu hnv2
 go_enter Tryz.func231,Tryz.ntmps231
 go_wp2
 go_loopw [7,8,15] (λc b i wr=>∃(k:Nat) (cc bb:Int) (d:Array Int),k<=nu/\i= .int .i64 k/\c= .int .u64 cc/\b= .int .u64 bb/\NA by_ us vs d k cc bb/\wr=putRow (ba .u32) w g off d) (λ_ _ i _=>nu-(aE i).toNat)
 case atStart=>exact⟨0,0,0,us.toArray,k6 _,rfl,rfl,rfl,⟨[],rfl,by simp,by simp⟩,ap.out.symm⟩
 case round=>
  obtain⟨k,cc,bb,d,hk,rfl,rfl,rfl,a6,b7⟩:=hrel;have a4:Hid (NA by_ us vs d k cc bb):=a6;have al:Hid (wr=putRow (ba .u32) w g off d):=b7;clear a6 b7;by_cases hlt:k<nu
  .have a3:k<us.length:=by rw[<-b4.out];exact hlt
   obtain⟨done,h1,h2,_⟩:=a4.out;have b6:=NB h1 h2 (k5 a3);have b1:wr.cell? ⟨g,off+k,none⟩=some (.int .u32 us[k]):=by rw[al.out,cell?_putRow (ba .u32) w g off us.toArray d Hu.out (by simpa using b6) k (by omega),By h1 h2 a3]
   have hfz:wr.frozen? ⟨g,off+k,none⟩=false:=by rw[al.out,frozen?_putRow];exact(Hu.out k (by simpa using a3)).2
   have a8:∀z,wr.setCell ⟨g,off+k,none⟩ (.int .u32 z)=putRow (ba .u32) w g off (d.setIfInBounds k z):=λz=>by rw[al.out];exact putRow_set (ba .u32) w g off d k z (by omega)
   have a5:Hid (∀z,wr.setCell ⟨g,off+k,none⟩ (.int .u32 z)=putRow (ba .u32) w g off (d.setIfInBounds k z)):=a8;obtain⟨x,hx⟩:∃x,us[k]=x:=⟨_,rfl⟩;rw[hx]at b1;have Hx:Hid (us[k]=x):=hx;clear a8 h1 h2 b6 hx;by_cases hlv:k<nv
   .have b3:k<vs.length:=by rw[<-b5.out];exact hlv
    have a9:wr.cell? ⟨bv,ov+k,none⟩=some (.int .u32 vs[k]):=by rw[al.out,cell?_putRow_other _ _ _ _ _ _ (.inl hb)];exact Hv.out k b3
    obtain⟨y,hy⟩:∃y,vs[k]=y:=⟨_,rfl⟩;rw[hy]at a9;have Hy:Hid (vs.drop k=y::vs.drop (k+1)):=by rw[<-hy];exact kM b3
    clear hy
    go_wp2
    all_goals
     go_roundw
     case rel=>
      refine⟨k+1,_,_,_,by omega,by go_num,rfl,rfl,KZ a4.out a3 (t:=V1.wrap (cc+V1.wrap (V1.wrap y*by_))) (by rw[Hy.out];rfl) ?_,a5.out _⟩
      first
       |exact .inl ⟨by rw[Hx.out];assumption,by rw[Hx.out,W0],rfl⟩
       |exact .inr ⟨by rw[Hx.out];omega,by rw[Hx.out,W0],rfl⟩
     case measure=>simp[aE];omega
   .have Hy:Hid (vs.drop k=[]):=by
     have:vs.length<=k:=by rw[<-b5.out];omega
     exact dv this
    go_wp2
    all_goals
     go_roundw
     case rel=>
      refine⟨k+1,_,_,_,by omega,by go_num,rfl,rfl,KZ a4.out a3 (t:=cc) (by rw[Hy.out];rfl) ?_,a5.out _⟩
      first
       |exact .inl ⟨by rw[Hx.out];assumption,by rw[Hx.out,W0],rfl⟩
       |exact .inr ⟨by rw[Hx.out];omega,by rw[Hx.out,W0],rfl⟩
     case measure=>simp[aE];omega
  .have hkn:us.length<=k:=by rw[<-b4.out];omega
   have b2:vd by_ us vs 0 0=(d.toList,cc,bb):=by obtain⟨done,h1,h2,h3⟩:=a4.out;have:us.drop k=[]:=dv hkn;rw[this]at h2 h3;rw[h3,h2];simp[vd]
   have an:Hid (vd by_ us vs 0 0=(d.toList,cc,bb)):=b2;clear b2;by_cases hbb:0<bb
   .go_wp2
    go_ret
    rw[an.out];refine⟨?_,?_⟩
    .simp[hbb]
    .rw[al.out]
   .have hbb':decide (0<bb)=false:=by simpa using hbb
    go_wp2
    go_ret
    rw[an.out];refine⟨?_,?_⟩
    .simp;exact λh=>absurd h (by omega)
    .rw[al.out]
def NC (us vs:List Int) (d:Array Int) (k:Nat) (c:Int):Prop:=
 ∃done:List Int,done.length=k/\d.toList=done++us.drop k/\Vk us vs 0=done++Vk (us.drop k) (vs.drop k) c
theorem Wa{us vs:List Int}{d:Array Int}{k:Nat}{c:Int}(h:NC us vs d k c)(hk:k<us.length){t z c':Int}(ht:t=dr us[k] c (vs.drop k))(hz:(1000000000<=t/\z=W3.wrap (t-1000000000)/\c'=1)\/(¬1000000000<=t/\z=t/\c'=0)):
 NC us vs (d.setIfInBounds k z) (k+1) c':=by
 obtain⟨done,h1,h2,h3⟩:=h;refine⟨done++[z],by simp[h1],?_,?_⟩
 .rw[kM hk]at h2;rw[<-h1];have:=Bw (y:=z) h2;rw[h1]at this ⊢;exact this
 .rw[h3,kM hk];have ht2:(vs.drop k).tail=vs.drop (k+1):=by simp
  simp only[Vk];rw[<-ht,ht2];rcases hz with⟨h4,h5,h6⟩|⟨h4,h5,h6⟩
  .have:decide (1000000000<=t)=true:=by simpa using h4
   rw[this];subst h5 h6;simp
  .have:decide (1000000000<=t)=false:=by simpa using h4
   rw[this];subst h5 h6;simp
set_option maxHeartbeats 2000000 in
set_option maxRecDepth 100000 in
theorem l9{w:World}{g off cap bv ov cv:Nat}(us vs:List Int)(hu:Holds (ba .u32) w g off us.toArray)(hb:bv≠g)(hnu:us.length<=1073741824)(hnv2:vs.length<=1073741824)(hv:∀j (h:j<vs.length),w.cell? ⟨bv,ov+j,none⟩=some (.int .u32 vs[j])):
 Calls Tryz.prog 232 #[.slice (some ⟨g,off,none⟩) us.length cap,.slice (some ⟨bv,ov,none⟩) vs.length cv] w λe w'=>
  e= .returned (.tuple #[])/\w'=putRow (ba .u32) w g off (Vk us vs 0).toArray:=by
 have Hu:Hid (Holds (ba .u32) w g off us.toArray):=hu;have Hv:Hid (∀j (h:j<vs.length),w.cell? ⟨bv,ov+j,none⟩=some (.int .u32 vs[j])):=hv;have a7:=putRow_self (ba .u32) w g off us.toArray hu;have al:Hid (putRow (ba .u32) w g off us.toArray=w):=a7;clear hu hv a7;obtain⟨nu,ad⟩:∃nu,nu=us.length:=⟨_,rfl⟩;obtain⟨nv,ag⟩:∃nv,nv=vs.length:=⟨_,rfl⟩;rw[<-ad,<-ag];have b4:Hid (nu=us.length):=ad;have b5:Hid (nv=vs.length):=ag;have hnu':nu<=1073741824:=by omega
 have hnv':nv<=1073741824:=by omega
 clear ad ag hnu hnv2
 go_enter Tryz.func232,Tryz.ntmps232
 go_wp2
 go_loopw [4,9] (λc i wr=>∃(k:Nat) (cc:Int) (d:Array Int),k<=nu/\i= .int .i64 k/\c= .int .u32 cc/\NC us vs d k cc/\wr=putRow (ba .u32) w g off d) (λ_ i _=>nu-(aE i).toNat)
 case atStart=>exact⟨0,0,us.toArray,k6 _,rfl,rfl,⟨[],rfl,by simp,by simp⟩,al.out.symm⟩
 case round=>
  obtain⟨k,cc,d,hk,rfl,rfl,a6,b7⟩:=hrel;have a4:Hid (NC us vs d k cc):=a6;have an:Hid (wr=putRow (ba .u32) w g off d):=b7;clear a6 b7;by_cases hlt:k<nu
  .have a3:k<us.length:=by rw[<-b4.out];exact hlt
   obtain⟨done,h1,h2,_⟩:=a4.out;have b6:=NB h1 h2 (k5 a3);have ap:wr.cell? ⟨g,off+k,none⟩=some (.int .u32 us[k]):=by rw[an.out,cell?_putRow (ba .u32) w g off us.toArray d Hu.out (by simpa using b6) k (by omega),By h1 h2 a3]
   have hfz:wr.frozen? ⟨g,off+k,none⟩=false:=by rw[an.out,frozen?_putRow];exact(Hu.out k (by simpa using a3)).2
   have a8:∀z,wr.setCell ⟨g,off+k,none⟩ (.int .u32 z)=putRow (ba .u32) w g off (d.setIfInBounds k z):=λz=>by rw[an.out];exact putRow_set (ba .u32) w g off d k z (by omega)
   have a5:Hid (∀z,wr.setCell ⟨g,off+k,none⟩ (.int .u32 z)=putRow (ba .u32) w g off (d.setIfInBounds k z)):=a8;obtain⟨x,hx⟩:∃x,us[k]=x:=⟨_,rfl⟩;rw[hx]at ap;have Hx:Hid (us[k]=x):=hx;clear a8 h1 h2 b6 hx;by_cases hlv:k<nv
   .have b2:k<vs.length:=by rw[<-b5.out];exact hlv
    have a9:wr.cell? ⟨bv,ov+k,none⟩=some (.int .u32 vs[k]):=by rw[an.out,cell?_putRow_other _ _ _ _ _ _ (.inl hb)];exact Hv.out k b2
    obtain⟨y,hy⟩:∃y,vs[k]=y:=⟨_,rfl⟩;rw[hy]at a9;have Hy:Hid (vs.drop k=y::vs.drop (k+1)):=by rw[<-hy];exact kM b2
    clear hy
    go_wp2
    all_goals
     go_roundw
     case rel=>
      refine⟨k+1,_,_,by omega,by go_num,rfl,Wa a4.out a3 (t:=(x+cc+y)%4294967296) (by rw[Hy.out,Hx.out];simp only[dr,W0];omega) ?_,a5.out _⟩;simp only[W0]
      first
       |exact .inl ⟨by omega,by omega,trivial⟩
       |exact .inr ⟨by omega,trivial,trivial⟩
     case measure=>simp[aE];omega
   .have Hy:Hid (vs.drop k=[]):=by
     have:vs.length<=k:=by rw[<-b5.out];omega
     exact dv this
    go_wp2
    all_goals
     go_roundw
     case rel=>
      refine⟨k+1,_,_,by omega,by go_num,rfl,Wa a4.out a3 (t:=(x+cc)%4294967296) (by rw[Hy.out,Hx.out];simp only[dr,W0]) ?_,a5.out _⟩;simp only[W0]
      first
       |exact .inl ⟨by omega,by omega,trivial⟩
       |exact .inr ⟨by omega,trivial,trivial⟩
     case measure=>simp[aE];omega
  .have hkn:us.length<=k:=by rw[<-b4.out];omega
   have b1:Vk us vs 0=d.toList:=by obtain⟨done,h1,h2,h3⟩:=a4.out;have:us.drop k=[]:=dv hkn;rw[this]at h2 h3;rw[h3,h2];simp[Vk]
   have b3:Hid (Vk us vs 0=d.toList):=b1;clear b1
   go_wp2
   go_end0
   rw[b3.out];exact⟨rfl,by rw[an.out]⟩
theorem oC:SubK Tryz.prog 231 232 where
 there f hf:=by
  rcases hf with rfl|rfl
  .exact⟨_,Tryz.func231,by simp[Tryz.f231],by decide⟩
  .exact⟨_,Tryz.func232,by simp[Tryz.f232],by decide⟩
 sub us vs n h1 h2 h3 h4 h5:=l8 us vs n h1 h2 h3 h4 h5
 res us vs h1 h2 h3 h4 h5:=l9 us vs h1 h2 h3 h4 h5
end Eng
end
section
namespace Eng
open Go Go.Proofs Go.RowKit
noncomputable def C0:Cx:=⟨Tryz.prog,λ_=>none,λ_=>false,λ_=>none,λ_ _=>false,λ_=>false⟩
def noT:Nat->List A->Option (List A):=λ_ _=>none
theorem mixedT:Tryz.prog.follows .mixedOrders=true:=by kernel_rfl
instance:EffOk C0:=zY λf e h=>by simp[C0]at h
end Eng
end
section
namespace Eng
abbrev bB (b:Bool) (X Y:Prop):Prop:=br (toB (.bool b)) X Y
abbrev aR (x:R4):A:= .ag (rk x [])
abbrev aT (x y z:R4):A:= .ag (rk x (rk y (rk z [])))
abbrev aV (x y:R4):A:= .ag (rk x (rk y []))
abbrev aP (x:P20):A:= .ag (pk x [])
abbrev aC (x:C66):A:= .ag (ck x [])
abbrev aI (n:Int):A:= .c (.int .i64 n)
abbrev aB (b:Bool):A:= .c (.bool b)
abbrev aL (l:List (List D)):A:= .c (.sl l)
abbrev aZ (b:Bool) (l:List (List D)):A:= .ag [.bool b,.sl l]
abbrev dI (n:Int):D:= .int .i64 n
abbrev rO (l:List (List D)) (i:Int) (n:Nat):Prop:=0<=i/\i<bd l.length/\(nth [] l i.toNat).length=n
abbrev cU (l:List (List D)) (i:Int) (a n:Nat) (r:List D):Prop:=cut (nth [] l i.toNat) a n r
open Go in
abbrev zC:List Value:=let r (t:List Value):List Value:= .bool false:: .slice none 0 0:: .bool false:: .slice none 0 0::t;let p (t:List Value):=r (r (r (r (r t))));.bool false::r (r (r (r (r (r (.bool false::p (p [])))))))
end Eng
end
section
open Go Go.Proofs Eng
namespace Eng
section
variable (Gv:Nat->List A->List A->Prop)(I0:List D->List D->Prop)(M0:List D->Nat)(I1:List D->List D->Prop)(M1:List D->Nat)(I2:List D->List D->Prop)(M2:List D->Nat)(I3:List D->List D->Prop)(M3:List D->Nat)(Q:List A->Prop)
theorem dC(es:List (List D)):wpF C0 Gv (λ_=>⟨[.slot 0 (.slice none 0 0)],[],I0,M0⟩) Tryz.f229 [.c (.sl es)] Q=(I0 [] [Lm es]/\∀(es:List (List D)),I0 [] [Lm es]->bB (decide ((bd es.length)>0)) ((0<=U3 .i64 ((bd es.length)-1)/\U3 .i64 ((bd es.length)-1)<(bd es.length)/\cr (nth [] es (be (U3 .i64 ((bd es.length)-1))))=1)/\∃n,cut (nth [] es (be (U3 .i64 ((bd es.length)-1)))) 0 1 [J9 .u32 n]/\bB (n==0) (((0:Int)<=(0:Int)/\0<=U3 .i64 ((bd es.length)-1)/\U3 .i64 ((bd es.length)-1)<=(bd es.length)/\lens 1 es)/\I0 [] [Lm (dA 0 (dy (be (U3 .i64 ((bd es.length)-1))) es))]/\M0 [Lm (dA 0 (dy (be (U3 .i64 ((bd es.length)-1))) es))]<M0 [Lm es]) (Q [aL es])) (Q [aL es])):=by kernel_rfl
theorem PK(es fs:List (List D)):wpF C0 Gv (λ_=>⟨[.slot 5 (.int .i64 0)],[],I0,M0⟩) Tryz.f164 [.c (.sl es),.c (.sl fs)] Q=(∃e1,Gv 229 [aL es] [aL e1]/\∃es,Gv 229 [aL fs] [aL es]/\bB ((bd e1.length) !=(bd es.length)) (bB (decide ((bd e1.length)<(bd es.length))) (Q [aI (-1:Int)]) (Q [aI (1:Int)])) (I0 [] [dI (U3 .i64 ((bd e1.length)-1))]/\∀(n:Int),I0 [] [dI n]->bB (decide (n>=0)) ((0<=n/\n<(bd e1.length)/\cr (nth [] e1 (be n))=1)/\∃n1,cut (nth [] e1 (be n)) 0 1 [J9 .u32 n1]/\(0<=n/\n<(bd es.length)/\cr (nth [] es (be n))=1)/\∃n2,cut (nth [] es (be n)) 0 1 [J9 .u32 n2]/\bB (decide (n1<n2)) (Q [aI (-1:Int)]) ((0<=n/\n<(bd e1.length)/\cr (nth [] e1 (be n))=1)/\∃n3,cut (nth [] e1 (be n)) 0 1 [J9 .u32 n3]/\(0<=n/\n<(bd es.length)/\cr (nth [] es (be n))=1)/\∃n4,cut (nth [] es (be n)) 0 1 [J9 .u32 n4]/\bB (decide (n3>n4)) (Q [aI (1:Int)]) (I0 [] [dI (U3 .i64 (n-1))]/\M0 [dI (U3 .i64 (n-1))]<M0 [dI n]))) (Q [aI (0:Int)]))):=by kernel_rfl
theorem Bz(b:Bool)(es:List (List D)):wpF C0 Gv (λ_=>⟨[.slot 5 (.int .i64 0)],[],I0,M0⟩) Tryz.f165 [.c (.bool b),.c (.sl es)] Q=(I0 [] [dI (bd es.length)]/\∀(n:Int),I0 [] [dI n]->bB (decide (n>0)) ((0<=U3 .i64 (n-1)/\U3 .i64 (n-1)<(bd es.length)/\cr (nth [] es (be (U3 .i64 (n-1))))=1)/\∃n1,cut (nth [] es (be (U3 .i64 (n-1)))) 0 1 [J9 .u32 n1]/\bB (n1==0) (I0 [] [dI (U3 .i64 (n-1))]/\M0 [dI (U3 .i64 (n-1))]<M0 [dI n]) (br b (((0:Int)<=(0:Int)/\0<=n/\n<=n/\n<=(bd es.length)/\lens 1 es)/\Q [aZ (decide (n>0)) (dA 0 (dy (be n) es))]) (((0:Int)<=(0:Int)/\0<=n/\n<=n/\n<=(bd es.length)/\lens 1 es)/\Q [aZ false (dA 0 (dy (be n) es))]))) (br b (((0:Int)<=(0:Int)/\0<=n/\n<=n/\n<=(bd es.length)/\lens 1 es)/\Q [aZ (decide (n>0)) (dA 0 (dy (be n) es))]) (((0:Int)<=(0:Int)/\0<=n/\n<=n/\n<=(bd es.length)/\lens 1 es)/\Q [aZ false (dA 0 (dy (be n) es))]))):=by kernel_rfl
theorem FH(n:Int):wpF C0 Gv an0 Tryz.f167 [.c (.int .u64 n)] Q=((1000000000:Int)≠(0:Int)/\(1000000000:Int)≠(0:Int)/\(1000000000:Int)≠(0:Int)/\(1000000000:Int)≠(0:Int)/\(1000000000:Int)≠(0:Int)/\Q [aL [[J9 .u32 (U3 .u32 (bw n (1000000000:Int)))],[J9 .u32 (U3 .u32 (bw (U3 .u64 (b9 n (1000000000:Int))) (1000000000:Int)))],[J9 .u32 (U3 .u32 (U3 .u64 (b9 (U3 .u64 (b9 n (1000000000:Int))) (1000000000:Int))))]]]):=by kernel_rfl
theorem Un(n:Int):wpF C0 Gv an0 Tryz.f169 [.c (.int .i64 n)] Q=(bB (decide (n<0)) (∃es,Gv 167 [J8 (J9 .u64 (U3 .u64 (0-U3 .u64 n)))] [aL es]/\∃b e1,Gv 165 [aB (decide (n<0)),aL es] [aZ b e1]/\Q [aZ b e1]) (∃es,Gv 167 [J8 (J9 .u64 (U3 .u64 n))] [aL es]/\∃b e1,Gv 165 [aB (decide (n<0)),aL es] [aZ b e1]/\Q [aZ b e1])):=by kernel_rfl
theorem dD(p:Bool)(es:List (List D)):wpF C0 Gv an0 Tryz.f166 [.ag [.bool p,.sl es]] Q=(bB ((bd es.length)==0) (Q [J8 (J9 .u64 0),aB true]) (bB ((bd es.length)==1) (((0:Int)<=(0:Int)/\0<(bd es.length)/\cr (nth [] es 0)=1)/\∃n,cut (nth [] es 0) 0 1 [J9 .u32 n]/\Q [J8 (J9 .u64 (U3 .u64 n)),aB true]) (bB ((bd es.length)==2) (((0:Int)<=(1:Int)/\1<(bd es.length)/\cr (nth [] es 1)=1)/\∃n,cut (nth [] es 1) 0 1 [J9 .u32 n]/\((0:Int)<=(0:Int)/\0<(bd es.length)/\cr (nth [] es 0)=1)/\∃n1,cut (nth [] es 0) 0 1 [J9 .u32 n1]/\Q [J8 (J9 .u64 (U3 .u64 (U3 .u64 (U3 .u64 n*1000000000)+U3 .u64 n1))),aB true]) (Q [J8 (J9 .u64 0),aB false])))):=by kernel_rfl
theorem dE(p:Bool)(es:List (List D)):wpF C0 Gv an0 Tryz.f64 [.ag [.bool p,.sl es]] Q=(br p (Q [aI (-1:Int)]) (bB (decide ((bd es.length)>0)) (Q [aI (1:Int)]) (Q [aI (0:Int)]))):=by kernel_rfl
theorem lC(p q:Bool)(es fs:List (List D)):wpF C0 Gv an0 Tryz.f106 [.ag [.bool p,.sl es],.ag [.bool q,.sl fs]] Q=(bB (!p==q) (br p (Q [aI (-1:Int)]) (Q [aI (1:Int)])) (br p (∃n,Gv 164 [aL fs,aL es] [aI n]/\Q [aI n]) (∃n,Gv 164 [aL es,aL fs] [aI n]/\Q [aI n]))):=by kernel_rfl
theorem B1(es fs:List (List D)):wpF C0 Gv (λ_=>⟨[.own 5 53 1,.slot 6 (.int .u32 0),.slot 22 (.int .i64 0)],[],I0,M0⟩) Tryz.f205 [.c (.sl es),.c (.sl fs)] Q=(bB (decide ((bd es.length)<(bd fs.length))) (((0:Int)<=(0:Int)/\0<=U3 .i64 ((bd fs.length)+1)/\room (be (U3 .i64 ((bd fs.length)+1))))/\I0 [] [Lm [],J9 .u32 0,dI (0:Int)]/\∀(e1:List (List D)) (n n1:Int),I0 [] [Lm e1,J9 .u32 n,dI n1]->bB (decide (n1<(bd fs.length))) ((0<=n1/\n1<(bd fs.length)/\cr (nth [] fs (be n1))=1)/\∃n2,cut (nth [] fs (be n1)) 0 1 [J9 .u32 n2]/\bB (decide (n1<(bd es.length))) ((0<=n1/\n1<(bd es.length)/\cr (nth [] es (be n1))=1)/\∃n3,cut (nth [] es (be n1)) 0 1 [J9 .u32 n3]/\bB (decide (U3 .u32 (U3 .u32 (n2+n)+n3)>=1000000000)) ((room (e1.length+1)/\lens 1 [[J9 .u32 (U3 .u32 (U3 .u32 (U3 .u32 (n2+n)+n3)-1000000000))]])/\I0 [] [Lm (e1++[[J9 .u32 (U3 .u32 (U3 .u32 (U3 .u32 (n2+n)+n3)-1000000000))]]),J9 .u32 1,dI (U3 .i64 (n1+1))]/\M0 [Lm (e1++[[J9 .u32 (U3 .u32 (U3 .u32 (U3 .u32 (n2+n)+n3)-1000000000))]]),J9 .u32 1,dI (U3 .i64 (n1+1))]<M0 [Lm e1,J9 .u32 n,dI n1]) ((room (e1.length+1)/\lens 1 [[J9 .u32 (U3 .u32 (U3 .u32 (n2+n)+n3))]])/\I0 [] [Lm (e1++[[J9 .u32 (U3 .u32 (U3 .u32 (n2+n)+n3))]]),J9 .u32 0,dI (U3 .i64 (n1+1))]/\M0 [Lm (e1++[[J9 .u32 (U3 .u32 (U3 .u32 (n2+n)+n3))]]),J9 .u32 0,dI (U3 .i64 (n1+1))]<M0 [Lm e1,J9 .u32 n,dI n1])) (bB (decide (U3 .u32 (n2+n)>=1000000000)) ((room (e1.length+1)/\lens 1 [[J9 .u32 (U3 .u32 (U3 .u32 (n2+n)-1000000000))]])/\I0 [] [Lm (e1++[[J9 .u32 (U3 .u32 (U3 .u32 (n2+n)-1000000000))]]),J9 .u32 1,dI (U3 .i64 (n1+1))]/\M0 [Lm (e1++[[J9 .u32 (U3 .u32 (U3 .u32 (n2+n)-1000000000))]]),J9 .u32 1,dI (U3 .i64 (n1+1))]<M0 [Lm e1,J9 .u32 n,dI n1]) ((room (e1.length+1)/\lens 1 [[J9 .u32 (U3 .u32 (n2+n))]])/\I0 [] [Lm (e1++[[J9 .u32 (U3 .u32 (n2+n))]]),J9 .u32 0,dI (U3 .i64 (n1+1))]/\M0 [Lm (e1++[[J9 .u32 (U3 .u32 (n2+n))]]),J9 .u32 0,dI (U3 .i64 (n1+1))]<M0 [Lm e1,J9 .u32 n,dI n1]))) ((room (e1.length+1)/\lens 1 [[J9 .u32 n]])/\Q [aL (e1++[[J9 .u32 n]])])) (((0:Int)<=(0:Int)/\0<=U3 .i64 ((bd es.length)+1)/\room (be (U3 .i64 ((bd es.length)+1))))/\I0 [] [Lm [],J9 .u32 0,dI (0:Int)]/\∀(e1:List (List D)) (n n1:Int),I0 [] [Lm e1,J9 .u32 n,dI n1]->bB (decide (n1<(bd es.length))) ((0<=n1/\n1<(bd es.length)/\cr (nth [] es (be n1))=1)/\∃n2,cut (nth [] es (be n1)) 0 1 [J9 .u32 n2]/\bB (decide (n1<(bd fs.length))) ((0<=n1/\n1<(bd fs.length)/\cr (nth [] fs (be n1))=1)/\∃n3,cut (nth [] fs (be n1)) 0 1 [J9 .u32 n3]/\bB (decide (U3 .u32 (U3 .u32 (n2+n)+n3)>=1000000000)) ((room (e1.length+1)/\lens 1 [[J9 .u32 (U3 .u32 (U3 .u32 (U3 .u32 (n2+n)+n3)-1000000000))]])/\I0 [] [Lm (e1++[[J9 .u32 (U3 .u32 (U3 .u32 (U3 .u32 (n2+n)+n3)-1000000000))]]),J9 .u32 1,dI (U3 .i64 (n1+1))]/\M0 [Lm (e1++[[J9 .u32 (U3 .u32 (U3 .u32 (U3 .u32 (n2+n)+n3)-1000000000))]]),J9 .u32 1,dI (U3 .i64 (n1+1))]<M0 [Lm e1,J9 .u32 n,dI n1]) ((room (e1.length+1)/\lens 1 [[J9 .u32 (U3 .u32 (U3 .u32 (n2+n)+n3))]])/\I0 [] [Lm (e1++[[J9 .u32 (U3 .u32 (U3 .u32 (n2+n)+n3))]]),J9 .u32 0,dI (U3 .i64 (n1+1))]/\M0 [Lm (e1++[[J9 .u32 (U3 .u32 (U3 .u32 (n2+n)+n3))]]),J9 .u32 0,dI (U3 .i64 (n1+1))]<M0 [Lm e1,J9 .u32 n,dI n1])) (bB (decide (U3 .u32 (n2+n)>=1000000000)) ((room (e1.length+1)/\lens 1 [[J9 .u32 (U3 .u32 (U3 .u32 (n2+n)-1000000000))]])/\I0 [] [Lm (e1++[[J9 .u32 (U3 .u32 (U3 .u32 (n2+n)-1000000000))]]),J9 .u32 1,dI (U3 .i64 (n1+1))]/\M0 [Lm (e1++[[J9 .u32 (U3 .u32 (U3 .u32 (n2+n)-1000000000))]]),J9 .u32 1,dI (U3 .i64 (n1+1))]<M0 [Lm e1,J9 .u32 n,dI n1]) ((room (e1.length+1)/\lens 1 [[J9 .u32 (U3 .u32 (n2+n))]])/\I0 [] [Lm (e1++[[J9 .u32 (U3 .u32 (n2+n))]]),J9 .u32 0,dI (U3 .i64 (n1+1))]/\M0 [Lm (e1++[[J9 .u32 (U3 .u32 (n2+n))]]),J9 .u32 0,dI (U3 .i64 (n1+1))]<M0 [Lm e1,J9 .u32 n,dI n1]))) ((room (e1.length+1)/\lens 1 [[J9 .u32 n]])/\Q [aL (e1++[[J9 .u32 n]])]))):=by kernel_rfl
theorem FI(es fs:List (List D)):wpF C0 Gv (λ_=>⟨[.own 5 45 1,.slot 6 (.int .u32 0),.slot 15 (.int .i64 0)],[],I0,M0⟩) Tryz.f206 [.c (.sl es),.c (.sl fs)] Q=((0<=(bd es.length)/\(bd es.length)<=(bd es.length)/\room (be (bd es.length)))/\I0 [] [Lm (c0 (be (bd es.length)) [J9 .u32 0]),J9 .u32 0,dI (0:Int)]/\∀(e1:List (List D)) (n n1:Int),I0 [] [Lm e1,J9 .u32 n,dI n1]->bB (decide (n1<(bd es.length))) ((0<=n1/\n1<(bd es.length)/\cr (nth [] es (be n1))=1)/\∃n2,cut (nth [] es (be n1)) 0 1 [J9 .u32 n2]/\bB (decide (n1<(bd fs.length))) ((0<=n1/\n1<(bd fs.length)/\cr (nth [] fs (be n1))=1)/\∃n3,cut (nth [] fs (be n1)) 0 1 [J9 .u32 n3]/\bB (decide (n2<U3 .u32 (n+n3))) ((0<=n1/\n1<(bd e1.length))/\0<1/\I0 [] [Lm (upd e1 (be n1) (upd (nth [] e1 (be n1)) 0 (J9 .u32 (U3 .u32 (U3 .u32 (n2+1000000000)-U3 .u32 (n+n3)))))),J9 .u32 1,dI (U3 .i64 (n1+1))]/\M0 [Lm (upd e1 (be n1) (upd (nth [] e1 (be n1)) 0 (J9 .u32 (U3 .u32 (U3 .u32 (n2+1000000000)-U3 .u32 (n+n3)))))),J9 .u32 1,dI (U3 .i64 (n1+1))]<M0 [Lm e1,J9 .u32 n,dI n1]) ((0<=n1/\n1<(bd e1.length))/\0<1/\I0 [] [Lm (upd e1 (be n1) (upd (nth [] e1 (be n1)) 0 (J9 .u32 (U3 .u32 (n2-U3 .u32 (n+n3)))))),J9 .u32 0,dI (U3 .i64 (n1+1))]/\M0 [Lm (upd e1 (be n1) (upd (nth [] e1 (be n1)) 0 (J9 .u32 (U3 .u32 (n2-U3 .u32 (n+n3)))))),J9 .u32 0,dI (U3 .i64 (n1+1))]<M0 [Lm e1,J9 .u32 n,dI n1])) (bB (decide (n2<n)) ((0<=n1/\n1<(bd e1.length))/\0<1/\I0 [] [Lm (upd e1 (be n1) (upd (nth [] e1 (be n1)) 0 (J9 .u32 (U3 .u32 (U3 .u32 (n2+1000000000)-n))))),J9 .u32 1,dI (U3 .i64 (n1+1))]/\M0 [Lm (upd e1 (be n1) (upd (nth [] e1 (be n1)) 0 (J9 .u32 (U3 .u32 (U3 .u32 (n2+1000000000)-n))))),J9 .u32 1,dI (U3 .i64 (n1+1))]<M0 [Lm e1,J9 .u32 n,dI n1]) ((0<=n1/\n1<(bd e1.length))/\0<1/\I0 [] [Lm (upd e1 (be n1) (upd (nth [] e1 (be n1)) 0 (J9 .u32 (U3 .u32 (n2-n))))),J9 .u32 0,dI (U3 .i64 (n1+1))]/\M0 [Lm (upd e1 (be n1) (upd (nth [] e1 (be n1)) 0 (J9 .u32 (U3 .u32 (n2-n))))),J9 .u32 0,dI (U3 .i64 (n1+1))]<M0 [Lm e1,J9 .u32 n,dI n1]))) (Q [aL e1])):=by kernel_rfl
theorem lD(p q:Bool)(es fs:List (List D)):wpF C0 Gv an0 Tryz.f141 [.ag [.bool p,.sl es],.ag [.bool q,.sl fs]] Q=(bB (p==q) (∃e1,Gv 205 [aL es,aL fs] [aL e1]/\∃b es,Gv 165 [aB p,aL e1] [aZ b es]/\Q [aZ b es]) (∃n,Gv 164 [aL es,aL fs] [aI n]/\bB (decide (n<0)) (∃e1,Gv 206 [aL fs,aL es] [aL e1]/\∃b es,Gv 165 [aB q,aL e1] [aZ b es]/\Q [aZ b es]) (∃e1,Gv 206 [aL es,aL fs] [aL e1]/\∃b es,Gv 165 [aB p,aL e1] [aZ b es]/\Q [aZ b es]))):=by kernel_rfl
theorem lF(p q:Bool)(es fs:List (List D)):wpF C0 Gv an0 Tryz.f302 [.ag [.bool p,.sl es],.ag [.bool q,.sl fs]] Q=(bB (!q) (∃b e1,Gv 141 [aZ p es,aZ (decide ((bd fs.length)>0)) fs] [aZ b e1]/\Q [aZ b e1]) (∃b e1,Gv 141 [aZ p es,aZ false fs] [aZ b e1]/\Q [aZ b e1])):=by kernel_rfl
theorem lG(p:Bool)(es:List (List D)):wpF C0 Gv an0 Tryz.f203 [.ag [.bool p,.sl es]] Q=((room es.length/\lens 1 es)/\∃b e1,Gv 165 [aB (!p),aL es] [aZ b e1]/\Q [aZ b e1]):=by kernel_rfl
theorem lH(p q:Bool)(es fs:List (List D)):wpF C0 Gv an0 Tryz.f120 [.ag [.bool p,.sl es],.ag [.bool q,.sl fs]] Q=(∃e1,Gv 178 [aL es,aL fs] [aL e1]/\∃b es,Gv 165 [J8 (Lr !p==q),aL e1] [aZ b es]/\Q [aZ b es]):=by kernel_rfl
theorem B2(es:List (List D))(n:Int):wpF C0 Gv (λ_=>⟨[.own 6 44 1,.slot 7 (.int .u64 0),.slot 8 (.int .i64 0)],[],I0,M0⟩) Tryz.f230 [.c (.sl es),.c (.int .u32 n)] Q=((0<=(bd es.length)/\(bd es.length)<=(bd es.length)/\room (be (bd es.length)))/\I0 [] [Lm (c0 (be (bd es.length)) [J9 .u32 0]),J9 .u64 0,dI (U3 .i64 ((bd es.length)-1))]/\∀(e1:List (List D)) (n1 n2:Int),I0 [] [Lm e1,J9 .u64 n1,dI n2]->bB (decide (n2>=0)) ((0<=n2/\n2<(bd es.length)/\cr (nth [] es (be n2))=1)/\∃n3,cut (nth [] es (be n2)) 0 1 [J9 .u32 n3]/\U3 .u64 n≠0/\U3 .u64 n≠0/\(0<=n2/\n2<(bd e1.length))/\0<1/\I0 [] [Lm (upd e1 (be n2) (upd (nth [] e1 (be n2)) 0 (J9 .u32 (U3 .u32 (U3 .u64 (b9 (U3 .u64 (U3 .u64 (n1*1000000000)+U3 .u64 n3)) (U3 .u64 n))))))),J9 .u64 (bw (U3 .u64 (U3 .u64 (n1*1000000000)+U3 .u64 n3)) (U3 .u64 n)),dI (U3 .i64 (n2-1))]/\M0 [Lm (upd e1 (be n2) (upd (nth [] e1 (be n2)) 0 (J9 .u32 (U3 .u32 (U3 .u64 (b9 (U3 .u64 (U3 .u64 (n1*1000000000)+U3 .u64 n3)) (U3 .u64 n))))))),J9 .u64 (bw (U3 .u64 (U3 .u64 (n1*1000000000)+U3 .u64 n3)) (U3 .u64 n)),dI (U3 .i64 (n2-1))]<M0 [Lm e1,J9 .u64 n1,dI n2]) (Q [aL e1,aL [[J9 .u32 (U3 .u32 n1)]]])):=by kernel_rfl
end
end Eng
end
section
namespace Eng
open Go
def raw (l:List Nat):List (List D):=l.map λ(x:Nat)=>[.int .u32 (x:Int)]
def Limbs (l:List Nat):Prop:=∀x∈l,x<1000000000
def val:List Nat->Nat
 |[]=>0
 |x::r=>x+1000000000*val r
def pad:Nat->Nat->List Nat
 |0,_=>[]
 |k+1,n=>n%1000000000::pad k (n/1000000000)
def ER:Nat->Nat->List Nat
 |0,_=>[]
 |f+1,n=>match n with
  |0=>[]
  |m+1=>(m+1)%1000000000::ER f ((m+1)/1000000000)
def lim (n:Nat):List Nat:=ER n n
theorem Limbs.nil:Limbs []:=λ_ h=>by simp at h
theorem Limbs.cons{x:Nat}{l:List Nat}(hx:x<1000000000)(h:Limbs l):Limbs (x::l):=λy hy=>by
 rcases List.mem_cons.1 hy with rfl|hy
 .exact hx
 .exact h y hy
theorem Limbs.of_cons{x:Nat}{l:List Nat}(h:Limbs (x::l)):x<1000000000/\Limbs l:=⟨h x (by simp),λy hy=>h y (by simp[hy])⟩
theorem Limbs.append{a b:List Nat}(ha:Limbs a)(hb:Limbs b):Limbs (a++b):=λy hy=>by
 rcases eH.1 hy with hy|hy
 .exact ha y hy
 .exact hb y hy
theorem Limbs.take{l:List Nat}(h:Limbs l)(k:Nat):Limbs (l.take k):=λy hy=>h y (List.mem_of_mem_take hy)
theorem Limbs.drop{l:List Nat}(h:Limbs l)(k:Nat):Limbs (l.drop k):=λy hy=>h y (List.mem_of_mem_drop hy)
theorem Limbs.get{l:List Nat}(h:Limbs l){i:Nat}(hi:i<l.length):l[i]<1000000000:=h _ (List.getElem_mem hi)
theorem qO(a b:List Nat):val (a++b)=val a+1000000000^a.length*val b:=by
 induction a with
 |nil=>simp[val]
 |cons x a ih=>simp only[ez,val,ih,el,im];rw[hM,Nat.add_assoc,<-hP,it (1000000000^a.length) 1000000000]
theorem qQ{l:List Nat}(h:Limbs l):val l<1000000000^l.length:=by
 induction l with
 |nil=>simp[val]
 |cons x l ih=>obtain⟨h1,h2⟩:=h.of_cons;have:=ih h2;simp only[val,el,im];omega
theorem xy:∀(k n:Nat),(pad k n).length=k
 |0,_=>rfl
 |k+1,n=>by simp[pad,xy k]
theorem zm:∀(k n:Nat),Limbs (pad k n)
 |0,_=>Limbs.nil
 |k+1,n=>Limbs.cons (ix _ (by omega)) (zm k _)
theorem we:∀(k n:Nat),val (pad k n)=n%1000000000^k
 |0,n=>by simp[pad,val,Nat.mod_one]
 |k+1,n=>by simp only[pad,val,we k];rw[Nat.pow_succ',Nat.mod_mul]
theorem vW{l:List Nat}(h:Limbs l):pad l.length (val l)=l:=by
 induction l with
 |nil=>rfl
 |cons x l ih=>
  obtain⟨h1,h2⟩:=h.of_cons;simp only[el,pad,val];have e1:(x+1000000000*val l)%1000000000=x:=by omega
  have e2:(x+1000000000*val l)/1000000000=val l:=by omega
  rw[e1,e2,ih h2]
theorem B3{a b:List Nat}(ha:Limbs a)(hb:Limbs b)(hl:a.length=b.length)(hv:val a=val b):a=b:=by
 rw[<-vW ha,<-vW hb,hl,hv]
theorem VT:∀(f n:Nat),Limbs (ER f n)
 |0,_=>Limbs.nil
 |f+1,0=>Limbs.nil
 |f+1,m+1=>Limbs.cons (ix _ (by omega)) (VT f _)
theorem JL:∀(f n:Nat),n<=f->val (ER f n)=n
 |0,n,h=>by simp[ER,val];omega
 |f+1,0,_=>rfl
 |f+1,m+1,h=>by simp only[ER,val];rw[JL f _ (by omega)];omega
theorem qe(n:Nat):Limbs (lim n):=VT n n
theorem qh(n:Nat):val (lim n)=n:=JL n n (ic n)
theorem Uo:∀(f n:Nat),n<=f->ER f n=[]\/(ER f n).getLast?≠some 0
 |0,_,_=> .inl rfl
 |f+1,0,_=> .inl rfl
 |f+1,m+1,h=>by
  refine .inr ?_;simp only[ER];rcases Uo f ((m+1)/1000000000) (by omega)with h1|h1
  .have:=JL f ((m+1)/1000000000) (by omega);rw[h1]at this ⊢;simp only[val]at this;simp only[List.getLast?_singleton,ne_eq,k9];omega
  .rw[List.getLast?_cons];cases hh:(ER f ((m+1)/1000000000)).getLast? with
   |none=>rw[List.getLast?_eq_none_iff]at hh;rw[hh]at h1;have:=JL f ((m+1)/1000000000) (by omega);rw[hh]at this;simp only[val]at this;simp only[Option.getD_none,ne_eq,k9];omega
   |some x=>
    rw[hh]at h1
    simpa using h1
theorem jX(n:Nat):lim n=[]\/(lim n).getLast?≠some 0:=Uo n n (ic n)
theorem Jr{a b:List Nat}(ha:Limbs a)(hb:b.getLast?≠some 0)(hbn:b≠[])(h:a.length<b.length):val a<val b:=by
 have h1:=qQ ha;have h2:1000000000^(b.length-1)<=val b:=by
  have hd:=List.dropLast_concat_getLast hbn;have hz:b.getLast hbn≠0:=by intro e;apply hb;rw[List.getLast?_eq_some_getLast hbn,e]
  rw[<-hd,qO];simp only[gb,List.length_dropLast,fx,val];have h0:0<b.getLast hbn:=Nat.pos_of_ne_zero hz;have e1:b.length-1+1-1=b.length-1:=by omega
  rw[e1];have:1000000000^(b.length-1)*1<=1000000000^(b.length-1)*(b.getLast hbn+1000000000*0):=ie _ (by omega);omega
 have h3:1000000000^a.length<=1000000000^(b.length-1):=hU (by omega) (by omega);omega
theorem Qj{l:List Nat}(hl:Limbs l)(hz:l=[]\/l.getLast?≠some 0):lim (val l)=l:=by
 have h1:=qe (val l);have h2:=qh (val l);have h3:=jX (val l);have a4:(lim (val l)).length=l.length:=by
  rcases Nat.lt_trichotomy (lim (val l)).length l.length with h|h|h
  .exfalso;have a3:l≠[]:=by intro e;subst e;simp at h
   have:=Jr h1 (hz.resolve_left a3) a3 h;omega
  .exact h
  .exfalso;have a3:lim (val l)≠[]:=by intro e;rw[e]at h;simp at h
   have:=Jr hl (h3.resolve_left a3) a3 h;omega
 exact B3 h1 hl a4 h2
theorem qq{n k:Nat}(h:n<1000000000^k):(lim n).length<=k:=by
 rcases j2 k (lim n).length with hk|hk
 .exfalso;have a3:lim n≠[]:=by intro e;rw[e]at hk;simp at hk
  have:=Jr (zm k n) ((jX n).resolve_left a3) a3 (by rw[xy];exact hk);rw[we,qh,hX h]at this;omega
 .exact hk
theorem ko{n k:Nat}(h:1000000000^k<=n):k<(lim n).length:=by
 rcases j2 k (lim n).length with hk|hk
 .exact hk
 .have:=qQ (qe n);rw[qh]at this;have:1000000000^(lim n).length<=1000000000^k:=hU (by omega) hk;omega
theorem Gb:lim 0=[]:=rfl
theorem vX{n:Nat}:lim n=[]↔n=0:=by
 constructor
 .intro h;have:=qh n;rw[h]at this;exact this.symm
 .rintro rfl;rfl
theorem qB{n:Nat}:0<(lim n).length↔0<n:=by
 rw[List.length_pos_iff,ne_eq,vX];omega
theorem qg(l:List Nat):(raw l).length=l.length:=by simp[raw]
theorem qW(a b:List Nat):raw (a++b)=raw a++raw b:=by simp[raw]
theorem kA(l:List Nat)(k:Nat):(raw l).take k=raw (l.take k):=by simp[raw,List.map_take]
theorem XK(l:List Nat)(k:Nat):(raw l).drop k=raw (l.drop k):=by simp[raw,List.map_drop]
theorem LC{l:List Nat}{i:Nat}(h:i<l.length):nth [] (raw l) i=[.int .u32 ((l[i]:Nat))]:=by
 rw[qF];simp[raw,h]
theorem qx{l:List Nat}{i:Nat}(h:i<l.length):(nth [] (raw l) i).length=1:=by rw[LC h];rfl
theorem qy{l:List Nat}{i:Nat}(h:i<l.length):cut (nth [] (raw l) i) 0 1 [.int .u32 ((l[i]:Nat))]:=by
 rw[LC h];exact⟨rfl,by simp⟩
theorem jt(l:List Nat):lens 1 (raw l):=by
 intro e he;simp only[raw,fl]at he;obtain⟨x,_,rfl⟩:=he;rfl
theorem dF(l:List Nat)(i x:Nat):upd (raw l) i [.int .u32 (x:Int)]=raw (l.set i x):=by
 rw[xx];simp[raw]
theorem ND:∀(l:List Nat),yF (raw l)=true
 |[]=>rfl
 |x::l=>by have:=ND l;simp only[raw,ec,yF]at this ⊢;rw[this];rfl
theorem xt(n:Nat):c0 n [J9 .u32 (0:Int)]=raw (c0 n 0):=by simp[raw]
theorem vY(n:Nat):val (c0 n 0)=0:=by
 induction n with
 |zero=>rfl
 |succ n ih=>simp[fS,val,ih]
theorem LF{a b:List Nat}(h:raw a=raw b):a=b:=by
 induction a generalizing b with
 |nil=>cases b with
  |nil=>rfl
  |cons y b=>simp[raw]at h
 |cons x a ih=>cases b with
  |nil=>simp[raw]at h
  |cons y b=>simp only[raw,ec,hD,Ls,true_and,and_true]at h;rw[ih h.2,Int.ofNat.inj h.1]
theorem brd{c:Prop}[Decidable c]{X Y:Prop}(h1:c->X)(h2:¬c->Y):br (toB (Lr (decide c))) X Y:=by
 by_cases h:c
 .have:decide c=true:=decide_eq_true h;rw[this];exact h1 h
 .have:decide c=false:=decide_eq_false h;rw[this];exact h2 h
theorem brb{b:Bool}{X Y:Prop}(h1:b=true->X)(h2:b=false->Y):br (toB (Lr b)) X Y:=by
 cases b
 .exact h2 rfl
 .exact h1 rfl
theorem xG{b:Bool}{X Y:Prop}(h1:b=true->X)(h2:b=false->Y):br b X Y:=by
 cases b
 .exact h2 rfl
 .exact h1 rfl
theorem xF{n:Int}(_: -9223372036854775808<=n:=by omega)(_:n<9223372036854775808:=by omega):U3 .i64 n=n:=by
 simp[U3,W2,W1];omega
theorem xV{n:Int}(_:0<=n:=by omega)(_:n<18446744073709551616:=by omega):U3 .u64 n=n:=by
 simp[U3,W2,W1];omega
theorem kD{n:Int}(_:0<=n:=by omega)(_:n<4294967296:=by omega):U3 .u32 n=n:=by
 simp[U3,W2,W1];omega
end Eng
end
section
namespace Eng
open Go Go.Proofs
set_option maxRecDepth 100000
theorem Qk{l:List Nat}(hl:Limbs l)(hr:l.length<=1073741824):qa C0 229 [.c (.sl (raw l))] [.c (.sl (raw (lim (val l))))]:=by
 refine qo (anns:=λ_=>⟨[.slot 0 (.slice none 0 0)],[],λ_ ds=>∃k,k<=l.length/\ds=[.sl (raw (l.take k))]/\val (l.take k)=val l,λds=>(toL (nth .undef ds 0)).length⟩) mixedT Tryz.func229 ?_;rw[dC];simp only[bh];refine⟨⟨l.length,ic _,by rw[c7],by rw[c7]⟩,?_⟩;rintro es ⟨k,hk,he,hv⟩;simp only[hD,Lv,and_true]at he;subst he;have a3:(raw (l.take k)).length=k:=by rw[qg,cH];omega
 have a4:(k=0\/∃h:k-1<l.length,l[k-1]≠0)->[J8 (Lm (raw (l.take k)))]=[J8 (Lm (raw (lim (val l))))]:=by
  intro h;rw[<-hv,Qj (hl.take k)];rcases h with rfl|⟨h,hne⟩
  .exact .inl (by simp)
  .refine .inr ?_;rw[gd];split
   .simp
   .rw[cL h]
    simpa using hne
 refine brd (λh=>?_) (λh=>?_)
 .rw[a3]at h ⊢;have hk0:0<k:=by omega
  have hw:U3 .i64 ((k:Int)-1)=((k-1:Nat):Int):=by rw[xF];omega
  rw[hw];have a5:k-1<(l.take k).length:=by rw[cH];omega
  have hg:(l.take k)[k-1]=l[k-1]:=List.getElem_take ..;refine⟨⟨by omega,by omega,qx a5⟩,_,qy a5,brb (λhz=>?_) (λhz=>?_)⟩
  .have hz:l[k-1]=0:=by rw[hg]at hz;simpa using hz
   refine⟨⟨by omega,by omega,by omega,jt _⟩,⟨k-1,by omega,?_,?_⟩,?_⟩
   .simp only[bk,kA,dp,List.take_take];congr 4;omega
   .have:l.take k=l.take (k-1)++[l[k-1]]:=by have:=dn (l:=l) (i:=k-1) (by omega);rw[show k-1+1=k by omega]at this;exact this
    rw[<-hv,this,hz,qO];simp[val]
   .simp only[bk,nth,toL,dp,cH,a3];omega
  .exact a4 (.inr ⟨by omega,by rw[hg]at hz;simpa using hz⟩)
 .rw[a3]at h;exact a4 (.inl (by omega))
def Zy (a b:Nat):Int:=if a<b then-1 else if b<a then 1 else 0
theorem vZ{a b:List Nat}(ha:Limbs a)(hl:a.length=b.length){k:Nat}(hk:k<a.length)(hd:a.drop (k+1)=b.drop (k+1))(h:a[k]<b[k]):val a<val b:=by
 have e1:a=a.take k++a[k]::a.drop (k+1):=by rw[<-c4 hk,et]
 have e2:b=b.take k++b[k]::b.drop (k+1):=by rw[<-c4 (by omega),et]
 rw[e1,e2,qO,qO,hd];have l1:(a.take k).length=k:=by rw[cH];omega
 have l2:(b.take k).length=k:=by rw[cH];omega
 rw[l1,l2];have h1:=qQ (ha.take k);rw[l1]at h1;simp only[val];have:1000000000^k*(a[k]+1+1000000000*val (b.drop (k+1)))<=1000000000^k*(b[k]+1000000000*val (b.drop (k+1))):=ie _ (by omega);have e3:1000000000^k*(a[k]+1+1000000000*val (b.drop (k+1)))=1000000000^k*(a[k]+1000000000*val (b.drop (k+1)))+1000000000^k:=by rw[show a[k]+1+1000000000*val (b.drop (k+1))=(a[k]+1000000000*val (b.drop (k+1)))+1 by omega,hM,Nat.mul_one]
 omega
theorem wh{a b:List Nat}(ha:Limbs a)(hb:Limbs b)(hra:a.length<=1073741824)(hrb:b.length<=1073741824):qa C0 164 [.c (.sl (raw a)),.c (.sl (raw b))] [.c (.int .i64 (Zy (val a) (val b)))]:=by
 generalize hA:lim (val a)=A;generalize hB:lim (val b)=B;have lA:Limbs A:=hA▸qe _;have lB:Limbs B:=hB▸qe _;have vA:val A=val a:=hA▸qh _;have vB:val B=val b:=hB▸qh _;have zA:A=[]\/A.getLast?≠some 0:=hA▸jX _;have zB:B=[]\/B.getLast?≠some 0:=hB▸jX _;have nA:A.length<=a.length:=hA▸qq (qQ ha);have nB:B.length<=b.length:=hB▸qq (qQ hb);refine qo (anns:=λ_=>⟨[.slot 5 (.int .i64 0)],[],λ_ ds=>∃k:Nat,k<=A.length/\ds=[.int .i64 ((k:Int)-1)]/\A.drop k=B.drop k,λds=>(toI (nth .undef ds 0)+1).toNat⟩) mixedT Tryz.func164 ?_;rw[PK];simp only[bh];refine⟨_,Qk ha hra,_,Qk hb hrb,?_⟩;rw[hA,hB,qg,qg];refine brb (λh=>?_) (λh=>?_)
 .have h:A.length≠B.length:=by intro e;rw[e]at h;simp at h
  refine brd (λh1=>?_) (λh1=>?_)
  .have a5:B≠[]:=(by intro e;have h0:B.length=0:=(by rw[e];rfl);omega);have:=Jr lA (zB.resolve_left a5) a5 (by omega);rw[Zy,if_pos (by omega)]
  .have a5:A≠[]:=(by intro e;have h0:A.length=0:=(by rw[e];rfl);omega);have:=Jr lB (zA.resolve_left a5) a5 (by omega);rw[Zy,if_neg (by omega),if_pos (by omega)]
 .have h:A.length=B.length:=by
   have:(A.length:Int)=B.length:=by simpa using h
   omega
  refine⟨⟨A.length,ic _,by rw[xF],by rw[gn,h,gn]⟩,?_⟩;rintro n ⟨k,hk,he,hd⟩;simp only[hD,Ls,true_and,and_true]at he;subst he;refine brd (λh1=>?_) (λh1=>?_)
  .have a3:k-1<A.length:=by omega
   have a4:k-1<B.length:=by omega
   have ht:((k:Int)-1).toNat=k-1:=by omega
   have a6:A.drop (k-1+1)=B.drop (k-1+1):=by rw[show k-1+1=k by omega];exact hd
   rw[ht];refine⟨⟨by omega,by omega,qx a3⟩,_,qy a3,⟨by omega,by omega,qx a4⟩,_,qy a4,brd (λh2=>?_) (λh2=>?_)⟩
   .have:=vZ lA h a3 a6 (by omega);rw[Zy,if_pos (by omega)]
   .refine⟨⟨by omega,by omega,qx a3⟩,_,qy a3,⟨by omega,by omega,qx a4⟩,_,qy a4,brd (λh3=>?_) (λh3=>?_)⟩
    .have:=vZ lB h.symm a4 a6.symm (by omega);rw[Zy,if_neg (by omega),if_pos (by omega)]
    .have hw:U3 .i64 ((k:Int)-1-1)=((k-1:Nat):Int)-1:=by rw[xF];omega
     rw[hw];refine⟨⟨k-1,by omega,rfl,?_⟩,?_⟩
     .rw[c4 a3,c4 a4,a6];congr 1;omega
     .simp only[nth,toI];omega
  .have a3:k=0:=by omega
   subst a3;have:A=B:=by simpa using hd
   rw[Zy,<-vA,<-vB,this,if_neg (by omega),if_neg (by omega)]
theorem VU{l:List Nat}(b:Bool)(hl:Limbs l)(hr:l.length<=1073741824):qa C0 165 [.c (.bool b),.c (.sl (raw l))] [.ag [.bool (b&&decide (0<val l)),.sl (raw (lim (val l)))]]:=by
 refine qo (anns:=λ_=>⟨[.slot 5 (.int .i64 0)],[],λ_ ds=>∃k:Nat,k<=l.length/\ds=[.int .i64 (k:Int)]/\val (l.take k)=val l,λds=>(toI (nth .undef ds 0)).toNat⟩) mixedT Tryz.func165 ?_;rw[Bz];simp only[bh];refine⟨⟨l.length,ic _,by rw[qg],by rw[c7]⟩,?_⟩;rintro n ⟨k,hk,he,hv⟩;simp only[hD,Ls,true_and,and_true]at he;subst he;have a4:(k=0\/∃h:k-1<l.length,l[k-1]≠0)->dA 0 (dy (k:Int).toNat (raw l))=raw (lim (val l))/\(0<val l↔0<k):=by
  intro h;have h0:lim (val l)=l.take k:=by
   rw[<-hv,Qj (hl.take k)];rcases h with rfl|⟨h,hne⟩
   .exact .inl (by simp)
   .refine .inr ?_;rw[gd];split
    .simp
    .rw[cL h]
     simpa using hne
  refine⟨by rw[h0,bk,kA,dp],?_⟩;rw[<-qB,h0,cH];omega
 have a3:(k=0\/∃h:k-1<l.length,l[k-1]≠0)->
  br b
   (((0:Int)<=0/\(0:Int)<=k/\(k:Int)<=k/\(k:Int)<=(raw l).length/\lens 1 (raw l))/\
     [J7 [Lr (decide ((k:Int)>0)),Lm (dA 0 (dy (k:Int).toNat (raw l)))]]=[.ag [.bool (b&&decide (0<val l)),.sl (raw (lim (val l)))]])
   (((0:Int)<=0/\(0:Int)<=k/\(k:Int)<=k/\(k:Int)<=(raw l).length/\lens 1 (raw l))/\
     [J7 [Lr false,Lm (dA 0 (dy (k:Int).toNat (raw l)))]]=[.ag [.bool (b&&decide (0<val l)),.sl (raw (lim (val l)))]]):=by
  intro h;obtain⟨h1,h2⟩:=a4 h;rw[h1,qg];refine xG (λhb=>?_) (λhb=>?_)
  .subst hb;refine⟨⟨by omega,by omega,by omega,by omega,jt _⟩,?_⟩;have:decide ((k:Int)>0)=decide (0<val l):=by rw[decide_eq_decide];omega
   rw[this,J4]
  .subst hb;exact⟨⟨by omega,by omega,by omega,by omega,jt _⟩,by rw[J3]⟩
 refine brd (λh=>?_) (λh=>?_)
 .have hw:U3 .i64 ((k:Int)-1)=((k-1:Nat):Int):=by rw[xF];omega
  rw[hw,bk];have a5:k-1<l.length:=by omega
  refine⟨⟨by omega,by rw[qg];omega,qx a5⟩,_,qy a5,brb (λhz=>?_) (λhz=>?_)⟩
  .have hz:l[k-1]=0:=by simpa using hz
   refine⟨⟨k-1,by omega,rfl,?_⟩,?_⟩
   .have:l.take k=l.take (k-1)++[l[k-1]]:=by have:=dn (l:=l) (i:=k-1) (by omega);rw[show k-1+1=k by omega]at this;exact this
    rw[<-hv,this,hz,qO];simp[val]
   .simp only[nth,toI];omega
  .exact a3 (.inr ⟨a5,by simpa using hz⟩)
 .exact a3 (.inl (by omega))
end Eng
end
section
namespace Eng
open Go Go.Proofs
set_option maxRecDepth 100000
theorem qJ(l:List Nat)(k:Nat):val (l.take (k+1))=val (l.take k)+1000000000^k*l.getD k 0:=by
 by_cases h:k<l.length
 .rw[dn h,qO,cH,k1 (by omega)];simp[val,dc,h]
 .rw[c3 (by omega),c3 (by omega)];simp[dc,h]
theorem Wb{l:List Nat}{k:Nat}(h:l.length<=k):l.getD k 0=0:=by simp[dc,List.getElem?_eq_none h]
theorem XL(o:List Nat)(d:Nat):val (o++[d])=val o+1000000000^o.length*d:=by rw[qO];simp[val]
theorem Ge{k d c t:Nat}(h:d+1000000000*c=t):1000000000^k*d+1000000000^(k+1)*c=1000000000^k*t:=by
 rw[<-h,hM,im,hP]
theorem ju{x y o:List Nat}{k c d c':Nat}(hk:k<x.length)(ho:o.length=k)(hv:val o+1000000000^k*c=val (x.take k)+val (y.take k))(ht:d+1000000000*c'=x[k]+c+y.getD k 0):
 val (o++[d])+1000000000^(k+1)*c'=val (x.take (k+1))+val (y.take (k+1)):=by
 rw[XL,ho,qJ,qJ];have h1:=Ge (k:=k) ht;have h2:x.getD k 0=x[k]:=by simp[dc,hk]
 rw[h2];have h3:1000000000^k*(x[k]+c+y.getD k 0)=1000000000^k*x[k]+1000000000^k*c+1000000000^k*y.getD k 0:=by rw[hM,hM]
 omega
theorem FJ{a b:List Nat}(ha:Limbs a)(hb:Limbs b)(hra:a.length<=1073741823)(hrb:b.length<=1073741823):qa C0 205 [.c (.sl (raw a)),.c (.sl (raw b))] [.c (.sl (raw (pad (max a.length b.length+1) (val a+val b))))]:=by
 by_cases hab:a.length<b.length
 .refine qo (anns:=λ_=>⟨[.own 5 53 1,.slot 6 (.int .u32 0),.slot 22 (.int .i64 0)],[],λ_ ds=>∃(k:Nat) (o:List Nat) (c:Nat),k<=b.length/\o.length=k/\ds=[.sl (raw o),.int .u32 (c:Int),.int .i64 (k:Int)]/\Limbs o/\c<=1/\val o+1000000000^k*c=val (b.take k)+val (a.take k),λds=>b.length-(toI (nth .undef ds 2)).toNat⟩) mixedT Tryz.func205 ?_;rw[B1];simp only[bh,qg];refine brd (λh0=>?_) (λh0=>?_)
  .skip
   refine⟨⟨by omega,by rw[xF];omega,by rw[xF];unfold room;omega⟩,⟨0,[],0,by omega,rfl,rfl,Limbs.nil,by omega,by simp[val]⟩,?_⟩;rintro es n m ⟨k,o,c,hk,ho,he,lo,hc,hv⟩;simp only[hD,Ls,Lv,true_and,and_true]at he;obtain⟨rfl,rfl,rfl⟩:=he;refine brd (λh1=>?_) (λh1=>?_)
   .have a3:k<b.length:=by omega
    have hxk:=hb.get a3;have a7:U3 .i64 ((k:Int)+1)=((k+1:Nat):Int):=by rw[xF];omega
    rw[bk,a7,qg,ho];refine⟨⟨by omega,by omega,qx a3⟩,_,qy a3,brd (λh2=>?_) (λh2=>?_)⟩
    .have a5:k<a.length:=by omega
     have hyk:=ha.get a5;have a4:a.getD k 0=a[k]:=by simp[dc,a5]
     refine⟨⟨by omega,by omega,qx a5⟩,_,qy a5,?_⟩;have hw:U3 .u32 (U3 .u32 ((b[k]:Int)+(c:Int))+(a[k]:Int))=((b[k]+c+a[k]:Nat):Int):=by rw[kD (n:=(b[k]:Int)+(c:Int)),kD];omega
     rw[hw];refine brd (λh3=>?_) (λh3=>?_)
     .have a6:U3 .u32 (((b[k]+c+a[k]:Nat):Int)-1000000000)=((b[k]+c+a[k]-1000000000:Nat):Int):=by rw[kD];omega
      rw[a6];refine⟨⟨by unfold room;omega,λe he=>by simp at he;subst he;rfl⟩,⟨k+1,o++[b[k]+c+a[k]-1000000000],1,by omega,by simp[ho],by rw[qW];rfl,lo.append (Limbs.cons (by omega) Limbs.nil),by omega,ju a3 ho hv (by have:=a4;omega)⟩,?_⟩;simp only[nth,toI];omega
     .refine⟨⟨by unfold room;omega,λe he=>by simp at he;subst he;rfl⟩,⟨k+1,o++[b[k]+c+a[k]],0,by omega,by simp[ho],by rw[qW];rfl,lo.append (Limbs.cons (by omega) Limbs.nil),by omega,ju a3 ho hv (by have:=a4;omega)⟩,?_⟩;simp only[nth,toI];omega
    .have a4:a.getD k 0=0:=Wb (by omega);have hw:U3 .u32 ((b[k]:Int)+(c:Int))=((b[k]+c:Nat):Int):=by rw[kD];omega
     rw[hw];refine brd (λh3=>?_) (λh3=>?_)
     .have a6:U3 .u32 (((b[k]+c:Nat):Int)-1000000000)=((b[k]+c-1000000000:Nat):Int):=by rw[kD];omega
      rw[a6];refine⟨⟨by unfold room;omega,λe he=>by simp at he;subst he;rfl⟩,⟨k+1,o++[b[k]+c-1000000000],1,by omega,by simp[ho],by rw[qW];rfl,lo.append (Limbs.cons (by omega) Limbs.nil),by omega,ju a3 ho hv (by have:=a4;omega)⟩,?_⟩;simp only[nth,toI];omega
     .refine⟨⟨by unfold room;omega,λe he=>by simp at he;subst he;rfl⟩,⟨k+1,o++[b[k]+c],0,by omega,by simp[ho],by rw[qW];rfl,lo.append (Limbs.cons (by omega) Limbs.nil),by omega,ju a3 ho hv (by have:=a4;omega)⟩,?_⟩;simp only[nth,toI];omega
   .have a3:k=b.length:=by omega
    subst a3;rw[qg,ho];refine⟨⟨by unfold room;omega,λe he=>by simp at he;subst he;rfl⟩,?_⟩;rw[c7,c3 (by omega)]at hv;have e1:raw o++[[J9 .u32 (c:Int)]]=raw (o++[c]):=by rw[qW];rfl
    have l1:Limbs (o++[c]):=lo.append (Limbs.cons (by omega) Limbs.nil);have v1:val (o++[c])=val a+val b:=by rw[XL,ho];omega
    have e2:o++[c]=pad (max a.length b.length+1) (val a+val b):=by
     rw[<-v1,<-vW l1];congr 1
     .simp[ho];omega
     .rw[vW l1]
    rw[e1,e2]
  .omega
 .refine qo (anns:=λ_=>⟨[.own 5 53 1,.slot 6 (.int .u32 0),.slot 22 (.int .i64 0)],[],λ_ ds=>∃(k:Nat) (o:List Nat) (c:Nat),k<=a.length/\o.length=k/\ds=[.sl (raw o),.int .u32 (c:Int),.int .i64 (k:Int)]/\Limbs o/\c<=1/\val o+1000000000^k*c=val (a.take k)+val (b.take k),λds=>a.length-(toI (nth .undef ds 2)).toNat⟩) mixedT Tryz.func205 ?_;rw[B1];simp only[bh,qg];refine brd (λh0=>?_) (λh0=>?_)
  .omega
  .skip
   refine⟨⟨by omega,by rw[xF];omega,by rw[xF];unfold room;omega⟩,⟨0,[],0,by omega,rfl,rfl,Limbs.nil,by omega,by simp[val]⟩,?_⟩;rintro es n m ⟨k,o,c,hk,ho,he,lo,hc,hv⟩;simp only[hD,Ls,Lv,true_and,and_true]at he;obtain⟨rfl,rfl,rfl⟩:=he;refine brd (λh1=>?_) (λh1=>?_)
   .have a3:k<a.length:=by omega
    have hxk:=ha.get a3;have a7:U3 .i64 ((k:Int)+1)=((k+1:Nat):Int):=by rw[xF];omega
    rw[bk,a7,qg,ho];refine⟨⟨by omega,by omega,qx a3⟩,_,qy a3,brd (λh2=>?_) (λh2=>?_)⟩
    .have a5:k<b.length:=by omega
     have hyk:=hb.get a5;have a4:b.getD k 0=b[k]:=by simp[dc,a5]
     refine⟨⟨by omega,by omega,qx a5⟩,_,qy a5,?_⟩;have hw:U3 .u32 (U3 .u32 ((a[k]:Int)+(c:Int))+(b[k]:Int))=((a[k]+c+b[k]:Nat):Int):=by rw[kD (n:=(a[k]:Int)+(c:Int)),kD];omega
     rw[hw];refine brd (λh3=>?_) (λh3=>?_)
     .have a6:U3 .u32 (((a[k]+c+b[k]:Nat):Int)-1000000000)=((a[k]+c+b[k]-1000000000:Nat):Int):=by rw[kD];omega
      rw[a6];refine⟨⟨by unfold room;omega,λe he=>by simp at he;subst he;rfl⟩,⟨k+1,o++[a[k]+c+b[k]-1000000000],1,by omega,by simp[ho],by rw[qW];rfl,lo.append (Limbs.cons (by omega) Limbs.nil),by omega,ju a3 ho hv (by have:=a4;omega)⟩,?_⟩;simp only[nth,toI];omega
     .refine⟨⟨by unfold room;omega,λe he=>by simp at he;subst he;rfl⟩,⟨k+1,o++[a[k]+c+b[k]],0,by omega,by simp[ho],by rw[qW];rfl,lo.append (Limbs.cons (by omega) Limbs.nil),by omega,ju a3 ho hv (by have:=a4;omega)⟩,?_⟩;simp only[nth,toI];omega
    .have a4:b.getD k 0=0:=Wb (by omega);have hw:U3 .u32 ((a[k]:Int)+(c:Int))=((a[k]+c:Nat):Int):=by rw[kD];omega
     rw[hw];refine brd (λh3=>?_) (λh3=>?_)
     .have a6:U3 .u32 (((a[k]+c:Nat):Int)-1000000000)=((a[k]+c-1000000000:Nat):Int):=by rw[kD];omega
      rw[a6];refine⟨⟨by unfold room;omega,λe he=>by simp at he;subst he;rfl⟩,⟨k+1,o++[a[k]+c-1000000000],1,by omega,by simp[ho],by rw[qW];rfl,lo.append (Limbs.cons (by omega) Limbs.nil),by omega,ju a3 ho hv (by have:=a4;omega)⟩,?_⟩;simp only[nth,toI];omega
     .refine⟨⟨by unfold room;omega,λe he=>by simp at he;subst he;rfl⟩,⟨k+1,o++[a[k]+c],0,by omega,by simp[ho],by rw[qW];rfl,lo.append (Limbs.cons (by omega) Limbs.nil),by omega,ju a3 ho hv (by have:=a4;omega)⟩,?_⟩;simp only[nth,toI];omega
   .have a3:k=a.length:=by omega
    subst a3;rw[qg,ho];refine⟨⟨by unfold room;omega,λe he=>by simp at he;subst he;rfl⟩,?_⟩;rw[c7,c3 (by omega)]at hv;have e1:raw o++[[J9 .u32 (c:Int)]]=raw (o++[c]):=by rw[qW];rfl
    have l1:Limbs (o++[c]):=lo.append (Limbs.cons (by omega) Limbs.nil);have v1:val (o++[c])=val a+val b:=by rw[XL,ho];omega
    have e2:o++[c]=pad (max a.length b.length+1) (val a+val b):=by
     rw[<-v1,<-vW l1];congr 1
     .simp[ho];omega
     .rw[vW l1]
    rw[e1,e2]
theorem zc{l:List Nat}{i x:Nat}(h:i<l.length):upd (raw l) i (upd (nth [] (raw l) i) 0 (.int .u32 (x:Int)))=raw (l.set i x):=by
 rw[LC h];exact dF l i x
theorem ya{o:List Nat}{k m d:Nat}(ho:o.length=k)(hm:0<m):(o++c0 m 0).set k d=(o++[d])++c0 (m-1) 0:=by
 obtain⟨m,rfl⟩:∃m',m=m'+1:=⟨m-1,by omega⟩;rw[fS,fw _ _ (by omega),ho];simp
theorem jh{x y o:List Nat}{k c d c':Nat}(hk:k<x.length)(ho:o.length=k)(hv:val o+val (y.take k)=val (x.take k)+1000000000^k*c)(ht:d+c+y.getD k 0=x[k]+1000000000*c'):
 val (o++[d])+val (y.take (k+1))=val (x.take (k+1))+1000000000^(k+1)*c':=by
 rw[XL,ho,qJ,qJ];have h2:x.getD k 0=x[k]:=by simp[dc,hk]
 rw[h2];have h3:1000000000^k*(d+c+y.getD k 0)=1000000000^k*d+1000000000^k*c+1000000000^k*y.getD k 0:=by rw[hM,hM]
 have h4:1000000000^k*(x[k]+1000000000*c')=1000000000^k*x[k]+1000000000^(k+1)*c':=by rw[hM,im,hP]
 rw[ht]at h3;omega
theorem Up{a b:List Nat}(ha:Limbs a)(hb:Limbs b)(hra:a.length<=1073741824)(hab:val b<=val a):qa C0 206 [.c (.sl (raw a)),.c (.sl (raw b))] [.c (.sl (raw (pad a.length (val a-val b))))]:=by
 refine qo (anns:=λ_=>⟨[.own 5 45 1,.slot 6 (.int .u32 0),.slot 15 (.int .i64 0)],[],λ_ ds=>∃(k:Nat) (o:List Nat) (c:Nat),k<=a.length/\o.length=k/\ds=[.sl (raw (o++c0 (a.length-k) 0)),.int .u32 (c:Int),.int .i64 (k:Int)]/\Limbs o/\c<=1/\val o+val (b.take k)=val (a.take k)+1000000000^k*c,λds=>a.length-(toI (nth .undef ds 2)).toNat⟩) mixedT Tryz.func206 ?_;rw[FI];simp only[bh,qg];refine⟨⟨by omega,by omega,by unfold room;omega⟩,⟨0,[],0,by omega,rfl,by rw[bk,xt];rfl,Limbs.nil,by omega,by simp[val]⟩,?_⟩;rintro es n m ⟨k,o,c,hk,ho,he,lo,hc,hv⟩;simp only[hD,Ls,Lv,true_and,and_true]at he;obtain⟨rfl,rfl,rfl⟩:=he;have hol:(o++c0 (a.length-k) 0).length=a.length:=by simp[ho];omega
 refine brd (λh1=>?_) (λh1=>?_)
 .have a3:k<a.length:=by omega
  have hxk:=ha.get a3;have hk1:U3 .i64 ((k:Int)+1)=((k+1:Nat):Int):=by rw[xF];omega
  rw[bk,hk1,qg,hol];refine⟨⟨by omega,by omega,qx a3⟩,_,qy a3,brd (λh2=>?_) (λh2=>?_)⟩
  .have a6:k<b.length:=by omega
   have hyk:=hb.get a6;have a5:b.getD k 0=b[k]:=by simp[dc,a6]
   refine⟨⟨by omega,by omega,qx a6⟩,_,qy a6,?_⟩;have hw:U3 .u32 ((c:Int)+(b[k]:Int))=((c+b[k]:Nat):Int):=by rw[kD];omega
   rw[hw];refine brd (λh3=>?_) (λh3=>?_)
   .have a4:U3 .u32 (U3 .u32 ((a[k]:Int)+1000000000)-((c+b[k]:Nat):Int))=((a[k]+1000000000-(c+b[k]):Nat):Int):=by rw[kD (n:=(a[k]:Int)+1000000000),kD];omega
    rw[a4,zc (by simp[ho];omega),ya ho (by omega)];refine⟨⟨by omega,by omega⟩,by omega,⟨k+1,o++[a[k]+1000000000-(c+b[k])],1,by omega,by simp[ho],by rw[show a.length-k-1=a.length-(k+1)by omega];rfl,lo.append (Limbs.cons (by omega) Limbs.nil),by omega,jh a3 ho hv (by have:=a5;omega)⟩,?_⟩;simp only[nth,toI];omega
   .have a4:U3 .u32 ((a[k]:Int)-((c+b[k]:Nat):Int))=((a[k]-(c+b[k]):Nat):Int):=by rw[kD];omega
    rw[a4,zc (by simp[ho];omega),ya ho (by omega)];refine⟨⟨by omega,by omega⟩,by omega,⟨k+1,o++[a[k]-(c+b[k])],0,by omega,by simp[ho],by rw[show a.length-k-1=a.length-(k+1)by omega];rfl,lo.append (Limbs.cons (by omega) Limbs.nil),by omega,jh a3 ho hv (by have:=a5;omega)⟩,?_⟩;simp only[nth,toI];omega
  .have a5:b.getD k 0=0:=Wb (by omega);refine brd (λh3=>?_) (λh3=>?_)
   .have a4:U3 .u32 (U3 .u32 ((a[k]:Int)+1000000000)-(c:Int))=((a[k]+1000000000-(c):Nat):Int):=by rw[kD (n:=(a[k]:Int)+1000000000),kD];omega
    rw[a4,zc (by simp[ho];omega),ya ho (by omega)];refine⟨⟨by omega,by omega⟩,by omega,⟨k+1,o++[a[k]+1000000000-(c)],1,by omega,by simp[ho],by rw[show a.length-k-1=a.length-(k+1)by omega];rfl,lo.append (Limbs.cons (by omega) Limbs.nil),by omega,jh a3 ho hv (by have:=a5;omega)⟩,?_⟩;simp only[nth,toI];omega
   .have a4:U3 .u32 ((a[k]:Int)-(c:Int))=((a[k]-(c):Nat):Int):=by rw[kD];omega
    rw[a4,zc (by simp[ho];omega),ya ho (by omega)];refine⟨⟨by omega,by omega⟩,by omega,⟨k+1,o++[a[k]-(c)],0,by omega,by simp[ho],by rw[show a.length-k-1=a.length-(k+1)by omega];rfl,lo.append (Limbs.cons (by omega) Limbs.nil),by omega,jh a3 ho hv (by have:=a5;omega)⟩,?_⟩;simp only[nth,toI];omega
 .have a3:k=a.length:=by omega
  subst a3;rw[c7]at hv;rw[Nat.sub_self,fR,dk];have h2:=qQ lo;rw[ho]at h2;have h3:val b=val (b.take a.length)+1000000000^(b.take a.length).length*val (b.drop a.length):=by rw[<-qO,et]
  have h4:=qQ ha;have h5:val (b.take a.length)=val b:=by
   rcases j2 b.length a.length with hl|hl
   .rw[c3 (by omega)]
   .rw[cH,k1 hl]at h3;rcases hY (val (b.drop a.length))with h6|h6
    .rw[h6]at h3;omega
    .have:=ie (1000000000^a.length) h6;omega
  have h6:c=0:=by
   rcases hY c with h6|h6
   .exact h6
   .have:=ie (1000000000^a.length) h6;omega
  subst h6;have h7:o=pad a.length (val a-val b):=by rw[show val a-val b=val o by omega];have:=vW lo;rw[ho]at this;exact this.symm
  rw[h7]
end Eng
end
section
open Go Go.Proofs Eng
namespace Eng
theorem FK(Gv:Nat->List A->List A->Prop)(I0:List D->List D->Prop)(M0:List D->Nat)(I1:List D->List D->Prop)(M1:List D->Nat)(es fs:List (List D))(Q:Nat->List (List D)->Prop):pC C0 Gv (Vl ⟨[.own 5 68 1,.slot 20 (.int .i64 0)],[],I0,M0⟩ ⟨[.own 5 68 1,.slot 8 (.int .u64 0),.slot 27 (.int .i64 0)],[.slot 6 (.int .i64 0),.slot 7 (.int .u32 0),.own 5 68 1],I1,M1⟩) Tryz.f178 [.c (.sl es),.c (.sl fs)] Q=((0<=U3 .i64 ((bd es.length)+(bd fs.length))/\U3 .i64 ((bd es.length)+(bd fs.length))<=U3 .i64 ((bd es.length)+(bd fs.length))/\room (be (U3 .i64 ((bd es.length)+(bd fs.length)))))/\I0 [] [Lm (c0 (be (U3 .i64 ((bd es.length)+(bd fs.length)))) [J9 .u32 0]),dI (0:Int)]/\∀(e1:List (List D)) (n:Int),I0 [] [Lm e1,dI n]->bB (decide (n<(bd es.length))) ((0<=n/\n<(bd es.length)/\cr (nth [] es (be n))=1)/\∃n1,cut (nth [] es (be n)) 0 1 [J9 .u32 n1]/\I1 [dI n,J9 .u32 n1,Lm e1] [Lm e1,J9 .u64 0,dI (0:Int)]/\∀(es:List (List D)) (n2 n3:Int),I1 [dI n,J9 .u32 n1,Lm e1] [Lm es,J9 .u64 n2,dI n3]->bB (decide (n3<(bd fs.length))) ((0<=n3/\n3<(bd fs.length)/\cr (nth [] fs (be n3))=1)/\∃n4,cut (nth [] fs (be n3)) 0 1 [J9 .u32 n4]/\(0<=U3 .i64 (n+n3)/\U3 .i64 (n+n3)<(bd es.length))/\∃n5,cut (nth [] es (be (U3 .i64 (n+n3)))) 0 1 [J9 .u32 n5]/\(1000000000:Int)≠(0:Int)/\(1000000000:Int)≠(0:Int)/\(0<=U3 .i64 (n+n3)/\U3 .i64 (n+n3)<(bd es.length))/\0<1/\I1 [dI n,J9 .u32 n1,Lm e1] [Lm (upd es (be (U3 .i64 (n+n3))) (upd (nth [] es (be (U3 .i64 (n+n3)))) 0 (J9 .u32 (U3 .u32 (bw (U3 .u64 (U3 .u64 (U3 .u64 n5+U3 .u64 (U3 .u64 n1*U3 .u64 n4))+n2)) (1000000000:Int)))))),J9 .u64 (U3 .u64 (b9 (U3 .u64 (U3 .u64 (U3 .u64 n5+U3 .u64 (U3 .u64 n1*U3 .u64 n4))+n2)) (1000000000:Int))),dI (U3 .i64 (n3+1))]/\M1 [Lm (upd es (be (U3 .i64 (n+n3))) (upd (nth [] es (be (U3 .i64 (n+n3)))) 0 (J9 .u32 (U3 .u32 (bw (U3 .u64 (U3 .u64 (U3 .u64 n5+U3 .u64 (U3 .u64 n1*U3 .u64 n4))+n2)) (1000000000:Int)))))),J9 .u64 (U3 .u64 (b9 (U3 .u64 (U3 .u64 (U3 .u64 n5+U3 .u64 (U3 .u64 n1*U3 .u64 n4))+n2)) (1000000000:Int))),dI (U3 .i64 (n3+1))]<M1 [Lm es,J9 .u64 n2,dI n3]) ((0<=U3 .i64 (n+(bd fs.length))/\U3 .i64 (n+(bd fs.length))<(bd es.length))/\0<1/\I0 [] [Lm (upd es (be (U3 .i64 (n+(bd fs.length)))) (upd (nth [] es (be (U3 .i64 (n+(bd fs.length))))) 0 (J9 .u32 (U3 .u32 n2)))),dI (U3 .i64 (n+1))]/\M0 [Lm (upd es (be (U3 .i64 (n+(bd fs.length)))) (upd (nth [] es (be (U3 .i64 (n+(bd fs.length))))) 0 (J9 .u32 (U3 .u32 n2)))),dI (U3 .i64 (n+1))]<M0 [Lm e1,dI n])) ((e1≠[]/\yF e1=true)/\Q 1 e1)):=by kernel_rfl
end Eng
end
section
namespace Eng
open Go Go.Proofs
set_option maxRecDepth 100000
theorem Uq{C:Cx}{f s:Nat}{args:List A}{es:List (List D)}(h:wB C f args s es):qa C f args [.c (.sl es)]:=by
 intro w F vs hb hi ha;refine(h w F vs hb hi ha).mono λe w' he=>?_
 obtain⟨a3,b,c,cs,t,rfl,h1,h2,h3,h4,h5,h6,h7,h8,h9,h10⟩:=he;refine⟨a3,_,rfl,?_⟩;have a4:Row w' (λb=>F b\/(w.heap.size<=b/\b<w'.heap.size)) es b 0 s:=⟨h8,.inr ⟨h1,h2⟩,λj hj=>by
  obtain⟨v,q1,q2⟩:=h10 j hj;refine⟨v,?_,q2 _ _⟩;rw[k4,xW h3];exact q1⟩
 exact a4.CD h5.1
theorem Wc:∀{o:List Nat} {j:Nat} (d:Nat),j<o.length->val (o.set j d)+1000000000^j*o.getD j 0=val o+1000000000^j*d
 |[],_,_,h=>absurd h (by simp)
 |x::o,0,d,_=>by simp[val];omega
 |x::o,j+1,d,h=>by have ih:=Wc (o:=o) (j:=j) d (by simpa using h);simp only[List.set_cons_succ,val,List.getD_cons_succ];rw[im,it (1000000000^j) 1000000000,hP,hP];omega
theorem XN{o:List Nat}(h:Limbs o){j d:Nat}(hd:d<1000000000):Limbs (o.set j d):=λy hy=>by
 rcases List.mem_or_eq_of_mem_set hy with hy|rfl
 .exact h y hy
 .exact hd
theorem jP{o:List Nat}{i j d:Nat}(h:i≠j):(o.set i d).getD j 0=o.getD j 0:=by simp[dc,List.getElem?_set_ne h]
theorem xu{o:List Nat}{j:Nat}(h:j<o.length):o.getD j 0=o[j]:=by simp[dc,h]
theorem PL(t:Nat):bw (t:Int) 1000000000=((t%1000000000:Nat):Int):=by rw[b8 (by omega)];omega
theorem PM(t:Nat):b9 (t:Int) 1000000000=((t/1000000000:Nat):Int):=by rw[cg (by omega)];omega
set_option maxHeartbeats 1000000 in
theorem VV{a b:List Nat}(ha:Limbs a)(hb:Limbs b)(hra:a.length<=536870912)(hrb:b.length<=536870912)(hne:0<a.length+b.length):
 wB C0 178 [.c (.sl (raw a)),.c (.sl (raw b))] 1 (raw (pad (a.length+b.length) (val a*val b))):=by
 refine dx (anns:=Vl
  ⟨[.own 5 68 1,.slot 20 (.int .i64 0)],[],λ_ ds=>∃(i:Nat) (o:List Nat),i<=a.length/\ds=[.sl (raw o),.int .i64 (i:Int)]/\o.length=a.length+b.length/\Limbs o/\(∀j,i+b.length<=j->o.getD j 0=0)/\val o=val (a.take i)*val b,λds=>a.length-(toI (nth .undef ds 1)).toNat⟩
  ⟨[.own 5 68 1,.slot 8 (.int .u64 0),.slot 27 (.int .i64 0)],[.slot 6 (.int .i64 0),.slot 7 (.int .u32 0),.own 5 68 1],λg ds=>∃(i k c:Nat) (o0 o:List Nat),g=[.int .i64 (i:Int),.int .u32 ((a.getD i 0:Nat):Int),.sl (raw o0)]/\i<a.length/\k<=b.length/\c<1000000000/\ds=[.sl (raw o),.int .u64 (c:Int),.int .i64 (k:Int)]/\o.length=a.length+b.length/\Limbs o/\(∀j,i+b.length<=j->o.getD j 0=0)/\val o+1000000000^(i+k)*c=val o0+1000000000^i*(a.getD i 0*val (b.take k)),λds=>b.length-(toI (nth .undef ds 2)).toNat⟩) mixedT Tryz.func178 ?_
 rw[FK];simp only[bh,qg];have hab:U3 .i64 ((a.length:Int)+(b.length:Int))=((a.length+b.length:Nat):Int):=by rw[xF];omega
 rw[hab,bk,xt];refine⟨⟨by omega,by omega,by unfold room;omega⟩,⟨0,c0 (a.length+b.length) 0,by omega,rfl,by simp,λy hy=>by rw[List.eq_of_mem_replicate hy];omega,λj _=>by simp[dc,List.getElem?_replicate];split<;>rfl,by simp[vY,val]⟩,?_⟩;rintro es n ⟨i,o0,hi,he,al,lo,hz,hv⟩;simp only[hD,Ls,Lv,true_and,and_true]at he;obtain⟨rfl,rfl⟩:=he;refine brd (λh1=>?_) (λh1=>?_)
 .have a3:i<a.length:=by omega
  have hai:=ha.get a3;rw[bk];refine⟨⟨by omega,by omega,qx a3⟩,_,qy a3,⟨i,0,0,o0,o0,by rw[xu a3],a3,by omega,by omega,rfl,al,lo,hz,by simp[val]⟩,?_⟩;rintro es m k' ⟨i',k,c,o0',o,hg,_,hk,hc,he,a5,ag,ad,an⟩;simp only[hD,Ls,Lv,true_and,and_true]at hg he;obtain⟨hi',hx',a8⟩:=hg;obtain⟨rfl,rfl,rfl⟩:=he;have a6:i'=i:=by omega
  subst a6;have a8:=LF a8;subst a8;rw[xu a3]at an;refine brd (λh2=>?_) (λh2=>?_)
  .have a4:k<b.length:=by omega
   have hbk:=hb.get a4;have hj:i'+k<o.length:=by omega
   have hoj:=ag.get hj;have hw:U3 .i64 ((i':Int)+(k:Int))=((i'+k:Nat):Int):=by rw[xF];omega
   have a7:U3 .i64 ((k:Int)+1)=((k+1:Nat):Int):=by rw[xF];omega
   rw[hw,a7,bk,bk,qg];refine⟨⟨by omega,by omega,qx a4⟩,_,qy a4,⟨by omega,by omega⟩,_,qy hj,by omega,by omega,⟨by omega,by omega⟩,by omega,?_⟩;have hp:a[i']*b[k]<=999999999*999999999:=Nat.mul_le_mul (by omega) (by omega);obtain⟨p,a9⟩:∃p,p=a[i']*b[k]:=⟨_,rfl⟩;rw[<-a9]at hp;have hpi:(a[i']:Int)*(b[k]:Int)=(p:Int):=by rw[a9];exact(cb _ _).symm
   obtain⟨t,hte⟩:∃t,t=o[i'+k]+p+c:=⟨_,rfl⟩;have ht:U3 .u64 (U3 .u64 (U3 .u64 (o[i'+k]:Int)+U3 .u64 (U3 .u64 (a[i']:Int)*U3 .u64 (b[k]:Int)))+(c:Int))=(t:Int):=by rw[xV (n:=(o[i'+k]:Int)),xV (n:=(a[i']:Int)),xV (n:=(b[k]:Int)),hpi,xV (n:=(p:Int)),xV (n:=(o[i'+k]:Int)+(p:Int)),xV];omega
   rw[ht,PL,PM,kD (n:=((t%1000000000:Nat):Int)),xV (n:=((t/1000000000:Nat):Int)),zc hj];refine⟨⟨i',k+1,t/1000000000,o0,o.set (i'+k) (t%1000000000),by rw[xu a3],a3,by omega,by omega,rfl,by simp[a5],XN ag (by omega),λj hjj=>by rw[jP (by omega)];exact ad j hjj,?_⟩,?_⟩
   .have h3:=Wc (t%1000000000) hj;rw[xu hj]at h3;rw[xu a3,qJ,xu a4];have h4:=Ge (k:=i'+k) (show t%1000000000+1000000000*(t/1000000000)=t by omega);rw[show i'+(k+1)=i'+k+1 by omega];have h5:1000000000^(i'+k)*t=1000000000^(i'+k)*o[i'+k]+1000000000^(i'+k)*p+1000000000^(i'+k)*c:=by rw[hte,hM,hM]
    have h6:1000000000^i'*(a[i']*(val (b.take k)+1000000000^k*b[k]))=1000000000^i'*(a[i']*val (b.take k))+1000000000^(i'+k)*p:=by rw[hM,hM,a9,k7];congr 1;simp only[hP,Nat.mul_left_comm]
    omega
   .simp only[nth,toI];omega
  .have a4:k=b.length:=by omega
   subst a4;have hj:i'+b.length<o.length:=by omega
   have hw:U3 .i64 ((i':Int)+(b.length:Int))=((i'+b.length:Nat):Int):=by rw[xF];omega
   have a7:U3 .i64 ((i':Int)+1)=((i'+1:Nat):Int):=by rw[xF];omega
   rw[hw,a7,bk,qg,kD (n:=(c:Int)),zc hj];refine⟨⟨by omega,by omega⟩,by omega,⟨i'+1,o.set (i'+b.length) c,by omega,rfl,by simp[a5],XN ag hc,λj hjj=>by rw[jP (by omega)];exact ad j (by omega),?_⟩,?_⟩
   .have h3:=Wc c hj;rw[ad _ (ic _)]at h3;rw[c7]at an;rw[qJ,xu a3,iy,<-hv,hP];omega
   .simp only[nth,toI];omega
 .have a3:i=a.length:=by omega
  subst a3;rw[c7]at hv;refine⟨⟨λe=>?_,ND _⟩,trivial,?_⟩
  .have h0:=congrArg cr e;rw[qg]at h0;have h0:o0.length=0:=h0;omega
  .rw[<-hv,<-al,vW lo]
theorem B4{a b:List Nat}(ha:Limbs a)(hb:Limbs b)(hra:a.length<=536870912)(hrb:b.length<=536870912):
 qa C0 178 [.c (.sl (raw a)),.c (.sl (raw b))] [.c (.sl (raw (pad (a.length+b.length) (val a*val b))))]:=by
 rcases hY (a.length+b.length)with h|h
 .have h1:a=[]:=eg (by omega);have h2:b=[]:=eg (by omega);subst h1 h2;exact YY (lim:=100) (n:=5) (tab:=noT) mixedT (λ_ _ _ h=>by simp[noT]at h) _ _ _ (by kernel_rfl)
 .exact Uq (VV ha hb hra hrb h)
theorem VW{a:List Nat}{d:Nat}(ha:Limbs a)(hd0:0<d)(hd:d<1000000000)(hra:a.length<=1073741824):
 qa C0 230 [.c (.sl (raw a)),.c (.int .u32 (d:Int))] [.c (.sl (raw (pad a.length (val a/d)))),.c (.sl (raw [val a%d]))]:=by
 refine qo (anns:=λ_=>⟨[.own 6 44 1,.slot 7 (.int .u64 0),.slot 8 (.int .i64 0)],[],λ_ ds=>∃(k r:Nat) (h:List Nat),k<=a.length/\r<d/\h.length=a.length-k/\Limbs h/\ds=[.sl (raw (c0 k 0++h)),.int .u64 (r:Int),.int .i64 ((k:Int)-1)]/\val (a.drop k)=val h*d+r,λds=>(toI (nth .undef ds 2)+1).toNat⟩) mixedT Tryz.func230 ?_;rw[B2];simp only[bh,qg,bk,xt];refine⟨⟨by omega,by omega,by unfold room;omega⟩,⟨a.length,0,[],ic _,hd0,by simp,Limbs.nil,by rw[xF,dk];rfl,by simp[val]⟩,?_⟩;rintro es m n ⟨k,r,h,hk,hr,hl,lh,he,hv⟩;simp only[hD,Ls,Lv,true_and,and_true]at he;obtain⟨rfl,rfl,rfl⟩:=he;refine brd (λh1=>?_) (λh1=>?_)
 .have a3:k-1<a.length:=by omega
  have hak:=ha.get a3;have ht0:((k:Int)-1).toNat=k-1:=by omega
  have hk1:U3 .i64 ((k:Int)-1-1)=((k-1:Nat):Int)-1:=by rw[xF];omega
  have hdw:U3 .u64 (d:Int)=(d:Int):=xV;have a4:(c0 k 0++h).length=a.length:=by simp[hl];omega
  rw[ht0,hk1,hdw,qg,a4];refine⟨⟨by omega,by omega,qx a3⟩,_,qy a3,by omega,by omega,⟨by omega,by omega⟩,by omega,?_⟩;have hrr:r*1000000000<=999999998*1000000000:=j7 _ (by omega);obtain⟨t,hte⟩:∃t,t=r*1000000000+a[k-1]:=⟨_,rfl⟩;have ht:U3 .u64 (U3 .u64 ((r:Int)*1000000000)+U3 .u64 (a[k-1]:Int))=(t:Int):=by rw[xV (n:=(r:Int)*1000000000),xV (n:=(a[k-1]:Int)),xV];omega
  have hq:t/d<1000000000:=by rw[j5 hd0];have:(r+1)*1000000000<=d*1000000000:=j7 _ hr;omega
  have hm:t%d<d:=ix _ hd0;have e1:b9 (t:Int) (d:Int)=((t/d:Nat):Int):=by rw[cg (by omega)];rfl
  have e2:bw (t:Int) (d:Int)=((t%d:Nat):Int):=by rw[b8 (by omega)];rfl
  have hdm:=j0 t d;rw[ht,e1,e2];obtain⟨q,a6⟩:∃q,q=t/d:=⟨_,rfl⟩;obtain⟨m,a5⟩:∃m,m=t%d:=⟨_,rfl⟩;rw[<-a6,<-a5]at hdm ⊢;rw[<-a6]at hq;rw[<-a5]at hm;rw[xV (n:=(q:Int)),kD (n:=(q:Int)),zc (by omega)];refine⟨⟨k-1,m,q::h,by omega,hm,by simp[hl];omega,Limbs.cons hq lh,?_,?_⟩,?_⟩
  .have:(c0 k 0++h).set (k-1) q=c0 (k-1) 0++q::h:=by obtain⟨k',rfl⟩:∃k',k=k'+1:=⟨k-1,by omega⟩;rw[List.replicate_succ',List.append_assoc,Nat.add_sub_cancel,fw _ _ (by simp)];simp
   rw[this]
  .rw[c4 a3,show k-1+1=k by omega];simp only[val];rw[hv];have h5:(q+1000000000*val h)*d=d*q+1000000000*(val h*d):=by rw[iy,it q d,hP]
   omega
  .simp only[nth,toI];omega
 .have a3:k=0:=by omega
  subst a3;simp only[dp,fR,e6]at hv ⊢;have e1:val a/d=val h:=by rw[hv,it,Nat.mul_add_div hd0,k0 hr,j3]
  have e2:val a%d=r:=by rw[hv,it,Nat.mul_add_mod,hX hr]
  rw[e1,e2,kD];have:=vW lh;rw[hl,Nat.sub_zero]at this;rw[this];rfl
end Eng
end
section
namespace Eng
open Go Go.Proofs
set_option maxRecDepth 100000
def cI (z:Int):List D:=[.bool (decide (z<0)),.sl (raw (lim z.natAbs))]
def qM (z:Int):A:= .ag (cI z)
def VX:Nat:=((1000000000^100)^100)^10
def Sm (z:Int):Prop:=z.natAbs<VX
theorem LG{n j k:Nat}(h:n<(1000000000^j)^k):(lim n).length<=j*k:=qq (by rw[ib];exact h)
theorem Ur{n i j k:Nat}(h:n<((1000000000^i)^j)^k):(lim n).length<=i*j*k:=LG (j:=i*j) (k:=k) (by rw[ib];exact h)
theorem FL{n:Nat}(h:n<((1000000000^100)^100)^10):(lim n).length<=100000:=Nat.le_trans (Ur h) (by decide)
theorem B5{b i j k m:Nat}(hb:0<b)(hm:m<=i*j*k):b^m<=((b^i)^j)^k:=by
 rw[<-ib,<-ib];exact hU hb (by rw[<-hP];exact hm)
theorem pow4{b i j k l n:Nat}(hn:n=i*j*k*l):(((b^i)^j)^k)^l=b^n:=by
 subst hn;rw[ib,ib,ib]
theorem Sm.len{z:Int}(h:Sm z):(lim z.natAbs).length<=100000:=FL h
theorem qX{l:List Nat}(b:Bool)(hl:Limbs l)(hr:l.length<=1073741824){z:Int}(hz:z=if b then-(val l:Int)else(val l:Int)):
 qa C0 165 [.c (.bool b),.c (.sl (raw l))] [qM z]:=by
 have h:=VU b hl hr;have e1:z.natAbs=val l:=by rw[hz];split<;>omega
 have e2:decide (z<0)=(b&&decide (0<val l)):=by
  rw[hz];cases b
  .simp only[F2,if_false,J3,decide_eq_false_iff_not];omega
  .simp only[if_true,J4,decide_eq_decide];omega
 unfold qM cI;rw[e1,e2];exact h
theorem Us{u:Nat}(hu:u<18446744073709551616):qa C0 167 [.c (.int .u64 (u:Int))] [.c (.sl (raw [u%1000000000,u/1000000000%1000000000,u/1000000000/1000000000]))]:=by
 refine qo (anns:=an0) mixedT Tryz.func167 ?_;rw[FH];refine⟨by omega,by omega,by omega,by omega,by omega,?_⟩;rw[PL,PM,xV (n:=((u/1000000000:Nat):Int)),PL,PM,kD (n:=((u%1000000000:Nat):Int)),kD (n:=((u/1000000000%1000000000:Nat):Int)),
  xV (n:=((u/1000000000/1000000000:Nat):Int)),kD (n:=((u/1000000000/1000000000:Nat):Int))]
 rfl
theorem Wd{u:Nat}(hu:u<18446744073709551616):Limbs [u%1000000000,u/1000000000%1000000000,u/1000000000/1000000000]/\val [u%1000000000,u/1000000000%1000000000,u/1000000000/1000000000]=u:=by
 refine⟨Limbs.cons (by omega) (Limbs.cons (by omega) (Limbs.cons (by omega) Limbs.nil)),?_⟩;simp only[val];omega
theorem xv{n:Int}(h1: -9223372036854775808<=n)(h2:n<9223372036854775808):qa C0 169 [.c (.int .i64 n)] [qM n]:=by
 refine qo (anns:=an0) mixedT Tryz.func169 ?_;rw[Un];have hu:n.natAbs<18446744073709551616:=by omega
 obtain⟨hl,hv⟩:=Wd hu;have hs:=Us hu;refine brd (λh=>?_) (λh=>?_)
 .have e:U3 .u64 ((0:Int)-U3 .u64 n)=((n.natAbs:Nat):Int):=by simp only[W4];omega
  rw[e];refine⟨_,hs,_,_,qX _ hl (by simp) (z:=n) ?_,rfl⟩;rw[hv,decide_eq_true h,if_pos rfl];omega
 .have e:U3 .u64 n=((n.natAbs:Nat):Int):=by simp only[W4];omega
  rw[e];refine⟨_,hs,_,_,qX _ hl (by simp) (z:=n) ?_,rfl⟩;rw[hv,decide_eq_false h,if_neg (by simp)];omega
def sgn (z:Int):Int:=if z<0 then-1 else if 0<z then 1 else 0
def QA (x y:Int):Int:=if x<y then-1 else if y<x then 1 else 0
theorem JM(z:Int):qa C0 64 [qM z] [.c (.int .i64 (sgn z))]:=by
 refine qo (anns:=an0) mixedT Tryz.func64 ?_;unfold qM cI;rw[dE];simp only[bh,qg];refine xG (λh=>?_) (λh=>brd (λh1=>?_) (λh1=>?_))
 .have h:=of_decide_eq_true h;rw[sgn,if_pos h]
 .have h:=of_decide_eq_false h;have:0<z.natAbs:=qB.1 (by omega);rw[sgn,if_neg h,if_pos (by omega)]
 .have h:=of_decide_eq_false h;have:¬0<z.natAbs:=λh2=>h1 (by have:=qB.2 h2;omega)
  rw[sgn,if_neg h,if_neg (by omega)]
theorem yb{x y:Int}(hx:Sm x)(hy:Sm y):qa C0 106 [qM x,qM y] [.c (.int .i64 (QA x y))]:=by
 refine qo (anns:=an0) mixedT Tryz.func106 ?_;unfold qM cI;rw[lC];have lx:=hx.len;have ly:=hy.len;refine brb (λh=>?_) (λh=>?_)
 .have h:decide (x<0)≠decide (y<0):=by simpa using h
  have h:¬(x<0↔y<0):=λe=>h (by rw[decide_eq_decide];exact e)
  refine xG (λh1=>?_) (λh1=>?_)
  .have h1:=of_decide_eq_true h1;rw[QA,if_pos (by omega)]
  .have h1:=of_decide_eq_false h1;rw[QA,if_neg (by omega),if_pos (by omega)]
 .have h:decide (x<0)=decide (y<0):=by simpa using h
  have h:x<0↔y<0:=by rw[decide_eq_decide]at h;exact h
  refine xG (λh1=>?_) (λh1=>?_)
  .have h1:=of_decide_eq_true h1;refine⟨_,wh (qe _) (qe _) (by omega) (by omega),?_⟩;rw[qh,qh,Zy,QA];have e1:(y.natAbs<x.natAbs)=(x<y):=by rw[eq_iff_iff];omega
   have e2:(x.natAbs<y.natAbs)=(y<x):=by rw[eq_iff_iff];omega
   simp only[e1,e2]
  .have h1:=of_decide_eq_false h1;refine⟨_,wh (qe _) (qe _) (by omega) (by omega),?_⟩;rw[qh,qh,Zy,QA];have e1:(x.natAbs<y.natAbs)=(x<y):=by rw[eq_iff_iff];omega
   have e2:(y.natAbs<x.natAbs)=(y<x):=by rw[eq_iff_iff];omega
   simp only[e1,e2]
theorem Gf{x:Int}(hx:Sm x):qa C0 203 [qM x] [qM (-x)]:=by
 refine qo (anns:=an0) mixedT Tryz.func203 ?_;have lx:=hx.len;rw[show qM x= .ag (cI x)from rfl,cI,lG,qg];refine⟨⟨by unfold room;omega,jt _⟩,_,_,qX _ (qe _) (by omega) (z:= -x) ?_,rfl⟩;rw[qh];by_cases h:x<0
 .rw[decide_eq_true h];simp;omega
 .rw[decide_eq_false h];simp;omega
theorem wR{x y:Int}(hx:Sm x)(hy:Sm y):qa C0 120 [qM x,qM y] [qM (x*y)]:=by
 refine qo (anns:=an0) mixedT Tryz.func120 ?_;have lx:=hx.len;have ly:=hy.len;rw[show qM x= .ag (cI x)from rfl,show qM y= .ag (cI y)from rfl,cI,cI,lH];refine⟨_,B4 (qe _) (qe _) (by omega) (by omega),_,_,qX _ (zm _ _) (by rw[xy];omega) (z:=x*y) ?_,rfl⟩;have hv:val (pad ((lim x.natAbs).length+(lim y.natAbs).length) (val (lim x.natAbs)*val (lim y.natAbs)))=x.natAbs*y.natAbs:=by rw[we,qh,qh];refine hX ?_;have h1:=qQ (qe x.natAbs);have h2:=qQ (qe y.natAbs);rw[qh]at h1 h2;rw[k7];exact Nat.mul_lt_mul'' h1 h2
 rw[hv];obtain⟨a,ha⟩:∃a,a=x.natAbs:=⟨_,rfl⟩;obtain⟨b,hb⟩:∃b,b=y.natAbs:=⟨_,rfl⟩;rw[<-ha,<-hb,cb];by_cases h1:x<0<;>by_cases h2:y<0
 .have ex:x= -(a:Int):=by omega
  have ey:y= -(b:Int):=by omega
  rw[decide_eq_true h1,decide_eq_true h2,ex,ey];simp only[J5,beq_self_eq_true,F2,if_false];rw[Int.neg_mul_neg]
 .have ex:x= -(a:Int):=by omega
  have ey:y=(b:Int):=by omega
  rw[decide_eq_true h1,decide_eq_false h2,ex,ey];simp only[J5,HZ,beq_false,if_true];rw[Int.neg_mul]
 .have ex:x=(a:Int):=by omega
  have ey:y= -(b:Int):=by omega
  rw[decide_eq_false h1,decide_eq_true h2,ex,ey];simp only[HZ,beq_true,if_true];rw[ch]
 .have ex:x=(a:Int):=by omega
  have ey:y=(b:Int):=by omega
  rw[decide_eq_false h1,decide_eq_false h2,ex,ey];simp
theorem ZA{x y:Int}(hx:Sm x)(hy:Sm y):qa C0 141 [qM x,qM y] [qM (x+y)]:=by
 refine qo (anns:=an0) mixedT Tryz.func141 ?_;have lx:=hx.len;have ly:=hy.len;rw[show qM x= .ag (cI x)from rfl,show qM y= .ag (cI y)from rfl,cI,cI,lD];have hpv:∀(a b:List Nat),Limbs a->Limbs b->val (pad (max a.length b.length+1) (val a+val b))=val a+val b:=by intro a b ha hb;rw[we];refine hX ?_;have h1:=qQ ha;have h2:=qQ hb;have h3:1000000000^a.length<=1000000000^max a.length b.length:=hU (by omega) (by omega);have h4:1000000000^b.length<=1000000000^max a.length b.length:=hU (by omega) (by omega);rw[im];omega
 have a3:∀(a b:List Nat),Limbs a->val b<=val a->val (pad a.length (val a-val b))=val a-val b:=by intro a b ha hb;rw[we];exact hX (by have:=qQ ha;omega)
 refine brb (λh=>?_) (λh=>?_)
 .have h:decide (x<0)=decide (y<0):=by simpa using h
  have h':x<0↔y<0:=by rw[decide_eq_decide]at h;exact h
  refine⟨_,FJ (qe _) (qe _) (by omega) (by omega),_,_,qX _ (zm _ _) (by rw[xy];omega) (z:=x+y) ?_,rfl⟩;rw[hpv _ _ (qe _) (qe _),qh,qh];by_cases h:x<0
  .rw[decide_eq_true h,if_pos rfl];omega
  .rw[decide_eq_false h,if_neg (by simp)];omega
 .have h:decide (x<0)≠decide (y<0):=by simpa using h
  have h':¬(x<0↔y<0):=λe=>h (by rw[decide_eq_decide];exact e)
  refine⟨_,wh (qe _) (qe _) (by omega) (by omega),?_⟩;rw[qh,qh];have hc:Zy x.natAbs y.natAbs<0↔x.natAbs<y.natAbs:=by
   unfold Zy;split
   .simp;assumption
   .split<;>simp<;>omega
  refine brd (λh1=>?_) (λh1=>?_)
  .have h1:=hc.1 h1;refine⟨_,Up (qe _) (qe _) (by omega) (by rw[qh,qh];omega),_,_,qX _ (zm _ _) (by rw[xy];omega) (z:=x+y) ?_,rfl⟩;rw[a3 _ _ (qe _) (by rw[qh,qh];omega),qh,qh];by_cases h:y<0
   .rw[decide_eq_true h,if_pos rfl];omega
   .rw[decide_eq_false h,if_neg (by simp)];omega
  .have h1:¬x.natAbs<y.natAbs:=λh2=>h1 (hc.2 h2)
   refine⟨_,Up (qe _) (qe _) (by omega) (by rw[qh,qh];omega),_,_,qX _ (zm _ _) (by rw[xy];omega) (z:=x+y) ?_,rfl⟩;rw[a3 _ _ (qe _) (by rw[qh,qh];omega),qh,qh];by_cases h:x<0
   .rw[decide_eq_true h,if_pos rfl];omega
   .rw[decide_eq_false h,if_neg (by simp)];omega
theorem B6{x y:Int}(hx:Sm x)(hy:Sm y):qa C0 302 [qM x,qM y] [qM (x-y)]:=by
 refine qo (anns:=an0) mixedT Tryz.func302 ?_;have hn:Sm (-y):=by unfold Sm at *;rw[bs];exact hy
 have ha:=ZA hx hn;rw[show qM x= .ag (cI x)from rfl,show qM y= .ag (cI y)from rfl,cI,cI,lF];simp only[bh,qg];have e1:(-y).natAbs=y.natAbs:=bs y;refine brb (λh=>?_) (λh=>?_)
 .have h:¬y<0:=by simpa using h
  refine⟨_,_,?_,rfl⟩;have e2:decide (((lim y.natAbs).length:Int)>0)=decide (-y<0):=by rw[decide_eq_decide];have:=qB (n:=y.natAbs);omega
  rw[e2,<-e1];exact ha
 .have h:y<0:=by simpa using h
  refine⟨_,_,?_,rfl⟩;have e2:false=decide (-y<0):=by rw[eq_comm,decide_eq_false_iff_not];omega
  rw[e2,<-e1];exact ha
theorem NE{x:Int}(hx:Sm x):qa C0 166 [qM x] (if x.natAbs<1000000000000000000 then [.c (.int .u64 (x.natAbs:Int)),.c (.bool true)]else [.c (.int .u64 0),.c (.bool false)]):=by
 refine qo (anns:=an0) mixedT Tryz.func166 ?_;have lx:=hx.len;rw[show qM x= .ag (cI x)from rfl,cI,dD];simp only[bh,qg];generalize hl:lim x.natAbs=l at *;have a3:Limbs l:=hl▸qe _;have hv:val l=x.natAbs:=hl▸qh _;have hge:1000000000000000000<=x.natAbs->2<l.length:=λh=>hl▸ko (k:=2) (by omega)
 have hlt:=qQ a3;refine brb (λh=>?_) (λh=>brb (λh1=>?_) (λh1=>brb (λh2=>?_) (λh2=>?_)))
 .have h:l.length=0:=by have:(l.length:Int)=0:=by simpa using h
                        omega
  have:l=[]:=eg h;subst this;simp only[val]at hv;rw[if_pos (by omega),<-hv];rfl
 .have h1:l.length=1:=by have:(l.length:Int)=1:=by simpa using h1
                         omega
  obtain⟨a,rfl⟩:∃a,l=[a]:=ft.1 h1;have ha:=(a3.of_cons).1;simp only[val]at hv;refine⟨⟨by omega,by rw[h1];omega,rfl⟩,_,qy (l:=[a]) (i:=0) (by simp),?_⟩;rw[if_pos (by omega)];have:U3 .u64 (([a][0]:Nat):Int)=(x.natAbs:Int):=by show U3 .u64 (a:Int)=_;rw[xV];omega
  rw[this]
 .have h2:l.length=2:=by have:(l.length:Int)=2:=by simpa using h2
                         omega
  obtain⟨a,b,rfl⟩:∃a b,l=[a,b]:=(match l,h2 with|[a,b],_=>⟨a,b,rfl⟩);have ha:=(a3.of_cons).1;have hb:=((a3.of_cons).2.of_cons).1;simp only[val]at hv;refine⟨⟨by omega,by rw[h2];omega,rfl⟩,_,qy (l:=[a,b]) (i:=1) (by simp),⟨by omega,by rw[h2];omega,rfl⟩,_,qy (l:=[a,b]) (i:=0) (by simp),?_⟩;rw[if_pos (by omega)];have:U3 .u64 (U3 .u64 (U3 .u64 (([a,b][1]:Nat):Int)*1000000000)+U3 .u64 (([a,b][0]:Nat):Int))=(x.natAbs:Int):=by show U3 .u64 (U3 .u64 (U3 .u64 (b:Int)*1000000000)+U3 .u64 (a:Int))=_;rw[xV (n:=(b:Int)),xV (n:=(a:Int)),xV (n:=(b:Int)*1000000000),xV];omega
  rw[this]
 .have h:(l.length:Int)≠0:=by simpa using h
  have h1:(l.length:Int)≠1:=by simpa using h1
  have h2:(l.length:Int)≠2:=by simpa using h2
  have:¬x.natAbs<1000000000000000000:=by intro hc;have h5:=qq (n:=x.natAbs) (k:=2) (by omega);rw[hl]at h5;omega
  rw[if_neg this]
end Eng
end
section
namespace Eng
open Go Go.Proofs Go.RowKit
def ZB (chk:List A->Bool) (s:Nat) (mk:List A->List (List D)) (dst:Option Nat) (vs:List V) (ob:List Obj):R:=
 match dst with
 |none=> .fail
 |some d=>match qD ob d,yx ob vs with
  |true,some (al,us)=> .cond (chk al=true) (.arr d) (us++[(d,.arr s (mk al) false)])
  |_,_=> .fail
theorem VY{C:Cx}{f s:Nat}{fn:Func}{chk:List A->Bool}{mk:List A->List (List D)}(hf:C.P.funcs[f]? =some fn)(hb:fn.body≠none)(hn:fn.name≠ "runtime.NumGoroutine")(h:∀al,chk al=true->wB C f al s (mk al)):EffAt C f (ZB chk s mk):=by
 have h0:=Bp (C:=C) (own:=λal=>match chk al with|true=>some (s,mk al)|false=>none) hf hb hn (λal s' es ho=>by
  split at ho
  .rename_i hc;simp only[k9,Prod.mk.injEq]at ho;obtain⟨rfl,rfl⟩:=ho;exact h al hc
  .simp at ho)
 have hE:∀(dst:Option Nat) (vs:List V) (ob:List Obj),(∃al us d,dst=some d/\qD ob d=true/\yx ob vs=some (al,us)/\ZB chk s mk dst vs ob= .cond (chk al=true) (.arr d) (us++[(d,.arr s (mk al) false)])/\
  (chk al=true->VQ (λal=>match chk al with|true=>some (s,mk al)|false=>none) dst vs ob= .ok (.arr d) (us++[(d,.arr s (mk al) false)])))\/ZB chk s mk dst vs ob= .fail:=by
  intro dst vs ob;unfold ZB;split
  .exact .inr rfl
  .rename_i d;split
   .rename_i al us h1 h2;refine .inl ⟨al,us,d,rfl,h1,h2,rfl,λhc=>?_⟩;simp only[VQ,h1,h2,hc]
   .exact .inr rfl
 refine⟨λ{B F0 w0 F loc st a w dst args ts ty pos after g} hc=>?_,λdst vs ob ob' hh hd=>?_,λdst vs ob hv hb=>?_⟩
 .rcases hE dst (args.toList.map (ev st)) st.objs with⟨al,us,d,h1,h2,h3,h4,h5⟩|h1
  .rw[h4];intro hcc;have:=h0.rs (dst:=dst) (args:=args) (ts:=ts) (ty:=ty) (pos:=pos) (after:=after) (g:=g) hc;rw[h5 hcc]at this;exact this
  .rw[h1];trivial
 .unfold ZB;cases dst with
  |none=>rfl
  |some d=>
   have h1:yx ob vs=yx ob' vs:=wa (c:=2) λv hv k hk=> .inl (hh k (by
    rw[qE];exact⟨k,gm.2 ⟨v,hv,hk⟩,.inl rfl⟩))
   simp only[h1];rw[hd d (.inl rfl)]
 .rcases hE dst vs ob with⟨al,us,d,rfl,h2,h3,h4,h5⟩|h1
  .rw[h4];have hfz:=vR h3;refine⟨λp hp=>?_,λk hk=>?_⟩
   .rcases eH.1 hp with hp|hp
    .obtain⟨⟨v,hv1,hv2⟩,s',es',fz,h1,h2⟩:=hfz p hp;refine⟨.inr ⟨?_,by rw[h1];simp⟩,by rw[h2];simp,λu hu=>by rw[h2]at hu;simp[qZ]at hu⟩;rw[qE];exact⟨p.1,gm.2 ⟨v,hv1,hv2⟩,.inl rfl⟩
    .simp only[ew]at hp;subst hp;exact⟨.inl ⟨.inl rfl,h2⟩,by simp,λu hu=>by simp[qZ]at hu⟩
   .simp only[qn,ew]at hk;subst hk;exact .inr ⟨h2,_,List.mem_append_right _ (ew.2 rfl)⟩
  .rw[h1];trivial
def lI:List D->Bool
 |[.int .u32 (.ofNat n)]=>kz n 1000000000
 |_=>false
def Js:List (List D)->Bool
 |[]=>true
 |e::r=>lI e&&Js r
def dG:List D->Nat
 |[.int _ n]=>n.toNat
 |_=>0
def Vx (es:List (List D)):List Nat:=es.map dG
def Vy:List (List D)->Nat
 |[]=>0
 |e::r=>dG e+1000000000*Vy r
theorem XO:∀{es:List (List D)},Js es=true->es=raw (Vx es)/\Limbs (Vx es)/\val (Vx es)=Vy es
 |[],_=>⟨rfl,Limbs.nil,rfl⟩
 |e::r,h=>by
  simp only[Js,B0]at h;obtain⟨h1,h2,h3⟩:=XO h.2;have he:=h.1;unfold lI at he;split at he
  .rename_i n;rw[j1]at he;refine⟨?_,Limbs.cons he h2,?_⟩
   .simp only[Vx,ec,raw,dG]at h1 ⊢;rw[<-h1];rfl
   .simp only[Vx,ec,val,Vy,dG]at h3 ⊢;rw[h3]
  .simp at he
theorem ZC:∀{l:List Nat},Limbs l->Js (raw l)=true
 |[],_=>rfl
 |x::l,h=>by obtain⟨h1,h2⟩:=h.of_cons;simp only[raw,ec,Js,B0];refine⟨?_,ZC h2⟩;show kz x 1000000000=true;rw[j1];exact h1
theorem XP:∀(l:List Nat),Vy (raw l)=val l
 |[]=>rfl
 |x::l=>by have:=XP l;simp only[raw,ec,Vy,val,dG]at this ⊢;rw[this];rfl
def jc:List A->Bool
 |[.c (.sl a),.c (.sl b)]=>Js a&&(Js b&&(Nat.ble a.length 536870912&&(Nat.ble b.length 536870912&&kz 0 (a.length+b.length))))
 |_=>false
def wi:List A->List (List D)
 |[.c (.sl a),.c (.sl b)]=>raw (pad (a.length+b.length) (Vy a*Vy b))
 |_=>[]
theorem Ut(al:List A)(h:jc al=true):wB C0 178 al 1 (wi al):=by
 unfold jc at h;split at h
 .rename_i a b;simp only[B0]at h;obtain⟨h1,h2,h3,h4,h5⟩:=h;obtain⟨ea,la,va⟩:=XO h1;obtain⟨eb,lb,vb⟩:=XO h2;have h3:=j4 h3;have h4:=j4 h4;rw[j1]at h5;have na:(Vx a).length=a.length:=by simp[Vx]
  have nb:(Vx b).length=b.length:=by simp[Vx]
  have:=VV la lb (by omega) (by omega) (by omega);rw[<-ea,<-eb,va,vb,na,nb]at this;exact this
 .simp at h
def lJ (t:TypeId) (d:Option Nat):Bool:=
 match d with
 |some d=>match hQ t 32 with
  |true=>hQ d 148||(hQ d 160||hQ d 71)
  |false=>match hQ t 29 with
   |true=>hQ d 76||(hQ d 81||(hQ d 40||hQ d 44))
   |false=>false
 |none=>false
def lK (chk:List A->Bool) (mk:List A->List (List D)) (f:Nat):Option (Option Nat->List V->List Obj->R):=
 match hQ f 231 with
 |true=>some Ub
 |false=>match hQ f 232 with
  |true=>some Uc
  |false=>match hQ f 178 with
   |true=>some (ZB chk 1 mk)
   |false=>none
noncomputable def CM (chk:List A->Bool) (mk:List A->List (List D)):Cx:=⟨Tryz.prog,λ_=>none,λ_=>false,lK chk mk,lJ,λ_=>false⟩
noncomputable def CC:Cx:=CM jc wi
theorem dH(f:Nat)(e:Option Nat->List V->List Obj->R)(h:CC.eff f=some e):EffAt CC f e:=by
 replace h:lK jc wi f=some e:=h;unfold lK at h;split at h
 .rename_i hb;obtain rfl:=hK hb;simp only[k9]at h;subst h;exact Ud (C:=CC) oC
 .split at h
  .rename_i hb;obtain rfl:=hK hb;simp only[k9]at h;subst h;exact Ue (C:=CC) oC
  .split at h
   .rename_i hb;obtain rfl:=hK hb;simp only[k9]at h;subst h;exact VY (C:=CC) Tryz.func178 (by simp[Tryz.f178]) (by decide) λal hc=>KV (C:=C0) (C':=CC) rfl rfl (Ut al hc)
   .simp at h
instance:EffOk CC:=zY dH
end Eng
end
section
open Go Go.Proofs Eng
namespace Eng
section
variable (Gv:Nat->List A->List A->Prop)(I0:List D->List D->Prop)(M0:List D->Nat)(I1:List D->List D->Prop)(M1:List D->Nat)(I2:List D->List D->Prop)(M2:List D->Nat)(I3:List D->List D->Prop)(M3:List D->Nat)(Q:List A->Prop)
theorem dJ:wpF CC Gv an0 Tryz.f108 [] Q=(∃b es,Gv 169 [aI (1:Int)] [aZ b es]/\Q [aZ b es]):=by kernel_rfl
theorem FM(p:Bool)(es:List (List D)):wpF CC Gv an0 Tryz.f191 [.ag [.bool p,.sl es]] Q=(∃b e1,Gv 108 [] [aZ b e1]/\Q [J7 [Lr p,Lm es,Lr b,Lm e1]]):=by kernel_rfl
theorem Gg(n:Int):wpF CC Gv an0 Tryz.f130 [.c (.int .i64 n)] Q=(∃b es,Gv 169 [aI n] [aZ b es]/\∃x,Gv 191 [aZ b es] [aR x]/\Q [aR x]):=by kernel_rfl
theorem FN(p q:Bool)(es fs:List (List D)):wpF CC Gv an0 Tryz.f204 [.ag [.bool p,.sl es],.ag [.bool q,.sl fs]] Q=(∃b e1 b1 e2 i,Gv 264 [aZ p es,aZ q fs] [aZ b e1,aZ b1 e2,aI i]/\Q [aZ b e1]):=by kernel_rfl
theorem B7(p q:Bool)(es fs:List (List D)):wpF CC Gv an0 Tryz.f140 [.ag [.bool p,.sl es],.ag [.bool q,.sl fs]] Q=(∃i,Gv 64 [aZ q fs] [aI i]/\bB (decide (i<0)) (∃b e1,Gv 203 [aZ p es] [aZ b e1]/\∃b1 es,Gv 203 [aZ q fs] [aZ b1 es]/\∃b2 e2,Gv 107 [aZ b e1,aZ b1 es] [aZ b2 e2]/\∃b3 e3,Gv 108 [] [aZ b3 e3]/\∃i,Gv 106 [aZ b2 e2,aZ b3 e3] [aI i]/\bB (i !=0) (∃b4 e4,Gv 204 [aZ b e1,aZ b2 e2] [aZ b4 e4]/\∃b e5,Gv 204 [aZ b1 es,aZ b2 e2] [aZ b e5]/\Q [J7 [Lr b4,Lm e4,Lr b,Lm e5]]) (Q [J7 [Lr b,Lm e1,Lr b1,Lm es]])) (∃b e1,Gv 107 [aZ p es,aZ q fs] [aZ b e1]/\∃b1 e2,Gv 108 [] [aZ b1 e2]/\∃i,Gv 106 [aZ b e1,aZ b1 e2] [aI i]/\bB (i !=0) (∃b2 e3,Gv 204 [aZ p es,aZ b e1] [aZ b2 e3]/\∃b3 es,Gv 204 [aZ q fs,aZ b e1] [aZ b3 es]/\Q [J7 [Lr b2,Lm e3,Lr b3,Lm es]]) (Q [J7 [Lr p,Lm es,Lr q,Lm fs]]))):=by kernel_rfl
theorem FO(p q:Bool)(es fs:List (List D)):wpF CC Gv an0 Tryz.f27 [.ag [.bool p,.sl es,.bool q,.sl fs]] Q=(∃i,Gv 64 [aZ p es] [aI i]/\Q [aI i]):=by kernel_rfl
theorem Gh(m n:Int):wpF CC Gv an0 Tryz.f119 [.c (.int .i64 m),.c (.int .i64 n)] Q=(∃b,Gv 177 [aI m] [aB b]/\∃b1,Gv 177 [aI n] [aB b1]/\br b (br b1 (Q [aI (0:Int)]) (Q [aI (-1:Int)])) (br b1 (Q [aI (1:Int)]) (bB (decide (m<n)) (Q [aI (-1:Int)]) (bB (decide (m>n)) (Q [aI (1:Int)]) (Q [aI (0:Int)]))))):=by kernel_rfl
theorem FP(m:Int):wpF CC Gv an0 Tryz.f177 [.c (.int .i64 m)] Q=(Q [aB (m !=m)]):=by kernel_rfl
theorem dK(p q r s:Bool)(es fs gs hs:List (List D)):wpF CC Gv an0 Tryz.f65 [.ag [.bool p,.sl es,.bool q,.sl fs],.ag [.bool r,.sl gs,.bool s,.sl hs]] Q=(∃i,Gv 27 [J7 [Lr p,Lm es,Lr q,Lm fs]] [aI i]/\∃i_1,Gv 27 [J7 [Lr r,Lm gs,Lr s,Lm hs]] [aI i_1]/\∃i_2,Gv 119 [aI i,aI i_1] [aI i_2]/\bB (i_2 !=0) (Q [aI i_2]) (∃b e1,Gv 120 [aZ p es,aZ s hs] [aZ b e1]/\∃b1 es,Gv 120 [aZ r gs,aZ q fs] [aZ b1 es]/\∃i,Gv 106 [aZ b e1,aZ b1 es] [aI i]/\Q [aI i])):=by kernel_rfl
theorem dL(p q r s:Bool)(es fs gs hs:List (List D)):wpF CC Gv an0 Tryz.f81 [.ag [.bool p,.sl es,.bool q,.sl fs],.ag [.bool r,.sl gs,.bool s,.sl hs]] Q=(∃i,Gv 106 [aZ q fs,aZ s hs] [aI i]/\bB (i==0) (∃b e1,Gv 141 [aZ p es,aZ r gs] [aZ b e1]/\∃x,Gv 140 [aZ b e1,aZ q fs] [aR x]/\Q [aR x]) (∃b e1,Gv 120 [aZ p es,aZ s hs] [aZ b e1]/\∃b1 es,Gv 120 [aZ r gs,aZ q fs] [aZ b1 es]/\∃b2 e2,Gv 141 [aZ b e1,aZ b1 es] [aZ b2 e2]/\∃b es,Gv 120 [aZ q fs,aZ s hs] [aZ b es]/\∃x,Gv 140 [aZ b2 e2,aZ b es] [aR x]/\Q [aR x])):=by kernel_rfl
theorem dM(p q r s:Bool)(es fs gs hs:List (List D)):wpF CC Gv an0 Tryz.f80 [.ag [.bool p,.sl es,.bool q,.sl fs],.ag [.bool r,.sl gs,.bool s,.sl hs]] Q=(∃x,Gv 139 [J7 [Lr r,Lm gs,Lr s,Lm hs]] [aR x]/\∃x1,Gv 81 [J7 [Lr p,Lm es,Lr q,Lm fs],aR x] [aR x1]/\Q [aR x1]):=by kernel_rfl
theorem dN(p q:Bool)(es fs:List (List D)):wpF CC Gv an0 Tryz.f139 [.ag [.bool p,.sl es,.bool q,.sl fs]] Q=(∃b e1,Gv 203 [aZ p es] [aZ b e1]/\Q [J7 [Lr b,Lm e1,Lr q,Lm fs]]):=by kernel_rfl
theorem dO(p q r s:Bool)(es fs gs hs:List (List D)):wpF CC Gv an0 Tryz.f121 [.ag [.bool p,.sl es,.bool q,.sl fs],.ag [.bool r,.sl gs,.bool s,.sl hs]] Q=(∃b e1,Gv 120 [aZ p es,aZ r gs] [aZ b e1]/\∃b1 es,Gv 120 [aZ q fs,aZ s hs] [aZ b1 es]/\∃x,Gv 140 [aZ b e1,aZ b1 es] [aR x]/\Q [aR x]):=by kernel_rfl
end
end Eng
end
section
open Go Go.Proofs Eng
namespace Eng
section
variable (Gv:Nat->List A->List A->Prop)(I0:List D->List D->Prop)(M0:List D->Nat)(I1:List D->List D->Prop)(M1:List D->Nat)(I2:List D->List D->Prop)(M2:List D->Nat)(I3:List D->List D->Prop)(M3:List D->Nat)(Q:List A->Prop)
theorem B8(p q:Bool)(es fs:List (List D)):wpF CC Gv an0 Tryz.f264 [.ag [.bool p,.sl es],.ag [.bool q,.sl fs]] Q=(bB ((bd fs.length)==0) (Q [aZ false [],aZ false [],aI (6:Int)]) (∃e1 e2,Gv 168 [aL es,aL fs] [aL e1,aL e2]/\∃b es,Gv 165 [J8 (Lr !p==q),aL e1] [aZ b es]/\∃b1 e3,Gv 165 [aB p,aL e2] [aZ b1 e3]/\bB (decide ((bd e3.length)>0)) (bB (!b1==q) (∃b2 e4,Gv 169 [aI (1:Int)] [aZ b2 e4]/\∃b3 e5,Gv 302 [aZ b es,aZ b2 e4] [aZ b3 e5]/\∃b es,Gv 141 [aZ b1 e3,aZ q fs] [aZ b es]/\Q [aZ b3 e5,aZ b es,aI (0:Int)]) (Q [aZ b es,aZ b1 e3,aI (0:Int)])) (Q [aZ b es,aZ b1 e3,aI (0:Int)]))):=by kernel_rfl
theorem lL(p q:Bool)(es fs:List (List D)):wpF CC Gv (Vl ⟨[.box 5 [.bool false,.slice none 0 0],.box 6 [.bool false,.slice none 0 0]],[],I0,M0⟩ ⟨[.slot 7 (.int .u64 0),.slot 9 (.int .u64 0)],[],I1,M1⟩) Tryz.f107 [.ag [.bool p,.sl es],.ag [.bool q,.sl fs]] Q=(∃b e1,Gv 165 [aB false,aL es] [aZ b e1]/\∃b1 es,Gv 165 [aB false,aL fs] [aZ b1 es]/\I0 [] [Lr b,Lm e1,Lr b1,Lm es]/\∀(b:Bool) (es:List (List D)) (b2:Bool) (e2:List (List D)),I0 [] [Lr b,Lm es,Lr b2,Lm e2]->bB (decide ((bd e2.length)>0)) (∃n b3,Gv 166 [aZ b es] [J8 (J9 .u64 n),aB b3]/\∃n1 b4,Gv 166 [aZ b2 e2] [J8 (J9 .u64 n1),aB b4]/\br b3 (br b4 (I1 [] [J9 .u64 n,J9 .u64 n1]/\∀(n n2:Int),I1 [] [J9 .u64 n,J9 .u64 n2]->bB (decide (n2>0)) (n2≠0/\I1 [] [J9 .u64 n2,J9 .u64 (bw n n2)]/\M1 [J9 .u64 n2,J9 .u64 (bw n n2)]<M1 [J9 .u64 n,J9 .u64 n2]) (∃es,Gv 167 [J8 (J9 .u64 n)] [aL es]/\∃b e3,Gv 165 [aB false,aL es] [aZ b e3]/\Q [aZ b e3])) (∃e3 e4,Gv 168 [aL es,aL e2] [aL e3,aL e4]/\∃b5 e5,Gv 165 [aB false,aL e4] [aZ b5 e5]/\I0 [] [Lr b2,Lm e2,Lr b5,Lm e5]/\M0 [Lr b2,Lm e2,Lr b5,Lm e5]<M0 [Lr b,Lm es,Lr b2,Lm e2])) (∃e3 e4,Gv 168 [aL es,aL e2] [aL e3,aL e4]/\∃b5 e5,Gv 165 [aB false,aL e4] [aZ b5 e5]/\I0 [] [Lr b2,Lm e2,Lr b5,Lm e5]/\M0 [Lr b2,Lm e2,Lr b5,Lm e5]<M0 [Lr b,Lm es,Lr b2,Lm e2])) ((room es.length/\lens 1 es)/\∃b e3,Gv 165 [aB false,aL es] [aZ b e3]/\Q [aZ b e3])):=by kernel_rfl
end
end Eng
end
section
namespace Eng
open Go Go.Proofs
set_option maxRecDepth 100000
theorem up{f:Nat}{al rs:List A}(h:qa C0 f al rs):qa CC f al rs:=zb rfl rfl h
def Uu:Prop:=∀(a b:List Nat),Limbs a->Limbs b->val b≠0->a.length<=100000->b.length<=100000->
 ∃q r,qa CC 168 [.c (.sl (raw a)),.c (.sl (raw b))] [.c (.sl (raw q)),.c (.sl (raw r))]/\Limbs q/\Limbs r/\val q=val a/val b/\val r=val a%val b/\q.length<=1073741824/\r.length<=1073741824
theorem smN{n:Nat}:Sm (n:Int)↔n<VX:=by unfold Sm;rw[bm]
theorem LH(hd:Uu){x y:Int}(hx:Sm x)(hy:Sm y):qa CC 107 [qM x,qM y] [qM (ia x.natAbs y.natAbs:Nat)]:=by
 generalize hG:ia x.natAbs y.natAbs=G;refine qo (anns:=Vl
  ⟨[.box 5 [.bool false,.slice none 0 0],.box 6 [.bool false,.slice none 0 0]],[],λ_ ds=>∃m n:Nat,ds=cI (m:Int)++cI (n:Int)/\ia m n=G/\m<VX/\n<VX,λds=>Vy (toL (nth .undef ds 3))⟩
  ⟨[.slot 7 (.int .u64 0),.slot 9 (.int .u64 0)],[],λ_ ds=>∃u v:Nat,ds=[.int .u64 (u:Int),.int .u64 (v:Int)]/\ia u v=G/\u<1000000000000000000/\v<1000000000000000000,λds=>(toI (nth .undef ds 1)).toNat⟩) mixedT Tryz.func107 ?_
 have lx:=hx.len;have ly:=hy.len;rw[show qM x= .ag (cI x)from rfl,show qM y= .ag (cI y)from rfl];have vx:=qX false (qe x.natAbs) (by omega) (z:=(x.natAbs:Int)) (by simp[qh]);have vy:=qX false (qe y.natAbs) (by omega) (z:=(y.natAbs:Int)) (by simp[qh]);rw[cI,cI,lL];simp only[bh];refine⟨_,_,up vx,_,_,up vy,⟨x.natAbs,y.natAbs,rfl,hG,hx,hy⟩,?_⟩;rintro bx es by_ fs ⟨m,n,he,hg,hm,hn⟩;simp only[cI,ez,e6,hD,D.bool.injEq,Lv,and_true,bm]at he;obtain⟨rfl,rfl,rfl,rfl⟩:=he;have lm:=(smN.2 hm).len;have ln:=(smN.2 hn).len;rw[bm]at lm ln;have em:qM (m:Int)=J7 [Lr (decide ((m:Int)<0)),Lm (raw (lim m))]:=by unfold qM cI;rw[bm]
 have en:qM (n:Int)=J7 [Lr (decide ((n:Int)<0)),Lm (raw (lim n))]:=by unfold qM cI;rw[bm]
 have wm:=NE (smN.2 hm);have wn:=NE (smN.2 hn);rw[bm]at wm wn;rw[em]at wm;rw[en]at wn;rw[qg,qg];have a3:0<n->∃es_3 es_4,
  qa CC 168 [J8 (Lm (raw (lim m))),J8 (Lm (raw (lim n)))] [J8 (Lm es_3),J8 (Lm es_4)]/\
   ∃b_5 es_5,
    qa CC 165 [J8 (Lr false),J8 (Lm es_4)] [J7 [Lr b_5,Lm es_5]]/\
     (∃m' n':Nat,[Lr (decide ((n:Int)<0)),Lm (raw (lim n)),Lr b_5,Lm es_5]=cI (m':Int)++cI (n':Int)/\ia m' n'=G/\m'<VX/\n'<VX)/\
      Vy (toL (nth .undef [Lr (decide ((n:Int)<0)),Lm (raw (lim n)),Lr b_5,Lm es_5] 3))<Vy (toL (nth .undef [Lr (decide ((m:Int)<0)),Lm (raw (lim m)),Lr (decide ((n:Int)<0)),Lm (raw (lim n))] 3)):=by
  intro a5;obtain⟨q,r,h1,lq,lr,vq,vr,q1,r1⟩:=hd (lim m) (lim n) (qe _) (qe _) (by rw[qh];omega) lm ln;rw[qh,qh]at vr;have a4:=ix m a5;refine⟨_,_,h1,_,_,up (qX false lr r1 (z:=((m%n:Nat):Int)) (by simp[vr])),⟨n,m%n,?_,?_,hn,by omega⟩,?_⟩
  .simp only[cI,bm,ez,e6]
  .rw[<-hg,iz n,<-k8,iz]
  .simp only[nth,toL,bm,XP,qh];exact a4
 refine brd (λh=>?_) (λh=>?_)
 .have a5:0<n:=qB.1 (by omega);by_cases sm:m<1000000000000000000
  .rw[if_pos sm]at wm;by_cases sn:n<1000000000000000000
   .rw[if_pos sn]at wn;refine⟨_,_,up wm,_,_,up wn,?_⟩;refine⟨⟨m,n,rfl,hg,sm,sn⟩,?_⟩;rintro a b ⟨u,v,he,a6,hu,hv⟩;simp only[hD,Ls,true_and,and_true]at he;obtain⟨rfl,rfl⟩:=he;refine brd (λh2=>?_) (λh2=>?_)
    .have a7:0<v:=by omega
     have e2:bw (u:Int) (v:Int)=((u%v:Nat):Int):=by rw[b8 (by omega)];rfl
     have a4:=ix u a7;rw[e2];refine⟨by omega,⟨v,u%v,rfl,by rw[<-a6,iz v,<-k8,iz],hv,by omega⟩,?_⟩;simp only[nth,toI,bk];exact a4
    .have a7:v=0:=by omega
     subst a7;rw[ks]at a6;subst a6;obtain⟨l1,l2⟩:=Wd (u:=u) (by omega);exact⟨_,up (Us (by omega)),_,_,up (qX false l1 (by simp) (z:=(u:Int)) (by rw[l2];rfl)),rfl⟩
   .rw[if_neg sn]at wn;exact⟨_,_,up wm,_,_,up wn,a3 a5⟩
  .rw[if_neg sm]at wm;by_cases sn:n<1000000000000000000
   .rw[if_pos sn]at wn;exact⟨_,_,up wm,_,_,up wn,a3 a5⟩
   .rw[if_neg sn]at wn;exact⟨_,_,up wm,_,_,up wn,a3 a5⟩
 .have a5:n=0:=by
   rcases hY n with h0|h0
   .exact h0
   .have:=qB.2 h0;omega
  subst a5;rw[ks]at hg;subst hg;exact⟨⟨by unfold room;omega,jt _⟩,_,_,up (qX false (qe m) (by omega) (z:=(m:Int)) (by simp[qh])),rfl⟩
theorem vo(hd:Uu){x y:Int}(hx:Sm x)(hy:Sm y)(hy0:0<y):qa CC 264 [qM x,qM y] [qM (x/y),qM (x%y),.c (.int .i64 0)]:=by
 refine qo (anns:=an0) mixedT Tryz.func264 ?_;have lx:=hx.len;have ly:=hy.len;have hyn:y.natAbs≠0:=by omega
 have hlp:0<(lim y.natAbs).length:=qB.2 (by omega);obtain⟨q,r,h1,lq,lr,vq,vr,q1,r1⟩:=hd (lim x.natAbs) (lim y.natAbs) (qe _) (qe _) (by rw[qh];exact hyn) lx ly;rw[qh,qh]at vq vr;rw[show qM x= .ag (cI x)from rfl,show qM y= .ag (cI y)from rfl,cI,cI,B8];simp only[bh];obtain⟨a,ha⟩:∃a:Nat,x.natAbs=a:=⟨_,rfl⟩;obtain⟨b,hb⟩:∃b:Nat,y=(b:Int):=⟨y.natAbs,by omega⟩;have a4:y.natAbs=b:=by omega
 have hb0:0<b:=by omega
 rw[ha,a4]at vq vr;have hdm:=j0 a b;have hml:=ix a hb0;refine brb (λh=>?_) (λ_=>?_)
 .rw[qg]at h;have:((lim y.natAbs).length:Int)=0:=by simpa using h
  omega
 have a6:decide (y<0)=false:=decide_eq_false (by omega);rw[a6];by_cases hx0:x<0
 .have hxt:decide (x<0)=true:=decide_eq_true hx0;rw[hxt];have a3:x= -(a:Int):=by omega
  have gq:=qX true lq q1 (z:= -((a/b:Nat):Int)) (by rw[vq];rfl);have gr:=qX true lr r1 (z:= -((a%b:Nat):Int)) (by rw[vr];rfl);refine⟨_,_,h1,_,_,up gq,_,_,up gr,?_⟩;have e0:(-((a%b:Nat):Int)).natAbs=a%b:=by rw[bs,bm]
  rw[qg];have hq:(a/b)<VX:=kk (Nat.div_le_self _ _) (ha▸hx);refine brd (λh=>brb (λh2=>?_) (λh2=>?_)) (λh=>?_)
  .rw[e0]at h;have a5:0<a%b:=qB.1 (by omega);have g1:=xv (n:=1) (by omega) (by omega);have sq:Sm (-((a/b:Nat):Int)):=by unfold Sm;rw[bs,bm];exact hq
   have s1:Sm 1:=by unfold Sm VX;exact k2 (by omega) (k2 (by omega) (by omega))
   have sr:Sm (-((a%b:Nat):Int)):=by unfold Sm;rw[bs,bm];exact Nat.lt_trans hml (a4▸hy)
   have gs:=B6 sq s1;have ga:=ZA sr hy;have ga2:qa CC 141 [qM (-((a%b:Nat):Int)),.ag [.bool false,.sl (raw (lim y.natAbs))]] [qM (-((a%b:Nat):Int)+y)]:=by have:=up ga;rw[show qM y= .ag (cI y)from rfl,cI,a6]at this;exact this
   refine⟨_,_,up g1,_,_,up gs,_,_,ga2,?_⟩
   .have e1:x/y= -((a/b:Nat):Int)-1/\x%y= -((a%b:Nat):Int)+y:=by
     have:=cp (a:=x) (b:=y) (r:= -((a%b:Nat):Int)+y) (q:= -((a/b:Nat):Int)-1) hy0;refine this.2 ⟨?_,by omega,by omega⟩;rw[a3,hb];have h5:(b:Int)*(-((a/b:Nat):Int)-1)= -((b*(a/b):Nat):Int)-b:=by rw[Int.mul_sub,ch,Int.mul_one,cb]
     rw[h5];omega
    rw[e1.1,e1.2];rfl
  .exfalso;rw[e0]at h;have a5:0<a%b:=qB.1 (by omega);have:decide (-((a%b:Nat):Int)<0)=true:=decide_eq_true (by omega);rw[this]at h2;simp at h2
  .have a5:a%b=0:=by
    rcases hY (a%b)with h0|h0
    .exact h0
    .have:=qB.2 h0;rw[e0]at h;omega
   have e1:x/y= -((a/b:Nat):Int)/\x%y= -((a%b:Nat):Int):=by have:=cp (a:=x) (b:=y) (r:= -((a%b:Nat):Int)) (q:= -((a/b:Nat):Int)) hy0;refine this.2 ⟨?_,by omega,by omega⟩;rw[a3,hb,ch,<-cb];omega
   rw[e1.1,e1.2];simp only[qM,cI,bs,bm]
 .have hxf:decide (x<0)=false:=decide_eq_false hx0;rw[hxf];have a3:x=(a:Int):=by omega
  have gq:=qX false lq q1 (z:=((a/b:Nat):Int)) (by rw[vq];rfl);have gr:=qX false lr r1 (z:=((a%b:Nat):Int)) (by rw[vr];rfl);refine⟨_,_,h1,_,_,up gq,_,_,up gr,?_⟩;have hrf:decide (((a%b:Nat):Int)<0)=false:=decide_eq_false (by omega);have e1:x/y=((a/b:Nat):Int)/\x%y=((a%b:Nat):Int):=by rw[a3,hb];exact⟨rfl,rfl⟩
  refine brd (λh=>brb (λh2=>?_) (λh2=>?_)) (λh=>?_)
  .rw[hrf]at h2;simp at h2
  .rw[e1.1,e1.2];rfl
  .rw[e1.1,e1.2];rfl
end Eng
end
section
namespace Eng
open Go Go.Proofs
set_option maxRecDepth 100000
def cR (r:Rat):List D:=cI r.num++cI (r.den:Int)
def jQ (r:Rat):A:= .ag (cR r)
theorem aD:Sm 1:=by unfold Sm;decide
theorem JN:qa CC 108 [] [qM 1]:=by
 refine qo (anns:=an0) mixedT Tryz.func108 ?_;rw[dJ];exact⟨_,_,up (xv (n:=1) (by omega) (by omega)),rfl⟩
theorem Uv(hd:Uu){x y:Int}(hx:Sm x)(hy:Sm y)(hy0:0<y):qa CC 204 [qM x,qM y] [qM (x/y)]:=by
 refine qo (anns:=an0) mixedT Tryz.func204 ?_;rw[show qM x= .ag (cI x)from rfl,show qM y= .ag (cI y)from rfl,cI,cI,FN];exact⟨_,_,_,_,_,vo hd hx hy hy0,rfl⟩
theorem NF{x:Int}(h:Sm x):Sm (-x):=by unfold Sm at *;rw[bs];exact h
theorem B9{g:Nat}(hg:0<g):(QA (g:Int) 1 !=0)=decide (g≠1):=by
 unfold QA;by_cases h:g=1
 .subst h;rfl
 .rw[if_neg (by omega),if_pos (by omega),decide_eq_true h];rfl
theorem We{n d:Int}(hd:0<d):(ll n d).num=n/(ia n.natAbs d.natAbs:Nat)/\((ll n d).den:Int)=d/(ia n.natAbs d.natAbs:Nat):=by
 have e:d.gcd n=ia n.natAbs d.natAbs:=by rw[Int.gcd_comm];rfl
 refine⟨?_,?_⟩
 .rw[Rat.num_divInt,Int.sign_eq_one_of_pos hd,Int.one_mul,e]
 .rw[Rat.den_divInt,if_neg (by omega),e];obtain⟨k,rfl⟩:∃k:Nat,d=(k:Int):=⟨d.toNat,by omega⟩;rw[bm,Int.natCast_ediv]
theorem yc{n d:Int}(hd:0<d):jQ (ll n d)= .ag (cI (n/(ia n.natAbs d.natAbs:Nat))++cI (d/(ia n.natAbs d.natAbs:Nat))):=by
 unfold jQ cR;rw[(We hd).1,(We hd).2]
theorem ZD(hd:Uu){x y:Int}(hx:Sm x)(hy:Sm y)(hy0:y≠0):qa CC 140 [qM x,qM y] [jQ (ll x y)]:=by
 refine qo (anns:=an0) mixedT Tryz.func140 ?_;have hS:=up (JM y);have a3:∀{u v:Int},Sm u->Sm v->0<v->∃g:Nat,g=ia u.natAbs v.natAbs/\qa CC 107 [qM u,qM v] [qM (g:Int)]/\qa CC 106 [qM (g:Int),qM 1] [.c (.int .i64 (QA g 1))]/\0<g/\qa CC 204 [qM u,qM (g:Int)] [qM (u/g)]/\qa CC 204 [qM v,qM (g:Int)] [qM (v/g)]:=by intro u v hu hv hv0;refine⟨_,rfl,LH hd hu hv,?_⟩;have hgp:0<ia u.natAbs v.natAbs:=Nat.gcd_pos_of_pos_right _ (by omega);have a4:Sm (ia u.natAbs v.natAbs:Nat):=smN.2 (kk (Nat.gcd_le_right _ (by omega)) hv);exact⟨up (yb a4 aD),hgp,Uv hd hu a4 (by omega),Uv hd hv a4 (by omega)⟩
 rw[show qM x= .ag (cI x)from rfl,show qM y= .ag (cI y)from rfl];rw[cI,cI,B7];refine⟨_,hS,?_⟩;refine brd (λh=>?_) (λh=>?_)
 .have a5:y<0:=by
   unfold sgn at h;split at h
   .assumption
   .split at h<;>omega
  obtain⟨g,hg,h1,h2,h3,h4,h5⟩:=a3 (NF hx) (NF hy) (by omega);refine⟨_,_,up (Gf hx),_,_,up (Gf hy),_,_,h1,_,_,JN,_,h2,?_⟩;have he:jQ (ll x y)= .ag (cI ((-x)/(g:Int))++cI ((-y)/(g:Int))):=by
   have:ll x y=ll (-x) (-y):=by rw[Rat.neg_divInt_neg]
   rw[this,yc (by omega),hg]
  refine brb (λh=>?_) (λh=>?_)
  .refine⟨_,_,h4,_,_,h5,?_⟩;rw[he];rfl
  .rw[B9 h3]at h;have:g=1:=by simpa using h
   rw[he,this];rw[show((1:Nat):Int)=1 from rfl,cf,cf];rfl
 .have a5:0<y:=by
   unfold sgn at h;split at h
   .omega
   .omega
  obtain⟨g,hg,h1,h2,h3,h4,h5⟩:=a3 hx hy a5;refine⟨_,_,h1,_,_,JN,_,h2,?_⟩;have he:jQ (ll x y)= .ag (cI (x/(g:Int))++cI (y/(g:Int))):=by rw[yc a5,hg]
  refine brb (λh=>?_) (λh=>?_)
  .refine⟨_,_,h4,_,_,h5,?_⟩;rw[he];rfl
  .rw[B9 h3]at h;have:g=1:=by simpa using h
   rw[he,this];rw[show((1:Nat):Int)=1 from rfl,cf,cf];rfl
end Eng
end
