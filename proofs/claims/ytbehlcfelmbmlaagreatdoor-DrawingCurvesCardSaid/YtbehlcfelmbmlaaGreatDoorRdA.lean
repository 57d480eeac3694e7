/- What came in, as data: arguments of plain types (integers, bools, strings, structs, arrays, slices) read as the engine's data. No program is named here. -/
import Derived.Test.YtbehlcfelmbmlaaGreatDoorEngA
import Derived.Deep.Slices
import Derived.OpenShut
import Derived.ChangeSame
import Derived.Carry
import Derived.RowKit
open Bool renaming and_eq_true→Aa
open Go.DataW renaming TrodAll→Ab, trod→Ac, Whole→Ad
open Go.Value renaming okWide→Ae
open List renaming getElem?_eq_getElem→Af, range→Ah, append_nil→Ai, take_of_length_le→Aj, mem_range→Ak, drop_zero→Al, drop_drop→Am, take_add→An, mem_map→Ao
open Nat renaming eq_of_beq_eq_true→Ap, beq→Aq, one_mul→Ar, add_mul→As, zero_mul→At, add_zero→Au
open Option.some renaming injEq→Av
section
namespace Eng
open Go Go.ChangeShapes Go.Deep Go.RowKit Go.WideShapes
inductive CT where
 |int (k:IntKind)
 |bool
 |str
 |sl (es:List CT)
def wX (f:TypeId→Option (List CT)) (P:Program):List Field→Nat→Option (List CT)
 |[],_=>some []
 |x::r,off=>match f x.type with
  |some T=>match Aq x.offset off&&Aq (P.cellsOf x.type) T.length with
   |true=>match wX f P r (off+T.length)with
    |some R=>some (T++R)
    |none=>none
   |false=>none
  |none=>none
def SU:Nat→List CT→List CT
 |0,_=>[]
 |n+1,T=>T++SU n T
def xV (P:Program):Nat→TypeId→Option (List CT)
 |0,_=>none
 |m+1,t=>match P.underlying t with
  |some (.int k)=>some [.int k]
  |some .bool=>some [.bool]
  |some .string=>some [.str]
  |some (.struct fs)=>match wX (xV P m) P fs.toList 0 with
   |some T=>match Aq (P.cellsOf t) T.length with
    |true=>some T
    |false=>none
   |none=>none
  |some (.array n e)=>match xV P m e with
   |some T=>match Aq (P.cellsOf e) T.length&&Aq (P.cellsOf t) (n*T.length)with
    |true=>some (SU n T)
    |false=>none
   |none=>none
  |some (.slice e)=>match xV P m e with
   |some T=>match Aq (P.cellsOf e) T.length&&Nat.blt 0 T.length with
    |true=>some [.sl T]
    |false=>none
   |none=>none
  |_=>none
mutual
def Gm:CT→D→Prop
 | .int k,d=>∃n,d= .int k n∧(Lit.int k n).wf=true
 | .bool,d=>∃b,d= .bool b
 | .str,d=>∃s,d= .str s∧s.length≤maxLen
 | .sl T,d=>∃es:List (List D),d= .sl es∧es.length≤maxLen∧∀r∈es,jl T r
def jl:List CT→List D→Prop
 |[],ds=>ds=[]
 |T::Ts,ds=>∃d r,ds=d::r∧Gm T d∧jl Ts r
end
theorem wv:∀{T:List CT} {ds:List D},jl T ds→ds.length=T.length
 |[],ds,h=>by simp only[jl]at h;rw[h];rfl
 |_::T,ds,h=>by simp only[jl]at h;obtain⟨d,r,rfl,_,h2⟩:=h;simp[wv h2]
theorem ww:∀{T R:List CT} {ds es:List D},jl T ds→jl R es→jl (T++R) (ds++es)
 |[],R,ds,es,h,h'=>by simp only[jl]at h;rw[h];exact h'
 |_::T,R,ds,es,h,h'=>by simp only[jl]at h;obtain⟨d,r,rfl,h1,h2⟩:=h;show jl (_::(T++R)) (d::(r++es));rw[jl];exact⟨d,r++es,rfl,h1,ww h2 h'⟩
theorem X6 {size:Nat} (hs:0<size):∀{es:List (List D)},(∀r∈es,r.length=size)→∀j,j<es.length*size→nth .undef es.flatten j=nth .undef (nth [] es (j/size)) (j%size)
 |[],_,j,h=>by simp at h
 |r::es,hr,j,h=>by
  have hl:=hr r (by simp);rw[List.flatten_cons];by_cases hj:j<size
  ·rw[Nat.div_eq_of_lt hj,Nat.mod_eq_of_lt hj];rw[qI,qI,List.getElem?_append_left (by omega)];rfl
  ·have h2:=X6 hs (es:=es) (fun r hr'=>hr r (by simp[hr'])) (j-size) (by
    rw[List.length_cons,As,Ar]at h;omega)
   have e1:j/size=(j-size)/size+1:=by rw[←Nat.div_eq_sub_div hs (by omega)]
   have e2:j%size=(j-size)%size:=Nat.mod_eq_sub_mod (by omega);rw[e1,e2];show _=nth .undef (nth [] es ((j-size)/size)) ((j-size)%size);rw[←h2,qI,qI,List.getElem?_append_right (by omega),hl]
section
variable {H:Type} {enc:TypeId×Value→H} {P:Program} {w:World} {base:Nat} {spare:Nat→Bool} {held:Bool}
theorem QC {f:TypeId→Option (List CT)} {F:Nat→Prop} {n:Nat} {cs:List Value}
 (hf:∀t T us x,f t=some T→Ac enc P w base spare held n t us=some x→∃ds,All2 (CD w F) ds us∧jl T ds):
 ∀(fs:List Field) (off:Nat) (T:List CT),wX f P fs off=some T→(∀x∈fs,∃y,Ac enc P w base spare held n x.type ((cs.drop x.offset).take (P.cellsOf x.type))=some y)→
  ∃ds,All2 (CD w F) ds ((cs.drop off).take T.length)∧jl T ds
 |[],off,T,h,_=>by simp only[wX,Av]at h;subst h;exact⟨[],by simp[All2],by simp[jl]⟩
 |x::fs,off,T,h,hy=>by
  simp only[wX]at h;split at h
  ·rename_i T1 h1;split at h
   ·rename_i hb;rw[Aa]at hb;have e1:=Ap hb.1;have e2:=Ap hb.2;split at h
    ·rename_i R hR;simp only[Av]at h;subst h;obtain⟨y,hy1⟩:=hy x (by simp);rw[e1,e2]at hy1;obtain⟨ds1,a1,b1⟩:=hf _ _ _ _ h1 hy1;obtain⟨ds2,a2,b2⟩:=QC hf fs _ R hR (fun x hx=>hy x (by simp[hx]));refine⟨ds1++ds2,?_,ww b1 b2⟩;rw[List.length_append,An,Am];exact All2.append a1 a2
    ·simp at h
   ·simp at h
  ·simp at h
theorem kW {R:D→Value→Prop} {T:List CT} {cs:List Value}:∀(n k:Nat),(∀i,i<n→∃ds,All2 R ds ((cs.drop ((k+i)*T.length)).take T.length)∧jl T ds)→
 ∃ds,All2 R ds ((cs.drop (k*T.length)).take (n*T.length))∧jl (SU n T) ds
 |0,k,_=>⟨[],by simp[All2],by simp[SU,jl]⟩
 |n+1,k,h=>by
  obtain⟨d1,a1,b1⟩:=h 0 (by omega);obtain⟨d2,a2,b2⟩:=kW n (k+1) (fun i hi=>by
   have:=h (i+1) (by omega);rw[show k+(i+1)=k+1+i by omega]at this;exact this)
  refine⟨d1++d2,?_,ww b1 b2⟩;rw[show(n+1)*T.length=T.length+n*T.length by rw[As,Ar,Nat.add_comm],An,Am];rw[Au]at a1;rw[As,Ar]at a2;exact All2.append a1 a2
theorem wY {F:Nat→Prop} (hF:∀b,b<w.heap.size→F b):∀(m:Nat) (t:TypeId) (T:List CT) (fuel:Nat) (cs:List Value) (x:DataW H×List MemPlace),xV P m t=some T→
 Ac enc P w base spare held fuel t cs=some x→∃ds,All2 (CD w F) ds cs∧jl T ds
 |0,_,_,_,_,_,h,_=>by simp[xV]at h
 |m+1,t,T,fuel,cs,x,h,ht=>by
  simp only[xV]at h;split at h
  ·rename_i k hu;simp only[Av]at h;subst h;obtain⟨n,rfl,_,hw⟩:=DataW.trod_int hu ht;exact⟨[.int k n],⟨.int _ _,trivial⟩,by simp only[jl,Gm];exact⟨_,_,rfl,⟨n,rfl,hw⟩,rfl⟩⟩
  ·rename_i hu;simp only[Av]at h;subst h;obtain⟨b,rfl,_⟩:=DataW.trod_bool hu ht;exact⟨[.bool b],⟨.bool _,trivial⟩,by simp only[jl,Gm];exact⟨_,_,rfl,⟨b,rfl⟩,rfl⟩⟩
  ·rename_i hu;simp only[Av]at h;subst h;obtain⟨s,rfl,_,hs⟩:=DataW.trod_string hu ht;refine⟨[.str s.data.toList],⟨.str _,trivial⟩,?_⟩;simp only[jl,Gm];refine⟨_,_,rfl,⟨_,rfl,?_⟩,rfl⟩;have:s.data.toList.length=s.size:=by simp
   rw[this];exact hs
  ·rename_i fs hu;split at h
   ·rename_i T' hT;split at h
    ·rename_i hc;simp only[Av]at h;subst h;have hc:=Ap hc;obtain⟨xs,n,_,_,a8,ac,hf⟩:=DataW.trod_struct hu ht;obtain⟨ds,h1,h2⟩:=QC (cs:=cs) (n:=n) (F:=F) (fun t T us x h1 h2=>wY hF m t T n us x h1 h2) fs.toList 0 T' hT (fun f hf'=>by
      obtain⟨i,hi,rfl⟩:=List.mem_iff_getElem.1 hf';have:=hf i fs[i] (Array.getElem?_eq_getElem (by simpa using hi));rw[Af (by rw[ac];simpa using hi)]at this;exact⟨_,this⟩)
     rw[Al,Aj (by omega)]at h1;exact⟨ds,h1,h2⟩
    ·simp at h
   ·simp at h
  ·rename_i k e hu;split at h
   ·rename_i T' hT;split at h
    ·rename_i hc;simp only[Av]at h;subst h;rw[Aa]at hc;have a7:=Ap hc.1;have a3:=Ap hc.2;obtain⟨xs,n,_,_,a8,ac,hf⟩:=DataW.trod_array hu ht;obtain⟨ds,h1,h2⟩:=kW (R:=CD w F) (T:=T') (cs:=cs) k 0 (fun i hi=>by
      have:=hf i hi;rw[Af (by omega),a7]at this;rw[Nat.zero_add];exact wY hF m e T' n _ _ hT this)
     rw[At,Al,Aj (by omega)]at h1;exact⟨ds,h1,h2⟩
    ·simp at h
   ·simp at h
  ·rename_i e hu;split at h
   ·rename_i T' hT;split at h
    ·rename_i hc;simp only[Av]at h;subst h;rw[Aa]at hc;have a7:=Ap hc.1;have a3:=hc.2;rw[Nat.blt_eq]at a3;rcases open_slice hu ht with⟨rfl,_⟩|⟨a,a1,cap,k,n,Dd,Pl,rfl,_,hle,hcap,hk,_,hel⟩
     ·exact⟨[.sl []],⟨.nil _ _,trivial⟩,by simp only[jl,Gm];exact⟨_,_,rfl,⟨[],rfl,by simp,by simp⟩,rfl⟩⟩
     ·by_cases hl0:a1=0
      ·subst hl0;exact⟨[.sl []],⟨.nil _ _,trivial⟩,by simp only[jl,Gm];exact⟨_,_,rfl,⟨[],rfl,by simp,by simp⟩,rfl⟩⟩
      ·have hlk:a1≤k:=by rw[hk];split<;>omega
       have a9:∀i,i<a1→∃ds,(∀j,j<T'.length→∃v,w.cell? (a.add (i*T'.length+j))=some v∧CD w F (nth .undef ds j) v)∧jl T' ds:=by intro i hi;obtain⟨us,h1,h2⟩:=hel i (by omega);obtain⟨ds,h3,h4⟩:=wY hF m e T' n us _ hT h2;refine⟨ds,fun j hj=>?_,h4⟩;rw[a7]at h1;obtain⟨_,hul,hc⟩:=World.cells?_some h1;have:=hc j hj;rw[add_add,Af (by omega)]at this;have h5:=All2.nth (.undef) undef ds us j h3 (by rw[wv h4];exact hj);rw[qn undef (show j<us.length by omega)]at h5;exact⟨_,this,h5⟩
       obtain⟨es,a6⟩:=choose_lt a9;have aa:a.spot=none:=by
        obtain⟨v,h1,_⟩:=(a6 0 (by omega)).1 0 a3;simp only[At,Au,Addr.add,if_true]at h1;unfold World.cell? at h1;split at h1
        ·split at h1
         ·simp at h1
         ·rename_i hs;simpa using hs
        ·simp at h1
       obtain⟨b,o,sp⟩:=a;simp only at aa;subst aa;have a5:∀j,(⟨b,o,none⟩:Addr).add j=⟨b,o+j,none⟩:=by
        intro j;unfold Addr.add;by_cases hj:j=0
        ·subst hj;simp
        ·rw[if_neg hj]
       have hb:b<w.heap.size:=by
        obtain⟨v,h1,_⟩:=(a6 0 (by omega)).1 0 a3;rw[a5]at h1;unfold World.cell? at h1;split at h1
        ·rename_i hh;exact(Array.getElem?_eq_some_iff.1 hh).1
        ·simp at h1
       have a0:((Ah a1).map es).length=a1:=by simp
       have a2:∀r∈(Ah a1).map es,r.length=T'.length:=by intro r hr;simp only[Ao,Ak]at hr;obtain⟨i,hi,rfl⟩:=hr;exact wv (a6 i hi).2
       have a4:∀j,j<a1*T'.length→∃v,w.cell? ⟨b,o+j,none⟩=some v∧CD w F (nth .undef ((Ah a1).map es).flatten j) v:=by
        intro j hj;have hi:j/T'.length<a1:=by rw[Nat.div_lt_iff_lt_mul a3];exact hj
        obtain⟨v,h1,h2⟩:=(a6 _ hi).1 (j%T'.length) (Nat.mod_lt _ a3);rw[a5,Nat.mul_comm,Nat.div_add_mod]at h1;refine⟨v,h1,?_⟩;rw[X6 a3 a2 j (by rw[a0];exact hj)];have:nth [] ((Ah a1).map es) (j/T'.length)=es (j/T'.length):=by rw[qI];simp[hi]
        rw[this];exact h2
       obtain⟨vs,ab⟩:=choose_lt a4;refine⟨[.sl ((Ah a1).map es)],⟨?_,trivial⟩,?_⟩
       ·have:=CD.sl (w:=w) (F:=F) ((Ah a1).map es) b o cap T'.length vs (by rw[a0];exact hle) a2 (hF b hb) (fun j hj=>(ab j (by rw[a0]at hj;exact hj)).1) (fun j hj=>(ab j (by rw[a0]at hj;exact hj)).2);rw[a0]at this;exact this
       ·simp only[jl,Gm];refine⟨_,_,rfl,⟨_,rfl,by rw[a0];omega,fun r hr=>?_⟩,rfl⟩;simp only[Ao,Ak]at hr;obtain⟨i,hi,rfl⟩:=hr;exact(a6 i hi).2
    ·simp at h
   ·simp at h
  ·simp at h
end
end Eng
end

section
namespace Eng
open Go Go.RowKit Go.WideShapes Go.ChangeShapes
section
variable {H:Type} {enc:TypeId×Value→H} {P:Program}
theorem QS {f:Func} {s:ChangeSpec} {apart fresh handsOn again:Bool} {W W':World} {args:Array Value} {v:Value} {ds gs:List (DataW H)} {before pa pv:List MemPlace}
 (hW:Ad enc P f.params.toList s.vars apart W args.toList ds gs before)
 (hres:∀(b:Nat) (sp:Nat→Bool) (hd:Bool),Ab enc P W' b sp hd f.resultTypes.toList (v.resultList f.resultTypes.size) (s.fn H (ds++gs)).results [])
 (hargs:∀sp:Nat→Bool,(∀p∈before,sp p.block=true)→Ab enc P W' 0 sp true f.params.toList args.toList (s.fn H (ds++gs)).args pa)
 (hvars:∀sp:Nat→Bool,(∀p∈before,sp p.block=true)→DataW.TrodVars enc P W' sp s.vars (s.fn H (ds++gs)).vars pv)
 (hps:before=pa++pv) (hb:Below W.heap.size W W')
 (hok:∀(j:Nat) (t:TypeId) (r:Value),f.resultTypes[j]? =some t→(v.resultList f.resultTypes.size)[j]? =some r→Ae P W' .any 0 t r):
 s.post enc P f apart fresh handsOn again W args v W':=by
 have a2:∀p∈before,p.block<W.heap.size:=fun p hp=>hW.lt p hp
 have a0:∀p∈before,(fun b=>decide (b<W.heap.size)) p.block=true:=fun p hp=>by simpa using a2 p hp
 refine⟨ds,gs,before,[],pa,pv,hW,hres _ _ _,hargs _ a0,hvars _ a0,World.keptBut_mono (fun p hp=>⟨hp,?_⟩) (hb.frame (· ∈before)),fun _=>?_⟩
 ·rw[hps,List.mem_append]at hp;exact Or.inr hp
 ·obtain⟨_,_,_,_,_,hz,hn⟩:=hW;refine⟨hok,_,_,([]++pa)++pv,⟨[]++pa,pv,trodAll_append (hargs _ (fun _ _=>rfl)) (hres _ _ _),hvars _ (fun _ _=>rfl),rfl,?_,?_⟩,?_⟩
  ·intro b a3 hp;have a1:MemPlace.cell b a3∈before:=by rw[hps];simpa using hp
   rw[hb.frozen (a2 _ a1)];exact hz b a3 a1
  ·intro ha;have:=hn ha;rw[hps]at this
   simpa using this
  ·intro p hp _;rw[hps]
   simpa using hp
theorem wZ (hl:laidOutB P=true) {W W':World} (hb:Below W.heap.size W W') {sp:Nat→Bool}:∀{ts:List TypeId} {vs:List Value} {ds:List (DataW H)} {ps:List MemPlace},
 (∀t∈ts,P.readableRec t=true∧t<P.types.size)→Ab enc P W 0 (fun _=>true) true ts vs ds ps→(∀x∈ps,x.block<W.heap.size)→(∀x∈ps,sp x.block=true)→
 Ab enc P W' 0 sp true ts vs ds ps
 |[],[],[],_,_,h,_,_=>h
 |t::ts,v::vs,d::ds,_,ht,h,hlt,hsp=>by obtain⟨p,q,h1,h2,rfl⟩:=h;refine⟨p,q,?_,wZ hl hb (fun t' h'=>ht t' (by simp[h'])) h2 (fun x hx=>hlt x (by simp[hx])) (fun x hx=>hsp x (by simp[hx])),rfl⟩;exact WideElems.Trod_stays hl (ht t (by simp)).1 (ht t (by simp)).2 h1 (fun x hx=>hb.same (hlt x (by simp[hx]))) (fun x hx=>hsp x (by simp[hx]))
 |[],[],_::_,_,_,h,_,_=>h.elim
 |[],_::_,_,_,_,h,_,_=>by cases ‹List (DataW H)› <;>exact h.elim
 |_::_,[],_,_,_,h,_,_=>by cases ‹List (DataW H)› <;>exact h.elim
 |_::_,_::_,[],_,_,h,_,_=>h.elim
def MH (P:Program) (m:Nat) (t:TypeId) (a:A):Prop:=
 ∃T,xV P m t=some T∧((kg P t=true∧∃ds,a= .ag ds∧jl T ds)∨(kg P t=false∧∃d,a= .c d∧jl T [d]))
theorem JW {n:Nat} {e t:TypeId} {w:World} {r:Reach} {b:Nat} {v:Value} (ht:P.underlying t=some (.array n e)) (h:Ae P w r b t v):∃cs,v= .agg cs∧cs.size=P.cellsOf t:=by
 simp only[Ae,ht]at h;obtain⟨cs,h1,h2,_⟩:=h;exact⟨cs,h1,h2⟩
theorem MI {w:World} {F:Nat→Prop} (hF:∀b,b<w.heap.size→F b) {m base b0:Nat} {r:Reach} {sp:Nat→Bool} {held:Bool} {t:TypeId} {T:List CT} {v:Value} {d:DataW H} {p:List MemPlace}
 (hT:xV P m t=some T) (hv:Ae P w r b0 t v) (h:DataW.Trod enc P w base sp held t v d p):∃a,CA w F a v∧MH P m t a:=by
 obtain⟨a1,hf⟩:=h;obtain⟨ds,h1,h2⟩:=wY hF m t T a1 _ _ hT hf;have a0:v.cells= #[v]→kg P t=false→∃a,CA w F a v∧MH P m t a:=by intro hc ht;rw[hc]at h1;have hl:=h1.length;simp only[List.length_singleton]at hl;obtain⟨d0,rfl⟩:=List.length_eq_one_iff.1 hl;exact⟨.c d0,h1.1,T,hT,.inr ⟨ht,d0,rfl,h2⟩⟩
 have ag:∀cs,v= .agg cs→kg P t=true→∃a,CA w F a v∧MH P m t a:=by intro cs hc ht;subst hc;exact⟨.ag ds,⟨cs,rfl,h1⟩,T,hT,.inl ⟨ht,ds,rfl,h2⟩⟩
 cases m with
 |zero=>simp[xV]at hT
 |succ m=>
  simp only[xV]at hT;split at hT
  ·rename_i k hu;obtain⟨n,rfl⟩:=okWide_int hu hv;exact a0 rfl (by unfold kg;rw[hu])
  ·rename_i hu;obtain⟨b,rfl⟩:=okWide_bool hu hv;exact a0 rfl (by unfold kg;rw[hu])
  ·rename_i hu;obtain⟨s,rfl⟩:=okWide_string hu hv;exact a0 rfl (by unfold kg;rw[hu])
  ·rename_i fs hu;obtain⟨cs,rfl,_⟩:=okWide_struct hu hv;exact ag cs rfl (by unfold kg;rw[hu])
  ·rename_i n e hu;obtain⟨cs,rfl,_⟩:=JW hu hv;exact ag cs rfl (by unfold kg;rw[hu])
  ·rename_i e hu;obtain⟨a,len,cap,rfl⟩:=okWide_slice hu hv;exact a0 rfl (by unfold kg;rw[hu])
  ·simp at hT
theorem JX {w:World} {F:Nat→Prop} (hF:∀b,b<w.heap.size→F b) {m base b0:Nat} {r:Reach} {sp:Nat→Bool} {held:Bool}:∀{ts:List TypeId} {vs:List Value} {ds:List (DataW H)} {ps:List MemPlace},
 (∀t∈ts,(xV P m t).isSome=true)→(∀(j:Nat) t v,ts[j]? =some t→vs[j]? =some v→Ae P w r b0 t v)→Ab enc P w base sp held ts vs ds ps→
 ∃as',All2 (CA w F) as' vs∧All2 (MH P m) ts as'
 |[],[],[],_,_,_,_=>⟨[],trivial,trivial⟩
 |t::ts,v::vs,d::ds,_,ht,hv,h=>by obtain⟨p,q,h1,h2,rfl⟩:=h;obtain⟨T,hT⟩:=Option.isSome_iff_exists.1 (ht t (by simp));obtain⟨a,e1,e2⟩:=MI hF hT (hv 0 t v rfl rfl) h1;obtain⟨as',e3,e4⟩:=JX hF (fun t' h'=>ht t' (by simp[h'])) (fun j t' v' h3 h4=>hv (j+1) t' v' (by simpa using h3) (by simpa using h4)) h2;exact⟨a::as',⟨e1,e3⟩,⟨e2,e4⟩⟩
 |[],[],_::_,_,_,_,h=>h.elim
 |[],_::_,_,_,_,_,h=>by cases ‹List (DataW H)› <;>exact h.elim
 |_::_,[],_,_,_,_,h=>by cases ‹List (DataW H)› <;>exact h.elim
 |_::_,_::_,[],_,_,_,h=>h.elim
theorem SV {C:Cx} {f:Nat} {fn:Func} {s:ChangeSpec} {m bt:Nat} {apart fresh handsOn again:Bool} (hl:laidOutB C.P=true) (hbt:C.P.underlying bt=some .bool)
 (hres:fn.resultTypes= #[bt]) (hrd:∀t∈fn.params.toList,C.P.readableRec t=true∧t<C.P.types.size∧(xV C.P m t).isSome=true)
 (hvars:s.vars=[]) (hfn:∀ds:List (DataW H),ds.length=fn.params.size→s.fn H ds={results:=[.lit (.bool true)],args:=ds})
 (hg:∀al:List A,All2 (MH C.P m) fn.params.toList al→qe C f al [.c (.bool true)])
 {W:World} {base:Nat} {args:Array Value} {ds gs:List (DataW H)} {before:List MemPlace} (hi:Inv C (fun b=>b<W.heap.size) W)
 (hval:∀(j:Nat) t v,fn.params[j]? =some t→args[j]? =some v→Ae C.P W .any base t v)
 (hW:Ad enc C.P fn.params.toList s.vars apart W args.toList ds gs before):
 Calls C.P f args W fun e W'=>∃v,e= .returned v∧s.post enc C.P fn apart fresh handsOn again W args v W':=by
 have hW':=hW;have hlt:∀p∈before,p.block<W.heap.size:=fun p hp=>hW.lt p hp
 obtain⟨p,q,hA,hV,rfl,hfz,hnd⟩:=hW;rw[hvars]at hV;have hgq:gs=[]∧q=[]:=by
  cases gs with
  |nil=>exact⟨rfl,hV⟩
  |cons g gs=>exact hV.elim
 obtain⟨rfl,rfl⟩:=hgq;have a0:ds.length=fn.params.size:=by
  have key:∀{ts:List TypeId} {vs:List Value} {ds:List (DataW H)} {ps:List MemPlace},Ab enc C.P W 0 (fun _=>true) true ts vs ds ps→ds.length=ts.length:=by
   intro ts
   induction ts with
   |nil=>intro vs ds ps h;cases vs<;>cases ds<;>first|rfl|exact h.elim
   |cons t ts ih=>
    intro vs ds ps h;cases vs with
    |nil=>cases ds<;>exact h.elim
    |cons v vs=>cases ds with
     |nil=>exact h.elim
     |cons d ds=>obtain⟨p,q,_,h2,_⟩:=h;simp[ih h2]
  rw[key hA];simp
 obtain⟨al,h1,h2⟩:=JX (F:=fun b=>b<W.heap.size) (fun _ h=>h) (m:=m) (fun t ht=>(hrd t ht).2.2) (fun j t v h3 h4=>hval j t v (by simpa using h3) (by simpa using h4)) hA;have hc:=hg al h2 W (fun b=>b<W.heap.size) args.toList (fun _ h=>h) hi h1;have e0:args.toList.toArray=args:=by simp
 rw[e0]at hc;refine hc.mono fun e W' he=>?_
 obtain⟨hb,v,rfl,hr⟩:=he;have hv:v= .bool true:=by have hr:CD _ _ (.bool true) v:=hr;cases hr;rfl
 subst hv;refine⟨_,rfl,QS (pa:=p++[]) (pv:=[]) hW' ?_ ?_ ?_ (by simp) hb ?_⟩
 ·intro b sp hd;rw[Ai,hfn ds a0,hres];exact trodAll_mk1 (shut_bool hbt true)
 ·intro sp a1;rw[Ai,hfn ds a0,Ai];exact wZ hl hb (fun t ht=>⟨(hrd t ht).1,(hrd t ht).2.1⟩) hA (fun x hx=>hlt x (by simp[hx])) (fun x hx=>a1 x (by simp[hx]))
 ·intro sp a1;rw[Ai,hfn ds a0,hvars];rfl
 ·exact ok_one hres rfl (okWide_bool_mk hbt _)
end
end Eng
end
