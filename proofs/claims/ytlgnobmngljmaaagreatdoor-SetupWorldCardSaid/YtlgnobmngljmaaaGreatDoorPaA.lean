/- What came in, as data: arguments of plain types (integers, bools, strings, structs, arrays, slices) read as the engine's data. No program is named here. -/
import Derived.Test.YtlgnobmngljmaaaGreatDoorEngA
import Derived.Test.YtlgnobmngljmaaaGreatDoorEngD
import Derived.Test.YtlgnobmngljmaaaGreatDoorEngE
import Derived.Deep.Slices
import Derived.OpenShut
import Derived.ChangeSame
import Derived.Carry
import Derived.RowKit
import Derived.Shelf.Strings.Builder1
import Derived.Test.YtlgnobmngljmaaaGreatDoorProg
import Derived.WalkKit
import Derived.KernelRfl
import Derived.LoopTactic
import Derived.IntWalk
section
namespace Eng
open Go Go.RowKit Go.ChangeShapes Go.WideShapes Go.Deep
variable [Env]
inductive CT where
 |int (k:IntKind)
 |bool
 |str
 |sl (es:List CT)
def fieldTys (f:TypeId→Option (List CT)) (P:Program):List Field→Nat→Option (List CT)
 |[],_=>some []
 |x::r,off=>match f x.type with
  |some T=>match Nat.beq x.offset off&&Nat.beq (P.cellsOf x.type) T.length with
   |true=>match fieldTys f P r (off+T.length)with
    |some R=>some (T++R)
    |none=>none
   |false=>none
  |none=>none
def repl:Nat→List CT→List CT
 |0,_=>[]
 |n+1,T=>T++repl n T
def cellTys (P:Program):Nat→TypeId→Option (List CT)
 |0,_=>none
 |m+1,t=>match P.underlying t with
  |some (.int k)=>some [.int k]
  |some .bool=>some [.bool]
  |some .string=>some [.str]
  |some (.struct fs)=>match fieldTys (cellTys P m) P fs.toList 0 with
   |some T=>match Nat.beq (P.cellsOf t) T.length with
    |true=>some T
    |false=>none
   |none=>none
  |some (.array n e)=>match cellTys P m e with
   |some T=>match Nat.beq (P.cellsOf e) T.length&&Nat.beq (P.cellsOf t) (n*T.length)with
    |true=>some (repl n T)
    |false=>none
   |none=>none
  |some (.slice e)=>match cellTys P m e with
   |some T=>match Nat.beq (P.cellsOf e) T.length&&Nat.blt 0 T.length with
    |true=>some [.sl T]
    |false=>none
   |none=>none
  |_=>none
mutual
def hasC:CT→D→Prop
 | .int k,d=>∃n,d= .int k n∧(Lit.int k n).wf=true
 | .bool,d=>∃b,d= .bool b
 | .str,d=>∃s,d= .str s∧s.length≤maxLen
 | .sl T,d=>∃es:List (List D),d= .sl es∧es.length≤maxLen∧∀r∈es,hasL T r
def hasL:List CT→List D→Prop
 |[],ds=>ds=[]
 |T::Ts,ds=>∃d r,ds=d::r∧hasC T d∧hasL Ts r
end
omit [Env] in
theorem hasL_length:∀{T:List CT} {ds:List D},hasL T ds→ds.length=T.length
 |[],ds,h=>by simp only[hasL]at h;rw[h];rfl
 |_::T,ds,h=>by simp only[hasL]at h;obtain⟨d,r,rfl,_,h2⟩:=h;simp[hasL_length h2]
omit [Env] in
theorem hasL_append:∀{T R:List CT} {ds es:List D},hasL T ds→hasL R es→hasL (T++R) (ds++es)
 |[],R,ds,es,h,h'=>by simp only[hasL]at h;rw[h];exact h'
 |_::T,R,ds,es,h,h'=>by simp only[hasL]at h;obtain⟨d,r,rfl,h1,h2⟩:=h;show hasL (_::(T++R)) (d::(r++es));rw[hasL];exact⟨d,r++es,rfl,h1,hasL_append h2 h'⟩
omit [Env] in
theorem nth_flatRd {size:Nat} (hs:0<size):∀{es:List (List D)},(∀r∈es,r.length=size)→∀j,j<es.length*size→nth .undef es.flatten j=nth .undef (nth [] es (j/size)) (j%size)
 |[],_,j,h=>by simp at h
 |r::es,hr,j,h=>by
  have hl:=hr r (by simp);rw[List.flatten_cons];by_cases hj:j<size
  ·rw[Nat.div_eq_of_lt hj,Nat.mod_eq_of_lt hj];rw[nth_eq,nth_eq,List.getElem?_append_left (by omega)];rfl
  ·have h2:=nth_flatRd hs (es:=es) (fun r hr'=>hr r (by simp[hr'])) (j-size) (by
    rw[List.length_cons,Nat.add_mul,Nat.one_mul]at h;omega)
   have e1:j/size=(j-size)/size+1:=by rw[←Nat.div_eq_sub_div hs (by omega)]
   have e2:j%size=(j-size)%size:=Nat.mod_eq_sub_mod (by omega);rw[e1,e2];show _=nth .undef (nth [] es ((j-size)/size)) ((j-size)%size);rw[←h2,nth_eq,nth_eq,List.getElem?_append_right (by omega),hl]
section
variable {H:Type} {enc:TypeId×Value→H} {P:Program} {w:World} {base:Nat} {spare:Nat→Bool} {held:Bool}
theorem fields_read {f:TypeId→Option (List CT)} {F:Nat→Prop} {n:Nat} {cs:List Value}
 (hf:∀t T us x,f t=some T→DataW.trod enc P w base spare held n t us=some x→∃ds,All2 (CD w F) ds us∧hasL T ds):
 ∀(fs:List Field) (off:Nat) (T:List CT),fieldTys f P fs off=some T→(∀x∈fs,∃y,DataW.trod enc P w base spare held n x.type ((cs.drop x.offset).take (P.cellsOf x.type))=some y)→
  ∃ds,All2 (CD w F) ds ((cs.drop off).take T.length)∧hasL T ds
 |[],off,T,h,_=>by simp only[fieldTys,Option.some.injEq]at h;subst h;exact⟨[],by simp[All2],by simp[hasL]⟩
 |x::fs,off,T,h,hy=>by
  simp only[fieldTys]at h;split at h
  ·rename_i T1 h1;split at h
   ·rename_i hb;rw[Bool.and_eq_true]at hb;have e1:=Nat.eq_of_beq_eq_true hb.1;have e2:=Nat.eq_of_beq_eq_true hb.2;split at h
    ·rename_i R hR;simp only[Option.some.injEq]at h;subst h;obtain⟨y,hy1⟩:=hy x (by simp);rw[e1,e2]at hy1;obtain⟨ds1,a1,b1⟩:=hf _ _ _ _ h1 hy1;obtain⟨ds2,a2,b2⟩:=fields_read hf fs _ R hR (fun x hx=>hy x (by simp[hx]));refine⟨ds1++ds2,?_,hasL_append b1 b2⟩;rw[List.length_append,List.take_add,List.drop_drop];exact All2.append a1 a2
    ·simp at h
   ·simp at h
  ·simp at h
omit [Env] in
theorem all2_take_drop {R:D→Value→Prop} {T:List CT} {cs:List Value}:∀(n k:Nat),(∀i,i<n→∃ds,All2 R ds ((cs.drop ((k+i)*T.length)).take T.length)∧hasL T ds)→
 ∃ds,All2 R ds ((cs.drop (k*T.length)).take (n*T.length))∧hasL (repl n T) ds
 |0,k,_=>⟨[],by simp[All2],by simp[repl,hasL]⟩
 |n+1,k,h=>by
  obtain⟨d1,a1,b1⟩:=h 0 (by omega);obtain⟨d2,a2,b2⟩:=all2_take_drop n (k+1) (fun i hi=>by
   have:=h (i+1) (by omega);rw[show k+(i+1)=k+1+i by omega]at this;exact this)
  refine⟨d1++d2,?_,hasL_append b1 b2⟩;rw[show(n+1)*T.length=T.length+n*T.length by rw[Nat.add_mul,Nat.one_mul,Nat.add_comm],List.take_add,List.drop_drop];rw[Nat.add_zero]at a1;rw[Nat.add_mul,Nat.one_mul]at a2;exact All2.append a1 a2
theorem read_data {F:Nat→Prop} (hF:∀b,b<w.heap.size→F b):∀(m:Nat) (t:TypeId) (T:List CT) (fuel:Nat) (cs:List Value) (x:DataW H×List MemPlace),cellTys P m t=some T→
 DataW.trod enc P w base spare held fuel t cs=some x→∃ds,All2 (CD w F) ds cs∧hasL T ds
 |0,_,_,_,_,_,h,_=>by simp[cellTys]at h
 |m+1,t,T,fuel,cs,x,h,ht=>by
  simp only[cellTys]at h;split at h
  ·rename_i k hu;simp only[Option.some.injEq]at h;subst h;obtain⟨n,rfl,_,hw⟩:=DataW.trod_int hu ht;exact⟨[.int k n],⟨.int _ _,trivial⟩,by simp only[hasL,hasC];exact⟨_,_,rfl,⟨n,rfl,hw⟩,rfl⟩⟩
  ·rename_i hu;simp only[Option.some.injEq]at h;subst h;obtain⟨b,rfl,_⟩:=DataW.trod_bool hu ht;exact⟨[.bool b],⟨.bool _,trivial⟩,by simp only[hasL,hasC];exact⟨_,_,rfl,⟨b,rfl⟩,rfl⟩⟩
  ·rename_i hu;simp only[Option.some.injEq]at h;subst h;obtain⟨s,rfl,_,hs⟩:=DataW.trod_string hu ht;refine⟨[.str s.data.toList],⟨.str _,trivial⟩,?_⟩;simp only[hasL,hasC];refine⟨_,_,rfl,⟨_,rfl,?_⟩,rfl⟩;have:s.data.toList.length=s.size:=by simp
   rw[this];exact hs
  ·rename_i fs hu;split at h
   ·rename_i T' hT;split at h
    ·rename_i hc;simp only[Option.some.injEq]at h;subst h;have hc:=Nat.eq_of_beq_eq_true hc;obtain⟨xs,n,_,_,hlen,hxl,hf⟩:=DataW.trod_struct hu ht;obtain⟨ds,h1,h2⟩:=fields_read (cs:=cs) (n:=n) (F:=F) (fun t T us x h1 h2=>read_data hF m t T n us x h1 h2) fs.toList 0 T' hT (fun f hf'=>by
      obtain⟨i,hi,rfl⟩:=List.mem_iff_getElem.1 hf';have:=hf i fs[i] (Array.getElem?_eq_getElem (by simpa using hi));rw[List.getElem?_eq_getElem (by rw[hxl];simpa using hi)]at this;exact⟨_,this⟩)
     rw[List.drop_zero,List.take_of_length_le (by omega)]at h1;exact⟨ds,h1,h2⟩
    ·simp at h
   ·simp at h
  ·rename_i k e hu;split at h
   ·rename_i T' hT;split at h
    ·rename_i hc;simp only[Option.some.injEq]at h;subst h;rw[Bool.and_eq_true]at hc;have hc1:=Nat.eq_of_beq_eq_true hc.1;have hc2:=Nat.eq_of_beq_eq_true hc.2;obtain⟨xs,n,_,_,hlen,hxl,hf⟩:=DataW.trod_array hu ht;obtain⟨ds,h1,h2⟩:=all2_take_drop (R:=CD w F) (T:=T') (cs:=cs) k 0 (fun i hi=>by
      have:=hf i hi;rw[List.getElem?_eq_getElem (by omega),hc1]at this;rw[Nat.zero_add];exact read_data hF m e T' n _ _ hT this)
     rw[Nat.zero_mul,List.drop_zero,List.take_of_length_le (by omega)]at h1;exact⟨ds,h1,h2⟩
    ·simp at h
   ·simp at h
  ·rename_i e hu;split at h
   ·rename_i T' hT;split at h
    ·rename_i hc;simp only[Option.some.injEq]at h;subst h;rw[Bool.and_eq_true]at hc;have hc1:=Nat.eq_of_beq_eq_true hc.1;have hc2:=hc.2;rw[Nat.blt_eq]at hc2;rcases open_slice hu ht with⟨rfl,_⟩|⟨a,len,cap,k,n,Dd,Pl,rfl,_,hle,hcap,hk,_,hel⟩
     ·exact⟨[.sl []],⟨.nil _ _,trivial⟩,by simp only[hasL,hasC];exact⟨_,_,rfl,⟨[],rfl,by simp,by simp⟩,rfl⟩⟩
     ·by_cases hl0:len=0
      ·subst hl0;exact⟨[.sl []],⟨.nil _ _,trivial⟩,by simp only[hasL,hasC];exact⟨_,_,rfl,⟨[],rfl,by simp,by simp⟩,rfl⟩⟩
      ·have hlk:len≤k:=by rw[hk];split<;>omega
       have hrow:∀i,i<len→∃ds,(∀j,j<T'.length→∃v,w.cell? (a.add (i*T'.length+j))=some v∧CD w F (nth .undef ds j) v)∧hasL T' ds:=by intro i hi;obtain⟨us,h1,h2⟩:=hel i (by omega);obtain⟨ds,h3,h4⟩:=read_data hF m e T' n us _ hT h2;refine⟨ds,fun j hj=>?_,h4⟩;rw[hc1]at h1;obtain⟨_,hul,hc⟩:=World.cells?_some h1;have:=hc j hj;rw[add_add,List.getElem?_eq_getElem (by omega)]at this;have h5:=All2.nth (.undef) undef ds us j h3 (by rw[hasL_length h4];exact hj);rw[nth_of_lt undef (show j<us.length by omega)]at h5;exact⟨_,this,h5⟩
       obtain⟨es,hes⟩:=choose_lt hrow;have hsp:a.spot=none:=by
        obtain⟨v,h1,_⟩:=(hes 0 (by omega)).1 0 hc2;simp only[Nat.zero_mul,Nat.add_zero,Addr.add,if_true]at h1;unfold World.cell? at h1;split at h1
        ·split at h1
         ·simp at h1
         ·rename_i hs;simpa using hs
        ·simp at h1
       obtain⟨b,o,sp⟩:=a;simp only at hsp;subst hsp;have hadd:∀j,(⟨b,o,none⟩:Addr).add j=⟨b,o+j,none⟩:=by
        intro j;unfold Addr.add;by_cases hj:j=0
        ·subst hj;simp
        ·rw[if_neg hj]
       have hb:b<w.heap.size:=by
        obtain⟨v,h1,_⟩:=(hes 0 (by omega)).1 0 hc2;rw[hadd]at h1;unfold World.cell? at h1;split at h1
        ·rename_i hh;exact(Array.getElem?_eq_some_iff.1 hh).1
        ·simp at h1
       have hlenE:((List.range len).map es).length=len:=by simp
       have hrows:∀r∈(List.range len).map es,r.length=T'.length:=by intro r hr;simp only[List.mem_map,List.mem_range]at hr;obtain⟨i,hi,rfl⟩:=hr;exact hasL_length (hes i hi).2
       have hcells:∀j,j<len*T'.length→∃v,w.cell? ⟨b,o+j,none⟩=some v∧CD w F (nth .undef ((List.range len).map es).flatten j) v:=by
        intro j hj;have hi:j/T'.length<len:=by rw[Nat.div_lt_iff_lt_mul hc2];exact hj
        obtain⟨v,h1,h2⟩:=(hes _ hi).1 (j%T'.length) (Nat.mod_lt _ hc2);rw[hadd,Nat.mul_comm,Nat.div_add_mod]at h1;refine⟨v,h1,?_⟩;rw[nth_flatRd hc2 hrows j (by rw[hlenE];exact hj)];have:nth [] ((List.range len).map es) (j/T'.length)=es (j/T'.length):=by rw[nth_eq];simp[hi]
        rw[this];exact h2
       obtain⟨vs,hvs⟩:=choose_lt hcells;refine⟨[.sl ((List.range len).map es)],⟨?_,trivial⟩,?_⟩
       ·have:=CD.sl (w:=w) (F:=F) ((List.range len).map es) b o cap T'.length vs (by rw[hlenE];exact hle) hrows (hF b hb) (fun j hj=>(hvs j (by rw[hlenE]at hj;exact hj)).1) (fun j hj=>(hvs j (by rw[hlenE]at hj;exact hj)).2);rw[hlenE]at this;exact this
       ·simp only[hasL,hasC];refine⟨_,_,rfl,⟨_,rfl,by rw[hlenE];omega,fun r hr=>?_⟩,rfl⟩;simp only[List.mem_map,List.mem_range]at hr;obtain⟨i,hi,rfl⟩:=hr;exact(hes i hi).2
    ·simp at h
   ·simp at h
  ·simp at h
end
end Eng
end

section
namespace Eng
open Go
theorem hasL_nth:∀{T:List CT} {r:List D},hasL T r→∀i,i<r.length→∃t,hasC t (nth .undef r i)
 |[],r,h,i,hi=>by simp only[hasL]at h;subst h;simp at hi
 |t::T,r,h,i,hi=>by
  simp only[hasL]at h;obtain⟨d,r',rfl,h1,h2⟩:=h;cases i with
  |zero=>exact⟨t,h1⟩
  |succ i=>exact hasL_nth h2 i (by simpa using hi)
theorem CD_env {E E':Env} {w:World} {F:Nat→Prop} {d:D} {v:Value} (h: @CD E w F d v):∀T,hasC T d→ @CD E' w F d v:=by
 induction h with
 |undef v h=>intro _ _;exact @CD.undef E' w F v h
 |bool b=>intro _ _;exact @CD.bool E' w F b
 |int k n=>intro _ _;exact @CD.int E' w F k n
 |str s=>intro _ _;exact @CD.str E' w F s
 |nil a c=>intro _ _;exact @CD.nil E' w F a c
 |nilI=>intro _ _;exact @CD.nilI E' w F
 |someI t v h=>intro _ _;exact @CD.someI E' w F t v h
 |nilP=>intro _ _;exact @CD.nilP E' w F
 |fn f=>intro _ _;exact @CD.fn E' w F f
 |sl es b o c size vs hlc hs hFb hc _ ih=>
  intro T hT;refine @CD.sl E' w F es b o c size vs hlc hs hFb hc fun j hj=>?_
  have hsz:0<size:=by
   rcases Nat.eq_zero_or_pos size with e|e
   ·subst e;omega
   ·exact e
  have hji:j/size<es.length:=Nat.div_lt_of_lt_mul (by rw[Nat.mul_comm];exact hj);have hmem:nth [] es (j/size)∈es:=by rw[nth_eq,List.getElem?_eq_getElem hji];exact List.getElem_mem hji
  cases T with
  |sl T'=>simp only[hasC]at hT;obtain⟨es',e,_,hr⟩:=hT;cases e;obtain⟨t,ht⟩:=hasL_nth (hr _ hmem) (j%size) (by rw[hs _ hmem];exact Nat.mod_lt _ hsz);rw[←nth_flatRd hsz hs j hj]at ht;exact ih j hj t ht
  |int k=>simp only[hasC]at hT;obtain⟨n,e,_⟩:=hT;cases e
  |bool=>simp only[hasC]at hT;obtain⟨n,e⟩:=hT;cases e
  |str=>simp only[hasC]at hT;obtain⟨n,e,_⟩:=hT;cases e
 |ptr cs b o vs hFb hc _ _=>
  intro T hT;cases T with
  |sl T'=>simp only[hasC]at hT;obtain⟨n,e,_⟩:=hT;cases e
  |int k=>simp only[hasC]at hT;obtain⟨n,e,_⟩:=hT;cases e
  |bool=>simp only[hasC]at hT;obtain⟨n,e⟩:=hT;cases e
  |str=>simp only[hasC]at hT;obtain⟨n,e,_⟩:=hT;cases e
 |clo f ps vs _ _=>
  intro T hT;cases T with
  |sl T'=>simp only[hasC]at hT;obtain⟨n,e,_⟩:=hT;cases e
  |int k=>simp only[hasC]at hT;obtain⟨n,e,_⟩:=hT;cases e
  |bool=>simp only[hasC]at hT;obtain⟨n,e⟩:=hT;cases e
  |str=>simp only[hasC]at hT;obtain⟨n,e,_⟩:=hT;cases e
 |tok p i v _ _=>
  intro T hT;cases T with
  |sl T'=>simp only[hasC]at hT;obtain⟨n,e,_⟩:=hT;cases e
  |int k=>simp only[hasC]at hT;obtain⟨n,e,_⟩:=hT;cases e
  |bool=>simp only[hasC]at hT;obtain⟨n,e⟩:=hT;cases e
  |str=>simp only[hasC]at hT;obtain⟨n,e,_⟩:=hT;cases e
end Eng
end

section
namespace Eng
open Go Go.RowKit Go.WideShapes Go.ChangeShapes
section
variable [Env] {H:Type} {enc:TypeId×Value→H} {P:Program}
omit [Env] in
theorem post_of_below' {f:Func} {s:ChangeSpec} {apart fresh handsOn again:Bool} {W W':World} {args:Array Value} {v:Value} {ds gs:List (DataW H)} {before pa pv:List MemPlace}
 (hW:DataW.Whole enc P f.params.toList s.vars apart W args.toList ds gs before)
 (hres:∀(b:Nat) (sp:Nat→Bool) (hd:Bool),DataW.TrodAll enc P W' b sp hd f.resultTypes.toList (v.resultList f.resultTypes.size) (s.fn H (ds++gs)).results [])
 (hargs:∀sp:Nat→Bool,(∀p∈before,sp p.block=true)→DataW.TrodAll enc P W' 0 sp true f.params.toList args.toList (s.fn H (ds++gs)).args pa)
 (hvars:∀sp:Nat→Bool,(∀p∈before,sp p.block=true)→DataW.TrodVars enc P W' sp s.vars (s.fn H (ds++gs)).vars pv)
 (hps:before=pa++pv) (hb:Below W.heap.size W W')
 (hok:∀(j:Nat) (t:TypeId) (r:Value),f.resultTypes[j]? =some t→(v.resultList f.resultTypes.size)[j]? =some r→Value.okWide P W' .any 0 t r):
 s.post enc P f apart fresh handsOn again W args v W':=by
 have hlt:∀p∈before,p.block<W.heap.size:=fun p hp=>hW.lt p hp
 have hold:∀p∈before,(fun b=>decide (b<W.heap.size)) p.block=true:=fun p hp=>by simpa using hlt p hp
 refine⟨ds,gs,before,[],pa,pv,hW,hres _ _ _,hargs _ hold,hvars _ hold,World.keptBut_mono (fun p hp=>⟨hp,?_⟩) (hb.frame (· ∈before)),fun _=>?_⟩
 ·rw[hps,List.mem_append]at hp;exact Or.inr hp
 ·obtain⟨_,_,_,_,_,hz,hn⟩:=hW;refine⟨hok,_,_,([]++pa)++pv,⟨[]++pa,pv,trodAll_append (hargs _ (fun _ _=>rfl)) (hres _ _ _),hvars _ (fun _ _=>rfl),rfl,?_,?_⟩,?_⟩
  ·intro b off hp;have hin:MemPlace.cell b off∈before:=by rw[hps];simpa using hp
   rw[hb.frozen (hlt _ hin)];exact hz b off hin
  ·intro ha;have:=hn ha;rw[hps]at this
   simpa using this
  ·intro p hp _;rw[hps]
   simpa using hp
omit [Env] in
theorem trodAll_stays (hl:laidOutB P=true) {W W':World} (hb:Below W.heap.size W W') {sp:Nat→Bool}:∀{ts:List TypeId} {vs:List Value} {ds:List (DataW H)} {ps:List MemPlace},
 (∀t∈ts,P.readableRec t=true∧t<P.types.size)→DataW.TrodAll enc P W 0 (fun _=>true) true ts vs ds ps→(∀x∈ps,x.block<W.heap.size)→(∀x∈ps,sp x.block=true)→
 DataW.TrodAll enc P W' 0 sp true ts vs ds ps
 |[],[],[],_,_,h,_,_=>h
 |t::ts,v::vs,d::ds,_,ht,h,hlt,hsp=>by obtain⟨p,q,h1,h2,rfl⟩:=h;refine⟨p,q,?_,trodAll_stays hl hb (fun t' h'=>ht t' (by simp[h'])) h2 (fun x hx=>hlt x (by simp[hx])) (fun x hx=>hsp x (by simp[hx])),rfl⟩;exact WideElems.Trod_stays hl (ht t (by simp)).1 (ht t (by simp)).2 h1 (fun x hx=>hb.same (hlt x (by simp[hx]))) (fun x hx=>hsp x (by simp[hx]))
 |[],[],_::_,_,_,h,_,_=>h.elim
 |[],_::_,_,_,_,h,_,_=>by cases ‹List (DataW H)› <;>exact h.elim
 |_::_,[],_,_,_,h,_,_=>by cases ‹List (DataW H)› <;>exact h.elim
 |_::_,_::_,[],_,_,h,_,_=>h.elim
def hasA (P:Program) (m:Nat) (t:TypeId) (a:A):Prop:=
 ∃T,cellTys P m t=some T∧((tAgg P t=true∧∃ds,a= .ag ds∧hasL T ds)∨(tAgg P t=false∧∃d,a= .c d∧hasL T [d]))
omit [Env] in
theorem okWide_array {n:Nat} {e t:TypeId} {w:World} {r:Reach} {b:Nat} {v:Value} (ht:P.underlying t=some (.array n e)) (h:Value.okWide P w r b t v):∃cs,v= .agg cs∧cs.size=P.cellsOf t:=by
 simp only[Value.okWide,ht]at h;obtain⟨cs,h1,h2,_⟩:=h;exact⟨cs,h1,h2⟩
theorem arg_read {w:World} {F:Nat→Prop} (hF:∀b,b<w.heap.size→F b) {m base b0:Nat} {r:Reach} {sp:Nat→Bool} {held:Bool} {t:TypeId} {T:List CT} {v:Value} {d:DataW H} {p:List MemPlace}
 (hT:cellTys P m t=some T) (hv:Value.okWide P w r b0 t v) (h:DataW.Trod enc P w base sp held t v d p):∃a,CA w F a v∧hasA P m t a:=by
 obtain⟨fuel,hf⟩:=h;obtain⟨ds,h1,h2⟩:=read_data hF m t T fuel _ _ hT hf;have one:v.cells= #[v]→tAgg P t=false→∃a,CA w F a v∧hasA P m t a:=by intro hc ht;rw[hc]at h1;have hl:=h1.length;simp only[List.length_singleton]at hl;obtain⟨d0,rfl⟩:=List.length_eq_one_iff.1 hl;exact⟨.c d0,h1.1,T,hT,.inr ⟨ht,d0,rfl,h2⟩⟩
 have ag:∀cs,v= .agg cs→tAgg P t=true→∃a,CA w F a v∧hasA P m t a:=by intro cs hc ht;subst hc;exact⟨.ag ds,⟨cs,rfl,h1⟩,T,hT,.inl ⟨ht,ds,rfl,h2⟩⟩
 cases m with
 |zero=>simp[cellTys]at hT
 |succ m=>
  simp only[cellTys]at hT;split at hT
  ·rename_i k hu;obtain⟨n,rfl⟩:=okWide_int hu hv;exact one rfl (by unfold tAgg;rw[hu])
  ·rename_i hu;obtain⟨b,rfl⟩:=okWide_bool hu hv;exact one rfl (by unfold tAgg;rw[hu])
  ·rename_i hu;obtain⟨s,rfl⟩:=okWide_string hu hv;exact one rfl (by unfold tAgg;rw[hu])
  ·rename_i fs hu;obtain⟨cs,rfl,_⟩:=okWide_struct hu hv;exact ag cs rfl (by unfold tAgg;rw[hu])
  ·rename_i n e hu;obtain⟨cs,rfl,_⟩:=okWide_array hu hv;exact ag cs rfl (by unfold tAgg;rw[hu])
  ·rename_i e hu;obtain⟨a,len,cap,rfl⟩:=okWide_slice hu hv;exact one rfl (by unfold tAgg;rw[hu])
  ·simp at hT
theorem args_read {w:World} {F:Nat→Prop} (hF:∀b,b<w.heap.size→F b) {m base b0:Nat} {r:Reach} {sp:Nat→Bool} {held:Bool}:∀{ts:List TypeId} {vs:List Value} {ds:List (DataW H)} {ps:List MemPlace},
 (∀t∈ts,(cellTys P m t).isSome=true)→(∀(j:Nat) t v,ts[j]? =some t→vs[j]? =some v→Value.okWide P w r b0 t v)→DataW.TrodAll enc P w base sp held ts vs ds ps→
 ∃as',All2 (CA w F) as' vs∧All2 (hasA P m) ts as'
 |[],[],[],_,_,_,_=>⟨[],trivial,trivial⟩
 |t::ts,v::vs,d::ds,_,ht,hv,h=>by obtain⟨p,q,h1,h2,rfl⟩:=h;obtain⟨T,hT⟩:=Option.isSome_iff_exists.1 (ht t (by simp));obtain⟨a,e1,e2⟩:=arg_read hF hT (hv 0 t v rfl rfl) h1;obtain⟨as',e3,e4⟩:=args_read hF (fun t' h'=>ht t' (by simp[h'])) (fun j t' v' h3 h4=>hv (j+1) t' v' (by simpa using h3) (by simpa using h4)) h2;exact⟨a::as',⟨e1,e3⟩,⟨e2,e4⟩⟩
 |[],[],_::_,_,_,_,h=>h.elim
 |[],_::_,_,_,_,_,h=>by cases ‹List (DataW H)› <;>exact h.elim
 |_::_,[],_,_,_,_,h=>by cases ‹List (DataW H)› <;>exact h.elim
 |_::_,_::_,[],_,_,_,h=>h.elim
omit [Env] in
theorem all2_env {E E':Env} {w:World} {F:Nat→Prop}:∀{T:List CT} {ds:List D} {vs:List Value},hasL T ds→All2 (@CD E w F) ds vs→All2 (@CD E' w F) ds vs
 |[],ds,vs,h,k=>by simp only[hasL]at h;subst h;cases vs<;>first|trivial|exact k.elim
 |t::T,ds,vs,h,k=>by
  simp only[hasL]at h;obtain⟨d,r,rfl,h1,h2⟩:=h;cases vs with
  |nil=>exact k.elim
  |cons v vs=>exact⟨CD_env k.1 t h1,all2_env h2 k.2⟩
omit [Env] in
theorem arg_env {E E':Env} {w:World} {F:Nat→Prop} {m:Nat} {t:TypeId} {a:A} {v:Value} (h:hasA P m t a) (k: @CA E w F a v): @CA E' w F a v:=by
 obtain⟨T,_,h⟩:=h;rcases h with⟨_,ds,rfl,h⟩|⟨_,d,rfl,h⟩
 ·obtain⟨vs,e,k⟩:=k;exact⟨vs,e,all2_env h k⟩
 ·have:=all2_env (E':=E') (vs:=[v]) h ⟨k,trivial⟩;exact this.1
omit [Env] in
theorem args_env {E E':Env} {w:World} {F:Nat→Prop} {m:Nat}:∀{ts:List TypeId} {al:List A} {vs:List Value},All2 (hasA P m) ts al→All2 (@CA E w F) al vs→All2 (@CA E' w F) al vs
 |[],[],vs,_,k=>by cases vs<;>first|trivial|exact k.elim
 |t::ts,a::al,vs,h,k=>by
  cases vs with
  |nil=>exact k.elim
  |cons v vs=>exact⟨arg_env h.1 k.1,args_env h.2 k.2⟩
 |[],_::_,_,h,_=>h.elim
 |_::_,[],_,h,_=>h.elim
theorem law_call {C:Cx} {f:Nat} {fn:Func} {s:ChangeSpec} {m bt:Nat} {apart fresh handsOn again:Bool} (hl:laidOutB C.P=true) (hbt:C.P.underlying bt=some .bool)
 (hres:fn.resultTypes= #[bt]) (hrd:∀t∈fn.params.toList,C.P.readableRec t=true∧t<C.P.types.size∧(cellTys C.P m t).isSome=true)
 (hvars:s.vars=[]) (hfn:∀ds:List (DataW H),ds.length=fn.params.size→s.fn H ds={results:=[.lit (.bool true)],args:=ds})
 (hg:∀al:List A,All2 (hasA C.P m) fn.params.toList al→∃E:Env, @Gives E C f al [.c (.bool true)])
 {W:World} {base:Nat} {args:Array Value} {ds gs:List (DataW H)} {before:List MemPlace} (hi:∀E:Env, @Inv E C (fun b=>b<W.heap.size) W)
 (hval:∀(j:Nat) t v,fn.params[j]? =some t→args[j]? =some v→Value.okWide C.P W .any base t v)
 (hW:DataW.Whole enc C.P fn.params.toList s.vars apart W args.toList ds gs before):
 Calls C.P f args W fun e W'=>∃v,e= .returned v∧s.post enc C.P fn apart fresh handsOn again W args v W':=by
 have hW':=hW;have hlt:∀p∈before,p.block<W.heap.size:=fun p hp=>hW.lt p hp
 obtain⟨p,q,hA,hV,rfl,hfz,hnd⟩:=hW;rw[hvars]at hV;have hgq:gs=[]∧q=[]:=by
  cases gs with
  |nil=>exact⟨rfl,hV⟩
  |cons g gs=>exact hV.elim
 obtain⟨rfl,rfl⟩:=hgq;have hlen:ds.length=fn.params.size:=by
  have key:∀{ts:List TypeId} {vs:List Value} {ds:List (DataW H)} {ps:List MemPlace},DataW.TrodAll enc C.P W 0 (fun _=>true) true ts vs ds ps→ds.length=ts.length:=by
   intro ts
   induction ts with
   |nil=>intro vs ds ps h;cases vs<;>cases ds<;>first|rfl|exact h.elim
   |cons t ts ih=>
    intro vs ds ps h;cases vs with
    |nil=>cases ds<;>exact h.elim
    |cons v vs=>cases ds with
     |nil=>exact h.elim
     |cons d ds=>obtain⟨p,q,_,h2,_⟩:=h;simp[ih h2]
  rw[key hA];simp
 obtain⟨al,h1,h2⟩:=args_read (F:=fun b=>b<W.heap.size) (fun _ h=>h) (m:=m) (fun t ht=>(hrd t ht).2.2) (fun j t v h3 h4=>hval j t v (by simpa using h3) (by simpa using h4)) hA;obtain⟨E,hE⟩:=hg al h2;have hc:=hE W (fun b=>b<W.heap.size) args.toList (fun _ h=>h) (hi E) (args_env h2 h1);have e0:args.toList.toArray=args:=by simp
 rw[e0]at hc;refine hc.mono fun e W' he=>?_
 obtain⟨hb,v,rfl,hr⟩:=he;have hv:v= .bool true:=by have hr: @CD E _ _ (.bool true) v:=hr;cases hr;rfl
 subst hv;refine⟨_,rfl,post_of_below' (pa:=p++[]) (pv:=[]) hW' ?_ ?_ ?_ (by simp) hb ?_⟩
 ·intro b sp hd;rw[List.append_nil,hfn ds hlen,hres];exact trodAll_mk1 (shut_bool hbt true)
 ·intro sp hsp;rw[List.append_nil,hfn ds hlen,List.append_nil];exact trodAll_stays hl hb (fun t ht=>⟨(hrd t ht).1,(hrd t ht).2.1⟩) hA (fun x hx=>hlt x (by simp[hx])) (fun x hx=>hsp x (by simp[hx]))
 ·intro sp hsp;rw[List.append_nil,hfn ds hlen,hvars];rfl
 ·exact ok_one hres rfl (okWide_bool_mk hbt _)
end
end Eng
end

section
namespace Eng
open Go Go.Proofs Go.RowKit
theorem wpList_app {P:Program} {ops:Array Oper} {Q:Exit→Act→World→Prop} {a:Act} {w w':World} {rest:List Oper} {dst:Option Tmp} {x y:Operand} {ts:Array TypeId} {ty:TypeId} {pos:String} {after:Array Edge} {v':Value}
 (hr:(Builtin.append_ ts ty #[a.eval x,a.eval y]).run P w= .ok v' w') (h:wpList P ops Q rest (a.put dst v') w'):wpList P ops Q (⟨dst,.call ⟨.builtin .append, #[x,y],ts⟩,ty,pos,after,none⟩::rest) a w:=by
 refine wpList_plain rfl fun K hK=>?_
 have hrun:(execOp a.eval ⟨dst,.call ⟨.builtin .append, #[x,y],ts⟩,ty,pos,after,none⟩).run P w= .ok (.value v') w':=by simp[execOp,resolve,invoke,builtin,hr]
 unfold Oper.wp;rw[hrun];exact hK _ _ h
theorem size50:(Tryz.prog.info? 92).map (·.size)=some 2:=by kernel_rfl
theorem lies50:liesAt Tryz.prog Tryz.prog.depth 92 (2/Tryz.prog.cellsOf 92) 0 92 1=true:=by kernel_rfl
set_option maxHeartbeats 1000000 in
set_option maxRecDepth 100000 in
theorem cc_used {w:World} {b:Nat} (h0:w.cell? ⟨b,0,none⟩=some (.pointer (some ⟨b,0,none⟩))):
 Calls Tryz.prog 80 #[.pointer (some ⟨b,0,none⟩)] w fun e w'=>e= .returned (.tuple #[])∧w'=w:=by
 obtain⟨j,hj,_⟩:=Option.map_eq_some_iff.1 size50
 go_enter Tryz.func80,Tryz.ntmps80
 go_wp2
 rw[Lib.run_neq_ptr_same w _ Tryz.underlying89 hj]
 go_wp2
 go_end0
 exact⟨rfl,rfl⟩
set_option maxHeartbeats 1000000 in
set_option maxRecDepth 100000 in
theorem cc_fresh {w:World} {b:Nat} (h0:w.cell? ⟨b,0,none⟩=some (.pointer none)) (hsh:w.shape? b=some (92,2)) (hfz:w.frozen? ⟨b,0,none⟩=false):
 Calls Tryz.prog 80 #[.pointer (some ⟨b,0,none⟩)] w fun e w'=>e= .returned (.tuple #[])∧w'=w.setCell ⟨b,0,none⟩ (.pointer (some ⟨b,0,none⟩)):=by
 obtain⟨j,hj,hjs⟩:=Option.map_eq_some_iff.1 size50
 go_enter Tryz.func80,Tryz.ntmps80
 go_wp2
 rw[Lib.run_to_unsafe w ⟨b,0,none⟩ Tryz.underlying89 Tryz.underlying190 hj (by rw[hjs];decide) hsh (Nat.zero_lt_succ 1)];simp only[Result.andThen];rw[Oper.upon_value]
 go_wp2
 rw[run_callFunc_extern Tryz.func135 (by kernel_rfl) (by kernel_rfl) (by kernel_rfl) (e:=Extern.AbiNoEscape.same) (by kernel_rfl)];rw[Lib.run_noEscape];simp only[Result.andThen];rw[Oper.upon_value]
 go_wp2
 rw[Lib.run_from_unsafe w ⟨b,0,none⟩ Tryz.underlying190 Tryz.underlying89 hj hsh lies50];simp only[Result.andThen];rw[Oper.upon_value]
 go_wp2
 go_end0
 exact⟨rfl,rfl⟩
theorem cc_ok {w:World} {b:Nat} {p v:Value} (hb:w.heap[b]? =some (.cells #[p,v] 92 (0,0))) (hp:p= .pointer none∨p= .pointer (some ⟨b,0,none⟩)):
 Calls Tryz.prog 80 #[.pointer (some ⟨b,0,none⟩)] w fun e w'=>e= .returned (.tuple #[])∧w'=setBlk w b (.cells #[.pointer (some ⟨b,0,none⟩),v] 92 (0,0)):=by
 rcases hp with rfl|rfl
 ·have h0:w.cell? ⟨b,0,none⟩=some (.pointer none):=by simp[World.cell?,hb]
  have hsh:w.shape? b=some (92,2):=by simp[World.shape?,hb]
  have hfz:w.frozen? ⟨b,0,none⟩=false:=Lib.frozen_of_heap hb 0;refine(cc_fresh h0 hsh hfz).mono ?_;rintro e w' ⟨rfl,rfl⟩;refine⟨rfl,?_⟩;exact setCell_blk hb
 ·have h0:w.cell? ⟨b,0,none⟩=some (.pointer (some ⟨b,0,none⟩)):=by simp[World.cell?,hb]
  refine(cc_used h0).mono ?_;rintro e w' ⟨rfl,rfl⟩;exact⟨rfl,(setBlk_self hb).symm⟩
theorem info5:(Tryz.prog.info? 5).map (fun i=>(i.zero,i.size,i.bytes))=some (some (.int .u8 0),1,1):=by kernel_rfl
set_option maxHeartbeats 1000000 in
set_option maxRecDepth 100000 in
theorem ws_ok {w:World} {b:Nat} {p v:Value} {own:Option (Nat×Nat)} {bs:List Value} (s:ByteArray) (hb:w.heap[b]? =some (.cells #[p,v] 92 (0,0))) (hp:p= .pointer none∨p= .pointer (some ⟨b,0,none⟩)) (hv:Buf 5 w b own v bs) (hroom:bs.length+s.size≤1073741824):
 Calls Tryz.prog 39 #[.pointer (some ⟨b,0,none⟩),.string s] w fun e w'=>e= .returned (.tuple #[.int .i64 s.size,.nilIface])∧Wrote 92 5 w b own (bs++byteCells s) w':=by
 have hlt:b<w.heap.size:=by
  rcases Nat.lt_or_ge b w.heap.size with h|h
  ·exact h
  ·rw[Array.getElem?_eq_none h]at hb;simp at hb
 have hne:∀g,hasBlk own g→g≠b:=fun g hg=>by obtain⟨c,rfl⟩:=hg;exact hv.2.1
 generalize hw1:setBlk w b (.cells #[.pointer (some ⟨b,0,none⟩),v] 92 (0,0))=w1 at *;have hcc:Calls Tryz.prog 80 #[.pointer (some ⟨b,0,none⟩)] w fun e w'=>e= .returned (.tuple #[])∧w'=w1:=by rw[←hw1];exact cc_ok hb hp
 have hb1:w1.heap[b]? =some (.cells #[.pointer (some ⟨b,0,none⟩),v] 92 (0,0)):=by rw[←hw1];exact setBlk_at hlt
 have hs1:w1.heap.size≤w.heap.size:=by rw[←hw1];exact Nat.le_of_eq setBlk_size
 have hs2:w.heap.size≤w1.heap.size:=by rw[←hw1];exact Nat.le_of_eq setBlk_size.symm
 have hoth:∀k,k≠b→w1.heap[k]? =w.heap[k]? :=fun k hk=>by rw[←hw1];exact setBlk_ne (Ne.symm hk)
 have hbel:Below 0 w w1:=⟨by rw[←hw1];rfl,by rw[←hw1];rfl,by rw[←hw1];rfl,by omega,fun k hk=>by omega⟩;have hv1:Buf 5 w1 b own v bs:=by
  cases own with
  |none=>exact hv
  |some gc=>obtain⟨g,c⟩:=gc;obtain⟨q1,q2,q3,q4,cs,t,q5,q6,q7⟩:=hv;exact⟨q1,q2,by omega,q4,cs,t,by rw[hoth g q2];exact q5,q6,q7⟩
 clear hw1;obtain⟨i5,hi5,hi5z,hi5s,hi5b⟩:=info_parts info5;obtain⟨v',w2,own',hr,hbuf,hk,hsub⟩:=append_buf (P:=Tryz.prog) (t:=90) (tx:=9) (e:=5) (ty:=90) Tryz.underlying90 hi5 hi5z hi5s rfl hi5b hv1 (by omega) (Src.ofString w1 Tryz.underlying9 s) hroom;have hb2:w2.heap[b]? =some (.cells #[.pointer (some ⟨b,0,none⟩),v] 92 (0,0)):=by rw[hk.block b (by omega) fun hg=>hne b hg rfl];exact hb1
 have c1:w1.cell? ⟨b,1,none⟩=some v:=by rw[Lib.cell_of_heap hb1];rfl
 have f2:w2.frozen? ⟨b,1,none⟩=false:=Lib.frozen_of_heap hb2 1;have d1:w2.cell? ⟨b,1,none⟩=some v:=by rw[Lib.cell_of_heap hb2];rfl
 obtain⟨ao,n',cap,rfl⟩:∃ao n' cap,v'= .slice ao n' cap:=by
  cases own' with
  |none=>exact⟨_,_,_,hbuf.1⟩
  |some gc=>exact⟨_,_,_,hbuf.1⟩
 go_enter Tryz.func39,Tryz.ntmps39
 go_wp2_with (first|(go_at_call 80;refine hcc.mono ?_;rintro e w1' ⟨rfl,rfl⟩)|(at_builtin;refine wpList_app hr ?_))
 go_ret2
 refine⟨rfl,?_⟩;have hlt2:b<w2.heap.size:=Nat.lt_of_lt_of_le (by omega) hk.below.size;have hset:w2.setCell ⟨b,1,none⟩ (.slice ao n' cap)=setBlk w2 b (.cells #[.pointer (some ⟨b,0,none⟩),.slice ao n' cap] 92 (0,0)):=setCell_blk hb2;rw[hset];have hsub':∀g,hasBlk own' g→g≠b:=fun g hg=>by
  rcases hsub g hg with h|h
  ·exact hne g h
  ·omega
 refine⟨_,own',setBlk_at hlt2,?_,⟨hbel.trans (hk.below.trans ⟨rfl,rfl,rfl,by rw[setBlk_size];omega,fun k hk=>by omega⟩),fun k hkk hn=>?_⟩,fun g hg=>(hsub g hg).imp_right fun h=>by omega⟩
 ·cases own' with
  |none=>exact hbuf
  |some gc=>obtain⟨g,c⟩:=gc;obtain⟨q1,q2,q3,q4,cs,t,q5,q6,q7⟩:=hbuf;exact⟨q1,q2,by rw[setBlk_size];exact q3,q4,cs,t,by rw[setBlk_ne (Ne.symm q2)];exact q5,q6,q7⟩
 ·have h1:k≠b:=fun e=>hn (.inl e)
  rw[setBlk_ne (Ne.symm h1),hk.block k (by omega) fun h=>hn (.inr h),hoth k h1]
set_option maxHeartbeats 1000000 in
set_option maxRecDepth 100000 in
theorem wb_ok {w:World} {b:Nat} {p v:Value} {own:Option (Nat×Nat)} {bs:List Value} (c:Int) (hb:w.heap[b]? =some (.cells #[p,v] 92 (0,0))) (hp:p= .pointer none∨p= .pointer (some ⟨b,0,none⟩)) (hv:Buf 5 w b own v bs) (hroom:bs.length+1≤1073741824):
 Calls Tryz.prog 147 #[.pointer (some ⟨b,0,none⟩),.int .u8 c] w fun e w'=>e= .returned .nilIface∧Wrote 92 5 w b own (bs++[.int .u8 c]) w':=by
 have hlt:b<w.heap.size:=by
  rcases Nat.lt_or_ge b w.heap.size with h|h
  ·exact h
  ·rw[Array.getElem?_eq_none h]at hb;simp at hb
 have hne:∀g,hasBlk own g→g≠b:=fun g hg=>by obtain⟨c,rfl⟩:=hg;exact hv.2.1
 generalize hw1:setBlk w b (.cells #[.pointer (some ⟨b,0,none⟩),v] 92 (0,0))=w1 at *;have hcc:Calls Tryz.prog 80 #[.pointer (some ⟨b,0,none⟩)] w fun e w'=>e= .returned (.tuple #[])∧w'=w1:=by rw[←hw1];exact cc_ok hb hp
 have hb1:w1.heap[b]? =some (.cells #[.pointer (some ⟨b,0,none⟩),v] 92 (0,0)):=by rw[←hw1];exact setBlk_at hlt
 have hs1:w1.heap.size≤w.heap.size:=by rw[←hw1];exact Nat.le_of_eq setBlk_size
 have hs2:w.heap.size≤w1.heap.size:=by rw[←hw1];exact Nat.le_of_eq setBlk_size.symm
 have hoth:∀k,k≠b→w1.heap[k]? =w.heap[k]? :=fun k hk=>by rw[←hw1];exact setBlk_ne (Ne.symm hk)
 have hbel:Below 0 w w1:=⟨by rw[←hw1];rfl,by rw[←hw1];rfl,by rw[←hw1];rfl,by omega,fun k hk=>by omega⟩;have hv1:Buf 5 w1 b own v bs:=by
  cases own with
  |none=>exact hv
  |some gc=>obtain⟨g,c⟩:=gc;obtain⟨q1,q2,q3,q4,cs,t,q5,q6,q7⟩:=hv;exact⟨q1,q2,by omega,q4,cs,t,by rw[hoth g q2];exact q5,q6,q7⟩
 clear hw1;obtain⟨i5,hi5,hi5z,hi5s,hi5b⟩:=info_parts info5;generalize hwA:w1.alloc (.cells #[.int .u8 c] 5)=wA at *;have hszA:wA.heap.size≤w1.heap.size+1:=by rw[←hwA,World.size_alloc];exact Nat.le_refl _
 have hszB:w1.heap.size+1≤wA.heap.size:=by rw[←hwA,World.size_alloc];exact Nat.le_refl _
 have hothA:∀k,k<w1.heap.size→wA.heap[k]? =w1.heap[k]? :=fun k hk=>by rw[←hwA];exact Below.heap_alloc _ _ _ hk
 have hbelA:Below 0 w1 wA:=by rw[←hwA];exact(Below.refl 0 w1).alloc (Nat.zero_le _) _
 have hvA:Buf 5 wA b own v bs:=by
  cases own with
  |none=>exact hv1
  |some gc=>obtain⟨g,c⟩:=gc;obtain⟨q1,q2,q3,q4,cs,t,q5,q6,q7⟩:=hv1;exact⟨q1,q2,by omega,q4,cs,t,by rw[hothA g q3];exact q5,q6,q7⟩
 have hsrc:Src Tryz.prog 1 90 (.slice (some ⟨w1.heap.size,0,none⟩) 1 1) 1 [.int .u8 c] wA:=by
  refine Src.ofSlice wA (e':=5) Tryz.underlying90 _ 1 1 _ rfl (fun j u hj=>?_) (fun u hu=>by simp at hu;subst hu;rfl)
  match j,hj with
  |0,hj=>
   simp at hj;subst hj;have hbA:wA.heap[w1.heap.size]? =some (.cells #[.int .u8 c] 5 (0,0)):=by rw[←hwA];exact Array.getElem?_push_size
   rw[addr_add];show wA.cell? ⟨w1.heap.size,0,none⟩=_;rw[cell_blk hbA];rfl
 obtain⟨v',w2,own',hr,hbuf,hk,hsub⟩:=append_buf (P:=Tryz.prog) (t:=90) (tx:=90) (e:=5) (ty:=90) Tryz.underlying90 hi5 hi5z hi5s rfl hi5b hvA (by omega) hsrc hroom;subst hwA;have hb2:w2.heap[b]? =some (.cells #[.pointer (some ⟨b,0,none⟩),v] 92 (0,0)):=by rw[hk.block b (by omega) fun hg=>hne b hg rfl,hothA b (by omega)];exact hb1
 have c1:w1.cell? ⟨b,1,none⟩=some v:=by rw[Lib.cell_of_heap hb1];rfl
 have f2:w2.frozen? ⟨b,1,none⟩=false:=Lib.frozen_of_heap hb2 1;have d1:w2.cell? ⟨b,1,none⟩=some v:=by rw[Lib.cell_of_heap hb2];rfl
 obtain⟨ao,n',cap,rfl⟩:∃ao n' cap,v'= .slice ao n' cap:=by
  cases own' with
  |none=>exact⟨_,_,_,hbuf.1⟩
  |some gc=>exact⟨_,_,_,hbuf.1⟩
 go_enter Tryz.func147,Tryz.ntmps147
 go_wp2_with (first|(go_at_call 80;refine hcc.mono ?_;rintro e w1' ⟨rfl,rfl⟩)|(at_builtin;refine wpList_app hr ?_))
 go_ret
 refine⟨rfl,?_⟩;have hlt2:b<w2.heap.size:=Nat.lt_of_lt_of_le (by omega) hk.below.size;have hset:w2.setCell ⟨b,1,none⟩ (.slice ao n' cap)=setBlk w2 b (.cells #[.pointer (some ⟨b,0,none⟩),.slice ao n' cap] 92 (0,0)):=setCell_blk hb2;rw[hset];have hsub':∀g,hasBlk own' g→g≠b:=fun g hg=>by
  rcases hsub g hg with h|h
  ·exact hne g h
  ·omega
 refine⟨_,own',setBlk_at hlt2,?_,⟨hbel.trans (hbelA.trans (hk.below.trans ⟨rfl,rfl,rfl,by rw[setBlk_size];omega,fun k hk=>by omega⟩)),fun k hkk hn=>?_⟩,fun g hg=>(hsub g hg).imp_right fun h=>by omega⟩
 ·cases own' with
  |none=>exact hbuf
  |some gc=>obtain⟨g,c⟩:=gc;obtain⟨q1,q2,q3,q4,cs,t,q5,q6,q7⟩:=hbuf;exact⟨q1,q2,by rw[setBlk_size];exact q3,q4,cs,t,by rw[setBlk_ne (Ne.symm q2)];exact q5,q6,q7⟩
 ·have h1:k≠b:=fun e=>hn (.inl e)
  rw[setBlk_ne (Ne.symm h1),hk.block k (by omega) fun h=>hn (.inr h),hothA k (by omega),hoth k h1]
set_option maxHeartbeats 1000000 in
set_option maxRecDepth 100000 in
theorem st_ok {w:World} {b g c:Nat} {p v:Value} (l:List UInt8) (h0:l≠[]) (hb:w.heap[b]? =some (.cells #[p,v] 92 (0,0))) (hv:Buf 5 w b (some (g,c)) v (l.map fun x=> .int .u8 x.toNat)) (hroom:l.length≤1073741824):
 Calls Tryz.prog 41 #[.pointer (some ⟨b,0,none⟩)] w fun e w'=>e= .returned (.string ⟨l.toArray⟩)∧Keeps w w' (fun k=>k=g):=by
 obtain⟨rfl,hgb,hg,hlc,cs,t,hblk,hcs,hcells,rfl⟩:=hv;rw[List.length_map]at hlc hb;have hl0:l.length≠0:=by simpa using h0
 have c1:w.drew.cell? ⟨b,1,none⟩=some (.slice (some ⟨g,0,none⟩) l.length c):=by have:w.drew.heap[b]? =some (.cells #[p,.slice (some ⟨g,0,none⟩) l.length c] 92 (0,0)):=hb;rw[Lib.cell_of_heap this];rfl
 have hSD:(Builtin.unsafeSliceData_ #[90] 137 #[.slice (some ⟨g,0,none⟩) l.length c]).run Tryz.prog w.drew= .ok (.pointer (some ⟨g,0,none⟩)) w.drew:=
  Lib.run_unsafeSliceData_row _ _ _ _ _ _ (by omega)
 have hUS:(Builtin.unsafeString_ #[137,3] 9 #[.pointer (some ⟨g,0,none⟩),.int .i64 l.length]).run Tryz.prog w.drew= .ok (.string ⟨l.toArray⟩) (w.drew.freeze ⟨g,0,none⟩ l.length):=by have hg':w.drew.heap[g]? =some (.cells cs 5 (0,0)):=hblk;refine Lib.run_unsafeString_row w.drew 137 3 9 5 Tryz.underlying137 (by kernel_rfl) g cs.size (by simp[World.shape?,hg']) l h0 (by omega) (by omega) ?_;intro j x hx;rw[addr_add];show w.drew.cell? ⟨g,0+j,none⟩=_;rw[Nat.zero_add,cell_blk hg'];exact hcells j _ (by simp[hx])
 have hfin:Keeps w (w.drew.freeze ⟨g,0,none⟩ l.length) (fun k=>k=g):=by
  refine⟨Lib.below_freeze (Below.drew (Below.refl 0 w)) (p:=⟨g,0,none⟩) (Nat.zero_le _) _,fun k hk hn=>?_⟩;have hn:k≠g:=hn;unfold World.freeze;split
  ·rfl
  ·show(w.heap.modify g _)[k]? =_;rw[Array.getElem?_modify,if_neg (Ne.symm hn)]
 have mixed:Tryz.prog.follows .mixedOrders=true:=by kernel_rfl
 go_enter Tryz.func41,Tryz.ntmps41
 go_wp2
 go_region_o
 all_goals (go_wp2;go_ret;exact⟨rfl,hfin⟩)
set_option maxHeartbeats 1000000 in
set_option maxRecDepth 100000 in
theorem st_nil {w:World} {b:Nat} {p:Value} (hb:w.heap[b]? =some (.cells #[p,.slice none 0 0] 92 (0,0))):
 Calls Tryz.prog 41 #[.pointer (some ⟨b,0,none⟩)] w fun e w'=>e= .returned (.string ⟨#[]⟩)∧Keeps w w' (fun _=>False):=by
 have c1:w.drew.cell? ⟨b,1,none⟩=some (.slice none 0 0):=by have:w.drew.heap[b]? =some (.cells #[p,.slice none 0 0] 92 (0,0)):=hb;rw[Lib.cell_of_heap this];rfl
 have hSD:(Builtin.unsafeSliceData_ #[90] 137 #[.slice none 0 0]).run Tryz.prog w.drew= .ok (.pointer none) w.drew:=rfl;have hUS:(Builtin.unsafeString_ #[137,3] 9 #[.pointer none,.int .i64 0]).run Tryz.prog w.drew= .ok (.string .empty) w.drew:=Lib.run_unsafeString_none w.drew _ _ _ _;have hfin:Keeps w w.drew (fun _=>False):=⟨Below.drew (Below.refl 0 w),fun _ _ _=>rfl⟩;have mixed:Tryz.prog.follows .mixedOrders=true:=by kernel_rfl
 go_enter Tryz.func41,Tryz.ntmps41
 go_wp2
 go_region_o
 all_goals (go_wp2;go_ret;exact⟨rfl,hfin⟩)
theorem bldK:BldK Tryz.prog 92 5 39 147 41 where
 elem:=by kernel_rfl
 one:=by kernel_rfl
 there f hf:=by
  rcases hf with rfl|rfl|rfl
  ·exact⟨_,Tryz.func39,by simp[Tryz.f39],by decide⟩
  ·exact⟨_,Tryz.func147,by simp[Tryz.f147],by decide⟩
  ·exact⟨_,Tryz.func41,by simp[Tryz.f41],by decide⟩
 ws s hb hp hv hr:=ws_ok s hb hp hv hr
 wb c hb hp hv hr:=wb_ok c hb hp hv hr
 st l h0 hb hv hr:=st_ok l h0 hb hv hr
 sn hb:=st_nil hb
end Eng
end

section
namespace Eng
open Go Go.Proofs Go.RowKit Go.Sort
variable [Env]
omit [Env] in
theorem drop_cons' {us:List Int} {k:Nat} (h:k<us.length):us.drop k=us[k]::us.drop (k+1):=List.drop_eq_getElem_cons h
omit [Env] in
theorem set_mid {done r:List Int} {x y:Int} {d:Array Int} (h:d.toList=done++x::r):(d.setIfInBounds done.length y).toList=(done++[y])++r:=by
 rw[Array.toList_setIfInBounds,h];simp
def SubRel (by_:Int) (us vs:List Int) (d:Array Int) (k:Nat) (c b:Int):Prop:=
 ∃done:List Int,done.length=k∧d.toList=done++us.drop k∧subF by_ us vs 0 0=(done++(subF by_ (us.drop k) (vs.drop k) c b).1,(subF by_ (us.drop k) (vs.drop k) c b).2)
omit [Env] in
theorem subRel_step {by_:Int} {us vs:List Int} {d:Array Int} {k:Nat} {c b:Int} (h:SubRel by_ us vs d k c b) (hk:k<us.length) {t z b':Int}
 (ht:t=subT by_ c (vs.drop k))
 (hz:(IntKind.u64.wrap us[k]<IntKind.u64.wrap (t.tmod 1000000000+b)∧z=IntKind.u32.wrap (IntKind.u64.wrap (IntKind.u64.wrap (IntKind.u64.wrap us[k]+1000000000)-IntKind.u64.wrap (t.tmod 1000000000+b)))∧b'=1)∨
  (¬IntKind.u64.wrap us[k]<IntKind.u64.wrap (t.tmod 1000000000+b)∧z=IntKind.u32.wrap (IntKind.u64.wrap (IntKind.u64.wrap us[k]-IntKind.u64.wrap (t.tmod 1000000000+b)))∧b'=0)):
 SubRel by_ us vs (d.setIfInBounds k z) (k+1) (IntKind.u64.wrap (t.tdiv 1000000000)) b':=by
 obtain⟨done,h1,h2,h3⟩:=h;refine⟨done++[z],by simp[h1],?_,?_⟩
 ·rw[drop_cons' hk]at h2;rw[←h1];have:=set_mid (y:=z) h2;rw[h1]at this ⊢;exact this
 ·rw[h3,drop_cons' hk];have ht2:(vs.drop k).tail=vs.drop (k+1):=by simp
  simp only[subF];rw[←ht,ht2];rcases hz with⟨h4,h5,h6⟩|⟨h4,h5,h6⟩
  ·have:decide (IntKind.u64.wrap us[k]<IntKind.u64.wrap (t.tmod 1000000000+b))=true:=by simpa using h4
   rw[this];subst h5 h6;simp
  ·have:decide (IntKind.u64.wrap us[k]<IntKind.u64.wrap (t.tmod 1000000000+b))=false:=by simpa using h4
   rw[this];subst h5 h6;simp
omit [Env] in
theorem rel_get {us done:List Int} {d:Array Int} {k:Nat} (h1:done.length=k) (h2:d.toList=done++us.drop k) (hk:k<us.length):d[k]! =us[k]:=by
 have hsz:d.size=us.length:=by have:=congrArg List.length h2;simp at this;omega
 have:d.toList[k]? =some us[k]:=by rw[h2,List.getElem?_append_right (by omega),h1];simp[hk]
 have h3:d[k]? =some us[k]:=by simpa using this
 rw[getElem!_pos d k (by omega)];rw[Array.getElem?_eq_getElem (by omega)]at h3;exact Option.some.inj h3
omit [Env] in
theorem rel_size {us done:List Int} {d:Array Int} {k:Nat} (h1:done.length=k) (h2:d.toList=done++us.drop k) (hk:k≤us.length):d.size=us.length:=by
 have:=congrArg List.length h2;simp at this;omega
omit [Env] in
set_option maxHeartbeats 2000000 in
set_option maxRecDepth 100000 in
theorem sub_ok {w:World} {g off cap bv ov cv:Nat} (us vs:List Int) (by_:Int) (hu:Holds (Value.int .u32) w g off us.toArray) (hb:bv≠g) (hnu:us.length≤1073741824) (hnv2:vs.length≤1073741824)
 (hv:∀j (h:j<vs.length),w.cell? ⟨bv,ov+j,none⟩=some (.int .u32 vs[j])):
 Calls Tryz.prog 374 #[.slice (some ⟨g,off,none⟩) us.length cap,.slice (some ⟨bv,ov,none⟩) vs.length cv,.int .u64 by_] w fun e w'=>
  e= .returned (.bool (decide (0<(subF by_ us vs 0 0).2.2)||decide (0<(subF by_ us vs 0 0).2.1)))∧w'=putRow (Value.int .u32) w g off (subF by_ us vs 0 0).1.toArray:=by
 have Hu:Hid (Holds (Value.int .u32) w g off us.toArray):=hu;have Hv:Hid (∀j (h:j<vs.length),w.cell? ⟨bv,ov+j,none⟩=some (.int .u32 vs[j])):=hv;have hself:=putRow_self (Value.int .u32) w g off us.toArray hu;have Hself:Hid (putRow (Value.int .u32) w g off us.toArray=w):=hself;clear hu hv hself;obtain⟨nu,hnue⟩:∃nu,nu=us.length:=⟨_,rfl⟩;obtain⟨nv,hnve⟩:∃nv,nv=vs.length:=⟨_,rfl⟩;rw[←hnue,←hnve];have Hnu:Hid (nu=us.length):=hnue;have Hnv:Hid (nv=vs.length):=hnve;have hnu':nu≤1073741824:=by omega
 have hnv':nv≤1073741824:=by omega
 clear hnue hnve hnu hnv2
 go_enter Tryz.func374,Tryz.ntmps374
 go_wp2
 go_loopw [7,8,15] (fun c b i wr=>∃(k:Nat) (cc bb:Int) (d:Array Int),k≤nu∧i= .int .i64 k∧c= .int .u64 cc∧b= .int .u64 bb∧SubRel by_ us vs d k cc bb∧wr=putRow (Value.int .u32) w g off d) (fun _ _ i _=>nu-(RowKit.intOf i).toNat)
 case atStart=>exact⟨0,0,0,us.toArray,Nat.zero_le _,rfl,rfl,rfl,⟨[],rfl,by simp,by simp⟩,Hself.out.symm⟩
 case round=>
  obtain⟨k,cc,bb,d,hk,rfl,rfl,rfl,hrel',hwr⟩:=hrel;have Hrel:Hid (SubRel by_ us vs d k cc bb):=hrel';have Hwr:Hid (wr=putRow (Value.int .u32) w g off d):=hwr;clear hrel' hwr;by_cases hlt:k<nu
  ·have hlt2:k<us.length:=by rw[←Hnu.out];exact hlt
   obtain⟨done,h1,h2,_⟩:=Hrel.out;have hsz:=rel_size h1 h2 (Nat.le_of_lt hlt2);have hcell:wr.cell? ⟨g,off+k,none⟩=some (.int .u32 us[k]):=by rw[Hwr.out,cell?_putRow (Value.int .u32) w g off us.toArray d Hu.out (by simpa using hsz) k (by omega),rel_get h1 h2 hlt2]
   have hfz:wr.frozen? ⟨g,off+k,none⟩=false:=by rw[Hwr.out,frozen?_putRow];exact(Hu.out k (by simpa using hlt2)).2
   have hstep:∀z,wr.setCell ⟨g,off+k,none⟩ (.int .u32 z)=putRow (Value.int .u32) w g off (d.setIfInBounds k z):=fun z=>by rw[Hwr.out];exact putRow_set (Value.int .u32) w g off d k z (by omega)
   have Hstep:Hid (∀z,wr.setCell ⟨g,off+k,none⟩ (.int .u32 z)=putRow (Value.int .u32) w g off (d.setIfInBounds k z)):=hstep;obtain⟨x,hx⟩:∃x,us[k]=x:=⟨_,rfl⟩;rw[hx]at hcell;have Hx:Hid (us[k]=x):=hx;clear hstep h1 h2 hsz hx;by_cases hlv:k<nv
   ·have hlv2:k<vs.length:=by rw[←Hnv.out];exact hlv
    have hcellv:wr.cell? ⟨bv,ov+k,none⟩=some (.int .u32 vs[k]):=by rw[Hwr.out,cell?_putRow_other _ _ _ _ _ _ (.inl hb)];exact Hv.out k hlv2
    obtain⟨y,hy⟩:∃y,vs[k]=y:=⟨_,rfl⟩;rw[hy]at hcellv;have Hy:Hid (vs.drop k=y::vs.drop (k+1)):=by rw[←hy];exact drop_cons' hlv2
    clear hy
    go_wp2
    all_goals
     go_roundw
     case rel=>
      refine⟨k+1,_,_,_,by omega,by go_num,rfl,rfl,subRel_step Hrel.out hlt2 (t:=IntKind.u64.wrap (cc+IntKind.u64.wrap (IntKind.u64.wrap y*by_))) (by rw[Hy.out];rfl) ?_,Hstep.out _⟩
      first
       |exact .inl ⟨by rw[Hx.out];assumption,by rw[Hx.out,IntKind.wrap_u32],rfl⟩
       |exact .inr ⟨by rw[Hx.out];omega,by rw[Hx.out,IntKind.wrap_u32],rfl⟩
     case measure=>simp[RowKit.intOf];omega
   ·have Hy:Hid (vs.drop k=[]):=by
     have:vs.length≤k:=by rw[←Hnv.out];omega
     exact List.drop_eq_nil_of_le this
    go_wp2
    all_goals
     go_roundw
     case rel=>
      refine⟨k+1,_,_,_,by omega,by go_num,rfl,rfl,subRel_step Hrel.out hlt2 (t:=cc) (by rw[Hy.out];rfl) ?_,Hstep.out _⟩
      first
       |exact .inl ⟨by rw[Hx.out];assumption,by rw[Hx.out,IntKind.wrap_u32],rfl⟩
       |exact .inr ⟨by rw[Hx.out];omega,by rw[Hx.out,IntKind.wrap_u32],rfl⟩
     case measure=>simp[RowKit.intOf];omega
  ·have hkn:us.length≤k:=by rw[←Hnu.out];omega
   have hfin:subF by_ us vs 0 0=(d.toList,cc,bb):=by obtain⟨done,h1,h2,h3⟩:=Hrel.out;have:us.drop k=[]:=List.drop_eq_nil_of_le hkn;rw[this]at h2 h3;rw[h3,h2];simp[subF]
   have Hfin:Hid (subF by_ us vs 0 0=(d.toList,cc,bb)):=hfin;clear hfin;by_cases hbb:0<bb
   ·go_wp2
    go_ret
    rw[Hfin.out];refine⟨?_,?_⟩
    ·simp[hbb]
    ·rw[Hwr.out]
   ·have hbb':decide (0<bb)=false:=by simpa using hbb
    go_wp2
    go_ret
    rw[Hfin.out];refine⟨?_,?_⟩
    ·simp;exact fun h=>absurd h (by omega)
    ·rw[Hwr.out]
def ResRel (us vs:List Int) (d:Array Int) (k:Nat) (c:Int):Prop:=
 ∃done:List Int,done.length=k∧d.toList=done++us.drop k∧resF us vs 0=done++resF (us.drop k) (vs.drop k) c
omit [Env] in
theorem resRel_step {us vs:List Int} {d:Array Int} {k:Nat} {c:Int} (h:ResRel us vs d k c) (hk:k<us.length) {t z c':Int}
 (ht:t=resT us[k] c (vs.drop k)) (hz:(1000000000≤t∧z=IntKind.u32.wrap (t-1000000000)∧c'=1)∨(¬1000000000≤t∧z=t∧c'=0)):
 ResRel us vs (d.setIfInBounds k z) (k+1) c':=by
 obtain⟨done,h1,h2,h3⟩:=h;refine⟨done++[z],by simp[h1],?_,?_⟩
 ·rw[drop_cons' hk]at h2;rw[←h1];have:=set_mid (y:=z) h2;rw[h1]at this ⊢;exact this
 ·rw[h3,drop_cons' hk];have ht2:(vs.drop k).tail=vs.drop (k+1):=by simp
  simp only[resF];rw[←ht,ht2];rcases hz with⟨h4,h5,h6⟩|⟨h4,h5,h6⟩
  ·have:decide (1000000000≤t)=true:=by simpa using h4
   rw[this];subst h5 h6;simp
  ·have:decide (1000000000≤t)=false:=by simpa using h4
   rw[this];subst h5 h6;simp
omit [Env] in
set_option maxHeartbeats 2000000 in
set_option maxRecDepth 100000 in
theorem res_ok {w:World} {g off cap bv ov cv:Nat} (us vs:List Int) (hu:Holds (Value.int .u32) w g off us.toArray) (hb:bv≠g) (hnu:us.length≤1073741824) (hnv2:vs.length≤1073741824)
 (hv:∀j (h:j<vs.length),w.cell? ⟨bv,ov+j,none⟩=some (.int .u32 vs[j])):
 Calls Tryz.prog 375 #[.slice (some ⟨g,off,none⟩) us.length cap,.slice (some ⟨bv,ov,none⟩) vs.length cv] w fun e w'=>
  e= .returned (.tuple #[])∧w'=putRow (Value.int .u32) w g off (resF us vs 0).toArray:=by
 have Hu:Hid (Holds (Value.int .u32) w g off us.toArray):=hu;have Hv:Hid (∀j (h:j<vs.length),w.cell? ⟨bv,ov+j,none⟩=some (.int .u32 vs[j])):=hv;have hself:=putRow_self (Value.int .u32) w g off us.toArray hu;have Hself:Hid (putRow (Value.int .u32) w g off us.toArray=w):=hself;clear hu hv hself;obtain⟨nu,hnue⟩:∃nu,nu=us.length:=⟨_,rfl⟩;obtain⟨nv,hnve⟩:∃nv,nv=vs.length:=⟨_,rfl⟩;rw[←hnue,←hnve];have Hnu:Hid (nu=us.length):=hnue;have Hnv:Hid (nv=vs.length):=hnve;have hnu':nu≤1073741824:=by omega
 have hnv':nv≤1073741824:=by omega
 clear hnue hnve hnu hnv2
 go_enter Tryz.func375,Tryz.ntmps375
 go_wp2
 go_loopw [4,9] (fun c i wr=>∃(k:Nat) (cc:Int) (d:Array Int),k≤nu∧i= .int .i64 k∧c= .int .u32 cc∧ResRel us vs d k cc∧wr=putRow (Value.int .u32) w g off d) (fun _ i _=>nu-(RowKit.intOf i).toNat)
 case atStart=>exact⟨0,0,us.toArray,Nat.zero_le _,rfl,rfl,⟨[],rfl,by simp,by simp⟩,Hself.out.symm⟩
 case round=>
  obtain⟨k,cc,d,hk,rfl,rfl,hrel',hwr⟩:=hrel;have Hrel:Hid (ResRel us vs d k cc):=hrel';have Hwr:Hid (wr=putRow (Value.int .u32) w g off d):=hwr;clear hrel' hwr;by_cases hlt:k<nu
  ·have hlt2:k<us.length:=by rw[←Hnu.out];exact hlt
   obtain⟨done,h1,h2,_⟩:=Hrel.out;have hsz:=rel_size h1 h2 (Nat.le_of_lt hlt2);have hcell:wr.cell? ⟨g,off+k,none⟩=some (.int .u32 us[k]):=by rw[Hwr.out,cell?_putRow (Value.int .u32) w g off us.toArray d Hu.out (by simpa using hsz) k (by omega),rel_get h1 h2 hlt2]
   have hfz:wr.frozen? ⟨g,off+k,none⟩=false:=by rw[Hwr.out,frozen?_putRow];exact(Hu.out k (by simpa using hlt2)).2
   have hstep:∀z,wr.setCell ⟨g,off+k,none⟩ (.int .u32 z)=putRow (Value.int .u32) w g off (d.setIfInBounds k z):=fun z=>by rw[Hwr.out];exact putRow_set (Value.int .u32) w g off d k z (by omega)
   have Hstep:Hid (∀z,wr.setCell ⟨g,off+k,none⟩ (.int .u32 z)=putRow (Value.int .u32) w g off (d.setIfInBounds k z)):=hstep;obtain⟨x,hx⟩:∃x,us[k]=x:=⟨_,rfl⟩;rw[hx]at hcell;have Hx:Hid (us[k]=x):=hx;clear hstep h1 h2 hsz hx;by_cases hlv:k<nv
   ·have hlv2:k<vs.length:=by rw[←Hnv.out];exact hlv
    have hcellv:wr.cell? ⟨bv,ov+k,none⟩=some (.int .u32 vs[k]):=by rw[Hwr.out,cell?_putRow_other _ _ _ _ _ _ (.inl hb)];exact Hv.out k hlv2
    obtain⟨y,hy⟩:∃y,vs[k]=y:=⟨_,rfl⟩;rw[hy]at hcellv;have Hy:Hid (vs.drop k=y::vs.drop (k+1)):=by rw[←hy];exact drop_cons' hlv2
    clear hy
    go_wp2
    all_goals
     go_roundw
     case rel=>
      refine⟨k+1,_,_,by omega,by go_num,rfl,resRel_step Hrel.out hlt2 (t:=(x+cc+y)%4294967296) (by rw[Hy.out,Hx.out];simp only[resT,IntKind.wrap_u32];omega) ?_,Hstep.out _⟩;simp only[IntKind.wrap_u32]
      first
       |exact .inl ⟨by omega,by omega,trivial⟩
       |exact .inr ⟨by omega,trivial,trivial⟩
     case measure=>simp[RowKit.intOf];omega
   ·have Hy:Hid (vs.drop k=[]):=by
     have:vs.length≤k:=by rw[←Hnv.out];omega
     exact List.drop_eq_nil_of_le this
    go_wp2
    all_goals
     go_roundw
     case rel=>
      refine⟨k+1,_,_,by omega,by go_num,rfl,resRel_step Hrel.out hlt2 (t:=(x+cc)%4294967296) (by rw[Hy.out,Hx.out];simp only[resT,IntKind.wrap_u32]) ?_,Hstep.out _⟩;simp only[IntKind.wrap_u32]
      first
       |exact .inl ⟨by omega,by omega,trivial⟩
       |exact .inr ⟨by omega,trivial,trivial⟩
     case measure=>simp[RowKit.intOf];omega
  ·have hkn:us.length≤k:=by rw[←Hnu.out];omega
   have hfin:resF us vs 0=d.toList:=by obtain⟨done,h1,h2,h3⟩:=Hrel.out;have:us.drop k=[]:=List.drop_eq_nil_of_le hkn;rw[this]at h2 h3;rw[h3,h2];simp[resF]
   have Hfin:Hid (resF us vs 0=d.toList):=hfin;clear hfin
   go_wp2
   go_end0
   rw[Hfin.out];exact⟨rfl,by rw[Hwr.out]⟩
omit [Env] in
theorem subK:SubK Tryz.prog 374 375 where
 there f hf:=by
  rcases hf with rfl|rfl
  ·exact⟨_,Tryz.func374,by simp[Tryz.f374],by decide⟩
  ·exact⟨_,Tryz.func375,by simp[Tryz.f375],by decide⟩
 sub us vs n h1 h2 h3 h4 h5:=sub_ok us vs n h1 h2 h3 h4 h5
 res us vs h1 h2 h3 h4 h5:=res_ok us vs h1 h2 h3 h4 h5
end Eng
end

section
namespace Eng
open Go Go.Proofs Go.RowKit
variable [Env]
def argVal:A→Option Value
 | .c (.int k n)=>some (.int k n)
 | .c (.bool b)=>some (.bool b)
 | .c (.str s)=>some (.string ⟨⟨s⟩⟩)
 |_=>none
def argVals:List A→Option (List Value)
 |[]=>some []
 |a::r=>match argVal a,argVals r with
  |some v,some vs=>some (v::vs)
  |_,_=>none
theorem argVal_ok {w:World} {F:Nat→Prop} {a:A} {v u:Value} (h:argVal a=some v) (hc:CA w F a u):u=v:=by
 unfold argVal at h;split at h<;>simp only[Option.some.injEq,reduceCtorEq]at h<;>subst h<;>cases(hc:CD _ _ _ _)<;>rfl
theorem argVals_ok {w:World} {F:Nat→Prop}:∀{al:List A} {vs us:List Value},argVals al=some vs→All2 (CA w F) al us→us=vs
 |[],vs,[],h,_=>by simpa [argVals]using h
 |[],_,_::_,_,hc=>hc.elim
 |_::_,_,[],_,hc=>hc.elim
 |a::al,vs,u::us,h,hc=>by
  unfold argVals at h;split at h
  ·rename_i v vs' h1 h2;simp only[Option.some.injEq]at h;subst h;rw[argVal_ok h1 hc.1,argVals_ok h2 hc.2]
  ·simp at h
theorem gives_flat {C:Cx} {f:Nat} {al rs:List A} {vs:List Value} {rv:Value} (ha:argVals al=some vs) (hr:∀(w:World) (F:Nat→Prop),CRes w F rs rv)
 (hc:∀(w:World) (F:Nat→Prop),Inv C F w→Calls C.P f vs.toArray w fun e w'=>e= .returned rv∧Below w.heap.size w w'):Gives C f al rs:=by
 intro w F us _ hi hargs;rw[argVals_ok ha hargs];refine(hc w F hi).mono fun e w' he=>?_
 obtain⟨rfl,hb⟩:=he;exact⟨hb,rv,rfl,hr _ _⟩
noncomputable def C0:Cx:=⟨Tryz.prog,fun _=>none,fun _=>false,fun _=>none,fun _ _=>false,fun _=>false⟩
def noT:Nat→List A→Option (List A):=fun _ _=>none
omit [Env] in
theorem mixedT:Tryz.prog.follows .mixedOrders=true:=by kernel_rfl
instance:EffOk C0:=effOk_all fun f e h=>by simp[C0]at h
end Eng
end

section
namespace Eng
abbrev bB (b:Bool) (X Y:Prop):Prop:=br (toB (.bool b)) X Y
abbrev aR (x:R4):A:= .ag (rk x [])
abbrev aI (n:Int):A:= .c (.int .i64 n)
abbrev aB (b:Bool):A:= .c (.bool b)
abbrev aL (l:List (List D)):A:= .c (.sl l)
abbrev aZ (b:Bool) (l:List (List D)):A:= .ag [.bool b,.sl l]
abbrev dI (n:Int):D:= .int .i64 n
end Eng
end

section
open Go Go.Proofs Eng
set_option maxRecDepth 1000000
namespace Eng
theorem vc_trim (Gv:Nat→List A→List A→Prop) (I0:List D→List D→Prop) (M0:List D→Nat) (es:List (List D)) (Q:List A→Prop):wpF C0 Gv (fun _=>⟨[.slot 0 (.slice none 0 0)],[],I0,M0⟩) Tryz.f230 [.c (.sl es)] Q=(I0 [] [D.sl es]∧∀(es:List (List D)),I0 [] [D.sl es]→bB (decide ((Int.ofNat es.length)>0)) ((0≤IntKind.wrap .i64 ((Int.ofNat es.length)-1)∧IntKind.wrap .i64 ((Int.ofNat es.length)-1)<(Int.ofNat es.length)∧List.length (nth [] es (Int.toNat (IntKind.wrap .i64 ((Int.ofNat es.length)-1))))=1)∧∃n,cut (nth [] es (Int.toNat (IntKind.wrap .i64 ((Int.ofNat es.length)-1)))) 0 1 [D.int .u32 n]∧bB (n==0) (((0:Int)≤(0:Int)∧0≤IntKind.wrap .i64 ((Int.ofNat es.length)-1)∧IntKind.wrap .i64 ((Int.ofNat es.length)-1)≤(Int.ofNat es.length)∧lens 1 es)∧I0 [] [D.sl (List.drop 0 (List.take (Int.toNat (IntKind.wrap .i64 ((Int.ofNat es.length)-1))) es))]∧M0 [D.sl (List.drop 0 (List.take (Int.toNat (IntKind.wrap .i64 ((Int.ofNat es.length)-1))) es))]<M0 [D.sl es]) (Q [aL es])) (Q [aL es])):=by kernel_rfl
theorem vc_compare (Gv:Nat→List A→List A→Prop) (I0:List D→List D→Prop) (M0:List D→Nat) (es fs:List (List D)) (Q:List A→Prop):wpF C0 Gv (fun _=>⟨[.slot 5 (.int .i64 0)],[],I0,M0⟩) Tryz.f160 [.c (.sl es),.c (.sl fs)] Q=(∃e1,Gv 230 [aL es] [aL e1]∧∃es,Gv 230 [aL fs] [aL es]∧bB ((Int.ofNat e1.length) !=(Int.ofNat es.length)) (bB (decide ((Int.ofNat e1.length)<(Int.ofNat es.length))) (Q [aI (-1:Int)]) (Q [aI (1:Int)])) (I0 [] [dI (IntKind.wrap .i64 ((Int.ofNat e1.length)-1))]∧∀(n:Int),I0 [] [dI n]→bB (decide (n≥0)) ((0≤n∧n<(Int.ofNat e1.length)∧List.length (nth [] e1 (Int.toNat n))=1)∧∃n1,cut (nth [] e1 (Int.toNat n)) 0 1 [D.int .u32 n1]∧(0≤n∧n<(Int.ofNat es.length)∧List.length (nth [] es (Int.toNat n))=1)∧∃n2,cut (nth [] es (Int.toNat n)) 0 1 [D.int .u32 n2]∧bB (decide (n1<n2)) (Q [aI (-1:Int)]) ((0≤n∧n<(Int.ofNat e1.length)∧List.length (nth [] e1 (Int.toNat n))=1)∧∃n3,cut (nth [] e1 (Int.toNat n)) 0 1 [D.int .u32 n3]∧(0≤n∧n<(Int.ofNat es.length)∧List.length (nth [] es (Int.toNat n))=1)∧∃n4,cut (nth [] es (Int.toNat n)) 0 1 [D.int .u32 n4]∧bB (decide (n3>n4)) (Q [aI (1:Int)]) (I0 [] [dI (IntKind.wrap .i64 (n-1))]∧M0 [dI (IntKind.wrap .i64 (n-1))]<M0 [dI n]))) (Q [aI (0:Int)]))):=by kernel_rfl
theorem vc_signed (Gv:Nat→List A→List A→Prop) (I0:List D→List D→Prop) (M0:List D→Nat) (b:Bool) (es:List (List D)) (Q:List A→Prop):wpF C0 Gv (fun _=>⟨[.slot 5 (.int .i64 0)],[],I0,M0⟩) Tryz.f92 [.c (.bool b),.c (.sl es)] Q=(I0 [] [dI (Int.ofNat es.length)]∧∀(n:Int),I0 [] [dI n]→bB (decide (n>0)) ((0≤IntKind.wrap .i64 (n-1)∧IntKind.wrap .i64 (n-1)<(Int.ofNat es.length)∧List.length (nth [] es (Int.toNat (IntKind.wrap .i64 (n-1))))=1)∧∃n1,cut (nth [] es (Int.toNat (IntKind.wrap .i64 (n-1)))) 0 1 [D.int .u32 n1]∧bB (n1==0) (I0 [] [dI (IntKind.wrap .i64 (n-1))]∧M0 [dI (IntKind.wrap .i64 (n-1))]<M0 [dI n]) (br b (((0:Int)≤(0:Int)∧0≤n∧n≤n∧n≤(Int.ofNat es.length)∧lens 1 es)∧Q [aZ (decide (n>0)) (List.drop 0 (List.take (Int.toNat n) es))]) (((0:Int)≤(0:Int)∧0≤n∧n≤n∧n≤(Int.ofNat es.length)∧lens 1 es)∧Q [aZ false (List.drop 0 (List.take (Int.toNat n) es))]))) (br b (((0:Int)≤(0:Int)∧0≤n∧n≤n∧n≤(Int.ofNat es.length)∧lens 1 es)∧Q [aZ (decide (n>0)) (List.drop 0 (List.take (Int.toNat n) es))]) (((0:Int)≤(0:Int)∧0≤n∧n≤n∧n≤(Int.ofNat es.length)∧lens 1 es)∧Q [aZ false (List.drop 0 (List.take (Int.toNat n) es))]))):=by kernel_rfl
theorem vc_split (Gv:Nat→List A→List A→Prop) (n:Int) (Q:List A→Prop):wpF C0 Gv an0 Tryz.f93 [.c (.int .u64 n)] Q=((1000000000:Int)≠(0:Int)∧(1000000000:Int)≠(0:Int)∧(1000000000:Int)≠(0:Int)∧(1000000000:Int)≠(0:Int)∧(1000000000:Int)≠(0:Int)∧Q [aL [[D.int .u32 (IntKind.wrap .u32 (Int.tmod n (1000000000:Int)))],[D.int .u32 (IntKind.wrap .u32 (Int.tmod (IntKind.wrap .u64 (Int.tdiv n (1000000000:Int))) (1000000000:Int)))],[D.int .u32 (IntKind.wrap .u32 (IntKind.wrap .u64 (Int.tdiv (IntKind.wrap .u64 (Int.tdiv n (1000000000:Int))) (1000000000:Int))))]]]):=by kernel_rfl
theorem vc_FromInt64 (Gv:Nat→List A→List A→Prop) (n:Int) (Q:List A→Prop):wpF C0 Gv an0 Tryz.f48 [.c (.int .i64 n)] Q=(bB (decide (n<0)) (∃es,Gv 93 [A.c (D.int .u64 (IntKind.wrap .u64 (0-IntKind.wrap .u64 n)))] [aL es]∧∃b e1,Gv 92 [aB (decide (n<0)),aL es] [aZ b e1]∧Q [aZ b e1]) (∃es,Gv 93 [A.c (D.int .u64 (IntKind.wrap .u64 n))] [aL es]∧∃b e1,Gv 92 [aB (decide (n<0)),aL es] [aZ b e1]∧Q [aZ b e1])):=by kernel_rfl
theorem vc_word (Gv:Nat→List A→List A→Prop) (p:Bool) (es:List (List D)) (Q:List A→Prop):wpF C0 Gv an0 Tryz.f299 [.ag [.bool p,.sl es]] Q=(bB ((Int.ofNat es.length)==0) (Q [A.c (D.int .u64 0),aB true]) (bB ((Int.ofNat es.length)==1) (((0:Int)≤(0:Int)∧0<(Int.ofNat es.length)∧List.length (nth [] es 0)=1)∧∃n,cut (nth [] es 0) 0 1 [D.int .u32 n]∧Q [A.c (D.int .u64 (IntKind.wrap .u64 n)),aB true]) (bB ((Int.ofNat es.length)==2) (((0:Int)≤(1:Int)∧1<(Int.ofNat es.length)∧List.length (nth [] es 1)=1)∧∃n,cut (nth [] es 1) 0 1 [D.int .u32 n]∧((0:Int)≤(0:Int)∧0<(Int.ofNat es.length)∧List.length (nth [] es 0)=1)∧∃n1,cut (nth [] es 0) 0 1 [D.int .u32 n1]∧Q [A.c (D.int .u64 (IntKind.wrap .u64 (IntKind.wrap .u64 (IntKind.wrap .u64 n*1000000000)+IntKind.wrap .u64 n1))),aB true]) (Q [A.c (D.int .u64 0),aB false])))):=by kernel_rfl
theorem vc_Sign (Gv:Nat→List A→List A→Prop) (p:Bool) (es:List (List D)) (Q:List A→Prop):wpF C0 Gv an0 Tryz.f159 [.ag [.bool p,.sl es]] Q=(br p (Q [aI (-1:Int)]) (bB (decide ((Int.ofNat es.length)>0)) (Q [aI (1:Int)]) (Q [aI (0:Int)]))):=by kernel_rfl
theorem vc_Cmp (Gv:Nat→List A→List A→Prop) (p q:Bool) (es fs:List (List D)) (Q:List A→Prop):wpF C0 Gv an0 Tryz.f98 [.ag [.bool p,.sl es],.ag [.bool q,.sl fs]] Q=(bB (!p==q) (br p (Q [aI (-1:Int)]) (Q [aI (1:Int)])) (br p (∃n,Gv 160 [aL fs,aL es] [aI n]∧Q [aI n]) (∃n,Gv 160 [aL es,aL fs] [aI n]∧Q [aI n]))):=by kernel_rfl
theorem vc_plus (Gv:Nat→List A→List A→Prop) (I0:List D→List D→Prop) (M0:List D→Nat) (es fs:List (List D)) (Q:List A→Prop):wpF C0 Gv (fun _=>⟨[.own 5 53 1,.slot 6 (.int .u32 0),.slot 22 (.int .i64 0)],[],I0,M0⟩) Tryz.f430 [.c (.sl es),.c (.sl fs)] Q=(bB (decide ((Int.ofNat es.length)<(Int.ofNat fs.length))) (((0:Int)≤(0:Int)∧0≤IntKind.wrap .i64 ((Int.ofNat fs.length)+1)∧room (Int.toNat (IntKind.wrap .i64 ((Int.ofNat fs.length)+1))))∧I0 [] [D.sl [],D.int .u32 0,dI (0:Int)]∧∀(e1:List (List D)) (n n1:Int),I0 [] [D.sl e1,D.int .u32 n,dI n1]→bB (decide (n1<(Int.ofNat fs.length))) ((0≤n1∧n1<(Int.ofNat fs.length)∧List.length (nth [] fs (Int.toNat n1))=1)∧∃n2,cut (nth [] fs (Int.toNat n1)) 0 1 [D.int .u32 n2]∧bB (decide (n1<(Int.ofNat es.length))) ((0≤n1∧n1<(Int.ofNat es.length)∧List.length (nth [] es (Int.toNat n1))=1)∧∃n3,cut (nth [] es (Int.toNat n1)) 0 1 [D.int .u32 n3]∧bB (decide (IntKind.wrap .u32 (IntKind.wrap .u32 (n2+n)+n3)≥1000000000)) ((room (e1.length+1)∧lens 1 [[D.int .u32 (IntKind.wrap .u32 (IntKind.wrap .u32 (IntKind.wrap .u32 (n2+n)+n3)-1000000000))]])∧I0 [] [D.sl (e1++[[D.int .u32 (IntKind.wrap .u32 (IntKind.wrap .u32 (IntKind.wrap .u32 (n2+n)+n3)-1000000000))]]),D.int .u32 1,dI (IntKind.wrap .i64 (n1+1))]∧M0 [D.sl (e1++[[D.int .u32 (IntKind.wrap .u32 (IntKind.wrap .u32 (IntKind.wrap .u32 (n2+n)+n3)-1000000000))]]),D.int .u32 1,dI (IntKind.wrap .i64 (n1+1))]<M0 [D.sl e1,D.int .u32 n,dI n1]) ((room (e1.length+1)∧lens 1 [[D.int .u32 (IntKind.wrap .u32 (IntKind.wrap .u32 (n2+n)+n3))]])∧I0 [] [D.sl (e1++[[D.int .u32 (IntKind.wrap .u32 (IntKind.wrap .u32 (n2+n)+n3))]]),D.int .u32 0,dI (IntKind.wrap .i64 (n1+1))]∧M0 [D.sl (e1++[[D.int .u32 (IntKind.wrap .u32 (IntKind.wrap .u32 (n2+n)+n3))]]),D.int .u32 0,dI (IntKind.wrap .i64 (n1+1))]<M0 [D.sl e1,D.int .u32 n,dI n1])) (bB (decide (IntKind.wrap .u32 (n2+n)≥1000000000)) ((room (e1.length+1)∧lens 1 [[D.int .u32 (IntKind.wrap .u32 (IntKind.wrap .u32 (n2+n)-1000000000))]])∧I0 [] [D.sl (e1++[[D.int .u32 (IntKind.wrap .u32 (IntKind.wrap .u32 (n2+n)-1000000000))]]),D.int .u32 1,dI (IntKind.wrap .i64 (n1+1))]∧M0 [D.sl (e1++[[D.int .u32 (IntKind.wrap .u32 (IntKind.wrap .u32 (n2+n)-1000000000))]]),D.int .u32 1,dI (IntKind.wrap .i64 (n1+1))]<M0 [D.sl e1,D.int .u32 n,dI n1]) ((room (e1.length+1)∧lens 1 [[D.int .u32 (IntKind.wrap .u32 (n2+n))]])∧I0 [] [D.sl (e1++[[D.int .u32 (IntKind.wrap .u32 (n2+n))]]),D.int .u32 0,dI (IntKind.wrap .i64 (n1+1))]∧M0 [D.sl (e1++[[D.int .u32 (IntKind.wrap .u32 (n2+n))]]),D.int .u32 0,dI (IntKind.wrap .i64 (n1+1))]<M0 [D.sl e1,D.int .u32 n,dI n1]))) ((room (e1.length+1)∧lens 1 [[D.int .u32 n]])∧Q [aL (e1++[[D.int .u32 n]])])) (((0:Int)≤(0:Int)∧0≤IntKind.wrap .i64 ((Int.ofNat es.length)+1)∧room (Int.toNat (IntKind.wrap .i64 ((Int.ofNat es.length)+1))))∧I0 [] [D.sl [],D.int .u32 0,dI (0:Int)]∧∀(e1:List (List D)) (n n1:Int),I0 [] [D.sl e1,D.int .u32 n,dI n1]→bB (decide (n1<(Int.ofNat es.length))) ((0≤n1∧n1<(Int.ofNat es.length)∧List.length (nth [] es (Int.toNat n1))=1)∧∃n2,cut (nth [] es (Int.toNat n1)) 0 1 [D.int .u32 n2]∧bB (decide (n1<(Int.ofNat fs.length))) ((0≤n1∧n1<(Int.ofNat fs.length)∧List.length (nth [] fs (Int.toNat n1))=1)∧∃n3,cut (nth [] fs (Int.toNat n1)) 0 1 [D.int .u32 n3]∧bB (decide (IntKind.wrap .u32 (IntKind.wrap .u32 (n2+n)+n3)≥1000000000)) ((room (e1.length+1)∧lens 1 [[D.int .u32 (IntKind.wrap .u32 (IntKind.wrap .u32 (IntKind.wrap .u32 (n2+n)+n3)-1000000000))]])∧I0 [] [D.sl (e1++[[D.int .u32 (IntKind.wrap .u32 (IntKind.wrap .u32 (IntKind.wrap .u32 (n2+n)+n3)-1000000000))]]),D.int .u32 1,dI (IntKind.wrap .i64 (n1+1))]∧M0 [D.sl (e1++[[D.int .u32 (IntKind.wrap .u32 (IntKind.wrap .u32 (IntKind.wrap .u32 (n2+n)+n3)-1000000000))]]),D.int .u32 1,dI (IntKind.wrap .i64 (n1+1))]<M0 [D.sl e1,D.int .u32 n,dI n1]) ((room (e1.length+1)∧lens 1 [[D.int .u32 (IntKind.wrap .u32 (IntKind.wrap .u32 (n2+n)+n3))]])∧I0 [] [D.sl (e1++[[D.int .u32 (IntKind.wrap .u32 (IntKind.wrap .u32 (n2+n)+n3))]]),D.int .u32 0,dI (IntKind.wrap .i64 (n1+1))]∧M0 [D.sl (e1++[[D.int .u32 (IntKind.wrap .u32 (IntKind.wrap .u32 (n2+n)+n3))]]),D.int .u32 0,dI (IntKind.wrap .i64 (n1+1))]<M0 [D.sl e1,D.int .u32 n,dI n1])) (bB (decide (IntKind.wrap .u32 (n2+n)≥1000000000)) ((room (e1.length+1)∧lens 1 [[D.int .u32 (IntKind.wrap .u32 (IntKind.wrap .u32 (n2+n)-1000000000))]])∧I0 [] [D.sl (e1++[[D.int .u32 (IntKind.wrap .u32 (IntKind.wrap .u32 (n2+n)-1000000000))]]),D.int .u32 1,dI (IntKind.wrap .i64 (n1+1))]∧M0 [D.sl (e1++[[D.int .u32 (IntKind.wrap .u32 (IntKind.wrap .u32 (n2+n)-1000000000))]]),D.int .u32 1,dI (IntKind.wrap .i64 (n1+1))]<M0 [D.sl e1,D.int .u32 n,dI n1]) ((room (e1.length+1)∧lens 1 [[D.int .u32 (IntKind.wrap .u32 (n2+n))]])∧I0 [] [D.sl (e1++[[D.int .u32 (IntKind.wrap .u32 (n2+n))]]),D.int .u32 0,dI (IntKind.wrap .i64 (n1+1))]∧M0 [D.sl (e1++[[D.int .u32 (IntKind.wrap .u32 (n2+n))]]),D.int .u32 0,dI (IntKind.wrap .i64 (n1+1))]<M0 [D.sl e1,D.int .u32 n,dI n1]))) ((room (e1.length+1)∧lens 1 [[D.int .u32 n]])∧Q [aL (e1++[[D.int .u32 n]])]))):=by kernel_rfl
theorem vc_minus (Gv:Nat→List A→List A→Prop) (I0:List D→List D→Prop) (M0:List D→Nat) (es fs:List (List D)) (Q:List A→Prop):wpF C0 Gv (fun _=>⟨[.own 5 45 1,.slot 6 (.int .u32 0),.slot 15 (.int .i64 0)],[],I0,M0⟩) Tryz.f431 [.c (.sl es),.c (.sl fs)] Q=((0≤(Int.ofNat es.length)∧(Int.ofNat es.length)≤(Int.ofNat es.length)∧room (Int.toNat (Int.ofNat es.length)))∧I0 [] [D.sl (List.replicate (Int.toNat (Int.ofNat es.length)) [D.int .u32 0]),D.int .u32 0,dI (0:Int)]∧∀(e1:List (List D)) (n n1:Int),I0 [] [D.sl e1,D.int .u32 n,dI n1]→bB (decide (n1<(Int.ofNat es.length))) ((0≤n1∧n1<(Int.ofNat es.length)∧List.length (nth [] es (Int.toNat n1))=1)∧∃n2,cut (nth [] es (Int.toNat n1)) 0 1 [D.int .u32 n2]∧bB (decide (n1<(Int.ofNat fs.length))) ((0≤n1∧n1<(Int.ofNat fs.length)∧List.length (nth [] fs (Int.toNat n1))=1)∧∃n3,cut (nth [] fs (Int.toNat n1)) 0 1 [D.int .u32 n3]∧bB (decide (n2<IntKind.wrap .u32 (n+n3))) ((0≤n1∧n1<(Int.ofNat e1.length))∧0<1∧I0 [] [D.sl (upd e1 (Int.toNat n1) (upd (nth [] e1 (Int.toNat n1)) 0 (D.int .u32 (IntKind.wrap .u32 (IntKind.wrap .u32 (n2+1000000000)-IntKind.wrap .u32 (n+n3)))))),D.int .u32 1,dI (IntKind.wrap .i64 (n1+1))]∧M0 [D.sl (upd e1 (Int.toNat n1) (upd (nth [] e1 (Int.toNat n1)) 0 (D.int .u32 (IntKind.wrap .u32 (IntKind.wrap .u32 (n2+1000000000)-IntKind.wrap .u32 (n+n3)))))),D.int .u32 1,dI (IntKind.wrap .i64 (n1+1))]<M0 [D.sl e1,D.int .u32 n,dI n1]) ((0≤n1∧n1<(Int.ofNat e1.length))∧0<1∧I0 [] [D.sl (upd e1 (Int.toNat n1) (upd (nth [] e1 (Int.toNat n1)) 0 (D.int .u32 (IntKind.wrap .u32 (n2-IntKind.wrap .u32 (n+n3)))))),D.int .u32 0,dI (IntKind.wrap .i64 (n1+1))]∧M0 [D.sl (upd e1 (Int.toNat n1) (upd (nth [] e1 (Int.toNat n1)) 0 (D.int .u32 (IntKind.wrap .u32 (n2-IntKind.wrap .u32 (n+n3)))))),D.int .u32 0,dI (IntKind.wrap .i64 (n1+1))]<M0 [D.sl e1,D.int .u32 n,dI n1])) (bB (decide (n2<n)) ((0≤n1∧n1<(Int.ofNat e1.length))∧0<1∧I0 [] [D.sl (upd e1 (Int.toNat n1) (upd (nth [] e1 (Int.toNat n1)) 0 (D.int .u32 (IntKind.wrap .u32 (IntKind.wrap .u32 (n2+1000000000)-n))))),D.int .u32 1,dI (IntKind.wrap .i64 (n1+1))]∧M0 [D.sl (upd e1 (Int.toNat n1) (upd (nth [] e1 (Int.toNat n1)) 0 (D.int .u32 (IntKind.wrap .u32 (IntKind.wrap .u32 (n2+1000000000)-n))))),D.int .u32 1,dI (IntKind.wrap .i64 (n1+1))]<M0 [D.sl e1,D.int .u32 n,dI n1]) ((0≤n1∧n1<(Int.ofNat e1.length))∧0<1∧I0 [] [D.sl (upd e1 (Int.toNat n1) (upd (nth [] e1 (Int.toNat n1)) 0 (D.int .u32 (IntKind.wrap .u32 (n2-n))))),D.int .u32 0,dI (IntKind.wrap .i64 (n1+1))]∧M0 [D.sl (upd e1 (Int.toNat n1) (upd (nth [] e1 (Int.toNat n1)) 0 (D.int .u32 (IntKind.wrap .u32 (n2-n))))),D.int .u32 0,dI (IntKind.wrap .i64 (n1+1))]<M0 [D.sl e1,D.int .u32 n,dI n1]))) (Q [aL e1])):=by kernel_rfl
theorem vc_Add (Gv:Nat→List A→List A→Prop) (p q:Bool) (es fs:List (List D)) (Q:List A→Prop):wpF C0 Gv an0 Tryz.f377 [.ag [.bool p,.sl es],.ag [.bool q,.sl fs]] Q=(bB (p==q) (∃e1,Gv 430 [aL es,aL fs] [aL e1]∧∃b es,Gv 92 [aB p,aL e1] [aZ b es]∧Q [aZ b es]) (∃n,Gv 160 [aL es,aL fs] [aI n]∧bB (decide (n<0)) (∃e1,Gv 431 [aL fs,aL es] [aL e1]∧∃b es,Gv 92 [aB q,aL e1] [aZ b es]∧Q [aZ b es]) (∃e1,Gv 431 [aL es,aL fs] [aL e1]∧∃b es,Gv 92 [aB p,aL e1] [aZ b es]∧Q [aZ b es]))):=by kernel_rfl
theorem vc_Sub (Gv:Nat→List A→List A→Prop) (p q:Bool) (es fs:List (List D)) (Q:List A→Prop):wpF C0 Gv an0 Tryz.f376 [.ag [.bool p,.sl es],.ag [.bool q,.sl fs]] Q=(bB (!q) (∃b e1,Gv 377 [aZ p es,aZ (decide ((Int.ofNat fs.length)>0)) fs] [aZ b e1]∧Q [aZ b e1]) (∃b e1,Gv 377 [aZ p es,aZ false fs] [aZ b e1]∧Q [aZ b e1])):=by kernel_rfl
theorem vc_Neg (Gv:Nat→List A→List A→Prop) (p:Bool) (es:List (List D)) (Q:List A→Prop):wpF C0 Gv an0 Tryz.f222 [.ag [.bool p,.sl es]] Q=((room es.length∧lens 1 es)∧∃b e1,Gv 92 [aB (!p),aL es] [aZ b e1]∧Q [aZ b e1]):=by kernel_rfl
theorem vc_Mul (Gv:Nat→List A→List A→Prop) (p q:Bool) (es fs:List (List D)) (Q:List A→Prop):wpF C0 Gv an0 Tryz.f99 [.ag [.bool p,.sl es],.ag [.bool q,.sl fs]] Q=(∃e1,Gv 161 [aL es,aL fs] [aL e1]∧∃b es,Gv 92 [A.c (D.bool !p==q),aL e1] [aZ b es]∧Q [aZ b es]):=by kernel_rfl
theorem vc_byWord (Gv:Nat→List A→List A→Prop) (I0:List D→List D→Prop) (M0:List D→Nat) (es:List (List D)) (n:Int) (Q:List A→Prop):wpF C0 Gv (fun _=>⟨[.own 6 44 1,.slot 7 (.int .u64 0),.slot 8 (.int .i64 0)],[],I0,M0⟩) Tryz.f373 [.c (.sl es),.c (.int .u32 n)] Q=((0≤(Int.ofNat es.length)∧(Int.ofNat es.length)≤(Int.ofNat es.length)∧room (Int.toNat (Int.ofNat es.length)))∧I0 [] [D.sl (List.replicate (Int.toNat (Int.ofNat es.length)) [D.int .u32 0]),D.int .u64 0,dI (IntKind.wrap .i64 ((Int.ofNat es.length)-1))]∧∀(e1:List (List D)) (n1 n2:Int),I0 [] [D.sl e1,D.int .u64 n1,dI n2]→bB (decide (n2≥0)) ((0≤n2∧n2<(Int.ofNat es.length)∧List.length (nth [] es (Int.toNat n2))=1)∧∃n3,cut (nth [] es (Int.toNat n2)) 0 1 [D.int .u32 n3]∧IntKind.wrap .u64 n≠0∧IntKind.wrap .u64 n≠0∧(0≤n2∧n2<(Int.ofNat e1.length))∧0<1∧I0 [] [D.sl (upd e1 (Int.toNat n2) (upd (nth [] e1 (Int.toNat n2)) 0 (D.int .u32 (IntKind.wrap .u32 (IntKind.wrap .u64 (Int.tdiv (IntKind.wrap .u64 (IntKind.wrap .u64 (n1*1000000000)+IntKind.wrap .u64 n3)) (IntKind.wrap .u64 n))))))),D.int .u64 (Int.tmod (IntKind.wrap .u64 (IntKind.wrap .u64 (n1*1000000000)+IntKind.wrap .u64 n3)) (IntKind.wrap .u64 n)),dI (IntKind.wrap .i64 (n2-1))]∧M0 [D.sl (upd e1 (Int.toNat n2) (upd (nth [] e1 (Int.toNat n2)) 0 (D.int .u32 (IntKind.wrap .u32 (IntKind.wrap .u64 (Int.tdiv (IntKind.wrap .u64 (IntKind.wrap .u64 (n1*1000000000)+IntKind.wrap .u64 n3)) (IntKind.wrap .u64 n))))))),D.int .u64 (Int.tmod (IntKind.wrap .u64 (IntKind.wrap .u64 (n1*1000000000)+IntKind.wrap .u64 n3)) (IntKind.wrap .u64 n)),dI (IntKind.wrap .i64 (n2-1))]<M0 [D.sl e1,D.int .u64 n1,dI n2]) (Q [aL e1,aL [[D.int .u32 (IntKind.wrap .u32 n1)]]])):=by kernel_rfl
end Eng
end

section
namespace Eng
open Go
def raw (l:List Nat):List (List D):=l.map fun(x:Nat)=>[.int .u32 (x:Int)]
def Limbs (l:List Nat):Prop:=∀x∈l,x<1000000000
def val:List Nat→Nat
 |[]=>0
 |x::r=>x+1000000000*val r
def pad:Nat→Nat→List Nat
 |0,_=>[]
 |k+1,n=>n%1000000000::pad k (n/1000000000)
def limF:Nat→Nat→List Nat
 |0,_=>[]
 |f+1,n=>match n with
  |0=>[]
  |m+1=>(m+1)%1000000000::limF f ((m+1)/1000000000)
def lim (n:Nat):List Nat:=limF n n
theorem Limbs.nil:Limbs []:=fun _ h=>by simp at h
theorem Limbs.cons {x:Nat} {l:List Nat} (hx:x<1000000000) (h:Limbs l):Limbs (x::l):=fun y hy=>by
 rcases List.mem_cons.1 hy with rfl|hy
 ·exact hx
 ·exact h y hy
theorem Limbs.of_cons {x:Nat} {l:List Nat} (h:Limbs (x::l)):x<1000000000∧Limbs l:=⟨h x (by simp),fun y hy=>h y (by simp[hy])⟩
theorem Limbs.append {a b:List Nat} (ha:Limbs a) (hb:Limbs b):Limbs (a++b):=fun y hy=>by
 rcases List.mem_append.1 hy with hy|hy
 ·exact ha y hy
 ·exact hb y hy
theorem Limbs.take {l:List Nat} (h:Limbs l) (k:Nat):Limbs (l.take k):=fun y hy=>h y (List.mem_of_mem_take hy)
theorem Limbs.drop {l:List Nat} (h:Limbs l) (k:Nat):Limbs (l.drop k):=fun y hy=>h y (List.mem_of_mem_drop hy)
theorem Limbs.get {l:List Nat} (h:Limbs l) {i:Nat} (hi:i<l.length):l[i]<1000000000:=h _ (List.getElem_mem hi)
theorem val_append (a b:List Nat):val (a++b)=val a+1000000000^a.length*val b:=by
 induction a with
 |nil=>simp[val]
 |cons x a ih=>simp only[List.cons_append,val,ih,List.length_cons,Nat.pow_succ];rw[Nat.mul_add,Nat.add_assoc,←Nat.mul_assoc,Nat.mul_comm (1000000000^a.length) 1000000000]
theorem val_lt {l:List Nat} (h:Limbs l):val l<1000000000^l.length:=by
 induction l with
 |nil=>simp[val]
 |cons x l ih=>obtain⟨h1,h2⟩:=h.of_cons;have:=ih h2;simp only[val,List.length_cons,Nat.pow_succ];omega
theorem pad_length:∀(k n:Nat),(pad k n).length=k
 |0,_=>rfl
 |k+1,n=>by simp[pad,pad_length k]
theorem pad_limbs:∀(k n:Nat),Limbs (pad k n)
 |0,_=>Limbs.nil
 |k+1,n=>Limbs.cons (Nat.mod_lt _ (by omega)) (pad_limbs k _)
theorem pad_val:∀(k n:Nat),val (pad k n)=n%1000000000^k
 |0,n=>by simp[pad,val,Nat.mod_one]
 |k+1,n=>by simp only[pad,val,pad_val k];rw[Nat.pow_succ',Nat.mod_mul]
theorem val_pad {l:List Nat} (h:Limbs l):pad l.length (val l)=l:=by
 induction l with
 |nil=>rfl
 |cons x l ih=>
  obtain⟨h1,h2⟩:=h.of_cons;simp only[List.length_cons,pad,val];have e1:(x+1000000000*val l)%1000000000=x:=by omega
  have e2:(x+1000000000*val l)/1000000000=val l:=by omega
  rw[e1,e2,ih h2]
theorem val_inj {a b:List Nat} (ha:Limbs a) (hb:Limbs b) (hl:a.length=b.length) (hv:val a=val b):a=b:=by
 rw[←val_pad ha,←val_pad hb,hl,hv]
theorem limF_limbs:∀(f n:Nat),Limbs (limF f n)
 |0,_=>Limbs.nil
 |f+1,0=>Limbs.nil
 |f+1,m+1=>Limbs.cons (Nat.mod_lt _ (by omega)) (limF_limbs f _)
theorem limF_val:∀(f n:Nat),n≤f→val (limF f n)=n
 |0,n,h=>by simp[limF,val];omega
 |f+1,0,_=>rfl
 |f+1,m+1,h=>by simp only[limF,val];rw[limF_val f _ (by omega)];omega
theorem lim_limbs (n:Nat):Limbs (lim n):=limF_limbs n n
theorem lim_val (n:Nat):val (lim n)=n:=limF_val n n (Nat.le_refl n)
theorem limF_last:∀(f n:Nat),n≤f→limF f n=[]∨(limF f n).getLast?≠some 0
 |0,_,_=> .inl rfl
 |f+1,0,_=> .inl rfl
 |f+1,m+1,h=>by
  refine .inr ?_;simp only[limF];rcases limF_last f ((m+1)/1000000000) (by omega)with h1|h1
  ·have:=limF_val f ((m+1)/1000000000) (by omega);rw[h1]at this ⊢;simp only[val]at this;simp only[List.getLast?_singleton,ne_eq,Option.some.injEq];omega
  ·rw[List.getLast?_cons];cases hh:(limF f ((m+1)/1000000000)).getLast? with
   |none=>rw[List.getLast?_eq_none_iff]at hh;rw[hh]at h1;have:=limF_val f ((m+1)/1000000000) (by omega);rw[hh]at this;simp only[val]at this;simp only[Option.getD_none,ne_eq,Option.some.injEq];omega
   |some x=>
    rw[hh]at h1
    simpa using h1
theorem lim_last (n:Nat):lim n=[]∨(lim n).getLast?≠some 0:=limF_last n n (Nat.le_refl n)
theorem len_lt {a b:List Nat} (ha:Limbs a) (hb:b.getLast?≠some 0) (hbn:b≠[]) (h:a.length<b.length):val a<val b:=by
 have h1:=val_lt ha;have h2:1000000000^(b.length-1)≤val b:=by
  have hd:=List.dropLast_concat_getLast hbn;have hz:b.getLast hbn≠0:=by intro e;apply hb;rw[List.getLast?_eq_some_getLast hbn,e]
  rw[←hd,val_append];simp only[List.length_append,List.length_dropLast,List.length_singleton,val];have h0:0<b.getLast hbn:=Nat.pos_of_ne_zero hz;have e1:b.length-1+1-1=b.length-1:=by omega
  rw[e1];have:1000000000^(b.length-1)*1≤1000000000^(b.length-1)*(b.getLast hbn+1000000000*0):=Nat.mul_le_mul_left _ (by omega);omega
 have h3:1000000000^a.length≤1000000000^(b.length-1):=Nat.pow_le_pow_right (by omega) (by omega);omega
theorem lim_uniq {l:List Nat} (hl:Limbs l) (hz:l=[]∨l.getLast?≠some 0):lim (val l)=l:=by
 have h1:=lim_limbs (val l);have h2:=lim_val (val l);have h3:=lim_last (val l);have hlen:(lim (val l)).length=l.length:=by
  rcases Nat.lt_trichotomy (lim (val l)).length l.length with h|h|h
  ·exfalso;have hne:l≠[]:=by intro e;subst e;simp at h
   have:=len_lt h1 (hz.resolve_left hne) hne h;omega
  ·exact h
  ·exfalso;have hne:lim (val l)≠[]:=by intro e;rw[e]at h;simp at h
   have:=len_lt hl (h3.resolve_left hne) hne h;omega
 exact val_inj h1 hl hlen h2
theorem lim_length_le {n k:Nat} (h:n<1000000000^k):(lim n).length≤k:=by
 rcases Nat.lt_or_ge k (lim n).length with hk|hk
 ·exfalso;have hne:lim n≠[]:=by intro e;rw[e]at hk;simp at hk
  have:=len_lt (pad_limbs k n) ((lim_last n).resolve_left hne) hne (by rw[pad_length];exact hk);rw[pad_val,lim_val,Nat.mod_eq_of_lt h]at this;omega
 ·exact hk
theorem lim_length_of_le {n k:Nat} (h:1000000000^k≤n):k<(lim n).length:=by
 rcases Nat.lt_or_ge k (lim n).length with hk|hk
 ·exact hk
 ·have:=val_lt (lim_limbs n);rw[lim_val]at this;have:1000000000^(lim n).length≤1000000000^k:=Nat.pow_le_pow_right (by omega) hk;omega
theorem lim_zero:lim 0=[]:=rfl
theorem lim_nil {n:Nat}:lim n=[]↔n=0:=by
 constructor
 ·intro h;have:=lim_val n;rw[h]at this;exact this.symm
 ·rintro rfl;rfl
theorem lim_len_pos {n:Nat}:0<(lim n).length↔0<n:=by
 rw[List.length_pos_iff,ne_eq,lim_nil];omega
theorem raw_length (l:List Nat):(raw l).length=l.length:=by simp[raw]
theorem raw_append (a b:List Nat):raw (a++b)=raw a++raw b:=by simp[raw]
theorem raw_take (l:List Nat) (k:Nat):(raw l).take k=raw (l.take k):=by simp[raw,List.map_take]
theorem raw_drop (l:List Nat) (k:Nat):(raw l).drop k=raw (l.drop k):=by simp[raw,List.map_drop]
theorem nth_raw {l:List Nat} {i:Nat} (h:i<l.length):nth [] (raw l) i=[.int .u32 ((l[i]:Nat))]:=by
 rw[nth_eq];simp[raw,h]
theorem raw_len1 {l:List Nat} {i:Nat} (h:i<l.length):(nth [] (raw l) i).length=1:=by rw[nth_raw h];rfl
theorem cut_raw {l:List Nat} {i:Nat} (h:i<l.length):cut (nth [] (raw l) i) 0 1 [.int .u32 ((l[i]:Nat))]:=by
 rw[nth_raw h];exact⟨rfl,by simp⟩
theorem lens_raw (l:List Nat):lens 1 (raw l):=by
 intro e he;simp only[raw,List.mem_map]at he;obtain⟨x,_,rfl⟩:=he;rfl
theorem raw_set (l:List Nat) (i x:Nat):upd (raw l) i [.int .u32 (x:Int)]=raw (l.set i x):=by
 rw[upd_eq];simp[raw]
theorem flat_raw:∀(l:List Nat),flatEs (raw l)=true
 |[]=>rfl
 |x::l=>by have:=flat_raw l;simp only[raw,List.map_cons,flatEs]at this ⊢;rw[this];rfl
theorem raw_replicate (n:Nat):List.replicate n [D.int .u32 (0:Int)]=raw (List.replicate n 0):=by simp[raw]
theorem val_replicate (n:Nat):val (List.replicate n 0)=0:=by
 induction n with
 |zero=>rfl
 |succ n ih=>simp[List.replicate_succ,val,ih]
theorem raw_inj {a b:List Nat} (h:raw a=raw b):a=b:=by
 induction a generalizing b with
 |nil=>cases b with
  |nil=>rfl
  |cons y b=>simp[raw]at h
 |cons x a ih=>cases b with
  |nil=>simp[raw]at h
  |cons y b=>simp only[raw,List.map_cons,List.cons.injEq,D.int.injEq,true_and,and_true]at h;rw[ih h.2,Int.ofNat.inj h.1]
theorem brd {c:Prop} [Decidable c] {X Y:Prop} (h1:c→X) (h2:¬c→Y):br (toB (D.bool (decide c))) X Y:=by
 by_cases h:c
 ·have:decide c=true:=decide_eq_true h;rw[this];exact h1 h
 ·have:decide c=false:=decide_eq_false h;rw[this];exact h2 h
theorem brb {b:Bool} {X Y:Prop} (h1:b=true→X) (h2:b=false→Y):br (toB (D.bool b)) X Y:=by
 cases b
 ·exact h2 rfl
 ·exact h1 rfl
theorem brb' {b:Bool} {X Y:Prop} (h1:b=true→X) (h2:b=false→Y):br b X Y:=by
 cases b
 ·exact h2 rfl
 ·exact h1 rfl
theorem i64w {n:Int} (_: -9223372036854775808≤n:=by omega) (_:n<9223372036854775808:=by omega):IntKind.wrap .i64 n=n:=by
 simp[IntKind.wrap,IntKind.bits,IntKind.signed];omega
theorem u64w {n:Int} (_:0≤n:=by omega) (_:n<18446744073709551616:=by omega):IntKind.wrap .u64 n=n:=by
 simp[IntKind.wrap,IntKind.bits,IntKind.signed];omega
theorem u32w {n:Int} (_:0≤n:=by omega) (_:n<4294967296:=by omega):IntKind.wrap .u32 n=n:=by
 simp[IntKind.wrap,IntKind.bits,IntKind.signed];omega
end Eng
end

section
namespace Eng
open Go Go.Proofs
set_option maxRecDepth 100000
variable [Env]
theorem itrim_ok {l:List Nat} (hl:Limbs l) (hr:l.length≤1073741824):Gives C0 230 [.c (.sl (raw l))] [.c (.sl (raw (lim (val l))))]:=by
 refine wpF_ok (anns:=fun _=>⟨[.slot 0 (.slice none 0 0)],[],fun _ ds=>∃k,k≤l.length∧ds=[.sl (raw (l.take k))]∧val (l.take k)=val l,fun ds=>(toL (nth .undef ds 0)).length⟩) mixedT Tryz.func230 ?_;rw[vc_trim];simp only[Int.ofNat_eq_natCast];refine⟨⟨l.length,Nat.le_refl _,by rw[List.take_length],by rw[List.take_length]⟩,?_⟩;rintro es ⟨k,hk,he,hv⟩;simp only[List.cons.injEq,D.sl.injEq,and_true]at he;subst he;have hlen:(raw (l.take k)).length=k:=by rw[raw_length,List.length_take];omega
 have hfin:(k=0∨∃h:k-1<l.length,l[k-1]≠0)→[A.c (D.sl (raw (l.take k)))]=[A.c (D.sl (raw (lim (val l))))]:=by
  intro h;rw[←hv,lim_uniq (hl.take k)];rcases h with rfl|⟨h,hne⟩
  ·exact .inl (by simp)
  ·refine .inr ?_;rw[List.getLast?_take];split
   ·simp
   ·rw[List.getElem?_eq_getElem h]
    simpa using hne
 refine brd (fun h=>?_) (fun h=>?_)
 ·rw[hlen]at h ⊢;have hk0:0<k:=by omega
  have hw:IntKind.wrap .i64 ((k:Int)-1)=((k-1:Nat):Int):=by rw[i64w];omega
  rw[hw];have hkl:k-1<(l.take k).length:=by rw[List.length_take];omega
  have hg:(l.take k)[k-1]=l[k-1]:=List.getElem_take ..;refine⟨⟨by omega,by omega,raw_len1 hkl⟩,_,cut_raw hkl,brb (fun hz=>?_) (fun hz=>?_)⟩
  ·have hz:l[k-1]=0:=by rw[hg]at hz;simpa using hz
   refine⟨⟨by omega,by omega,by omega,lens_raw _⟩,⟨k-1,by omega,?_,?_⟩,?_⟩
   ·simp only[Int.toNat_natCast,raw_take,List.drop_zero,List.take_take];congr 4;omega
   ·have:l.take k=l.take (k-1)++[l[k-1]]:=by have:=List.take_succ_eq_append_getElem (l:=l) (i:=k-1) (by omega);rw[show k-1+1=k by omega]at this;exact this
    rw[←hv,this,hz,val_append];simp[val]
   ·simp only[Int.toNat_natCast,nth,toL,List.drop_zero,List.length_take,hlen];omega
  ·exact hfin (.inr ⟨by omega,by rw[hg]at hz;simpa using hz⟩)
 ·rw[hlen]at h;exact hfin (.inl (by omega))
def cmpN (a b:Nat):Int:=if a<b then-1 else if b<a then 1 else 0
omit [Env] in
theorem val_drop_lt {a b:List Nat} (ha:Limbs a) (hl:a.length=b.length) {k:Nat} (hk:k<a.length) (hd:a.drop (k+1)=b.drop (k+1)) (h:a[k]<b[k]):val a<val b:=by
 have e1:a=a.take k++a[k]::a.drop (k+1):=by rw[←List.drop_eq_getElem_cons hk,List.take_append_drop]
 have e2:b=b.take k++b[k]::b.drop (k+1):=by rw[←List.drop_eq_getElem_cons (by omega),List.take_append_drop]
 rw[e1,e2,val_append,val_append,hd];have l1:(a.take k).length=k:=by rw[List.length_take];omega
 have l2:(b.take k).length=k:=by rw[List.length_take];omega
 rw[l1,l2];have h1:=val_lt (ha.take k);rw[l1]at h1;simp only[val];have:1000000000^k*(a[k]+1+1000000000*val (b.drop (k+1)))≤1000000000^k*(b[k]+1000000000*val (b.drop (k+1))):=Nat.mul_le_mul_left _ (by omega);have e3:1000000000^k*(a[k]+1+1000000000*val (b.drop (k+1)))=1000000000^k*(a[k]+1000000000*val (b.drop (k+1)))+1000000000^k:=by rw[show a[k]+1+1000000000*val (b.drop (k+1))=(a[k]+1000000000*val (b.drop (k+1)))+1 by omega,Nat.mul_add,Nat.mul_one]
 omega
theorem icompare_ok {a b:List Nat} (ha:Limbs a) (hb:Limbs b) (hra:a.length≤1073741824) (hrb:b.length≤1073741824):Gives C0 160 [.c (.sl (raw a)),.c (.sl (raw b))] [.c (.int .i64 (cmpN (val a) (val b)))]:=by
 generalize hA:lim (val a)=A;generalize hB:lim (val b)=B;have lA:Limbs A:=hA▸lim_limbs _;have lB:Limbs B:=hB▸lim_limbs _;have vA:val A=val a:=hA▸lim_val _;have vB:val B=val b:=hB▸lim_val _;have zA:A=[]∨A.getLast?≠some 0:=hA▸lim_last _;have zB:B=[]∨B.getLast?≠some 0:=hB▸lim_last _;have nA:A.length≤a.length:=hA▸lim_length_le (val_lt ha);have nB:B.length≤b.length:=hB▸lim_length_le (val_lt hb);refine wpF_ok (anns:=fun _=>⟨[.slot 5 (.int .i64 0)],[],fun _ ds=>∃k:Nat,k≤A.length∧ds=[.int .i64 ((k:Int)-1)]∧A.drop k=B.drop k,fun ds=>(toI (nth .undef ds 0)+1).toNat⟩) mixedT Tryz.func160 ?_;rw[vc_compare];simp only[Int.ofNat_eq_natCast];refine⟨_,itrim_ok ha hra,_,itrim_ok hb hrb,?_⟩;rw[hA,hB,raw_length,raw_length];refine brb (fun h=>?_) (fun h=>?_)
 ·have h:A.length≠B.length:=by intro e;rw[e]at h;simp at h
  refine brd (fun h1=>?_) (fun h1=>?_)
  ·have hne:B≠[]:=(by intro e;have h0:B.length=0:=(by rw[e];rfl);omega);have:=len_lt lA (zB.resolve_left hne) hne (by omega);rw[cmpN,if_pos (by omega)]
  ·have hne:A≠[]:=(by intro e;have h0:A.length=0:=(by rw[e];rfl);omega);have:=len_lt lB (zA.resolve_left hne) hne (by omega);rw[cmpN,if_neg (by omega),if_pos (by omega)]
 ·have h:A.length=B.length:=by
   have:(A.length:Int)=B.length:=by simpa using h
   omega
  refine⟨⟨A.length,Nat.le_refl _,by rw[i64w],by rw[List.drop_length,h,List.drop_length]⟩,?_⟩;rintro n ⟨k,hk,he,hd⟩;simp only[List.cons.injEq,D.int.injEq,true_and,and_true]at he;subst he;refine brd (fun h1=>?_) (fun h1=>?_)
  ·have hk0:k-1<A.length:=by omega
   have hk1:k-1<B.length:=by omega
   have ht:((k:Int)-1).toNat=k-1:=by omega
   have hd':A.drop (k-1+1)=B.drop (k-1+1):=by rw[show k-1+1=k by omega];exact hd
   rw[ht];refine⟨⟨by omega,by omega,raw_len1 hk0⟩,_,cut_raw hk0,⟨by omega,by omega,raw_len1 hk1⟩,_,cut_raw hk1,brd (fun h2=>?_) (fun h2=>?_)⟩
   ·have:=val_drop_lt lA h hk0 hd' (by omega);rw[cmpN,if_pos (by omega)]
   ·refine⟨⟨by omega,by omega,raw_len1 hk0⟩,_,cut_raw hk0,⟨by omega,by omega,raw_len1 hk1⟩,_,cut_raw hk1,brd (fun h3=>?_) (fun h3=>?_)⟩
    ·have:=val_drop_lt lB h.symm hk1 hd'.symm (by omega);rw[cmpN,if_neg (by omega),if_pos (by omega)]
    ·have hw:IntKind.wrap .i64 ((k:Int)-1-1)=((k-1:Nat):Int)-1:=by rw[i64w];omega
     rw[hw];refine⟨⟨k-1,by omega,rfl,?_⟩,?_⟩
     ·rw[List.drop_eq_getElem_cons hk0,List.drop_eq_getElem_cons hk1,hd'];congr 1;omega
     ·simp only[nth,toI];omega
  ·have hk0:k=0:=by omega
   subst hk0;have:A=B:=by simpa using hd
   rw[cmpN,←vA,←vB,this,if_neg (by omega),if_neg (by omega)]
theorem isigned_ok {l:List Nat} (b:Bool) (hl:Limbs l) (hr:l.length≤1073741824):Gives C0 92 [.c (.bool b),.c (.sl (raw l))] [.ag [.bool (b&&decide (0<val l)),.sl (raw (lim (val l)))]]:=by
 refine wpF_ok (anns:=fun _=>⟨[.slot 5 (.int .i64 0)],[],fun _ ds=>∃k:Nat,k≤l.length∧ds=[.int .i64 (k:Int)]∧val (l.take k)=val l,fun ds=>(toI (nth .undef ds 0)).toNat⟩) mixedT Tryz.func92 ?_;rw[vc_signed];simp only[Int.ofNat_eq_natCast];refine⟨⟨l.length,Nat.le_refl _,by rw[raw_length],by rw[List.take_length]⟩,?_⟩;rintro n ⟨k,hk,he,hv⟩;simp only[List.cons.injEq,D.int.injEq,true_and,and_true]at he;subst he;have hfin:(k=0∨∃h:k-1<l.length,l[k-1]≠0)→List.drop 0 (List.take (k:Int).toNat (raw l))=raw (lim (val l))∧(0<val l↔0<k):=by
  intro h;have h0:lim (val l)=l.take k:=by
   rw[←hv,lim_uniq (hl.take k)];rcases h with rfl|⟨h,hne⟩
   ·exact .inl (by simp)
   ·refine .inr ?_;rw[List.getLast?_take];split
    ·simp
    ·rw[List.getElem?_eq_getElem h]
     simpa using hne
  refine⟨by rw[h0,Int.toNat_natCast,raw_take,List.drop_zero],?_⟩;rw[←lim_len_pos,h0,List.length_take];omega
 have hend:(k=0∨∃h:k-1<l.length,l[k-1]≠0)→
  br b
   (((0:Int)≤0∧(0:Int)≤k∧(k:Int)≤k∧(k:Int)≤(raw l).length∧lens 1 (raw l))∧
     [A.ag [D.bool (decide ((k:Int)>0)),D.sl (List.drop 0 (List.take (k:Int).toNat (raw l)))]]=[.ag [.bool (b&&decide (0<val l)),.sl (raw (lim (val l)))]])
   (((0:Int)≤0∧(0:Int)≤k∧(k:Int)≤k∧(k:Int)≤(raw l).length∧lens 1 (raw l))∧
     [A.ag [D.bool false,D.sl (List.drop 0 (List.take (k:Int).toNat (raw l)))]]=[.ag [.bool (b&&decide (0<val l)),.sl (raw (lim (val l)))]]):=by
  intro h;obtain⟨h1,h2⟩:=hfin h;rw[h1,raw_length];refine brb' (fun hb=>?_) (fun hb=>?_)
  ·subst hb;refine⟨⟨by omega,by omega,by omega,by omega,lens_raw _⟩,?_⟩;have:decide ((k:Int)>0)=decide (0<val l):=by rw[decide_eq_decide];omega
   rw[this,Bool.true_and]
  ·subst hb;exact⟨⟨by omega,by omega,by omega,by omega,lens_raw _⟩,by rw[Bool.false_and]⟩
 refine brd (fun h=>?_) (fun h=>?_)
 ·have hw:IntKind.wrap .i64 ((k:Int)-1)=((k-1:Nat):Int):=by rw[i64w];omega
  rw[hw,Int.toNat_natCast];have hkl:k-1<l.length:=by omega
  refine⟨⟨by omega,by rw[raw_length];omega,raw_len1 hkl⟩,_,cut_raw hkl,brb (fun hz=>?_) (fun hz=>?_)⟩
  ·have hz:l[k-1]=0:=by simpa using hz
   refine⟨⟨k-1,by omega,rfl,?_⟩,?_⟩
   ·have:l.take k=l.take (k-1)++[l[k-1]]:=by have:=List.take_succ_eq_append_getElem (l:=l) (i:=k-1) (by omega);rw[show k-1+1=k by omega]at this;exact this
    rw[←hv,this,hz,val_append];simp[val]
   ·simp only[nth,toI];omega
  ·exact hend (.inr ⟨hkl,by simpa using hz⟩)
 ·exact hend (.inl (by omega))
end Eng
end

section
namespace Eng
open Go Go.Proofs
set_option maxRecDepth 100000
variable [Env]
omit [Env] in
theorem val_take_succ (l:List Nat) (k:Nat):val (l.take (k+1))=val (l.take k)+1000000000^k*l.getD k 0:=by
 by_cases h:k<l.length
 ·rw[List.take_succ_eq_append_getElem h,val_append,List.length_take,Nat.min_eq_left (by omega)];simp[val,List.getD,h]
 ·rw[List.take_of_length_le (by omega),List.take_of_length_le (by omega)];simp[List.getD,h]
omit [Env] in
theorem getD_ge {l:List Nat} {k:Nat} (h:l.length≤k):l.getD k 0=0:=by simp[List.getD,List.getElem?_eq_none h]
omit [Env] in
theorem val_snoc (o:List Nat) (d:Nat):val (o++[d])=val o+1000000000^o.length*d:=by rw[val_append];simp[val]
omit [Env] in
theorem pow_dist {k d c t:Nat} (h:d+1000000000*c=t):1000000000^k*d+1000000000^(k+1)*c=1000000000^k*t:=by
 rw[←h,Nat.mul_add,Nat.pow_succ,Nat.mul_assoc]
omit [Env] in
theorem plus_step {x y o:List Nat} {k c d c':Nat} (hk:k<x.length) (ho:o.length=k) (hv:val o+1000000000^k*c=val (x.take k)+val (y.take k)) (ht:d+1000000000*c'=x[k]+c+y.getD k 0):
 val (o++[d])+1000000000^(k+1)*c'=val (x.take (k+1))+val (y.take (k+1)):=by
 rw[val_snoc,ho,val_take_succ,val_take_succ];have h1:=pow_dist (k:=k) ht;have h2:x.getD k 0=x[k]:=by simp[List.getD,hk]
 rw[h2];have h3:1000000000^k*(x[k]+c+y.getD k 0)=1000000000^k*x[k]+1000000000^k*c+1000000000^k*y.getD k 0:=by rw[Nat.mul_add,Nat.mul_add]
 omega
theorem iplus_ok {a b:List Nat} (ha:Limbs a) (hb:Limbs b) (hra:a.length≤1073741823) (hrb:b.length≤1073741823):Gives C0 430 [.c (.sl (raw a)),.c (.sl (raw b))] [.c (.sl (raw (pad (max a.length b.length+1) (val a+val b))))]:=by
 by_cases hab:a.length<b.length
 ·refine wpF_ok (anns:=fun _=>⟨[.own 5 53 1,.slot 6 (.int .u32 0),.slot 22 (.int .i64 0)],[],fun _ ds=>∃(k:Nat) (o:List Nat) (c:Nat),k≤b.length∧o.length=k∧ds=[.sl (raw o),.int .u32 (c:Int),.int .i64 (k:Int)]∧Limbs o∧c≤1∧val o+1000000000^k*c=val (b.take k)+val (a.take k),fun ds=>b.length-(toI (nth .undef ds 2)).toNat⟩) mixedT Tryz.func430 ?_;rw[vc_plus];simp only[Int.ofNat_eq_natCast,raw_length];refine brd (fun h0=>?_) (fun h0=>?_)
  ·skip
   refine⟨⟨by omega,by rw[i64w];omega,by rw[i64w];unfold room;omega⟩,⟨0,[],0,by omega,rfl,rfl,Limbs.nil,by omega,by simp[val]⟩,?_⟩;rintro es n m ⟨k,o,c,hk,ho,he,lo,hc,hv⟩;simp only[List.cons.injEq,D.int.injEq,D.sl.injEq,true_and,and_true]at he;obtain⟨rfl,rfl,rfl⟩:=he;refine brd (fun h1=>?_) (fun h1=>?_)
   ·have hkx:k<b.length:=by omega
    have hxk:=hb.get hkx;have hk1:IntKind.wrap .i64 ((k:Int)+1)=((k+1:Nat):Int):=by rw[i64w];omega
    rw[Int.toNat_natCast,hk1,raw_length,ho];refine⟨⟨by omega,by omega,raw_len1 hkx⟩,_,cut_raw hkx,brd (fun h2=>?_) (fun h2=>?_)⟩
    ·have hky:k<a.length:=by omega
     have hyk:=ha.get hky;have hgd:a.getD k 0=a[k]:=by simp[List.getD,hky]
     refine⟨⟨by omega,by omega,raw_len1 hky⟩,_,cut_raw hky,?_⟩;have hw:IntKind.wrap .u32 (IntKind.wrap .u32 ((b[k]:Int)+(c:Int))+(a[k]:Int))=((b[k]+c+a[k]:Nat):Int):=by rw[u32w (n:=(b[k]:Int)+(c:Int)),u32w];omega
     rw[hw];refine brd (fun h3=>?_) (fun h3=>?_)
     ·have hw2:IntKind.wrap .u32 (((b[k]+c+a[k]:Nat):Int)-1000000000)=((b[k]+c+a[k]-1000000000:Nat):Int):=by rw[u32w];omega
      rw[hw2];refine⟨⟨by unfold room;omega,fun e he=>by simp at he;subst he;rfl⟩,⟨k+1,o++[b[k]+c+a[k]-1000000000],1,by omega,by simp[ho],by rw[raw_append];rfl,lo.append (Limbs.cons (by omega) Limbs.nil),by omega,plus_step hkx ho hv (by have:=hgd;omega)⟩,?_⟩;simp only[nth,toI];omega
     ·refine⟨⟨by unfold room;omega,fun e he=>by simp at he;subst he;rfl⟩,⟨k+1,o++[b[k]+c+a[k]],0,by omega,by simp[ho],by rw[raw_append];rfl,lo.append (Limbs.cons (by omega) Limbs.nil),by omega,plus_step hkx ho hv (by have:=hgd;omega)⟩,?_⟩;simp only[nth,toI];omega
    ·have hgd:a.getD k 0=0:=getD_ge (by omega);have hw:IntKind.wrap .u32 ((b[k]:Int)+(c:Int))=((b[k]+c:Nat):Int):=by rw[u32w];omega
     rw[hw];refine brd (fun h3=>?_) (fun h3=>?_)
     ·have hw2:IntKind.wrap .u32 (((b[k]+c:Nat):Int)-1000000000)=((b[k]+c-1000000000:Nat):Int):=by rw[u32w];omega
      rw[hw2];refine⟨⟨by unfold room;omega,fun e he=>by simp at he;subst he;rfl⟩,⟨k+1,o++[b[k]+c-1000000000],1,by omega,by simp[ho],by rw[raw_append];rfl,lo.append (Limbs.cons (by omega) Limbs.nil),by omega,plus_step hkx ho hv (by have:=hgd;omega)⟩,?_⟩;simp only[nth,toI];omega
     ·refine⟨⟨by unfold room;omega,fun e he=>by simp at he;subst he;rfl⟩,⟨k+1,o++[b[k]+c],0,by omega,by simp[ho],by rw[raw_append];rfl,lo.append (Limbs.cons (by omega) Limbs.nil),by omega,plus_step hkx ho hv (by have:=hgd;omega)⟩,?_⟩;simp only[nth,toI];omega
   ·have hkx:k=b.length:=by omega
    subst hkx;rw[raw_length,ho];refine⟨⟨by unfold room;omega,fun e he=>by simp at he;subst he;rfl⟩,?_⟩;rw[List.take_length,List.take_of_length_le (by omega)]at hv;have e1:raw o++[[D.int .u32 (c:Int)]]=raw (o++[c]):=by rw[raw_append];rfl
    have l1:Limbs (o++[c]):=lo.append (Limbs.cons (by omega) Limbs.nil);have v1:val (o++[c])=val a+val b:=by rw[val_snoc,ho];omega
    have e2:o++[c]=pad (max a.length b.length+1) (val a+val b):=by
     rw[←v1,←val_pad l1];congr 1
     ·simp[ho];omega
     ·rw[val_pad l1]
    rw[e1,e2]
  ·omega
 ·refine wpF_ok (anns:=fun _=>⟨[.own 5 53 1,.slot 6 (.int .u32 0),.slot 22 (.int .i64 0)],[],fun _ ds=>∃(k:Nat) (o:List Nat) (c:Nat),k≤a.length∧o.length=k∧ds=[.sl (raw o),.int .u32 (c:Int),.int .i64 (k:Int)]∧Limbs o∧c≤1∧val o+1000000000^k*c=val (a.take k)+val (b.take k),fun ds=>a.length-(toI (nth .undef ds 2)).toNat⟩) mixedT Tryz.func430 ?_;rw[vc_plus];simp only[Int.ofNat_eq_natCast,raw_length];refine brd (fun h0=>?_) (fun h0=>?_)
  ·omega
  ·skip
   refine⟨⟨by omega,by rw[i64w];omega,by rw[i64w];unfold room;omega⟩,⟨0,[],0,by omega,rfl,rfl,Limbs.nil,by omega,by simp[val]⟩,?_⟩;rintro es n m ⟨k,o,c,hk,ho,he,lo,hc,hv⟩;simp only[List.cons.injEq,D.int.injEq,D.sl.injEq,true_and,and_true]at he;obtain⟨rfl,rfl,rfl⟩:=he;refine brd (fun h1=>?_) (fun h1=>?_)
   ·have hkx:k<a.length:=by omega
    have hxk:=ha.get hkx;have hk1:IntKind.wrap .i64 ((k:Int)+1)=((k+1:Nat):Int):=by rw[i64w];omega
    rw[Int.toNat_natCast,hk1,raw_length,ho];refine⟨⟨by omega,by omega,raw_len1 hkx⟩,_,cut_raw hkx,brd (fun h2=>?_) (fun h2=>?_)⟩
    ·have hky:k<b.length:=by omega
     have hyk:=hb.get hky;have hgd:b.getD k 0=b[k]:=by simp[List.getD,hky]
     refine⟨⟨by omega,by omega,raw_len1 hky⟩,_,cut_raw hky,?_⟩;have hw:IntKind.wrap .u32 (IntKind.wrap .u32 ((a[k]:Int)+(c:Int))+(b[k]:Int))=((a[k]+c+b[k]:Nat):Int):=by rw[u32w (n:=(a[k]:Int)+(c:Int)),u32w];omega
     rw[hw];refine brd (fun h3=>?_) (fun h3=>?_)
     ·have hw2:IntKind.wrap .u32 (((a[k]+c+b[k]:Nat):Int)-1000000000)=((a[k]+c+b[k]-1000000000:Nat):Int):=by rw[u32w];omega
      rw[hw2];refine⟨⟨by unfold room;omega,fun e he=>by simp at he;subst he;rfl⟩,⟨k+1,o++[a[k]+c+b[k]-1000000000],1,by omega,by simp[ho],by rw[raw_append];rfl,lo.append (Limbs.cons (by omega) Limbs.nil),by omega,plus_step hkx ho hv (by have:=hgd;omega)⟩,?_⟩;simp only[nth,toI];omega
     ·refine⟨⟨by unfold room;omega,fun e he=>by simp at he;subst he;rfl⟩,⟨k+1,o++[a[k]+c+b[k]],0,by omega,by simp[ho],by rw[raw_append];rfl,lo.append (Limbs.cons (by omega) Limbs.nil),by omega,plus_step hkx ho hv (by have:=hgd;omega)⟩,?_⟩;simp only[nth,toI];omega
    ·have hgd:b.getD k 0=0:=getD_ge (by omega);have hw:IntKind.wrap .u32 ((a[k]:Int)+(c:Int))=((a[k]+c:Nat):Int):=by rw[u32w];omega
     rw[hw];refine brd (fun h3=>?_) (fun h3=>?_)
     ·have hw2:IntKind.wrap .u32 (((a[k]+c:Nat):Int)-1000000000)=((a[k]+c-1000000000:Nat):Int):=by rw[u32w];omega
      rw[hw2];refine⟨⟨by unfold room;omega,fun e he=>by simp at he;subst he;rfl⟩,⟨k+1,o++[a[k]+c-1000000000],1,by omega,by simp[ho],by rw[raw_append];rfl,lo.append (Limbs.cons (by omega) Limbs.nil),by omega,plus_step hkx ho hv (by have:=hgd;omega)⟩,?_⟩;simp only[nth,toI];omega
     ·refine⟨⟨by unfold room;omega,fun e he=>by simp at he;subst he;rfl⟩,⟨k+1,o++[a[k]+c],0,by omega,by simp[ho],by rw[raw_append];rfl,lo.append (Limbs.cons (by omega) Limbs.nil),by omega,plus_step hkx ho hv (by have:=hgd;omega)⟩,?_⟩;simp only[nth,toI];omega
   ·have hkx:k=a.length:=by omega
    subst hkx;rw[raw_length,ho];refine⟨⟨by unfold room;omega,fun e he=>by simp at he;subst he;rfl⟩,?_⟩;rw[List.take_length,List.take_of_length_le (by omega)]at hv;have e1:raw o++[[D.int .u32 (c:Int)]]=raw (o++[c]):=by rw[raw_append];rfl
    have l1:Limbs (o++[c]):=lo.append (Limbs.cons (by omega) Limbs.nil);have v1:val (o++[c])=val a+val b:=by rw[val_snoc,ho];omega
    have e2:o++[c]=pad (max a.length b.length+1) (val a+val b):=by
     rw[←v1,←val_pad l1];congr 1
     ·simp[ho];omega
     ·rw[val_pad l1]
    rw[e1,e2]
omit [Env] in
theorem upd_raw {l:List Nat} {i x:Nat} (h:i<l.length):upd (raw l) i (upd (nth [] (raw l) i) 0 (.int .u32 (x:Int)))=raw (l.set i x):=by
 rw[nth_raw h];exact raw_set l i x
omit [Env] in
theorem set_rep {o:List Nat} {k m d:Nat} (ho:o.length=k) (hm:0<m):(o++List.replicate m 0).set k d=(o++[d])++List.replicate (m-1) 0:=by
 obtain⟨m,rfl⟩:∃m',m=m'+1:=⟨m-1,by omega⟩;rw[List.replicate_succ,List.set_append_right _ _ (by omega),ho];simp
omit [Env] in
theorem minus_step {x y o:List Nat} {k c d c':Nat} (hk:k<x.length) (ho:o.length=k) (hv:val o+val (y.take k)=val (x.take k)+1000000000^k*c) (ht:d+c+y.getD k 0=x[k]+1000000000*c'):
 val (o++[d])+val (y.take (k+1))=val (x.take (k+1))+1000000000^(k+1)*c':=by
 rw[val_snoc,ho,val_take_succ,val_take_succ];have h2:x.getD k 0=x[k]:=by simp[List.getD,hk]
 rw[h2];have h3:1000000000^k*(d+c+y.getD k 0)=1000000000^k*d+1000000000^k*c+1000000000^k*y.getD k 0:=by rw[Nat.mul_add,Nat.mul_add]
 have h4:1000000000^k*(x[k]+1000000000*c')=1000000000^k*x[k]+1000000000^(k+1)*c':=by rw[Nat.mul_add,Nat.pow_succ,Nat.mul_assoc]
 rw[ht]at h3;omega
theorem iminus_ok {a b:List Nat} (ha:Limbs a) (hb:Limbs b) (hra:a.length≤1073741824) (hab:val b≤val a):Gives C0 431 [.c (.sl (raw a)),.c (.sl (raw b))] [.c (.sl (raw (pad a.length (val a-val b))))]:=by
 refine wpF_ok (anns:=fun _=>⟨[.own 5 45 1,.slot 6 (.int .u32 0),.slot 15 (.int .i64 0)],[],fun _ ds=>∃(k:Nat) (o:List Nat) (c:Nat),k≤a.length∧o.length=k∧ds=[.sl (raw (o++List.replicate (a.length-k) 0)),.int .u32 (c:Int),.int .i64 (k:Int)]∧Limbs o∧c≤1∧val o+val (b.take k)=val (a.take k)+1000000000^k*c,fun ds=>a.length-(toI (nth .undef ds 2)).toNat⟩) mixedT Tryz.func431 ?_;rw[vc_minus];simp only[Int.ofNat_eq_natCast,raw_length];refine⟨⟨by omega,by omega,by unfold room;omega⟩,⟨0,[],0,by omega,rfl,by rw[Int.toNat_natCast,raw_replicate];rfl,Limbs.nil,by omega,by simp[val]⟩,?_⟩;rintro es n m ⟨k,o,c,hk,ho,he,lo,hc,hv⟩;simp only[List.cons.injEq,D.int.injEq,D.sl.injEq,true_and,and_true]at he;obtain⟨rfl,rfl,rfl⟩:=he;have hol:(o++List.replicate (a.length-k) 0).length=a.length:=by simp[ho];omega
 refine brd (fun h1=>?_) (fun h1=>?_)
 ·have hkx:k<a.length:=by omega
  have hxk:=ha.get hkx;have hk1:IntKind.wrap .i64 ((k:Int)+1)=((k+1:Nat):Int):=by rw[i64w];omega
  rw[Int.toNat_natCast,hk1,raw_length,hol];refine⟨⟨by omega,by omega,raw_len1 hkx⟩,_,cut_raw hkx,brd (fun h2=>?_) (fun h2=>?_)⟩
  ·have hky:k<b.length:=by omega
   have hyk:=hb.get hky;have hgd:b.getD k 0=b[k]:=by simp[List.getD,hky]
   refine⟨⟨by omega,by omega,raw_len1 hky⟩,_,cut_raw hky,?_⟩;have hw:IntKind.wrap .u32 ((c:Int)+(b[k]:Int))=((c+b[k]:Nat):Int):=by rw[u32w];omega
   rw[hw];refine brd (fun h3=>?_) (fun h3=>?_)
   ·have hw2:IntKind.wrap .u32 (IntKind.wrap .u32 ((a[k]:Int)+1000000000)-((c+b[k]:Nat):Int))=((a[k]+1000000000-(c+b[k]):Nat):Int):=by rw[u32w (n:=(a[k]:Int)+1000000000),u32w];omega
    rw[hw2,upd_raw (by simp[ho];omega),set_rep ho (by omega)];refine⟨⟨by omega,by omega⟩,by omega,⟨k+1,o++[a[k]+1000000000-(c+b[k])],1,by omega,by simp[ho],by rw[show a.length-k-1=a.length-(k+1)by omega];rfl,lo.append (Limbs.cons (by omega) Limbs.nil),by omega,minus_step hkx ho hv (by have:=hgd;omega)⟩,?_⟩;simp only[nth,toI];omega
   ·have hw2:IntKind.wrap .u32 ((a[k]:Int)-((c+b[k]:Nat):Int))=((a[k]-(c+b[k]):Nat):Int):=by rw[u32w];omega
    rw[hw2,upd_raw (by simp[ho];omega),set_rep ho (by omega)];refine⟨⟨by omega,by omega⟩,by omega,⟨k+1,o++[a[k]-(c+b[k])],0,by omega,by simp[ho],by rw[show a.length-k-1=a.length-(k+1)by omega];rfl,lo.append (Limbs.cons (by omega) Limbs.nil),by omega,minus_step hkx ho hv (by have:=hgd;omega)⟩,?_⟩;simp only[nth,toI];omega
  ·have hgd:b.getD k 0=0:=getD_ge (by omega);refine brd (fun h3=>?_) (fun h3=>?_)
   ·have hw2:IntKind.wrap .u32 (IntKind.wrap .u32 ((a[k]:Int)+1000000000)-(c:Int))=((a[k]+1000000000-(c):Nat):Int):=by rw[u32w (n:=(a[k]:Int)+1000000000),u32w];omega
    rw[hw2,upd_raw (by simp[ho];omega),set_rep ho (by omega)];refine⟨⟨by omega,by omega⟩,by omega,⟨k+1,o++[a[k]+1000000000-(c)],1,by omega,by simp[ho],by rw[show a.length-k-1=a.length-(k+1)by omega];rfl,lo.append (Limbs.cons (by omega) Limbs.nil),by omega,minus_step hkx ho hv (by have:=hgd;omega)⟩,?_⟩;simp only[nth,toI];omega
   ·have hw2:IntKind.wrap .u32 ((a[k]:Int)-(c:Int))=((a[k]-(c):Nat):Int):=by rw[u32w];omega
    rw[hw2,upd_raw (by simp[ho];omega),set_rep ho (by omega)];refine⟨⟨by omega,by omega⟩,by omega,⟨k+1,o++[a[k]-(c)],0,by omega,by simp[ho],by rw[show a.length-k-1=a.length-(k+1)by omega];rfl,lo.append (Limbs.cons (by omega) Limbs.nil),by omega,minus_step hkx ho hv (by have:=hgd;omega)⟩,?_⟩;simp only[nth,toI];omega
 ·have hkx:k=a.length:=by omega
  subst hkx;rw[List.take_length]at hv;rw[Nat.sub_self,List.replicate_zero,List.append_nil];have h2:=val_lt lo;rw[ho]at h2;have h3:val b=val (b.take a.length)+1000000000^(b.take a.length).length*val (b.drop a.length):=by rw[←val_append,List.take_append_drop]
  have h4:=val_lt ha;have h5:val (b.take a.length)=val b:=by
   rcases Nat.lt_or_ge b.length a.length with hl|hl
   ·rw[List.take_of_length_le (by omega)]
   ·rw[List.length_take,Nat.min_eq_left hl]at h3;rcases Nat.eq_zero_or_pos (val (b.drop a.length))with h6|h6
    ·rw[h6]at h3;omega
    ·have:=Nat.mul_le_mul_left (1000000000^a.length) h6;omega
  have h6:c=0:=by
   rcases Nat.eq_zero_or_pos c with h6|h6
   ·exact h6
   ·have:=Nat.mul_le_mul_left (1000000000^a.length) h6;omega
  subst h6;have h7:o=pad a.length (val a-val b):=by rw[show val a-val b=val o by omega];have:=val_pad lo;rw[ho]at this;exact this.symm
  rw[h7]
end Eng
end

section
open Go Go.Proofs Eng
set_option maxRecDepth 1000000
namespace Eng
theorem vc_times (Gv:Nat→List A→List A→Prop) (I0:List D→List D→Prop) (M0:List D→Nat) (I1:List D→List D→Prop) (M1:List D→Nat) (es fs:List (List D)) (Q:Nat→List (List D)→Prop):wpFo C0 Gv (ann2 ⟨[.own 5 68 1,.slot 20 (.int .i64 0)],[],I0,M0⟩ ⟨[.own 5 68 1,.slot 8 (.int .u64 0),.slot 27 (.int .i64 0)],[.slot 6 (.int .i64 0),.slot 7 (.int .u32 0),.own 5 68 1],I1,M1⟩) Tryz.f161 [.c (.sl es),.c (.sl fs)] Q=((0≤IntKind.wrap .i64 ((Int.ofNat es.length)+(Int.ofNat fs.length))∧IntKind.wrap .i64 ((Int.ofNat es.length)+(Int.ofNat fs.length))≤IntKind.wrap .i64 ((Int.ofNat es.length)+(Int.ofNat fs.length))∧room (Int.toNat (IntKind.wrap .i64 ((Int.ofNat es.length)+(Int.ofNat fs.length)))))∧I0 [] [D.sl (List.replicate (Int.toNat (IntKind.wrap .i64 ((Int.ofNat es.length)+(Int.ofNat fs.length)))) [D.int .u32 0]),dI (0:Int)]∧∀(e1:List (List D)) (n:Int),I0 [] [D.sl e1,dI n]→bB (decide (n<(Int.ofNat es.length))) ((0≤n∧n<(Int.ofNat es.length)∧List.length (nth [] es (Int.toNat n))=1)∧∃n1,cut (nth [] es (Int.toNat n)) 0 1 [D.int .u32 n1]∧I1 [dI n,D.int .u32 n1,D.sl e1] [D.sl e1,D.int .u64 0,dI (0:Int)]∧∀(es:List (List D)) (n2 n3:Int),I1 [dI n,D.int .u32 n1,D.sl e1] [D.sl es,D.int .u64 n2,dI n3]→bB (decide (n3<(Int.ofNat fs.length))) ((0≤n3∧n3<(Int.ofNat fs.length)∧List.length (nth [] fs (Int.toNat n3))=1)∧∃n4,cut (nth [] fs (Int.toNat n3)) 0 1 [D.int .u32 n4]∧(0≤IntKind.wrap .i64 (n+n3)∧IntKind.wrap .i64 (n+n3)<(Int.ofNat es.length))∧∃n5,cut (nth [] es (Int.toNat (IntKind.wrap .i64 (n+n3)))) 0 1 [D.int .u32 n5]∧(1000000000:Int)≠(0:Int)∧(1000000000:Int)≠(0:Int)∧(0≤IntKind.wrap .i64 (n+n3)∧IntKind.wrap .i64 (n+n3)<(Int.ofNat es.length))∧0<1∧I1 [dI n,D.int .u32 n1,D.sl e1] [D.sl (upd es (Int.toNat (IntKind.wrap .i64 (n+n3))) (upd (nth [] es (Int.toNat (IntKind.wrap .i64 (n+n3)))) 0 (D.int .u32 (IntKind.wrap .u32 (Int.tmod (IntKind.wrap .u64 (IntKind.wrap .u64 (IntKind.wrap .u64 n5+IntKind.wrap .u64 (IntKind.wrap .u64 n1*IntKind.wrap .u64 n4))+n2)) (1000000000:Int)))))),D.int .u64 (IntKind.wrap .u64 (Int.tdiv (IntKind.wrap .u64 (IntKind.wrap .u64 (IntKind.wrap .u64 n5+IntKind.wrap .u64 (IntKind.wrap .u64 n1*IntKind.wrap .u64 n4))+n2)) (1000000000:Int))),dI (IntKind.wrap .i64 (n3+1))]∧M1 [D.sl (upd es (Int.toNat (IntKind.wrap .i64 (n+n3))) (upd (nth [] es (Int.toNat (IntKind.wrap .i64 (n+n3)))) 0 (D.int .u32 (IntKind.wrap .u32 (Int.tmod (IntKind.wrap .u64 (IntKind.wrap .u64 (IntKind.wrap .u64 n5+IntKind.wrap .u64 (IntKind.wrap .u64 n1*IntKind.wrap .u64 n4))+n2)) (1000000000:Int)))))),D.int .u64 (IntKind.wrap .u64 (Int.tdiv (IntKind.wrap .u64 (IntKind.wrap .u64 (IntKind.wrap .u64 n5+IntKind.wrap .u64 (IntKind.wrap .u64 n1*IntKind.wrap .u64 n4))+n2)) (1000000000:Int))),dI (IntKind.wrap .i64 (n3+1))]<M1 [D.sl es,D.int .u64 n2,dI n3]) ((0≤IntKind.wrap .i64 (n+(Int.ofNat fs.length))∧IntKind.wrap .i64 (n+(Int.ofNat fs.length))<(Int.ofNat es.length))∧0<1∧I0 [] [D.sl (upd es (Int.toNat (IntKind.wrap .i64 (n+(Int.ofNat fs.length)))) (upd (nth [] es (Int.toNat (IntKind.wrap .i64 (n+(Int.ofNat fs.length))))) 0 (D.int .u32 (IntKind.wrap .u32 n2)))),dI (IntKind.wrap .i64 (n+1))]∧M0 [D.sl (upd es (Int.toNat (IntKind.wrap .i64 (n+(Int.ofNat fs.length)))) (upd (nth [] es (Int.toNat (IntKind.wrap .i64 (n+(Int.ofNat fs.length))))) 0 (D.int .u32 (IntKind.wrap .u32 n2)))),dI (IntKind.wrap .i64 (n+1))]<M0 [D.sl e1,dI n])) ((e1≠[]∧flatEs e1=true)∧Q 1 e1)):=by kernel_rfl
end Eng
end

section
namespace Eng
open Go Go.Proofs
set_option maxRecDepth 100000
variable [Env]
theorem gives_of_own {C:Cx} {f s:Nat} {args:List A} {es:List (List D)} (h:GivesOwn C f args s es):Gives C f args [.c (.sl es)]:=by
 intro w F vs hb hi ha;refine(h w F vs hb hi ha).mono fun e w' he=>?_
 obtain⟨hbel,b,c,cs,t,rfl,h1,h2,h3,h4,h5,h6,h7,h8,h9,h10⟩:=he;refine⟨hbel,_,rfl,?_⟩;have hrow:Row w' (fun b=>F b∨(w.heap.size≤b∧b<w'.heap.size)) es b 0 s:=⟨h8,.inr ⟨h1,h2⟩,fun j hj=>by
  obtain⟨v,q1,q2⟩:=h10 j hj;refine⟨v,?_,q2 _ _⟩;rw[Nat.zero_add,cell_blk h3];exact q1⟩
 exact hrow.CD h5.1
omit [Env] in
theorem val_set:∀{o:List Nat} {j:Nat} (d:Nat),j<o.length→val (o.set j d)+1000000000^j*o.getD j 0=val o+1000000000^j*d
 |[],_,_,h=>absurd h (by simp)
 |x::o,0,d,_=>by simp[val];omega
 |x::o,j+1,d,h=>by have ih:=val_set (o:=o) (j:=j) d (by simpa using h);simp only[List.set_cons_succ,val,List.getD_cons_succ];rw[Nat.pow_succ,Nat.mul_comm (1000000000^j) 1000000000,Nat.mul_assoc,Nat.mul_assoc];omega
omit [Env] in
theorem limbs_set {o:List Nat} (h:Limbs o) {j d:Nat} (hd:d<1000000000):Limbs (o.set j d):=fun y hy=>by
 rcases List.mem_or_eq_of_mem_set hy with hy|rfl
 ·exact h y hy
 ·exact hd
omit [Env] in
theorem getD_set_ne {o:List Nat} {i j d:Nat} (h:i≠j):(o.set i d).getD j 0=o.getD j 0:=by simp[List.getD,List.getElem?_set_ne h]
omit [Env] in
theorem getD_get {o:List Nat} {j:Nat} (h:j<o.length):o.getD j 0=o[j]:=by simp[List.getD,h]
omit [Env] in
theorem tmodN (t:Nat):Int.tmod (t:Int) 1000000000=((t%1000000000:Nat):Int):=by rw[Int.tmod_eq_emod_of_nonneg (by omega)];omega
omit [Env] in
theorem tdivN (t:Nat):Int.tdiv (t:Int) 1000000000=((t/1000000000:Nat):Int):=by rw[Int.tdiv_eq_ediv_of_nonneg (by omega)];omega
set_option maxHeartbeats 1000000 in
theorem itimes_own {a b:List Nat} (ha:Limbs a) (hb:Limbs b) (hra:a.length≤536870912) (hrb:b.length≤536870912) (hne:0<a.length+b.length):
 GivesOwn C0 161 [.c (.sl (raw a)),.c (.sl (raw b))] 1 (raw (pad (a.length+b.length) (val a*val b))):=by
 refine wpFo_ok (anns:=ann2
  ⟨[.own 5 68 1,.slot 20 (.int .i64 0)],[],fun _ ds=>∃(i:Nat) (o:List Nat),i≤a.length∧ds=[.sl (raw o),.int .i64 (i:Int)]∧o.length=a.length+b.length∧Limbs o∧(∀j,i+b.length≤j→o.getD j 0=0)∧val o=val (a.take i)*val b,fun ds=>a.length-(toI (nth .undef ds 1)).toNat⟩
  ⟨[.own 5 68 1,.slot 8 (.int .u64 0),.slot 27 (.int .i64 0)],[.slot 6 (.int .i64 0),.slot 7 (.int .u32 0),.own 5 68 1],fun g ds=>∃(i k c:Nat) (o0 o:List Nat),g=[.int .i64 (i:Int),.int .u32 ((a.getD i 0:Nat):Int),.sl (raw o0)]∧i<a.length∧k≤b.length∧c<1000000000∧ds=[.sl (raw o),.int .u64 (c:Int),.int .i64 (k:Int)]∧o.length=a.length+b.length∧Limbs o∧(∀j,i+b.length≤j→o.getD j 0=0)∧val o+1000000000^(i+k)*c=val o0+1000000000^i*(a.getD i 0*val (b.take k)),fun ds=>b.length-(toI (nth .undef ds 2)).toNat⟩) mixedT Tryz.func161 ?_
 rw[vc_times];simp only[Int.ofNat_eq_natCast,raw_length];have hab:IntKind.wrap .i64 ((a.length:Int)+(b.length:Int))=((a.length+b.length:Nat):Int):=by rw[i64w];omega
 rw[hab,Int.toNat_natCast,raw_replicate];refine⟨⟨by omega,by omega,by unfold room;omega⟩,⟨0,List.replicate (a.length+b.length) 0,by omega,rfl,by simp,fun y hy=>by rw[List.eq_of_mem_replicate hy];omega,fun j _=>by simp[List.getD,List.getElem?_replicate];split<;>rfl,by simp[val_replicate,val]⟩,?_⟩;rintro es n ⟨i,o0,hi,he,hol,lo,hz,hv⟩;simp only[List.cons.injEq,D.int.injEq,D.sl.injEq,true_and,and_true]at he;obtain⟨rfl,rfl⟩:=he;refine brd (fun h1=>?_) (fun h1=>?_)
 ·have hia:i<a.length:=by omega
  have hai:=ha.get hia;rw[Int.toNat_natCast];refine⟨⟨by omega,by omega,raw_len1 hia⟩,_,cut_raw hia,⟨i,0,0,o0,o0,by rw[getD_get hia],hia,by omega,by omega,rfl,hol,lo,hz,by simp[val]⟩,?_⟩;rintro es m k' ⟨i',k,c,o0',o,hg,_,hk,hc,he,hol',lo',hz',hv'⟩;simp only[List.cons.injEq,D.int.injEq,D.sl.injEq,true_and,and_true]at hg he;obtain⟨hi',hx',ho0⟩:=hg;obtain⟨rfl,rfl,rfl⟩:=he;have hi'':i'=i:=by omega
  subst hi'';have ho0:=raw_inj ho0;subst ho0;rw[getD_get hia]at hv';refine brd (fun h2=>?_) (fun h2=>?_)
  ·have hkb:k<b.length:=by omega
   have hbk:=hb.get hkb;have hj:i'+k<o.length:=by omega
   have hoj:=lo'.get hj;have hw:IntKind.wrap .i64 ((i':Int)+(k:Int))=((i'+k:Nat):Int):=by rw[i64w];omega
   have hk1:IntKind.wrap .i64 ((k:Int)+1)=((k+1:Nat):Int):=by rw[i64w];omega
   rw[hw,hk1,Int.toNat_natCast,Int.toNat_natCast,raw_length];refine⟨⟨by omega,by omega,raw_len1 hkb⟩,_,cut_raw hkb,⟨by omega,by omega⟩,_,cut_raw hj,by omega,by omega,⟨by omega,by omega⟩,by omega,?_⟩;have hp:a[i']*b[k]≤999999999*999999999:=Nat.mul_le_mul (by omega) (by omega);obtain⟨p,hpe⟩:∃p,p=a[i']*b[k]:=⟨_,rfl⟩;rw[←hpe]at hp;have hpi:(a[i']:Int)*(b[k]:Int)=(p:Int):=by rw[hpe];exact(Int.natCast_mul _ _).symm
   obtain⟨t,hte⟩:∃t,t=o[i'+k]+p+c:=⟨_,rfl⟩;have ht:IntKind.wrap .u64 (IntKind.wrap .u64 (IntKind.wrap .u64 (o[i'+k]:Int)+IntKind.wrap .u64 (IntKind.wrap .u64 (a[i']:Int)*IntKind.wrap .u64 (b[k]:Int)))+(c:Int))=(t:Int):=by rw[u64w (n:=(o[i'+k]:Int)),u64w (n:=(a[i']:Int)),u64w (n:=(b[k]:Int)),hpi,u64w (n:=(p:Int)),u64w (n:=(o[i'+k]:Int)+(p:Int)),u64w];omega
   rw[ht,tmodN,tdivN,u32w (n:=((t%1000000000:Nat):Int)),u64w (n:=((t/1000000000:Nat):Int)),upd_raw hj];refine⟨⟨i',k+1,t/1000000000,o0,o.set (i'+k) (t%1000000000),by rw[getD_get hia],hia,by omega,by omega,rfl,by simp[hol'],limbs_set lo' (by omega),fun j hjj=>by rw[getD_set_ne (by omega)];exact hz' j hjj,?_⟩,?_⟩
   ·have h3:=val_set (t%1000000000) hj;rw[getD_get hj]at h3;rw[getD_get hia,val_take_succ,getD_get hkb];have h4:=pow_dist (k:=i'+k) (show t%1000000000+1000000000*(t/1000000000)=t by omega);rw[show i'+(k+1)=i'+k+1 by omega];have h5:1000000000^(i'+k)*t=1000000000^(i'+k)*o[i'+k]+1000000000^(i'+k)*p+1000000000^(i'+k)*c:=by rw[hte,Nat.mul_add,Nat.mul_add]
    have h6:1000000000^i'*(a[i']*(val (b.take k)+1000000000^k*b[k]))=1000000000^i'*(a[i']*val (b.take k))+1000000000^(i'+k)*p:=by rw[Nat.mul_add,Nat.mul_add,hpe,Nat.pow_add];congr 1;simp only[Nat.mul_assoc,Nat.mul_left_comm]
    omega
   ·simp only[nth,toI];omega
  ·have hkb:k=b.length:=by omega
   subst hkb;have hj:i'+b.length<o.length:=by omega
   have hw:IntKind.wrap .i64 ((i':Int)+(b.length:Int))=((i'+b.length:Nat):Int):=by rw[i64w];omega
   have hk1:IntKind.wrap .i64 ((i':Int)+1)=((i'+1:Nat):Int):=by rw[i64w];omega
   rw[hw,hk1,Int.toNat_natCast,raw_length,u32w (n:=(c:Int)),upd_raw hj];refine⟨⟨by omega,by omega⟩,by omega,⟨i'+1,o.set (i'+b.length) c,by omega,rfl,by simp[hol'],limbs_set lo' hc,fun j hjj=>by rw[getD_set_ne (by omega)];exact hz' j (by omega),?_⟩,?_⟩
   ·have h3:=val_set c hj;rw[hz' _ (Nat.le_refl _)]at h3;rw[List.take_length]at hv';rw[val_take_succ,getD_get hia,Nat.add_mul,←hv,Nat.mul_assoc];omega
   ·simp only[nth,toI];omega
 ·have hia:i=a.length:=by omega
  subst hia;rw[List.take_length]at hv;refine⟨⟨fun e=>?_,flat_raw _⟩,trivial,?_⟩
  ·have h0:=congrArg List.length e;rw[raw_length]at h0;have h0:o0.length=0:=h0;omega
  ·rw[←hv,←hol,val_pad lo]
theorem itimes_ok {a b:List Nat} (ha:Limbs a) (hb:Limbs b) (hra:a.length≤536870912) (hrb:b.length≤536870912):
 Gives C0 161 [.c (.sl (raw a)),.c (.sl (raw b))] [.c (.sl (raw (pad (a.length+b.length) (val a*val b))))]:=by
 rcases Nat.eq_zero_or_pos (a.length+b.length)with h|h
 ·have h1:a=[]:=List.eq_nil_of_length_eq_zero (by omega);have h2:b=[]:=List.eq_nil_of_length_eq_zero (by omega);subst h1 h2;exact runF_ok (lim:=100) (n:=5) (tab:=noT) mixedT (fun _ _ _ h=>by simp[noT]at h) _ _ _ (by kernel_rfl)
 ·exact gives_of_own (itimes_own ha hb hra hrb h)
theorem ibyWord_ok {a:List Nat} {d:Nat} (ha:Limbs a) (hd0:0<d) (hd:d<1000000000) (hra:a.length≤1073741824):
 Gives C0 373 [.c (.sl (raw a)),.c (.int .u32 (d:Int))] [.c (.sl (raw (pad a.length (val a/d)))),.c (.sl (raw [val a%d]))]:=by
 refine wpF_ok (anns:=fun _=>⟨[.own 6 44 1,.slot 7 (.int .u64 0),.slot 8 (.int .i64 0)],[],fun _ ds=>∃(k r:Nat) (h:List Nat),k≤a.length∧r<d∧h.length=a.length-k∧Limbs h∧ds=[.sl (raw (List.replicate k 0++h)),.int .u64 (r:Int),.int .i64 ((k:Int)-1)]∧val (a.drop k)=val h*d+r,fun ds=>(toI (nth .undef ds 2)+1).toNat⟩) mixedT Tryz.func373 ?_;rw[vc_byWord];simp only[Int.ofNat_eq_natCast,raw_length,Int.toNat_natCast,raw_replicate];refine⟨⟨by omega,by omega,by unfold room;omega⟩,⟨a.length,0,[],Nat.le_refl _,hd0,by simp,Limbs.nil,by rw[i64w,List.append_nil];rfl,by simp[val]⟩,?_⟩;rintro es m n ⟨k,r,h,hk,hr,hl,lh,he,hv⟩;simp only[List.cons.injEq,D.int.injEq,D.sl.injEq,true_and,and_true]at he;obtain⟨rfl,rfl,rfl⟩:=he;refine brd (fun h1=>?_) (fun h1=>?_)
 ·have hk0:k-1<a.length:=by omega
  have hak:=ha.get hk0;have ht0:((k:Int)-1).toNat=k-1:=by omega
  have hk1:IntKind.wrap .i64 ((k:Int)-1-1)=((k-1:Nat):Int)-1:=by rw[i64w];omega
  have hdw:IntKind.wrap .u64 (d:Int)=(d:Int):=u64w;have hlen:(List.replicate k 0++h).length=a.length:=by simp[hl];omega
  rw[ht0,hk1,hdw,raw_length,hlen];refine⟨⟨by omega,by omega,raw_len1 hk0⟩,_,cut_raw hk0,by omega,by omega,⟨by omega,by omega⟩,by omega,?_⟩;have hrr:r*1000000000≤999999998*1000000000:=Nat.mul_le_mul_right _ (by omega);obtain⟨t,hte⟩:∃t,t=r*1000000000+a[k-1]:=⟨_,rfl⟩;have ht:IntKind.wrap .u64 (IntKind.wrap .u64 ((r:Int)*1000000000)+IntKind.wrap .u64 (a[k-1]:Int))=(t:Int):=by rw[u64w (n:=(r:Int)*1000000000),u64w (n:=(a[k-1]:Int)),u64w];omega
  have hq:t/d<1000000000:=by rw[Nat.div_lt_iff_lt_mul hd0];have:(r+1)*1000000000≤d*1000000000:=Nat.mul_le_mul_right _ hr;omega
  have hm:t%d<d:=Nat.mod_lt _ hd0;have e1:Int.tdiv (t:Int) (d:Int)=((t/d:Nat):Int):=by rw[Int.tdiv_eq_ediv_of_nonneg (by omega)];rfl
  have e2:Int.tmod (t:Int) (d:Int)=((t%d:Nat):Int):=by rw[Int.tmod_eq_emod_of_nonneg (by omega)];rfl
  have hdm:=Nat.div_add_mod t d;rw[ht,e1,e2];obtain⟨q,hqe⟩:∃q,q=t/d:=⟨_,rfl⟩;obtain⟨m,hme⟩:∃m,m=t%d:=⟨_,rfl⟩;rw[←hqe,←hme]at hdm ⊢;rw[←hqe]at hq;rw[←hme]at hm;rw[u64w (n:=(q:Int)),u32w (n:=(q:Int)),upd_raw (by omega)];refine⟨⟨k-1,m,q::h,by omega,hm,by simp[hl];omega,Limbs.cons hq lh,?_,?_⟩,?_⟩
  ·have:(List.replicate k 0++h).set (k-1) q=List.replicate (k-1) 0++q::h:=by obtain⟨k',rfl⟩:∃k',k=k'+1:=⟨k-1,by omega⟩;rw[List.replicate_succ',List.append_assoc,Nat.add_sub_cancel,List.set_append_right _ _ (by simp)];simp
   rw[this]
  ·rw[List.drop_eq_getElem_cons hk0,show k-1+1=k by omega];simp only[val];rw[hv];have h5:(q+1000000000*val h)*d=d*q+1000000000*(val h*d):=by rw[Nat.add_mul,Nat.mul_comm q d,Nat.mul_assoc]
   omega
  ·simp only[nth,toI];omega
 ·have hk0:k=0:=by omega
  subst hk0;simp only[List.drop_zero,List.replicate_zero,List.nil_append]at hv ⊢;have e1:val a/d=val h:=by rw[hv,Nat.mul_comm,Nat.mul_add_div hd0,Nat.div_eq_of_lt hr,Nat.add_zero]
  have e2:val a%d=r:=by rw[hv,Nat.mul_comm,Nat.mul_add_mod,Nat.mod_eq_of_lt hr]
  rw[e1,e2,u32w];have:=val_pad lh;rw[hl,Nat.sub_zero]at this;rw[this];rfl
end Eng
end

section
namespace Eng
open Go Go.Proofs
set_option maxRecDepth 100000
variable [Env]
def cI (z:Int):List D:=[.bool (decide (z<0)),.sl (raw (lim z.natAbs))]
def encI (z:Int):A:= .ag (cI z)
def topN:Nat:=((1000000000^100)^100)^10
def Sm (z:Int):Prop:=z.natAbs<topN
omit [Env] in
theorem lim_len_mul {n j k:Nat} (h:n<(1000000000^j)^k):(lim n).length≤j*k:=lim_length_le (by rw[Nat.pow_mul];exact h)
omit [Env] in
theorem lim_len_mul2 {n i j k:Nat} (h:n<((1000000000^i)^j)^k):(lim n).length≤i*j*k:=lim_len_mul (j:=i*j) (k:=k) (by rw[Nat.pow_mul];exact h)
omit [Env] in
theorem lim_len3 {n:Nat} (h:n<((1000000000^100)^100)^10):(lim n).length≤100000:=Nat.le_trans (lim_len_mul2 h) (by decide)
omit [Env] in
theorem pow3_le {b i j k m:Nat} (hb:0<b) (hm:m≤i*j*k):b^m≤((b^i)^j)^k:=by
 rw[←Nat.pow_mul,←Nat.pow_mul];exact Nat.pow_le_pow_right hb (by rw[←Nat.mul_assoc];exact hm)
omit [Env] in
theorem pow4 {b i j k l n:Nat} (hn:n=i*j*k*l):(((b^i)^j)^k)^l=b^n:=by
 subst hn;rw[Nat.pow_mul,Nat.pow_mul,Nat.pow_mul]
omit [Env] in
theorem Sm.len {z:Int} (h:Sm z):(lim z.natAbs).length≤100000:=lim_len3 h
theorem signed_enc {l:List Nat} (b:Bool) (hl:Limbs l) (hr:l.length≤1073741824) {z:Int} (hz:z=if b then-(val l:Int)else(val l:Int)):
 Gives C0 92 [.c (.bool b),.c (.sl (raw l))] [encI z]:=by
 have h:=isigned_ok b hl hr;have e1:z.natAbs=val l:=by rw[hz];split<;>omega
 have e2:decide (z<0)=(b&&decide (0<val l)):=by
  rw[hz];cases b
  ·simp only[Bool.false_eq_true,if_false,Bool.false_and,decide_eq_false_iff_not];omega
  ·simp only[if_true,Bool.true_and,decide_eq_decide];omega
 unfold encI cI;rw[e1,e2];exact h
theorem isplit_ok {u:Nat} (hu:u<18446744073709551616):Gives C0 93 [.c (.int .u64 (u:Int))] [.c (.sl (raw [u%1000000000,u/1000000000%1000000000,u/1000000000/1000000000]))]:=by
 refine wpF_ok (anns:=fun _=>⟨[],[],fun _ _=>True,fun _=>0⟩) mixedT Tryz.func93 ?_;rw[vc_split];refine⟨by omega,by omega,by omega,by omega,by omega,?_⟩;rw[tmodN,tdivN,u64w (n:=((u/1000000000:Nat):Int)),tmodN,tdivN,u32w (n:=((u%1000000000:Nat):Int)),u32w (n:=((u/1000000000%1000000000:Nat):Int)),
  u64w (n:=((u/1000000000/1000000000:Nat):Int)),u32w (n:=((u/1000000000/1000000000:Nat):Int))]
 rfl
omit [Env] in
theorem split_limbs {u:Nat} (hu:u<18446744073709551616):Limbs [u%1000000000,u/1000000000%1000000000,u/1000000000/1000000000]∧val [u%1000000000,u/1000000000%1000000000,u/1000000000/1000000000]=u:=by
 refine⟨Limbs.cons (by omega) (Limbs.cons (by omega) (Limbs.cons (by omega) Limbs.nil)),?_⟩;simp only[val];omega
theorem iFromInt64_ok {n:Int} (h1: -9223372036854775808≤n) (h2:n<9223372036854775808):Gives C0 48 [.c (.int .i64 n)] [encI n]:=by
 refine wpF_ok (anns:=fun _=>⟨[],[],fun _ _=>True,fun _=>0⟩) mixedT Tryz.func48 ?_;rw[vc_FromInt64];have hu:n.natAbs<18446744073709551616:=by omega
 obtain⟨hl,hv⟩:=split_limbs hu;have hs:=isplit_ok hu;refine brd (fun h=>?_) (fun h=>?_)
 ·have e:IntKind.wrap .u64 ((0:Int)-IntKind.wrap .u64 n)=((n.natAbs:Nat):Int):=by simp only[IntKind.wrap_u64];omega
  rw[e];refine⟨_,hs,_,_,signed_enc _ hl (by simp) (z:=n) ?_,rfl⟩;rw[hv,decide_eq_true h,if_pos rfl];omega
 ·have e:IntKind.wrap .u64 n=((n.natAbs:Nat):Int):=by simp only[IntKind.wrap_u64];omega
  rw[e];refine⟨_,hs,_,_,signed_enc _ hl (by simp) (z:=n) ?_,rfl⟩;rw[hv,decide_eq_false h,if_neg (by simp)];omega
def sgn (z:Int):Int:=if z<0 then-1 else if 0<z then 1 else 0
def cmpZ (x y:Int):Int:=if x<y then-1 else if y<x then 1 else 0
theorem iSign_ok (z:Int):Gives C0 159 [encI z] [.c (.int .i64 (sgn z))]:=by
 refine wpF_ok (anns:=fun _=>⟨[],[],fun _ _=>True,fun _=>0⟩) mixedT Tryz.func159 ?_;unfold encI cI;rw[vc_Sign];simp only[Int.ofNat_eq_natCast,raw_length];refine brb' (fun h=>?_) (fun h=>brd (fun h1=>?_) (fun h1=>?_))
 ·have h:=of_decide_eq_true h;rw[sgn,if_pos h]
 ·have h:=of_decide_eq_false h;have:0<z.natAbs:=lim_len_pos.1 (by omega);rw[sgn,if_neg h,if_pos (by omega)]
 ·have h:=of_decide_eq_false h;have:¬0<z.natAbs:=fun h2=>h1 (by have:=lim_len_pos.2 h2;omega)
  rw[sgn,if_neg h,if_neg (by omega)]
theorem iCmp_ok {x y:Int} (hx:Sm x) (hy:Sm y):Gives C0 98 [encI x,encI y] [.c (.int .i64 (cmpZ x y))]:=by
 refine wpF_ok (anns:=fun _=>⟨[],[],fun _ _=>True,fun _=>0⟩) mixedT Tryz.func98 ?_;unfold encI cI;rw[vc_Cmp];have lx:=hx.len;have ly:=hy.len;refine brb (fun h=>?_) (fun h=>?_)
 ·have h:decide (x<0)≠decide (y<0):=by simpa using h
  have h:¬(x<0↔y<0):=fun e=>h (by rw[decide_eq_decide];exact e)
  refine brb' (fun h1=>?_) (fun h1=>?_)
  ·have h1:=of_decide_eq_true h1;rw[cmpZ,if_pos (by omega)]
  ·have h1:=of_decide_eq_false h1;rw[cmpZ,if_neg (by omega),if_pos (by omega)]
 ·have h:decide (x<0)=decide (y<0):=by simpa using h
  have h:x<0↔y<0:=by rw[decide_eq_decide]at h;exact h
  refine brb' (fun h1=>?_) (fun h1=>?_)
  ·have h1:=of_decide_eq_true h1;refine⟨_,icompare_ok (lim_limbs _) (lim_limbs _) (by omega) (by omega),?_⟩;rw[lim_val,lim_val,cmpN,cmpZ];have e1:(y.natAbs<x.natAbs)=(x<y):=by rw[eq_iff_iff];omega
   have e2:(x.natAbs<y.natAbs)=(y<x):=by rw[eq_iff_iff];omega
   simp only[e1,e2]
  ·have h1:=of_decide_eq_false h1;refine⟨_,icompare_ok (lim_limbs _) (lim_limbs _) (by omega) (by omega),?_⟩;rw[lim_val,lim_val,cmpN,cmpZ];have e1:(x.natAbs<y.natAbs)=(x<y):=by rw[eq_iff_iff];omega
   have e2:(y.natAbs<x.natAbs)=(y<x):=by rw[eq_iff_iff];omega
   simp only[e1,e2]
theorem iNeg_ok {x:Int} (hx:Sm x):Gives C0 222 [encI x] [encI (-x)]:=by
 refine wpF_ok (anns:=fun _=>⟨[],[],fun _ _=>True,fun _=>0⟩) mixedT Tryz.func222 ?_;have lx:=hx.len;rw[show encI x= .ag (cI x)from rfl,cI,vc_Neg,raw_length];refine⟨⟨by unfold room;omega,lens_raw _⟩,_,_,signed_enc _ (lim_limbs _) (by omega) (z:= -x) ?_,rfl⟩;rw[lim_val];by_cases h:x<0
 ·rw[decide_eq_true h];simp;omega
 ·rw[decide_eq_false h];simp;omega
theorem iMul_ok {x y:Int} (hx:Sm x) (hy:Sm y):Gives C0 99 [encI x,encI y] [encI (x*y)]:=by
 refine wpF_ok (anns:=fun _=>⟨[],[],fun _ _=>True,fun _=>0⟩) mixedT Tryz.func99 ?_;have lx:=hx.len;have ly:=hy.len;rw[show encI x= .ag (cI x)from rfl,show encI y= .ag (cI y)from rfl,cI,cI,vc_Mul];refine⟨_,itimes_ok (lim_limbs _) (lim_limbs _) (by omega) (by omega),_,_,signed_enc _ (pad_limbs _ _) (by rw[pad_length];omega) (z:=x*y) ?_,rfl⟩;have hv:val (pad ((lim x.natAbs).length+(lim y.natAbs).length) (val (lim x.natAbs)*val (lim y.natAbs)))=x.natAbs*y.natAbs:=by rw[pad_val,lim_val,lim_val];refine Nat.mod_eq_of_lt ?_;have h1:=val_lt (lim_limbs x.natAbs);have h2:=val_lt (lim_limbs y.natAbs);rw[lim_val]at h1 h2;rw[Nat.pow_add];exact Nat.mul_lt_mul'' h1 h2
 rw[hv];obtain⟨a,ha⟩:∃a,a=x.natAbs:=⟨_,rfl⟩;obtain⟨b,hb⟩:∃b,b=y.natAbs:=⟨_,rfl⟩;rw[←ha,←hb,Int.natCast_mul];by_cases h1:x<0<;>by_cases h2:y<0
 ·have ex:x= -(a:Int):=by omega
  have ey:y= -(b:Int):=by omega
  rw[decide_eq_true h1,decide_eq_true h2,ex,ey];simp only[Bool.not_true,beq_self_eq_true,Bool.false_eq_true,if_false];rw[Int.neg_mul_neg]
 ·have ex:x= -(a:Int):=by omega
  have ey:y=(b:Int):=by omega
  rw[decide_eq_true h1,decide_eq_false h2,ex,ey];simp only[Bool.not_true,Bool.not_false,beq_false,if_true];rw[Int.neg_mul]
 ·have ex:x=(a:Int):=by omega
  have ey:y= -(b:Int):=by omega
  rw[decide_eq_false h1,decide_eq_true h2,ex,ey];simp only[Bool.not_false,beq_true,if_true];rw[Int.mul_neg]
 ·have ex:x=(a:Int):=by omega
  have ey:y=(b:Int):=by omega
  rw[decide_eq_false h1,decide_eq_false h2,ex,ey];simp
theorem iAdd_ok {x y:Int} (hx:Sm x) (hy:Sm y):Gives C0 377 [encI x,encI y] [encI (x+y)]:=by
 refine wpF_ok (anns:=fun _=>⟨[],[],fun _ _=>True,fun _=>0⟩) mixedT Tryz.func377 ?_;have lx:=hx.len;have ly:=hy.len;rw[show encI x= .ag (cI x)from rfl,show encI y= .ag (cI y)from rfl,cI,cI,vc_Add];have hpv:∀(a b:List Nat),Limbs a→Limbs b→val (pad (max a.length b.length+1) (val a+val b))=val a+val b:=by intro a b ha hb;rw[pad_val];refine Nat.mod_eq_of_lt ?_;have h1:=val_lt ha;have h2:=val_lt hb;have h3:1000000000^a.length≤1000000000^max a.length b.length:=Nat.pow_le_pow_right (by omega) (by omega);have h4:1000000000^b.length≤1000000000^max a.length b.length:=Nat.pow_le_pow_right (by omega) (by omega);rw[Nat.pow_succ];omega
 have hmv:∀(a b:List Nat),Limbs a→val b≤val a→val (pad a.length (val a-val b))=val a-val b:=by intro a b ha hb;rw[pad_val];exact Nat.mod_eq_of_lt (by have:=val_lt ha;omega)
 refine brb (fun h=>?_) (fun h=>?_)
 ·have h:decide (x<0)=decide (y<0):=by simpa using h
  have h':x<0↔y<0:=by rw[decide_eq_decide]at h;exact h
  refine⟨_,iplus_ok (lim_limbs _) (lim_limbs _) (by omega) (by omega),_,_,signed_enc _ (pad_limbs _ _) (by rw[pad_length];omega) (z:=x+y) ?_,rfl⟩;rw[hpv _ _ (lim_limbs _) (lim_limbs _),lim_val,lim_val];by_cases h:x<0
  ·rw[decide_eq_true h,if_pos rfl];omega
  ·rw[decide_eq_false h,if_neg (by simp)];omega
 ·have h:decide (x<0)≠decide (y<0):=by simpa using h
  have h':¬(x<0↔y<0):=fun e=>h (by rw[decide_eq_decide];exact e)
  refine⟨_,icompare_ok (lim_limbs _) (lim_limbs _) (by omega) (by omega),?_⟩;rw[lim_val,lim_val];have hc:cmpN x.natAbs y.natAbs<0↔x.natAbs<y.natAbs:=by
   unfold cmpN;split
   ·simp;assumption
   ·split<;>simp<;>omega
  refine brd (fun h1=>?_) (fun h1=>?_)
  ·have h1:=hc.1 h1;refine⟨_,iminus_ok (lim_limbs _) (lim_limbs _) (by omega) (by rw[lim_val,lim_val];omega),_,_,signed_enc _ (pad_limbs _ _) (by rw[pad_length];omega) (z:=x+y) ?_,rfl⟩;rw[hmv _ _ (lim_limbs _) (by rw[lim_val,lim_val];omega),lim_val,lim_val];by_cases h:y<0
   ·rw[decide_eq_true h,if_pos rfl];omega
   ·rw[decide_eq_false h,if_neg (by simp)];omega
  ·have h1:¬x.natAbs<y.natAbs:=fun h2=>h1 (hc.2 h2)
   refine⟨_,iminus_ok (lim_limbs _) (lim_limbs _) (by omega) (by rw[lim_val,lim_val];omega),_,_,signed_enc _ (pad_limbs _ _) (by rw[pad_length];omega) (z:=x+y) ?_,rfl⟩;rw[hmv _ _ (lim_limbs _) (by rw[lim_val,lim_val];omega),lim_val,lim_val];by_cases h:x<0
   ·rw[decide_eq_true h,if_pos rfl];omega
   ·rw[decide_eq_false h,if_neg (by simp)];omega
theorem iSub_ok {x y:Int} (hx:Sm x) (hy:Sm y):Gives C0 376 [encI x,encI y] [encI (x-y)]:=by
 refine wpF_ok (anns:=fun _=>⟨[],[],fun _ _=>True,fun _=>0⟩) mixedT Tryz.func376 ?_;have hn:Sm (-y):=by unfold Sm at *;rw[Int.natAbs_neg];exact hy
 have ha:=iAdd_ok hx hn;rw[show encI x= .ag (cI x)from rfl,show encI y= .ag (cI y)from rfl,cI,cI,vc_Sub];simp only[Int.ofNat_eq_natCast,raw_length];have e1:(-y).natAbs=y.natAbs:=Int.natAbs_neg y;refine brb (fun h=>?_) (fun h=>?_)
 ·have h:¬y<0:=by simpa using h
  refine⟨_,_,?_,rfl⟩;have e2:decide (((lim y.natAbs).length:Int)>0)=decide (-y<0):=by rw[decide_eq_decide];have:=lim_len_pos (n:=y.natAbs);omega
  rw[e2,←e1];exact ha
 ·have h:y<0:=by simpa using h
  refine⟨_,_,?_,rfl⟩;have e2:false=decide (-y<0):=by rw[eq_comm,decide_eq_false_iff_not];omega
  rw[e2,←e1];exact ha
theorem iword_ok {x:Int} (hx:Sm x):Gives C0 299 [encI x] (if x.natAbs<1000000000000000000 then [.c (.int .u64 (x.natAbs:Int)),.c (.bool true)]else [.c (.int .u64 0),.c (.bool false)]):=by
 refine wpF_ok (anns:=fun _=>⟨[],[],fun _ _=>True,fun _=>0⟩) mixedT Tryz.func299 ?_;have lx:=hx.len;rw[show encI x= .ag (cI x)from rfl,cI,vc_word];simp only[Int.ofNat_eq_natCast,raw_length];generalize hl:lim x.natAbs=l at *;have hll:Limbs l:=hl▸lim_limbs _;have hv:val l=x.natAbs:=hl▸lim_val _;have hge:1000000000000000000≤x.natAbs→2<l.length:=fun h=>hl▸lim_length_of_le (k:=2) (by omega)
 have hlt:=val_lt hll;refine brb (fun h=>?_) (fun h=>brb (fun h1=>?_) (fun h1=>brb (fun h2=>?_) (fun h2=>?_)))
 ·have h:l.length=0:=by have:(l.length:Int)=0:=by simpa using h
                        omega
  have:l=[]:=List.eq_nil_of_length_eq_zero h;subst this;simp only[val]at hv;rw[if_pos (by omega),←hv];rfl
 ·have h1:l.length=1:=by have:(l.length:Int)=1:=by simpa using h1
                         omega
  obtain⟨a,rfl⟩:∃a,l=[a]:=List.length_eq_one_iff.1 h1;have ha:=(hll.of_cons).1;simp only[val]at hv;refine⟨⟨by omega,by rw[h1];omega,rfl⟩,_,cut_raw (l:=[a]) (i:=0) (by simp),?_⟩;rw[if_pos (by omega)];have:IntKind.wrap .u64 (([a][0]:Nat):Int)=(x.natAbs:Int):=by show IntKind.wrap .u64 (a:Int)=_;rw[u64w];omega
  rw[this]
 ·have h2:l.length=2:=by have:(l.length:Int)=2:=by simpa using h2
                         omega
  obtain⟨a,b,rfl⟩:∃a b,l=[a,b]:=(match l,h2 with|[a,b],_=>⟨a,b,rfl⟩);have ha:=(hll.of_cons).1;have hb:=((hll.of_cons).2.of_cons).1;simp only[val]at hv;refine⟨⟨by omega,by rw[h2];omega,rfl⟩,_,cut_raw (l:=[a,b]) (i:=1) (by simp),⟨by omega,by rw[h2];omega,rfl⟩,_,cut_raw (l:=[a,b]) (i:=0) (by simp),?_⟩;rw[if_pos (by omega)];have:IntKind.wrap .u64 (IntKind.wrap .u64 (IntKind.wrap .u64 (([a,b][1]:Nat):Int)*1000000000)+IntKind.wrap .u64 (([a,b][0]:Nat):Int))=(x.natAbs:Int):=by show IntKind.wrap .u64 (IntKind.wrap .u64 (IntKind.wrap .u64 (b:Int)*1000000000)+IntKind.wrap .u64 (a:Int))=_;rw[u64w (n:=(b:Int)),u64w (n:=(a:Int)),u64w (n:=(b:Int)*1000000000),u64w];omega
  rw[this]
 ·have h:(l.length:Int)≠0:=by simpa using h
  have h1:(l.length:Int)≠1:=by simpa using h1
  have h2:(l.length:Int)≠2:=by simpa using h2
  have:¬x.natAbs<1000000000000000000:=by intro hc;have h5:=lim_length_le (n:=x.natAbs) (k:=2) (by omega);rw[hl]at h5;omega
  rw[if_neg this]
end Eng
end

section
namespace Eng
open Go Go.Proofs Go.RowKit
variable [Env]
def effOwnC (chk:List A→Bool) (s:Nat) (mk:List A→List (List D)) (dst:Option Nat) (vs:List V) (ob:List Obj):R:=
 match dst with
 |none=> .fail
 |some d=>match freeKey ob d,toAs ob vs with
  |true,some (al,us)=> .cond (chk al=true) (.arr d) (us++[(d,.arr s (mk al) false)])
  |_,_=> .fail
theorem effAt_ownC {C:Cx} {f s:Nat} {fn:Func} {chk:List A→Bool} {mk:List A→List (List D)} (hf:C.P.funcs[f]? =some fn) (hb:fn.body≠none) (hn:fn.name≠ "runtime.NumGoroutine") (h:∀al,chk al=true→GivesOwn C f al s (mk al)):EffAt C f (effOwnC chk s mk):=by
 have h0:=effAt_own (C:=C) (own:=fun al=>match chk al with|true=>some (s,mk al)|false=>none) hf hb hn (fun al s' es ho=>by
  split at ho
  ·rename_i hc;simp only[Option.some.injEq,Prod.mk.injEq]at ho;obtain⟨rfl,rfl⟩:=ho;exact h al hc
  ·simp at ho)
 have hE:∀(dst:Option Nat) (vs:List V) (ob:List Obj),(∃al us d,dst=some d∧freeKey ob d=true∧toAs ob vs=some (al,us)∧effOwnC chk s mk dst vs ob= .cond (chk al=true) (.arr d) (us++[(d,.arr s (mk al) false)])∧
  (chk al=true→effOwn (fun al=>match chk al with|true=>some (s,mk al)|false=>none) dst vs ob= .ok (.arr d) (us++[(d,.arr s (mk al) false)])))∨effOwnC chk s mk dst vs ob= .fail:=by
  intro dst vs ob;unfold effOwnC;split
  ·exact .inr rfl
  ·rename_i d;split
   ·rename_i al us h1 h2;refine .inl ⟨al,us,d,rfl,h1,h2,rfl,fun hc=>?_⟩;simp only[effOwn,h1,h2,hc]
   ·exact .inr rfl
 refine⟨fun{B F0 w0 F loc st a w dst args ts ty pos after g} hc=>?_,fun dst vs ob ob' hh hd=>?_,fun dst vs ob hv hb=>?_⟩
 ·rcases hE dst (args.toList.map (ev st)) st.objs with⟨al,us,d,h1,h2,h3,h4,h5⟩|h1
  ·rw[h4];intro hcc;have:=h0.rs (dst:=dst) (args:=args) (ts:=ts) (ty:=ty) (pos:=pos) (after:=after) (g:=g) hc;rw[h5 hcc]at this;exact this
  ·rw[h1];trivial
 ·unfold effOwnC;cases dst with
  |none=>rfl
  |some d=>
   have h1:toAs ob vs=toAs ob' vs:=toAs_ag (c:=2) fun v hv k hk=> .inl (hh k (by
    rw[mem_deepB];exact⟨k,List.mem_flatMap.2 ⟨v,hv,hk⟩,.inl rfl⟩))
   simp only[h1];rw[hd d (.inl rfl)]
 ·rcases hE dst vs ob with⟨al,us,d,rfl,h2,h3,h4,h5⟩|h1
  ·rw[h4];have hfz:=toAs_fz h3;refine⟨fun p hp=>?_,fun k hk=>?_⟩
   ·rcases List.mem_append.1 hp with hp|hp
    ·obtain⟨⟨v,hv1,hv2⟩,s',es',fz,h1,h2⟩:=hfz p hp;refine⟨.inr ⟨?_,by rw[h1];simp⟩,by rw[h2];simp,fun u hu=>by rw[h2]at hu;simp[objVs]at hu⟩;rw[mem_deepB];exact⟨p.1,List.mem_flatMap.2 ⟨v,hv1,hv2⟩,.inl rfl⟩
    ·simp only[List.mem_singleton]at hp;subst hp;exact⟨.inl ⟨.inl rfl,h2⟩,by simp,fun u hu=>by simp[objVs]at hu⟩
   ·simp only[keysV,List.mem_singleton]at hk;subst hk;exact .inr ⟨h2,_,List.mem_append_right _ (List.mem_singleton.2 rfl)⟩
  ·rw[h1];trivial
def limbD:List D→Bool
 |[.int .u32 (.ofNat n)]=>Nat.blt n 1000000000
 |_=>false
def limbsD:List (List D)→Bool
 |[]=>true
 |e::r=>limbD e&&limbsD r
def natD:List D→Nat
 |[.int _ n]=>n.toNat
 |_=>0
def natsD (es:List (List D)):List Nat:=es.map natD
def valD:List (List D)→Nat
 |[]=>0
 |e::r=>natD e+1000000000*valD r
omit [Env] in
theorem limbsD_ok:∀{es:List (List D)},limbsD es=true→es=raw (natsD es)∧Limbs (natsD es)∧val (natsD es)=valD es
 |[],_=>⟨rfl,Limbs.nil,rfl⟩
 |e::r,h=>by
  simp only[limbsD,Bool.and_eq_true]at h;obtain⟨h1,h2,h3⟩:=limbsD_ok h.2;have he:=h.1;unfold limbD at he;split at he
  ·rename_i n;rw[Nat.blt_eq]at he;refine⟨?_,Limbs.cons he h2,?_⟩
   ·simp only[natsD,List.map_cons,raw,natD]at h1 ⊢;rw[←h1];rfl
   ·simp only[natsD,List.map_cons,val,valD,natD]at h3 ⊢;rw[h3]
  ·simp at he
omit [Env] in
theorem limbsD_raw:∀{l:List Nat},Limbs l→limbsD (raw l)=true
 |[],_=>rfl
 |x::l,h=>by obtain⟨h1,h2⟩:=h.of_cons;simp only[raw,List.map_cons,limbsD,Bool.and_eq_true];refine⟨?_,limbsD_raw h2⟩;show Nat.blt x 1000000000=true;rw[Nat.blt_eq];exact h1
omit [Env] in
theorem valD_raw:∀(l:List Nat),valD (raw l)=val l
 |[]=>rfl
 |x::l=>by have:=valD_raw l;simp only[raw,List.map_cons,valD,val,natD]at this ⊢;rw[this];rfl
def timesChk:List A→Bool
 |[.c (.sl a),.c (.sl b)]=>limbsD a&&(limbsD b&&(Nat.ble a.length 536870912&&(Nat.ble b.length 536870912&&Nat.blt 0 (a.length+b.length))))
 |_=>false
def timesMk:List A→List (List D)
 |[.c (.sl a),.c (.sl b)]=>raw (pad (a.length+b.length) (valD a*valD b))
 |_=>[]
theorem times_chk (al:List A) (h:timesChk al=true):GivesOwn C0 161 al 1 (timesMk al):=by
 unfold timesChk at h;split at h
 ·rename_i a b;simp only[Bool.and_eq_true]at h;obtain⟨h1,h2,h3,h4,h5⟩:=h;obtain⟨ea,la,va⟩:=limbsD_ok h1;obtain⟨eb,lb,vb⟩:=limbsD_ok h2;have h3:=Nat.le_of_ble_eq_true h3;have h4:=Nat.le_of_ble_eq_true h4;rw[Nat.blt_eq]at h5;have na:(natsD a).length=a.length:=by simp[natsD]
  have nb:(natsD b).length=b.length:=by simp[natsD]
  have:=itimes_own la lb (by omega) (by omega) (by omega);rw[←ea,←eb,va,vb,na,nb]at this;exact this
 ·simp at h
def keepT (t:TypeId) (d:Option Nat):Bool:=
 match d with
 |some d=>match Nat.beq t 30 with
  |true=>Nat.beq d 148||(Nat.beq d 160||Nat.beq d 71)
  |false=>match Nat.beq t 38 with
   |true=>Nat.beq d 76||(Nat.beq d 81||(Nat.beq d 40||Nat.beq d 44))
   |false=>(Nat.beq t 105&&(Nat.beq d 48||Nat.beq d 53))||(Nat.beq t 99999&&Nat.beq d 10)
 |none=>false
def effM (chk:List A→Bool) (mk:List A→List (List D)) (f:Nat):Option (Option Nat→List V→List Obj→R):=
 match Nat.beq f 374 with
 |true=>some effSub
 |false=>match Nat.beq f 375 with
  |true=>some effRes
  |false=>match Nat.beq f 161 with
   |true=>some (effOwnC chk 1 mk)
   |false=>none
noncomputable def CM (chk:List A→Bool) (mk:List A→List (List D)):Cx:=⟨Tryz.prog,fun _=>none,fun _=>false,effM chk mk,keepT,fun _=>false⟩
noncomputable def CC:Cx:=CM timesChk timesMk
theorem effT_ok (f:Nat) (e:Option Nat→List V→List Obj→R) (h:CC.eff f=some e):EffAt CC f e:=by
 replace h:effM timesChk timesMk f=some e:=h;unfold effM at h;split at h
 ·rename_i hb;obtain rfl:=Nat.eq_of_beq_eq_true hb;simp only[Option.some.injEq]at h;subst h;exact effAt_sub (C:=CC) subK
 ·split at h
  ·rename_i hb;obtain rfl:=Nat.eq_of_beq_eq_true hb;simp only[Option.some.injEq]at h;subst h;exact effAt_res (C:=CC) subK
  ·split at h
   ·rename_i hb;obtain rfl:=Nat.eq_of_beq_eq_true hb;simp only[Option.some.injEq]at h;subst h;exact effAt_ownC (C:=CC) Tryz.func161 (by simp[Tryz.f161]) (by decide) fun al hc=>givesOwn_cx (C:=C0) (C':=CC) rfl rfl (times_chk al hc)
   ·simp at h
instance:EffOk CC:=effOk_all effT_ok
end Eng
end

section
open Go Go.Proofs Eng
set_option maxRecDepth 1000000
namespace Eng
theorem vc_unit (Gv:Nat→List A→List A→Prop) (Q:List A→Prop):wpF CC Gv an0 Tryz.f91 [] Q=(∃b es,Gv 48 [aI (1:Int)] [aZ b es]∧Q [aZ b es]):=by kernel_rfl
theorem vc_whole (Gv:Nat→List A→List A→Prop) (p:Bool) (es:List (List D)) (Q:List A→Prop):wpF CC Gv an0 Tryz.f47 [.ag [.bool p,.sl es]] Q=(∃b e1,Gv 91 [] [aZ b e1]∧Q [A.ag [D.bool p,D.sl es,D.bool b,D.sl e1]]):=by kernel_rfl
theorem vc_RFromInt64 (Gv:Nat→List A→List A→Prop) (n:Int) (Q:List A→Prop):wpF CC Gv an0 Tryz.f24 [.c (.int .i64 n)] Q=(∃b es,Gv 48 [aI n] [aZ b es]∧∃x,Gv 47 [aZ b es] [aR x]∧Q [aR x]):=by kernel_rfl
theorem vc_exact (Gv:Nat→List A→List A→Prop) (p q:Bool) (es fs:List (List D)) (Q:List A→Prop):wpF CC Gv an0 Tryz.f224 [.ag [.bool p,.sl es],.ag [.bool q,.sl fs]] Q=(∃b e1 b1 e2 i,Gv 301 [aZ p es,aZ q fs] [aZ b e1,aZ b1 e2,aI i]∧Q [aZ b e1]):=by kernel_rfl
theorem vc_reduce (Gv:Nat→List A→List A→Prop) (p q:Bool) (es fs:List (List D)) (Q:List A→Prop):wpF CC Gv an0 Tryz.f154 [.ag [.bool p,.sl es],.ag [.bool q,.sl fs]] Q=(∃i,Gv 159 [aZ q fs] [aI i]∧bB (decide (i<0)) (∃b e1,Gv 222 [aZ p es] [aZ b e1]∧∃b1 es,Gv 222 [aZ q fs] [aZ b1 es]∧∃b2 e2,Gv 223 [aZ b e1,aZ b1 es] [aZ b2 e2]∧∃b3 e3,Gv 91 [] [aZ b3 e3]∧∃i,Gv 98 [aZ b2 e2,aZ b3 e3] [aI i]∧bB (i !=0) (∃b4 e4,Gv 224 [aZ b e1,aZ b2 e2] [aZ b4 e4]∧∃b e5,Gv 224 [aZ b1 es,aZ b2 e2] [aZ b e5]∧Q [A.ag [D.bool b4,D.sl e4,D.bool b,D.sl e5]]) (Q [A.ag [D.bool b,D.sl e1,D.bool b1,D.sl es]])) (∃b e1,Gv 223 [aZ p es,aZ q fs] [aZ b e1]∧∃b1 e2,Gv 91 [] [aZ b1 e2]∧∃i,Gv 98 [aZ b e1,aZ b1 e2] [aI i]∧bB (i !=0) (∃b2 e3,Gv 224 [aZ p es,aZ b e1] [aZ b2 e3]∧∃b3 es,Gv 224 [aZ q fs,aZ b e1] [aZ b3 es]∧Q [A.ag [D.bool b2,D.sl e3,D.bool b3,D.sl es]]) (Q [A.ag [D.bool p,D.sl es,D.bool q,D.sl fs]]))):=by kernel_rfl
theorem vc_RSign (Gv:Nat→List A→List A→Prop) (p q:Bool) (es fs:List (List D)) (Q:List A→Prop):wpF CC Gv an0 Tryz.f97 [.ag [.bool p,.sl es,.bool q,.sl fs]] Q=(∃i,Gv 159 [aZ p es] [aI i]∧Q [aI i]):=by kernel_rfl
theorem vc_cmpCompare (Gv:Nat→List A→List A→Prop) (m n:Int) (Q:List A→Prop):wpF CC Gv an0 Tryz.f96 [.c (.int .i64 m),.c (.int .i64 n)] Q=(∃b,Gv 158 [aI m] [aB b]∧∃b1,Gv 158 [aI n] [aB b1]∧br b (br b1 (Q [aI (0:Int)]) (Q [aI (-1:Int)])) (br b1 (Q [aI (1:Int)]) (bB (decide (m<n)) (Q [aI (-1:Int)]) (bB (decide (m>n)) (Q [aI (1:Int)]) (Q [aI (0:Int)]))))):=by kernel_rfl
theorem vc_isNaN (Gv:Nat→List A→List A→Prop) (m:Int) (Q:List A→Prop):wpF CC Gv an0 Tryz.f158 [.c (.int .i64 m)] Q=(Q [aB (m !=m)]):=by kernel_rfl
theorem vc_RCmp (Gv:Nat→List A→List A→Prop) (p q r s:Bool) (es fs gs hs:List (List D)) (Q:List A→Prop):wpF CC Gv an0 Tryz.f51 [.ag [.bool p,.sl es,.bool q,.sl fs],.ag [.bool r,.sl gs,.bool s,.sl hs]] Q=(∃i,Gv 97 [A.ag [D.bool p,D.sl es,D.bool q,D.sl fs]] [aI i]∧∃i_1,Gv 97 [A.ag [D.bool r,D.sl gs,D.bool s,D.sl hs]] [aI i_1]∧∃i_2,Gv 96 [aI i,aI i_1] [aI i_2]∧bB (i_2 !=0) (Q [aI i_2]) (∃b e1,Gv 99 [aZ p es,aZ s hs] [aZ b e1]∧∃b1 es,Gv 99 [aZ r gs,aZ q fs] [aZ b1 es]∧∃i,Gv 98 [aZ b e1,aZ b1 es] [aI i]∧Q [aI i])):=by kernel_rfl
theorem vc_RAdd (Gv:Nat→List A→List A→Prop) (p q r s:Bool) (es fs gs hs:List (List D)) (Q:List A→Prop):wpF CC Gv an0 Tryz.f338 [.ag [.bool p,.sl es,.bool q,.sl fs],.ag [.bool r,.sl gs,.bool s,.sl hs]] Q=(∃i,Gv 98 [aZ q fs,aZ s hs] [aI i]∧bB (i==0) (∃b e1,Gv 377 [aZ p es,aZ r gs] [aZ b e1]∧∃x,Gv 154 [aZ b e1,aZ q fs] [aR x]∧Q [aR x]) (∃b e1,Gv 99 [aZ p es,aZ s hs] [aZ b e1]∧∃b1 es,Gv 99 [aZ r gs,aZ q fs] [aZ b1 es]∧∃b2 e2,Gv 377 [aZ b e1,aZ b1 es] [aZ b2 e2]∧∃b es,Gv 99 [aZ q fs,aZ s hs] [aZ b es]∧∃x,Gv 154 [aZ b2 e2,aZ b es] [aR x]∧Q [aR x])):=by kernel_rfl
theorem vc_RSub (Gv:Nat→List A→List A→Prop) (p q r s:Bool) (es fs gs hs:List (List D)) (Q:List A→Prop):wpF CC Gv an0 Tryz.f337 [.ag [.bool p,.sl es,.bool q,.sl fs],.ag [.bool r,.sl gs,.bool s,.sl hs]] Q=(∃x,Gv 315 [A.ag [D.bool r,D.sl gs,D.bool s,D.sl hs]] [aR x]∧∃x1,Gv 338 [A.ag [D.bool p,D.sl es,D.bool q,D.sl fs],aR x] [aR x1]∧Q [aR x1]):=by kernel_rfl
theorem vc_RNeg (Gv:Nat→List A→List A→Prop) (p q:Bool) (es fs:List (List D)) (Q:List A→Prop):wpF CC Gv an0 Tryz.f315 [.ag [.bool p,.sl es,.bool q,.sl fs]] Q=(∃b e1,Gv 222 [aZ p es] [aZ b e1]∧Q [A.ag [D.bool b,D.sl e1,D.bool q,D.sl fs]]):=by kernel_rfl
theorem vc_RMul (Gv:Nat→List A→List A→Prop) (p q r s:Bool) (es fs gs hs:List (List D)) (Q:List A→Prop):wpF CC Gv an0 Tryz.f88 [.ag [.bool p,.sl es,.bool q,.sl fs],.ag [.bool r,.sl gs,.bool s,.sl hs]] Q=(∃b e1,Gv 99 [aZ p es,aZ r gs] [aZ b e1]∧∃b1 es,Gv 99 [aZ q fs,aZ s hs] [aZ b1 es]∧∃x,Gv 154 [aZ b e1,aZ b1 es] [aR x]∧Q [aR x]):=by kernel_rfl
end Eng
end
