/- The engine, part 9: stores; places; the rest of what reads. -/
import Derived.Test.YtlgnobmngljmaaaGreatDoorEngA
import Derived.Laws.IdiomStrings
import Derived.Deep.DeepAppendWide
section
namespace Eng
open Go Go.RowKit
variable [Env]
section
variable {C:Cx} {B:Bd} {F0:Nat→Prop} {w0:World} {F:Nat→Prop} {loc:Where} {st:St} {a:Act} {w:World}
omit [Env] in
theorem one_cells {x:Value} (h:x.oneCell'=true):x.cells.toList=[x]:=by
 cases x<;>first|rfl|simp[Value.oneCell']at h
omit [Env] in
theorem run_storeAt {P:Program} {t t':TypeId} {z:List Value} {b o:Nat} {cs:Array Value} {x:Value} (hz:zeros P t=some z) (hb:w.heap[b]? =some (.cells cs t' (0,0))) (hlen:x.cells.toList.length=z.length)
 (hle:o+z.length≤cs.size) (hone:∀v∈x.cells.toList,v.oneCell'=true):
 (Instr.storeAt t (.pointer (some ⟨b,o,none⟩)) x).run P w= .ok () (setBlk w b (.cells (updsL cs.toList o x.cells.toList).toArray t' (0,0))):=by
 have h2:=run_sizeOf' hz w;have h3:=run_storeCells_blk (P:=P) (o:=o) x.cells.toList 0 w cs hb (by omega) hone;have h4:¬x.cells.size≠z.length:=by rw[←hlen];simp
 simp only[Instr.storeAt,Instr.sureAddr,storeVar,Sem.run_bind,Sem.run_pure,Result.andThen_ok,h2,if_neg h4]
 simpa using h3
omit [Env] in
theorem le_box {objs:List Obj} {k:Nat} {cells cells':List V} (hk:nth .none objs k= .box cells):Le objs (upd objs k (.box cells')) loc loc:=by
 have hlt:k<objs.length:=by
  rcases Nat.lt_or_ge k objs.length with h1|h1
  ·exact h1
  ·rw[nth_big _ h1]at hk;simp at hk
 refine⟨rfl,fun _ _=>rfl,fun j hj=>?_,fun j o' hj hc hbx=>?_,fun j s' es' fz' hj hc=>?_⟩
 ·by_cases hkj:k=j
  ·subst hkj;rw[nth_upd_same _ _ _ hlt];simp
  ·rw[nth_upd_ne _ _ _ hkj];exact hj
 ·by_cases hkj:k=j
  ·subst hkj;exact⟨by rw[hk];rfl,rfl⟩
  ·rw[nth_upd_ne _ _ _ hkj]at hc;exact⟨by rw[hc];exact hbx,rfl⟩
 ·by_cases hkj:k=j
  ·subst hkj;rw[nth_upd_same _ _ _ hlt]at hc;simp at hc
  ·rw[nth_upd_ne _ _ _ hkj]at hc;exact⟨⟨_,_,hc,rfl⟩,rfl⟩
omit [Env] in
theorem le_vec {objs:List Obj} {k:Nat} {cells cells':List V} (hk:nth .none objs k= .vec cells):Le objs (upd objs k (.vec cells')) loc loc:=by
 have hlt:k<objs.length:=by
  rcases Nat.lt_or_ge k objs.length with h1|h1
  ·exact h1
  ·rw[nth_big _ h1]at hk;simp at hk
 refine⟨rfl,fun _ _=>rfl,fun j hj=>?_,fun j o' hj hc hbx=>?_,fun j s' es' fz' hj hc=>?_⟩
 ·by_cases hkj:k=j
  ·subst hkj;rw[nth_upd_same _ _ _ hlt];simp
  ·rw[nth_upd_ne _ _ _ hkj];exact hj
 ·by_cases hkj:k=j
  ·subst hkj;exact⟨by rw[hk];rfl,rfl⟩
  ·rw[nth_upd_ne _ _ _ hkj]at hc;exact⟨by rw[hc];exact hbx,rfl⟩
 ·by_cases hkj:k=j
  ·subst hkj;rw[nth_upd_same _ _ _ hlt]at hc;simp at hc
  ·rw[nth_upd_ne _ _ _ hkj]at hc;exact⟨⟨_,_,hc,rfl⟩,rfl⟩
omit [Env] in
theorem le_arr {objs:List Obj} {k s:Nat} {es es':List (List D)} {fz fz':Bool} (hk:nth .none objs k= .arr s es fz) (hlen:es'.length=es.length):Le objs (upd objs k (.arr s es' fz')) loc loc:=by
 have hlt:k<objs.length:=by
  rcases Nat.lt_or_ge k objs.length with h1|h1
  ·exact h1
  ·rw[nth_big _ h1]at hk;simp at hk
 refine⟨rfl,fun _ _=>rfl,fun j hj=>?_,fun j o' hj hc hbx=>?_,fun j s' es'' fz'' hj hc=>?_⟩
 ·by_cases hkj:k=j
  ·subst hkj;rw[nth_upd_same _ _ _ hlt];simp
  ·rw[nth_upd_ne _ _ _ hkj];exact hj
 ·by_cases hkj:k=j
  ·subst hkj;rw[nth_upd_same _ _ _ hlt]at hc;rw[←hc]at hbx;simp[isBox]at hbx
  ·rw[nth_upd_ne _ _ _ hkj]at hc;exact⟨by rw[hc];exact hbx,rfl⟩
 ·by_cases hkj:k=j
  ·subst hkj;rw[nth_upd_same _ _ _ hlt]at hc;simp only[Obj.arr.injEq]at hc;obtain⟨rfl,rfl,rfl⟩:=hc;exact⟨⟨_,_,hk,hlen⟩,rfl⟩
  ·rw[nth_upd_ne _ _ _ hkj]at hc;exact⟨⟨_,_,hc,rfl⟩,rfl⟩
theorem conc_store {dst:Option Nat} {k off b c:Nat} {cells vs:List V} {cs:Array Value} {t':TypeId} {xs:List Value} (h:Conc C B F0 w0 F loc st a w) (hk:nth .none st.objs k= .box cells) (hl:loc k=some (b,c))
 (hnF:¬F b) (hall:All2 (fun v x=>CV loc st.objs w F v x∧x.oneCell'=true) cells cs.toList) (hrefs:∀v∈cells,Ref st.objs v)
 (hvs:All2 (fun v x=>CV loc st.objs w F v x∧x.oneCell'=true) vs xs) (hvr:∀v∈vs,Ref st.objs v):
 Conc C B F0 w0 F loc (st.put dst .any [(k,.box (updsL cells off vs))]) (a.put dst undef) (setBlk w b (.cells (updsL cs.toList off xs).toArray t' (0,0))):=by
 have hlt:k<st.objs.length:=by
  rcases Nat.lt_or_ge k st.objs.length with h1|h1
  ·exact h1
  ·rw[nth_big _ h1]at hk;simp at hk
 have hle:Le st.objs (upd st.objs k (.box (updsL cells off vs))) loc loc:=le_box hk;have hf:=h.fresh _ _ _ hl;have hw:∀b',F b'→(setBlk w b (.cells (updsL cs.toList off xs).toArray t' (0,0))).heap[b']? =w.heap[b']? :=fun b' hb=>setBlk_ne (fun e=>hnF (e▸hb))
 have mem_updsL:∀(vs:List V) (cells:List V) (off:Nat) (v:V),v∈updsL cells off vs→v∈cells∨v∈vs:=by
  intro vs
  induction vs with
  |nil=>intro cells off v hv;exact .inl hv
  |cons u vs ih=>
   intro cells off v hv;rcases ih _ _ _ hv with hv|hv
   ·rcases mem_upd hv with hv|rfl
    ·exact .inl hv
    ·exact .inr (by simp)
   ·exact .inr (by simp[hv])
 refine h.write hlt hl hnF ?_ hle;have hcv:∀v x,(CV loc st.objs w F v x∧x.oneCell'=true)→Ref st.objs v→(CV loc (upd st.objs k (.box (updsL cells off vs))) (setBlk w b (.cells (updsL cs.toList off xs).toArray t' (0,0))) F v x∧x.oneCell'=true):=fun v x hx hr=>⟨CV.le (fun _ h=>h) hw hle hr hx.1,hx.2⟩
 refine⟨b,c,_,t',hl,hnF,setBlk_at hf.2,?_,?_⟩
 ·exact All2.upds vs xs cells cs.toList off (hvs.mono_mem fun v hv x hx=>hcv v x hx (hvr v hv)) (hall.mono_mem fun v hv x hx=>hcv v x hx (hrefs v hv))
 ·intro v hv;rcases mem_updsL _ _ _ _ hv with hv|hv
  ·exact(hrefs v hv).le hle
  ·exact(hvr v hv).le hle
theorem conc_storeVec {dst:Option Nat} {k off b c:Nat} {cells:List V} {cs:Array Value} {t':TypeId} {v:V} {x:Value} (h:Conc C B F0 w0 F loc st a w) (hk:nth .none st.objs k= .vec cells) (hl:loc k=some (b,c))
 (hblk:w.heap[b]? =some (.cells cs t' (0,0))) (hv:CV loc st.objs w F v x) (h1:x.oneCell'=true) (hr:Ref st.objs v):
 Conc C B F0 w0 F loc (st.put dst .any [(k,.vec (upd cells off v))]) (a.put dst undef) (setBlk w b (.cells (updsL cs.toList off [x]).toArray t' (0,0))):=by
 have hlt:k<st.objs.length:=by
  rcases Nat.lt_or_ge k st.objs.length with h1|h1
  ·exact h1
  ·rw[nth_big _ h1]at hk;simp at hk
 have hle:Le st.objs (upd st.objs k (.vec (upd cells off v))) loc loc:=le_vec hk;have hf:=h.fresh _ _ _ hl;have hco:=h.objs k;rw[hk]at hco;obtain⟨b',c',cs',t'',hl',hnF,hblk',hsz,hlc,hall,hrefs,h9⟩:=hco;rw[hl]at hl';simp only[Option.some.injEq,Prod.mk.injEq]at hl';obtain⟨rfl,rfl⟩:=hl';rw[hblk]at hblk';simp only[Option.some.injEq,Go.Obj.cells.injEq,and_true]at hblk';obtain⟨rfl,rfl⟩:=hblk';have hw:∀b',F b'→(setBlk w b (.cells (updsL cs.toList off [x]).toArray t' (0,0))).heap[b']? =w.heap[b']? :=fun b' hb=>setBlk_ne (fun e=>hnF (e▸hb))
 refine h.write hlt hl hnF ⟨b,c,_,t',hl,hnF,setBlk_at hf.2,by simp[updsL,length_upd,hsz],by rw[length_upd];exact hlc,fun j hj=>?_,fun u hu=>?_,by rw[length_upd];exact h9⟩ hle
 ·rw[length_upd]at hj;obtain⟨y,q1,q2,q3⟩:=hall j hj;have hjs:j<cs.size:=by omega
  by_cases e:off=j
  ·subst e;refine⟨x,?_,?_,h1⟩
   ·simp only[updsL,upd_eq];simp[hjs]
   ·rw[nth_upd_same _ _ _ hj];exact CV.le (fun _ h=>h) hw hle hr hv
  ·refine⟨y,?_,?_,q3⟩
   ·simp only[updsL,upd_eq];simp[e,q1]
   ·rw[nth_upd_ne _ _ _ e];exact CV.le (fun _ h=>h) hw hle (hrefs _ (mem_nth hj)) q2
 ·rcases mem_upd hu with hu|rfl
  ·exact(hrefs u hu).le hle
  ·exact hr.le hle
omit [Env] in
theorem upd1 {α:Type} (l:List α) (i:Nat) (y:α):upd l i y=updsL l i [y]:=rfl
omit [Env] in
theorem flatten_upd {size:Nat}:∀(es:List (List D)) (_:∀e∈es,e.length=size) (i off:Nat) (ds:List D),i<es.length→off+ds.length≤size→(upd es i (updsL (nth [] es i) off ds)).flatten=updsL es.flatten (i*size+off) ds
 |[],_,_,_,_,hi,_=>absurd hi (by simp)
 |e::es,hs,0,off,ds,_,hd=>by
  have he:=hs e (by simp);simp only[upd,nth,List.flatten_cons,Nat.zero_mul,Nat.zero_add];have:∀(ds:List D) (e r:List D) (off:Nat),off+ds.length≤e.length→updsL e off ds++r=updsL (e++r) off ds:=by
   intro ds
   induction ds with
   |nil=>intro _ _ _ _;rfl
   |cons d ds ih=>intro e r off h;simp only[List.length_cons]at h;simp only[updsL];rw[ih _ _ _ (by rw[length_upd];omega)];congr 1;rw[upd_eq,upd_eq,List.set_append_left _ _ (by omega)]
  exact this ds e es.flatten off (by omega)
 |e::es,hs,i+1,off,ds,hi,hd=>by
  have he:=hs e (by simp);have ih:=flatten_upd (size:=size) es (fun e he=>hs e (by simp[he])) i off ds (by simpa using hi) hd;simp only[upd,nth,List.flatten_cons,ih];have:∀(ds:List D) (e r:List D) (off:Nat),e++updsL r off ds=updsL (e++r) (e.length+off) ds:=by
   intro ds
   induction ds with
   |nil=>intro _ _ _;rfl
   |cons d ds ih=>intro e r off;simp only[updsL];rw[ih e (upd r off d) (off+1)];congr 1;rw[upd_eq,upd_eq,List.set_append_right _ _ (by omega)];congr 2;omega
  rw[this ds e es.flatten (i*size+off)];congr 1;rw[he,Nat.succ_mul];omega
theorem conc_storeElt {dst:Option Nat} {k i off b c s:Nat} {es:List (List D)} {cs:Array Value} {t':TypeId} {ds:List D} {xs:List Value} (h:Conc C B F0 w0 F loc st a w) (hk:nth .none st.objs k= .arr s es false) (hl:loc k=some (b,c))
 (hi:i<es.length) (hblk:w.heap[b]? =some (.cells cs t' (0,0))) (hxs:All2 (CD w F) ds xs) (hle':off+ds.length≤s):
 Conc C B F0 w0 F loc (st.put dst .any [(k,.arr s (upd es i (updsL (nth [] es i) off ds)) false)]) (a.put dst undef) (setBlk w b (.cells (updsL cs.toList (i*s+off) xs).toArray t' (0,0))):=by
 have hlt:k<st.objs.length:=by
  rcases Nat.lt_or_ge k st.objs.length with h1|h1
  ·exact h1
  ·rw[nth_big _ h1]at hk;simp at hk
 have hle:Le st.objs (upd st.objs k (.arr s (upd es i (updsL (nth [] es i) off ds)) false)) loc loc:=le_arr hk (by rw[length_upd]);have hf:=h.fresh _ _ _ hl;have hco:=h.objs k;rw[hk]at hco;obtain⟨hroom,hs0,hs,hco⟩:=hco;rcases hco with⟨hl',_⟩|⟨b',c',cs',t'',hl',hnF,hblk',hsz,hlc,hcs⟩
 ·rw[hl]at hl';simp at hl'
 rw[hl]at hl';simp only[Option.some.injEq,Prod.mk.injEq]at hl';obtain⟨rfl,rfl⟩:=hl';rw[hblk]at hblk';simp only[Option.some.injEq,Go.Obj.cells.injEq,and_true]at hblk';obtain⟨rfl,rfl⟩:=hblk';have hnF:¬F b:=hnF;have hw:∀b',F b'→(setBlk w b (.cells (updsL cs.toList (i*s+off) xs).toArray t' (0,0))).heap[b']? =w.heap[b']? :=fun b' hb=>setBlk_ne (fun e=>hnF (e▸hb))
 refine h.write hlt hl hnF ⟨by rw[length_upd];exact hroom,hs0,?_,.inr ⟨b,c,_,t',hl,hnF,setBlk_at hf.2,?_,by rw[length_upd];exact hlc,?_,hcs.2⟩⟩ hle
 ·intro e he;rcases mem_upd he with he|rfl
  ·exact hs e he
  ·rw[length_updsL,nth_of_lt _ hi];exact hs _ (List.getElem_mem hi)
 ·simp[length_updsL,hsz]
 ·rw[length_upd];intro j hj;rw[flatten_upd es hs i off ds hi hle'];obtain⟨v0,h1,h2⟩:=hcs.1 j hj;have hxl:=hxs.length;have hjs:j<cs.size:=by
   rcases Nat.lt_or_ge j cs.size with h3|h3
   ·exact h3
   ·simp[h3]at h1
  have hfl:es.flatten.length=es.length*s:=by
   clear hcs hj h1 h2 hlc hi hk hroom hle h
   induction es with
   |nil=>simp
   |cons e es ih=>rw[List.flatten_cons,List.length_append,hs e (by simp),ih (fun e he=>hs e (by simp[he])),List.length_cons,Nat.succ_mul];omega
  have hget:∀(l:List Value),l.length=cs.size→∃v,l.toArray[j]? =some v∧nth undef l j=v:=fun l hl=>⟨nth undef l j,by rw[nth_of_lt _ (by omega)];simp[show j<l.length by omega],rfl⟩
  obtain⟨v,q1,q2⟩:=hget (updsL cs.toList (i*s+off) xs) (by simp[length_updsL]);refine⟨v,q1,?_⟩;rw[←q2];by_cases hin:i*s+off≤j∧j<i*s+off+ds.length
  ·obtain⟨m,rfl⟩:∃m,j=i*s+off+m:=⟨j-(i*s+off),by omega⟩;rw[nth_updsL_in _ _ _ _ _ (by omega) (by rw[hfl];omega),nth_updsL_in _ _ _ _ _ (by omega) (by simpa using hjs)];exact(hxs.nth .undef undef ds xs m (by omega)).mono (fun _ h=>h) hw
  ·have h3:nth undef cs.toList j=v0:=by rw[nth_eq];simp[h1]
   rcases Nat.lt_or_ge j (i*s+off)with h4|h4
   ·rw[nth_updsL_lt _ _ _ _ _ h4,nth_updsL_lt _ _ _ _ _ h4,h3];exact h2.mono (fun _ h=>h) hw
   ·rw[nth_updsL_ge _ _ _ _ _ (by omega),nth_updsL_ge _ _ _ _ _ (by omega),h3];exact h2.mono (fun _ h=>h) hw
theorem conc_storeFlat (x:Value) {dst:Option Nat} {k p b c s:Nat} {es es':List (List D)} {cs:Array Value} {t':TypeId} {ds:List D} {xs:List Value} (h:Conc C B F0 w0 F loc st a w) (hk:nth .none st.objs k= .arr s es false) (hl:loc k=some (b,c))
 (hblk:w.heap[b]? =some (.cells cs t' (0,0))) (hxs:All2 (CD w F) ds xs) (hlen:es'.length=es.length) (hs':∀e∈es',e.length=s) (hfe:es'.flatten=updsL es.flatten p ds) (_hp:p+ds.length≤es.length*s):
 Conc C B F0 w0 F loc (st.put dst .any [(k,.arr s es' false)]) (a.put dst x) (setBlk w b (.cells (updsL cs.toList p xs).toArray t' (0,0))):=by
 have hlt:k<st.objs.length:=by
  rcases Nat.lt_or_ge k st.objs.length with h1|h1
  ·exact h1
  ·rw[nth_big _ h1]at hk;simp at hk
 have hle:Le st.objs (upd st.objs k (.arr s es' false)) loc loc:=le_arr hk hlen;have hf:=h.fresh _ _ _ hl;have hco:=h.objs k;rw[hk]at hco;obtain⟨hroom,hs0,hs,hco⟩:=hco;rcases hco with⟨hl',_⟩|⟨b',c',cs',t'',hl',hnF,hblk',hsz,hlc,hcs⟩
 ·rw[hl]at hl';simp at hl'
 rw[hl]at hl';simp only[Option.some.injEq,Prod.mk.injEq]at hl';obtain⟨rfl,rfl⟩:=hl';rw[hblk]at hblk';simp only[Option.some.injEq,Go.Obj.cells.injEq,and_true]at hblk';obtain⟨rfl,rfl⟩:=hblk';have hnF:¬F b:=hnF;have hw:∀b',F b'→(setBlk w b (.cells (updsL cs.toList p xs).toArray t' (0,0))).heap[b']? =w.heap[b']? :=fun b' hb=>setBlk_ne (fun e=>hnF (e▸hb))
 refine h.writeX x hlt hl hnF ⟨by rw[hlen];exact hroom,hs0,hs',.inr ⟨b,c,_,t',hl,hnF,setBlk_at hf.2,?_,by rw[hlen];exact hlc,?_,hcs.2⟩⟩ hle
 ·simp[length_updsL,hsz]
 ·rw[hlen];intro j hj;rw[hfe];obtain⟨v0,h1,h2⟩:=hcs.1 j hj;have hxl:=hxs.length;have hjs:j<cs.size:=by
   rcases Nat.lt_or_ge j cs.size with h3|h3
   ·exact h3
   ·simp[h3]at h1
  have hfl:es.flatten.length=es.length*s:=by
   clear hcs hj h1 h2 hlc hk hroom hle h hlen hfe _hp
   induction es with
   |nil=>simp
   |cons e es ih=>rw[List.flatten_cons,List.length_append,hs e (by simp),ih (fun e he=>hs e (by simp[he])),List.length_cons,Nat.succ_mul];omega
  have hget:∀(l:List Value),l.length=cs.size→∃v,l.toArray[j]? =some v∧nth undef l j=v:=fun l hl=>⟨nth undef l j,by rw[nth_of_lt _ (by omega)];simp[show j<l.length by omega],rfl⟩
  obtain⟨v,q1,q2⟩:=hget (updsL cs.toList p xs) (by simp[length_updsL]);refine⟨v,q1,?_⟩;rw[←q2];by_cases hin:p≤j∧j<p+ds.length
  ·obtain⟨m,rfl⟩:∃m,j=p+m:=⟨j-p,by omega⟩;rw[nth_updsL_in _ _ _ _ _ (by omega) (by rw[hfl];omega),nth_updsL_in _ _ _ _ _ (by omega) (by simpa using hjs)];exact(hxs.nth .undef undef ds xs m (by omega)).mono (fun _ h=>h) hw
  ·have h3:nth undef cs.toList j=v0:=by rw[nth_eq];simp[h1]
   rcases Nat.lt_or_ge j p with h4|h4
   ·rw[nth_updsL_lt _ _ _ _ _ h4,nth_updsL_lt _ _ _ _ _ h4,h3];exact h2.mono (fun _ h=>h) hw
   ·rw[nth_updsL_ge _ _ _ _ _ (by omega),nth_updsL_ge _ _ _ _ _ (by omega),h3];exact h2.mono (fun _ h=>h) hw
omit [Env] in
theorem updsL_mid {α:Type}:∀(R M:List α) (A Bx:List α),R.length=M.length→updsL (A++(M++Bx)) A.length R=A++(R++Bx)
 |[],M,A,Bx,h=>by have:M=[]:=List.eq_nil_of_length_eq_zero (by simpa using h.symm);subst this;rfl
 |r::R,[],A,Bx,h=>by simp at h
 |r::R,m::M,A,Bx,h=>by
  simp only[updsL];have e1:upd (A++(m::M++Bx)) A.length r=(A++[r])++(M++Bx):=by rw[upd_eq,List.set_append_right _ _ (by omega)];simp
  have e2:A.length+1=(A++[r]).length:=by simp
  rw[e1,e2,updsL_mid R M (A++[r]) Bx (by simpa using h)];simp
omit [Env] in
theorem all2_right_one {P:V→Value→Prop}:∀{as:List V} {bs:List Value},All2 (fun v x=>P v x∧x.oneCell'=true) as bs→∀v∈bs,v.oneCell'=true
 |[],[],_,v,hv=>by simp at hv
 |_::_,b::bs,h,v,hv=>by
  rcases List.mem_cons.1 hv with rfl|hv
  ·exact h.1.2
  ·exact all2_right_one h.2 v hv
 |[],_::_,h,_,_=>h.elim
 |_::_,[],h,_,_=>h.elim
theorem rs_store {dst:Option Nat} {t:TypeId} {p x:Operand} {ty:TypeId} {pos:String} {after:Array Edge} {g:Option (Nat×Bool)} (h:Conc C B F0 w0 F loc st a w):
 RS C B F0 w0 st a w ⟨dst,.store t p x,ty,pos,after,g⟩ (opFn C ⟨dst,.store t p x,ty,pos,after,g⟩ (ev st) st.objs):=by
 simp only[opFn,storeV];have hp:=(ev_ok h p).1;have hx:=(ev_ok h x).1;have hxr:=(ev_ok h x).2;have hex:∀w',(Instr.storeAt t (a.eval p) (a.eval x)).run C.P w= .ok () w'→(execOp a.eval ⟨dst,.store t p x,ty,pos,after,g⟩).run C.P w= .ok .skip w':=fun w' hy=>by simp[execOp,hy]
 split
 ·trivial
 ·rename_i z hz;split
  ·rename_i k off hv;rw[hv]at hp;split
   ·rename_i cells hk;obtain⟨b,c,hl,hpa⟩:=hp _ hk rfl;have hco:=h.objs k;rw[hk]at hco;obtain⟨b',c',cs,t',hl',hnF,hblk,hall,hrefs⟩:=hco;rw[hl]at hl';simp only[Option.some.injEq,Prod.mk.injEq]at hl';obtain⟨rfl,rfl⟩:=hl';have hlen:cells.length=cs.size:=by simpa using hall.length
    rw[hpa]at hex;split
    ·split
     ·rename_i ds hds;rw[hds]at hx;obtain⟨vs,hxe,hvs⟩:=hx;split
      ·rename_i hc;simp only[Bool.and_eq_true,decide_eq_true_eq]at hc;have hvl:=hvs.length;rw[hxe]at hex;refine⟨_,_,_,hex _ (run_storeAt hz hblk (by simp only[Value.cells];omega) (by omega) ?_),.inr ⟨rfl,rfl⟩,F,loc,?_⟩
       ·intro v hv;have:∀(ds:List D) (vs:List Value),All2 (CD w F) ds vs→∀v∈vs,v.oneCell'=true:=by
         intro ds
         induction ds with
         |nil=>intro vs hvs v hv;cases vs with|nil=>simp at hv|cons _ _=>exact hvs.elim
         |cons d ds ih=>
          intro vs hvs v hv;cases vs with
          |nil=>exact hvs.elim
          |cons y vs=>
           rcases List.mem_cons.1 hv with rfl|hv
           ·exact hvs.1.one
           ·exact ih vs hvs.2 v hv
        exact this ds _ hvs v hv
       ·rw[updsV_eq];refine conc_store h hk hl hnF hall hrefs ?_ (fun v hv=>by obtain⟨_,_,rfl⟩:=List.mem_map.1 hv;trivial);show All2 _ (ds.map V.c) vs.toList;have:∀(ds:List D) (vs:List Value),All2 (CD w F) ds vs→All2 (fun v x=>CV loc st.objs w F v x∧x.oneCell'=true) (ds.map V.c) vs:=by
         intro ds
         induction ds with
         |nil=>intro vs hvs;cases vs with|nil=>trivial|cons _ _=>exact hvs.elim
         |cons d ds ih=>intro vs hvs;cases vs with|nil=>exact hvs.elim|cons y vs=>exact⟨⟨hvs.1,hvs.1.one⟩,ih vs hvs.2⟩
        exact this ds _ hvs
      ·trivial
     ·rename_i ds hds;rw[hds]at hx hxr;obtain⟨vs,hxe,hvs⟩:=hx;split
      ·rename_i hc;simp only[Bool.and_eq_true,decide_eq_true_eq]at hc;have hvl:=hvs.length;rw[hxe]at hex;have hall2:∀(ds:List VC) (vs:List Value),(∀c∈ds,Ref st.objs c.v)→All2 (CVC loc st.objs w F) ds vs→All2 (fun v x=>CV loc st.objs w F v x∧x.oneCell'=true) (ds.map VC.v) vs:=by
        intro ds
        induction ds with
        |nil=>intro vs _ hvs;cases vs with|nil=>trivial|cons _ _=>exact hvs.elim
        |cons d ds ih=>
         intro vs hr hvs;cases vs with
         |nil=>exact hvs.elim
         |cons y vs=>exact⟨⟨hvs.1.v,hvs.1.one⟩,ih vs (fun c hc=>hr c (by simp[hc])) hvs.2⟩
       have hall2:=hall2 ds vs.toList (fun c hc=>Ref.cell hxr hc) hvs;refine⟨_,_,_,hex _ (run_storeAt hz hblk (by simp only[Value.cells];omega) (by omega) ?_),.inr ⟨rfl,rfl⟩,F,loc,?_⟩
       ·intro v hv;exact all2_right_one hall2 v hv
       ·rw[updsVC_eq];exact conc_store h hk hl hnF hall hrefs hall2 (fun v hv=>by obtain⟨c,hc,rfl⟩:=List.mem_map.1 hv;exact Ref.cell hxr hc)
      ·trivial
     ·trivial
    ·have key:∀(v:V),ev st x=v→(a.eval x).oneCell'=true→(decide (off<cells.length)&&decide (z.length=1))=true→
      Does C B F0 w0 ⟨dst,.store t p x,ty,pos,after,g⟩ a w (st.put dst .any [(k,.box (upd cells off v))]):=by
      intro v hve hone hc;simp only[Bool.and_eq_true,decide_eq_true_eq]at hc;have h1:=one_cells hone;refine⟨_,_,_,hex _ (run_storeAt hz hblk (by rw[h1];simp;omega) (by omega) (by rw[h1];simpa using hone)),.inr ⟨rfl,rfl⟩,F,loc,?_⟩;rw[h1,upd1];subst hve;exact conc_store h hk hl hnF hall hrefs ⟨⟨hx,hone⟩,trivial⟩ (fun u hu=>by simp at hu;subst hu;exact hxr)
     split
     ·rename_i d hd;split
      ·rename_i hc;exact key _ hd (by rw[hd]at hx;exact CD.one hx) hc
      ·trivial
     ·rename_i hd;split
      ·rename_i hc;exact key _ hd (by rw[hd]at hx;rw[show a.eval x= .slice none 0 0 from hx];rfl) hc
      ·trivial
     ·rename_i j hd;split
      ·rename_i s' es' fz' hj;split
       ·rename_i hc;refine key _ hd ?_ hc;rw[hd]at hx;rcases hx s' es' fz' hj with⟨b1,c1,_,h2⟩|⟨_,_,h2⟩
        ·rw[h2];rfl
        ·rw[h2];rfl
       ·trivial
      ·trivial
     ·trivial
   ·rename_i cells hk;obtain⟨b,c,hl,hpa⟩:=hp _ hk rfl;have hco:=h.objs k;rw[hk]at hco;obtain⟨b',c',cs,t',hl',hnF,hblk,hsz,hlc,_⟩:=hco;rw[hl]at hl';simp only[Option.some.injEq,Prod.mk.injEq]at hl';obtain⟨rfl,rfl⟩:=hl';rw[hpa]at hex;split
    ·rename_i j hd;split
     ·rename_i s' es' fz' hj;split
      ·rename_i hc;simp only[Bool.and_eq_true,decide_eq_true_eq]at hc;rw[hd]at hx hxr;have hone:(a.eval x).oneCell'=true:=by
        rcases hx s' es' fz' hj with⟨b1,c1,_,h2⟩|⟨_,_,h2⟩
        ·rw[h2];rfl
        ·rw[h2];rfl
       have h1:=one_cells hone;refine⟨_,_,_,hex _ (run_storeAt hz hblk (by rw[h1];simp;omega) (by omega) (by rw[h1];simpa using hone)),.inr ⟨rfl,rfl⟩,F,loc,?_⟩;rw[h1];exact conc_storeVec h hk hl hblk hx hone hxr
      ·trivial
     ·trivial
    ·trivial
   ·trivial
  ·rename_i k i off hv;rw[hv]at hp;split
   ·rename_i s es hk;obtain⟨b,c,hl,hi,hpa⟩:=hp s es false hk;have hco:=h.objs k;rw[hk]at hco;obtain⟨_,hs0,hs,hco⟩:=hco;rcases hco with⟨hl',_⟩|⟨b',c',cs,t',hl',hnF,hblk,hsz,hlc,hcs⟩
    ·rw[hl]at hl';simp at hl'
    rw[hl]at hl';simp only[Option.some.injEq,Prod.mk.injEq]at hl';obtain⟨rfl,rfl⟩:=hl';rw[hpa]at hex;have hmul:=idx_lt (s:=s) (m:=s-1) hi (by omega);have hcap:es.length*s≤c*s:=Nat.mul_le_mul_right s hlc.1;split
    ·rename_i d hd;split
     ·rename_i hc;simp only[Bool.and_eq_true,decide_eq_true_eq]at hc;intro hoff;rw[hd]at hx;have h1:=one_cells (CD.one hx);refine⟨_,_,_,hex _ (run_storeAt hz hblk (by rw[h1];simp;omega) (by omega) (by rw[h1];simpa using CD.one hx)),.inr ⟨rfl,rfl⟩,F,loc,?_⟩;rw[h1];exact conc_storeElt (ds:=[d]) h hk hl hi hblk ⟨hx,trivial⟩ (by simp;omega)
     ·trivial
    ·rename_i ds hd;split
     ·rename_i hc;simp only[Bool.and_eq_true,decide_eq_true_eq]at hc;intro hoff;rw[hd]at hx;obtain⟨vs,hxe,hvs⟩:=hx;have hvl:=hvs.length;rw[hxe]at hex;refine⟨_,_,_,hex _ (run_storeAt hz hblk (by simp only[Value.cells];omega) (by omega) ?_),.inr ⟨rfl,rfl⟩,F,loc,?_⟩
      ·intro v hv;have:∀(ds:List D) (vs:List Value),All2 (CD w F) ds vs→∀v∈vs,v.oneCell'=true:=by
        intro ds
        induction ds with
        |nil=>intro vs hvs v hv;cases vs with|nil=>simp at hv|cons _ _=>exact hvs.elim
        |cons d ds ih=>
         intro vs hvs v hv;cases vs with
         |nil=>exact hvs.elim
         |cons y vs=>
          rcases List.mem_cons.1 hv with rfl|hv
          ·exact hvs.1.one
          ·exact ih vs hvs.2 v hv
       exact this ds _ hvs v hv
      ·rw[updsD_eq];exact conc_storeElt (ds:=ds) h hk hl hi hblk hvs hoff
     ·trivial
    ·trivial
   ·trivial
  ·trivial
end
end Eng
end

section
namespace Eng
open Go Go.RowKit
variable [Env]
section
variable {C:Cx} {B:Bd} {F0:Nat→Prop} {w0:World} {F:Nat→Prop} {loc:Where} {st:St} {a:Act} {w:World}
variable {dst:Option Nat} {ty:TypeId} {pos:String} {after:Array Edge} {g:Option (Nat×Bool)}
theorem rs_nilCheck {x:Operand} (h:Conc C B F0 w0 F loc st a w):RS C B F0 w0 st a w ⟨dst,.nilCheck x,ty,pos,after,g⟩ (opFn C ⟨dst,.nilCheck x,ty,pos,after,g⟩ (ev st) st.objs):=by
 simp only[opFn];have hx:=ev_ok h x;split
 ·rename_i k off hv;rw[hv]at hx;split
  ·rename_i cells hk;obtain⟨b,c,_,hp⟩:=hx.1 _ hk rfl;refine rs_value h hx.1 hx.2 ?_;simp[execOp,hp]
  ·trivial
 ·trivial
theorem eqGuard_nil {op:BinOp} {t:TypeId} {x y:Operand} {p q:Bool} {u v:Value} (hp:CD w F (.ifc p) u) (hq:CD w F (.ifc q) v) (hxy:constO x=true∨constO y=true):(eqGuard op t x y u v).run C.P w= .ok () w:=by
 cases hp with
 |nilI=>cases hq with
  |nilI=>
   rcases hxy with hxy|hxy
   ·cases x<;>simp[constO]at hxy;cases op<;>rfl
   ·cases y<;>simp[constO]at hxy;cases op<;>cases x<;>rfl
  |someI=>cases op<;>rfl
 |someI=>cases hq<;>cases op<;>rfl
theorem rs_binOp {op:BinOp} {t t2:TypeId} {x y:Operand} (h:Conc C B F0 w0 F loc st a w):RS C B F0 w0 st a w ⟨dst,.binOp op t x y t2,ty,pos,after,g⟩ (opFn C ⟨dst,.binOp op t x y t2,ty,pos,after,g⟩ (ev st) st.objs):=by
 simp only[opFn];have hx:=(ev_ok h x).1;have hy:=(ev_ok h y).1;have hvs:=nilV_ok (P:=C.P) (op:=op) (t:=t) (xo:=x) (yo:=y) hx hy;by_cases hr0:nilV C.P op t x y (ev st x) (ev st y)= .fail
 ·rw[hr0];trivial
 have hg:(eqGuard op t x y (a.eval x) (a.eval y)).run C.P w= .ok () w:=by
  generalize hu:ev st x=u at *;generalize hv:ev st y=v at *;unfold nilV at hr0;split at hr0
  ·rename_i ms hms;split at hr0
   ·rename_i p q;split at hr0
    ·rename_i hc;have hxy:constO x=true∨constO y=true:=by
      cases hx0:constO x<;>cases hy0:constO y<;>simp[hx0,hy0]at hc ⊢
     exact eqGuard_nil hx hy hxy
    ·exact absurd rfl hr0
   ·exact absurd rfl hr0
  ·split at hr0
   ·have hx1:CD w F _ _:=hx;refine eqGuard_ok hx1.one fun e=>?_
    rw[e]at hx1;cases hx1
   ·exact absurd rfl hr0
  ·by_cases hst:∃fs,C.P.underlying t=some (.struct fs)
   ·obtain⟨fs,hst⟩:=hst;unfold eqV at hr0;rw[hst]at hr0;exact aggV_guard hst hx hy hr0
   have hg:(a.eval x).oneCell'=true∧a.eval x≠ .nilIface:=by
    have h0:∃d,u= .c d∧((∃k n,d= .int k n)∨(∃b,d= .bool b)∨∃s,d= .str s):=by
     unfold eqV at hr0;split at hr0
     ·split at hr0
      ·exact⟨_,rfl,.inr (.inl ⟨_,rfl⟩)⟩
      ·exact absurd rfl hr0
     ·rename_i fs hfs;exact absurd ⟨fs,hfs⟩ hst
     ·unfold binV at hr0;split at hr0
      ·exact⟨_,rfl,.inl ⟨_,_,rfl⟩⟩
      ·exact⟨_,rfl,.inr (.inr ⟨_,rfl⟩)⟩
      ·exact absurd rfl hr0
    obtain⟨d,h1,h2⟩:=h0;rw[h1]at hx;rcases h2 with⟨k,n,rfl⟩|⟨b,rfl⟩|⟨s,rfl⟩
    ·rw[int_inv hx];exact⟨rfl,by simp⟩
    ·rw[bool_inv hx];exact⟨rfl,by simp⟩
    ·rw[str_inv hx];exact⟨rfl,by simp⟩
   exact eqGuard_ok hg.1 hg.2
 refine rs_of_vs h hvs (fun v hv=>?_);simp[execOp,hg,hv]
theorem rs_mx {x y:Operand} {ts:Array TypeId} (h:Conc C B F0 w0 F loc st a w):RS C B F0 w0 st a w ⟨dst,.call ⟨.builtin .max, #[x,y],ts⟩,ty,pos,after,g⟩ (mxV true (ev st x) (ev st y)):=by
 refine rs_of_vs h (maxV_ok (P:=C.P) (ts:=ts) (ty:=ty) (ev_ok h x).1 (ev_ok h y).1) (fun v hv=>?_);simp[execOp,resolve,invoke,builtin,hv]
theorem rs_mn {x y:Operand} {ts:Array TypeId} (h:Conc C B F0 w0 F loc st a w):RS C B F0 w0 st a w ⟨dst,.call ⟨.builtin .min, #[x,y],ts⟩,ty,pos,after,g⟩ (mxV false (ev st x) (ev st y)):=by
 refine rs_of_vs h (minV_ok (P:=C.P) (ts:=ts) (ty:=ty) (ev_ok h x).1 (ev_ok h y).1) (fun v hv=>?_);simp[execOp,resolve,invoke,builtin,hv]
theorem rs_unOp {op:UnOp} {t:TypeId} {x:Operand} (h:Conc C B F0 w0 F loc st a w):RS C B F0 w0 st a w ⟨dst,.unOp op t x,ty,pos,after,g⟩ (opFn C ⟨dst,.unOp op t x,ty,pos,after,g⟩ (ev st) st.objs):=by
 simp only[opFn];refine rs_of_vs h (unV_ok (P:=C.P) (op:=op) (ev_ok h x).1) (fun v hv=>?_);simp[execOp,hv]
omit [Env] in
theorem rowsOf_flatten (l:List UInt8):(rowsOf l).flatten=l.map fun c=>D.int .u8 c.toNat:=by
 induction l with
 |nil=>rfl
 |cons c l ih=>simp only[rowsOf,List.map_cons,List.flatten_cons]at ih ⊢;rw[ih];rfl
theorem does_bytes {s t:TypeId} {x:Operand} {l:List UInt8} (h:Conc C B F0 w0 F loc st a w) (hb:bytesT C.P s t=true) (hx:ev st x= .c (.str l)):
 Does C B F0 w0 ⟨dst,.convert s t x,ty,pos,after,g⟩ a w (st.put dst (.c (.sl (rowsOf l))) []):=by
 obtain⟨e,hs,hd,he⟩:∃e,C.P.underlying s=some .string∧C.P.underlying t=some (.slice e)∧C.P.underlying e=some (.int .u8):=by
  unfold bytesT at hb;split at hb
  ·rename_i e h1 h2;split at hb
   ·rename_i h3;exact⟨e,h1,h2,h3⟩
   ·simp at hb
  ·simp at hb
 have hxv:=(ev_ok h x).1;rw[hx]at hxv;have hxv:=str_inv hxv;have hrun:=run_bytes_of_string (P:=C.P) w s t e ⟨⟨l⟩⟩ hs hd he;have hsz:(⟨⟨l⟩⟩:ByteArray).size=l.length:=rfl;rw[hsz]at hrun;generalize hcap:grownCap w l.length 0 e=cap at hrun;generalize hob:Go.Obj.cells (bytesRow ⟨⟨l⟩⟩ cap) e ((bytesRow ⟨⟨l⟩⟩ cap).size,(bytesRow ⟨⟨l⟩⟩ cap).size+1)=ob at hrun;have hsize:(w.drew.alloc ob).heap.size=w.heap.size+1:=World.size_alloc ..;have hold:∀b,b<w.heap.size→(w.drew.alloc ob).heap[b]? =w.heap[b]? :=fun b hb=>Below.heap_alloc w.drew ob b hb
 refine⟨.value (.slice (some ⟨w.heap.size,0,none⟩) l.length cap),_,w.drew.alloc ob,by simp[execOp,hxv,hrun],.inl rfl,fun b=>F b∨b=w.heap.size,loc,?_⟩;refine h.step (up:=[]) (fun b h=> .inl h) (fun b hb=>hold b (h.bound b hb)) (Le.refl _ _) ((BelowX.drew h.below).alloc h.hB _) (by have:=h.hB;omega) (fun k=>?_) h.inj (fun k b c hl=>⟨(h.fresh k b c hl).1,by have:=h.fresh k b c hl;omega⟩) (fun b hb=>?_) (fun b hb=>?_) ?_ trivial
 ·refine CO.le (fun b h=> .inl h) (fun b hb=>hold b (h.bound b hb)) (Le.refl _ _) rfl rfl (fun b c hl=>?_) (h.objs k);have hf:=(h.fresh _ _ _ hl).2;exact⟨hold b hf,fun hn hor=>by rcases hor with hor|hor;exact hn hor;omega⟩
 ·rcases hb with hb|hb
  ·have:=h.bound b hb;omega
  ·omega
 ·rcases hb with hb|hb
  ·exact h.fsub b hb
  ·have:=h.hB;exact .inr (.inl (by omega))
 ·show CD _ _ (.sl (rowsOf l)) _;have hrl:(rowsOf l).length=l.length:=by simp[rowsOf]
  have hfl:=rowsOf_flatten l;have hrow:Row (w.drew.alloc ob) (fun b=>F b∨b=w.heap.size) (rowsOf l) w.heap.size 0 1:=by
   refine⟨fun e he=>?_,.inr rfl,fun j hj=>?_⟩
   ·simp only[rowsOf,List.mem_map]at he;obtain⟨c,_,rfl⟩:=he;rfl
   ·rw[hrl,Nat.mul_one]at hj;refine⟨.int .u8 (l[j]).toNat,?_,?_⟩
    ·have hblk:(w.drew.alloc ob).heap[w.heap.size]? =some ob:=by show(w.heap.push ob)[w.heap.size]? =_;simp
     rw[←hob]at hblk ⊢;unfold World.cell?;rw[hblk];simp only[Nat.zero_add];unfold bytesRow;rw[Array.getElem?_append_left (by simpa using hj)];simp[hj]
    ·rw[hfl,nth_of_lt _ (by simpa using hj)];simp only[List.getElem_map];exact .int _ _
  have:=hrow.CD (c:=cap) (by
   rw[hrl,←hcap];exact grownCap_ge w l.length 0 e)
  rw[hrl]at this;exact this
theorem rs_convert {s t:TypeId} {x:Operand} (h:Conc C B F0 w0 F loc st a w):RS C B F0 w0 st a w ⟨dst,.convert s t x,ty,pos,after,g⟩ (opFn C ⟨dst,.convert s t x,ty,pos,after,g⟩ (ev st) st.objs):=by
 simp only[opFn];split
 ·rename_i hb;split
  ·rename_i str hx;exact fun _=>does_bytes h hb hx
  ·trivial
 ·split
  ·rename_i ds hs;refine rs_of_vs h (convV_ok (P:=C.P) (src:=s) (dst:=t) hs (ev_ok h x).1) (fun v hv=>?_);simp[execOp,hv]
  ·trivial
omit [Env] in
theorem fieldOf_ok {P:Program} {t f off:Nat} {ft:TypeId} (h:fieldOf P t f=some (off,ft)):∃fs fd,P.underlying t=some (.struct fs)∧fs[f]? =some fd∧fd.offset=off∧fd.type=ft:=by
 unfold fieldOf at h;split at h
 ·rename_i fs hu;split at h
  ·rename_i fd hf;simp only[Option.some.injEq,Prod.mk.injEq]at h;exact⟨fs,fd,hu,hf,h.1,h.2⟩
  ·simp at h
 ·simp at h
omit [Env] in
theorem info_of_cells {P:Program} {t:TypeId} (h:P.cellsOf t≠0):∃i,P.info? t=some i∧i.size=P.cellsOf t:=by
 unfold Program.cellsOf at h ⊢;cases hi:P.info? t with
 |none=>simp[hi]at h
 |some i=>exact⟨i,rfl,by simp⟩
omit [Env] in
theorem run_fieldAddr {P:Program} {t f off b o:Nat} {ft:TypeId} (h:fieldOf P t f=some (off,ft)) (h0:P.cellsOf ft≠0) (w:World):
 (Instr.fieldAt t (.pointer (some ⟨b,o,none⟩)) f).run P w= .ok (.pointer (some ⟨b,o+off,none⟩)) w:=by
 obtain⟨fs,fd,hu,hf,rfl,rfl⟩:=fieldOf_ok h;obtain⟨i,hi,hs⟩:=info_of_cells h0;have hsz:i.size≠0:=by rw[hs];exact h0
 simp[Instr.fieldAt,run_und hu,hf,Instr.sureAddr,fieldPlace,Go.sizeOf,typeInfo,hi,hsz,addr_add]
theorem rs_fieldAddr {t:TypeId} {x:Operand} {f:Nat} (h:Conc C B F0 w0 F loc st a w):RS C B F0 w0 st a w ⟨dst,.fieldAddr t x f,ty,pos,after,g⟩ (opFn C ⟨dst,.fieldAddr t x f,ty,pos,after,g⟩ (ev st) st.objs):=by
 simp only[opFn];have hx:=ev_ok h x;split
 ·rename_i off ft hf;split
  ·trivial
  ·rename_i h0;have h0:C.P.cellsOf ft≠0:=by simpa using h0
   split
   ·rename_i k o hv;rw[hv]at hx;split
    ·rename_i cells hk;obtain⟨b,c,hl,hp⟩:=hx.1 _ hk rfl;refine rs_value h (x:= .pointer (some ⟨b,o+off,none⟩)) (fun cells' hc _=>⟨b,c,hl,rfl⟩) hx.2 ?_;simp[execOp,hp,run_fieldAddr hf h0]
    ·trivial
   ·rename_i k i o hv;rw[hv]at hx;split
    ·rename_i s es fz hk;obtain⟨b,c,hl,hi,hp⟩:=hx.1 s es fz hk;refine rs_value h (x:= .pointer (some ⟨b,i*s+o+off,none⟩)) (fun s' es' fz' hc=>?_) hx.2 ?_
     ·rw[hk]at hc;simp only[Obj.arr.injEq]at hc;obtain⟨rfl,rfl,rfl⟩:=hc;exact⟨b,c,hl,hi,by rw[Nat.add_assoc]⟩
     ·simp[execOp,hp,run_fieldAddr hf h0]
    ·trivial
   ·rename_i es i o hv;rw[hv]at hx;obtain⟨b,p,size,hp,hi,hrow⟩:=hx.1;refine rs_value h (x:= .pointer (some ⟨b,p+i*size+o+off,none⟩)) ⟨b,p,size,by rw[Nat.add_assoc],hi,hrow⟩ trivial ?_;simp[execOp,hp,run_fieldAddr hf h0]
   ·trivial
 ·trivial
theorem rs_field {t:TypeId} {x:Operand} {f:Nat} (h:Conc C B F0 w0 F loc st a w):RS C B F0 w0 st a w ⟨dst,.field t x f,ty,pos,after,g⟩ (opFn C ⟨dst,.field t x f,ty,pos,after,g⟩ (ev st) st.objs):=by
 simp only[opFn];have hx:=ev_ok h x;split
 ·rename_i off ft cs hf hv;rw[hv]at hx;obtain⟨vs,hxe,hvs⟩:=hx.1;have hl:cs.length=vs.size:=by simpa using hvs.length
  split
  ·rename_i z hz;obtain⟨fs,fd,hu,hfd,ho,ht⟩:=fieldOf_ok hf;subst ho ht;have h1:=run_isAgg0 hz w;have h2:=run_sizeOf' hz w;split
   ·rename_i hle;have hle:fd.offset+z.length≤cs.length:=by simpa using hle
    split
    ·rename_i ha;rw[ha]at h1;refine rs_value h (x:= .agg (vs.extract fd.offset (fd.offset+z.length))) ⟨_,rfl,?_⟩ trivial ?_
     ·have:(vs.extract fd.offset (fd.offset+z.length)).toList=segF (fun j=>nth undef vs.toList j) fd.offset z.length:=by
       rw[←segF_range];apply List.ext_getElem?;intro j;simp only[Array.toList_extract,List.extract_eq_take_drop,Nat.add_sub_cancel_left,List.getElem?_map];by_cases hj:j<z.length
       ·have hsz:fd.offset+j<vs.size:=by omega
        simp[hj,nth_eq,hsz]
       ·simp[hj];omega
      rw[this,seg_eq];exact all2_segF _ _ fun j hj=>hvs.nth .undef undef _ _ _ (by omega)
     ·simp[execOp,Instr.field,run_und hu,hfd,part,hxe,asAgg,h1,h2]
    ·rename_i ha;rw[ha]at h1;split
     ·rename_i hpos;have hpos:0<z.length:=by simpa using hpos
      have hlt:fd.offset<vs.size:=by omega
      refine rs_value h (x:=nth undef vs.toList fd.offset) (show CD w F _ _ from hvs.nth .undef undef _ _ fd.offset (by omega)) trivial ?_;simp[execOp,Instr.field,run_und hu,hfd,part,hxe,asAgg,h1,hlt,nth_eq]
     ·trivial
   ·trivial
  ·trivial
 ·trivial
theorem rs_extract {x:Operand} {i:Nat} (h:Conc C B F0 w0 F loc st a w):RS C B F0 w0 st a w ⟨dst,.extract x i,ty,pos,after,g⟩ (opFn C ⟨dst,.extract x i,ty,pos,after,g⟩ (ev st) st.objs):=by
 simp only[opFn];have hx:=ev_ok h x;split
 ·rename_i as hv;rw[hv]at hx;obtain⟨vs,hxe,hvs⟩:=hx.1;have hl:as.length=vs.size:=by simpa using hvs.length
  split
  ·rename_i hlt;have hlt:i<as.length:=by simpa using hlt
   have h1:=hvs.nth (A.c .undef) undef as vs.toList i hlt;have hrun:(execOp a.eval ⟨dst,.extract x i,ty,pos,after,g⟩).run C.P w= .ok (.value (nth undef vs.toList i)) w:=by simp[execOp,Instr.extract,hxe,nth_eq,show i<vs.size by omega]
   split
   ·rename_i d hd;rw[hd]at h1;exact rs_value h h1 trivial hrun
   ·rename_i cs hd;rw[hd]at h1;exact rs_value h h1 trivial hrun
  ·trivial
 ·rename_i k as hv;rw[hv]at hx;obtain⟨⟨y,ys,hxe,hy,hys⟩,href⟩:=hx;have hl:as.length=ys.length:=by simpa using hys.length
  split
  ·have hrun:(execOp a.eval ⟨dst,.extract x 0,ty,pos,after,g⟩).run C.P w= .ok (.value y) w:=by simp[execOp,Instr.extract,hxe]
   refine rs_value h (x:=y) (fun s es fz hc=>?_) href hrun;obtain⟨b,c,h1,h2⟩:=hy s es fz hc;exact .inl ⟨b,c,h1,h2⟩
  ·rename_i j;split
   ·rename_i hlt;have hlt:j<as.length:=by simpa using hlt
    have h1:=hys.nth (A.c .undef) undef as ys j hlt;have hrun:(execOp a.eval ⟨dst,.extract x (j+1),ty,pos,after,g⟩).run C.P w= .ok (.value (nth undef ys j)) w:=by simp[execOp,Instr.extract,hxe,nth_eq,show j<ys.length by omega]
    split
    ·rename_i d hd;rw[hd]at h1;exact rs_value h h1 trivial hrun
    ·rename_i cs hd;rw[hd]at h1;exact rs_value h h1 trivial hrun
   ·trivial
 ·trivial
theorem rs_index {t:TypeId} {x i:Operand} (h:Conc C B F0 w0 F loc st a w):RS C B F0 w0 st a w ⟨dst,.index t x i,ty,pos,after,g⟩ (opFn C ⟨dst,.index t x i,ty,pos,after,g⟩ (ev st) st.objs):=by
 simp only[opFn];have hx:=(ev_ok h x).1;have hi:=(ev_ok h i).1;split
 ·rename_i s k n hu hvx hvi;rw[hvx]at hx;rw[hvi]at hi;rintro⟨h0,h1⟩;refine does_pure h (x:= .int .u8 ((nth 0 s n.toNat).toNat:Int)) ?_ (CD.int _ _) trivial;have hs:=str_inv hx;have hn:=int_inv hi;have hlt:n.toNat<s.length:=by omega
  have hg:(⟨⟨s⟩⟩:ByteArray)[n.toNat]? =some (nth 0 s n.toNat):=by rw[nth_of_lt _ hlt];have:n.toNat<(⟨⟨s⟩⟩:ByteArray).size:=hlt;rw[getElem?_pos (⟨⟨s⟩⟩:ByteArray) n.toNat this];rfl
  simp[execOp,Instr.index,hs,hn,asIntOf,run_und hu,h0,hg]
 ·trivial
omit [Env] in
theorem chunksD_len (s:Nat):∀(n:Nat) (cs:List D),(chunksD s n cs).length=n
 |0,_=>rfl
 |n+1,cs=>by simp only[chunksD,List.length_cons];rw[chunksD_len s n]
omit [Env] in
theorem chunksD_flat (s:Nat):∀(n:Nat) (cs:List D),cs.length=n*s→(chunksD s n cs).flatten=cs∧∀e∈chunksD s n cs,e.length=s
 |0,cs,h=>by have:cs=[]:=List.eq_nil_of_length_eq_zero (by omega);subst this;exact⟨rfl,fun e he=>by simp[chunksD]at he⟩
 |n+1,cs,h=>by
  rw[Nat.add_mul,Nat.one_mul]at h;obtain⟨h1,h2⟩:=chunksD_flat s n (cs.drop s) (by rw[List.length_drop];omega);refine⟨?_,fun e he=>?_⟩
  ·simp only[chunksD,List.flatten_cons];rw[h1,List.take_append_drop]
  ·simp only[chunksD,List.mem_cons]at he;rcases he with rfl|he
   ·rw[List.length_take];omega
   ·exact h2 e he
theorem rowsG_ok (h:Conc C B F0 w0 F loc st a w) {g len:Nat} {e:TypeId} {es:List (List D)} (hg:rowsG C g len e=some es):Row w F es g 0 (C.P.cellsOf e)∧es.length=len∧0<C.P.cellsOf e:=by
 unfold rowsG at hg;split at hg
 ·rename_i cs hG;split at hg
  ·rename_i hc;simp only[Bool.and_eq_true,decide_eq_true_eq]at hc;simp only[Option.some.injEq]at hg;subst hg;obtain⟨hF,vs,t,fr,hblk,hall⟩:=h.inv g cs hG;obtain⟨h1,h2⟩:=chunksD_flat _ _ _ hc.2;have hl:=chunksD_len (C.P.cellsOf e) len cs;refine⟨⟨h2,hF,fun j hj=>?_⟩,hl,hc.1⟩;rw[hl]at hj;have hlen:=hall.length;refine⟨nth undef vs.toList j,?_,?_⟩
   ·have hlt:j<vs.size:=by simp at hlen;omega
    have:w.cell? ⟨g,0+j,none⟩=vs[0+j]? :=by simp[World.cell?,hblk]
    rw[this,Nat.zero_add,nth_of_lt _ (by simpa using hlt)];simp[hlt]
   ·rw[h1];exact hall.nth .undef undef _ _ j (by omega)
  ·simp at hg
 ·simp at hg
theorem rs_indexAddr {t:TypeId} {x i:Operand} (h:Conc C B F0 w0 F loc st a w):RS C B F0 w0 st a w ⟨dst,.indexAddr t x i,ty,pos,after,g⟩ (opFn C ⟨dst,.indexAddr t x i,ty,pos,after,g⟩ (ev st) st.objs):=by
 simp only[opFn,indexAddrV];have hx:=(ev_ok h x);have hi:=(ev_ok h i).1;split
 ·rename_i k n hvi;rw[hvi]at hi;have hn:=int_inv hi;split
  ·rename_i e hu;have hsz:∀s,C.P.cellsOf e=s→s≠0→(Go.sizeOf e).run C.P w= .ok s w:=fun s hs h0=>by obtain⟨inf,h1,h2⟩:=info_of_cells (P:=C.P) (t:=e) (by rw[hs];exact h0);simp[Go.sizeOf,typeInfo,h1,h2,hs]
   split
   ·rename_i es hvx;rw[hvx]at hx;split
    ·rename_i hp0;have hp0:0<C.P.cellsOf e:=by simpa using hp0
     rintro⟨h0,h1,h2⟩;obtain⟨ad,c,hxe,_,hrow⟩:=CD.slice_inv hx.1;rcases hrow with rfl|⟨b,o,size,rfl,hrow⟩
     ·simp at h1;omega
     have hlt:n.toNat<es.length:=by omega
     have hsize:size=C.P.cellsOf e:=by rw[←h2,nth_of_lt _ hlt];exact(hrow.hs _ (List.getElem_mem hlt)).symm
     subst hsize;refine does_pure h (x:= .pointer (some ⟨b,o+n.toNat*C.P.cellsOf e,none⟩)) ?_ ⟨b,o,_,by simp,hlt,hrow⟩ trivial;simp[execOp,Instr.indexAt,hxe,hn,asIntOf,run_und hu,h0,h1,hsz _ rfl (by omega),addr_add]
    ·trivial
   ·rename_i k' hvx;rw[hvx]at hx;split
    ·rename_i s es fz hk;split
     ·rename_i hs;have hs:s=C.P.cellsOf e:=by simpa using hs
      rintro⟨h0,h1⟩;have hco:=h.objs k';rw[hk]at hco;obtain⟨_,hs0,_,hco⟩:=hco;rcases hx.1 s es fz hk with⟨b,c,hl,hxe⟩|⟨_,rfl,_⟩
      ·have hlt:n.toNat<es.length:=by omega
       refine does_pure h (x:= .pointer (some ⟨b,n.toNat*s,none⟩)) ?_ (fun s' es' fz' hc=>?_) hx.2
       ·simp[execOp,Instr.indexAt,hxe,hn,asIntOf,run_und hu,h0,h1,hsz _ hs.symm (by omega),addr_add]
       ·rw[hk]at hc;simp only[Obj.arr.injEq]at hc;obtain⟨rfl,rfl,rfl⟩:=hc;exact⟨b,c,hl,hlt,by simp⟩
      ·simp at h1;omega
     ·trivial
    ·trivial
   ·rename_i k' o l hvx;rw[hvx]at hx;split
    ·rename_i s es fz hk;split
     ·rename_i hs;have hs:s=C.P.cellsOf e:=by simpa using hs
      rintro⟨h0,h1⟩;have hco:=h.objs k';rw[hk]at hco;obtain⟨_,hs0,_,hco⟩:=hco;obtain⟨b,c,hl,hol,hxe⟩:=(hx.1 s es fz hk).resolve_right (by rintro(⟨_,_,_,_,h4,_⟩|⟨_,_,_,h4,_⟩)<;>omega);refine does_pure h (x:= .pointer (some ⟨b,o*s+n.toNat*s,none⟩)) ?_ (fun s' es' fz' hc=>?_) hx.2
      ·simp[execOp,Instr.indexAt,hxe,hn,asIntOf,run_und hu,h0,h1,hsz _ hs.symm (by omega),addr_add]
      ·rw[hk]at hc;simp only[Obj.arr.injEq]at hc;obtain⟨rfl,rfl,rfl⟩:=hc;exact⟨b,c,hl,by omega,by rw[Nat.add_mul];simp⟩
     ·trivial
    ·trivial
   ·rename_i k' l hvx;rw[hvx]at hx;split
    ·rename_i cells hk;split
     ·rename_i hs;have hs:C.P.cellsOf e=1:=by simpa using hs
      rintro⟨h0,h1⟩;obtain⟨b,c,hl,hxe⟩:=hx.1 _ hk rfl;refine does_pure h (x:= .pointer (some ⟨b,n.toNat,none⟩)) ?_ (fun o ho hb=>⟨b,c,hl,rfl⟩) hx.2;simp[execOp,Instr.indexAt,hxe,hn,asIntOf,run_und hu,h0,h1,hsz _ hs (by omega),addr_add]
     ·trivial
    ·trivial
   ·trivial
  ·rename_i len e hu;split
   ·rename_i k' off hvx;rw[hvx]at hx;split
    ·rename_i cells hk;split
     ·rename_i m;split
      ·rename_i hm;simp only[Bool.and_eq_true,decide_eq_true_eq]at hm;obtain⟨b,c,hl,hxe⟩:=hx.1 _ hk rfl;obtain⟨inf,h1,h2⟩:=info_of_cells (P:=C.P) (t:=e) (by omega);refine rs_value h (x:= .pointer (some ⟨b,off+m*C.P.cellsOf e,none⟩)) (fun cells' hc _=>⟨b,c,hl,rfl⟩) hx.2 ?_;simp[execOp,Instr.indexAt,hxe,hn,asIntOf,run_und hu,hm.1,Instr.sureAddr,Go.sizeOf,typeInfo,h1,h2,addr_add]
      ·trivial
     ·trivial
    ·trivial
   ·rename_i g' hvx;rw[hvx]at hx;split
    ·rename_i es hes;obtain⟨hrow,hlen,hp0⟩:=rowsG_ok h hes;rintro⟨h0,h1⟩;have hxe:a.eval x= .pointer (some ⟨g',0,none⟩):=hx.1;have hlt:n.toNat<es.length:=by omega
     obtain⟨inf,q1,q2⟩:=info_of_cells (P:=C.P) (t:=e) (by omega);refine does_pure h (x:= .pointer (some ⟨g',0+n.toNat*C.P.cellsOf e,none⟩)) ?_ ⟨g',0,_,by simp,hlt,hrow⟩ trivial;have h3:n.toNat<len:=by omega
     simp[execOp,Instr.indexAt,hxe,hn,asIntOf,run_und hu,h0,h1,Instr.sureAddr,Go.sizeOf,typeInfo,q1,q2,addr_add]
    ·trivial
   ·rename_i es j off hvx;rw[hvx]at hx;split
    ·rename_i m;split
     ·rename_i hm;simp only[Bool.and_eq_true,decide_eq_true_eq]at hm;obtain⟨b,p,size,hp,hi2,hrow⟩:=hx.1;obtain⟨inf,h1,h2⟩:=info_of_cells (P:=C.P) (t:=e) (by omega);refine rs_value h (x:= .pointer (some ⟨b,p+j*size+off+m*C.P.cellsOf e,none⟩)) ⟨b,p,size,by rw[Nat.add_assoc],hi2,hrow⟩ trivial ?_;simp[execOp,Instr.indexAt,hp,hn,asIntOf,run_und hu,hm.1,Instr.sureAddr,Go.sizeOf,typeInfo,h1,h2,addr_add]
     ·trivial
    ·trivial
   ·trivial
  ·trivial
 ·trivial
end
end Eng
end

section
namespace Eng
open Go Go.RowKit
variable [Env]
section
variable {C:Cx} {B:Bd} {F0:Nat→Prop} {w0:World} {F:Nat→Prop} {loc:Where} {st:St} {a:Act} {w:World}
variable {dst:Option Nat} {ty:TypeId} {pos:String} {after:Array Edge} {g:Option (Nat×Bool)}
theorem CO.heap {objs:List Obj} {w':World} {k:Nat} {o:Obj} (hh:w'.heap=w.heap) (h:CO loc objs w F k o):CO loc objs w' F k o:=
 CO.le (fun _ h=>h) (fun _ _=>by rw[hh]) (Le.refl _ _) rfl rfl (fun _ _ _=>⟨by rw[hh],fun h=>h⟩) h
theorem Conc.drew (h:Conc C B F0 w0 F loc st a w):Conc C B F0 w0 F loc st a w.drew:=
 ⟨h.prog,h.below.drew,h.hB,h.defers,All2.mono (R:=CV loc st.objs w F) (fun _ _ hv=>CV.mem (w:=w) (w':=w.drew) (fun _ h=>h) (fun _ _=>rfl) hv) h.tmps,h.refs,fun k=>CO.heap (w:=w) (w':=w.drew) rfl (h.objs k),h.inj,h.fresh,h.bound,h.fsub,h.fsup,h.inv.mono (fun _ h=>h) fun _ _=>rfl⟩
def kill_ (loc:Where) (k:Nat):Where:=⟨loc.P,fun j=>if j=k then none else loc j,loc.ty⟩
omit [Env] in
theorem le_kill {objs:List Obj} {k:Nat} (hk:nth .none objs k≠ .none):Le objs (upd objs k .dead) loc (kill_ loc k):=by
 have hlt:k<objs.length:=by
  rcases Nat.lt_or_ge k objs.length with h1|h1
  ·exact h1
  ·rw[nth_big _ h1]at hk;simp at hk
 refine⟨rfl,fun _ _=>rfl,fun j hj=>?_,fun j o' hj hc hbx=>?_,fun j s' es' fz' hj hc=>?_⟩
 ·by_cases hkj:k=j
  ·subst hkj;rw[nth_upd_same _ _ _ hlt];simp
  ·rw[nth_upd_ne _ _ _ hkj];exact hj
 ·by_cases hkj:k=j
  ·subst hkj;rw[nth_upd_same _ _ _ hlt]at hc;rw[←hc]at hbx;simp[isBox]at hbx
  ·rw[nth_upd_ne _ _ _ hkj]at hc;exact⟨by rw[hc];exact hbx,by simp[kill_,Ne.symm hkj]⟩
 ·by_cases hkj:k=j
  ·subst hkj;rw[nth_upd_same _ _ _ hlt]at hc;simp at hc
  ·rw[nth_upd_ne _ _ _ hkj]at hc;exact⟨⟨_,_,hc,rfl⟩,by simp[kill_,Ne.symm hkj]⟩
theorem Conc.killO {k:Nat} (h:Conc C B F0 w0 F loc st a w) (hk:nth .none st.objs k≠ .none) (dt:List Nat):
 Conc C B F0 w0 F (kill_ loc k) ⟨st.tmps,upd st.objs k .dead,dt⟩ a w:=by
 have hlt:k<st.objs.length:=by
  rcases Nat.lt_or_ge k st.objs.length with h1|h1
  ·exact h1
  ·rw[nth_big _ h1]at hk;simp at hk
 have hle:Le st.objs (upd st.objs k .dead) loc (kill_ loc k):=le_kill hk;have:=h.step (dst:=none) (v:= .any) (x:=undef) (up:=[(k,.dead)]) (loc':=kill_ loc k) (F':=F) (fun _ h=>h) (fun _ _=>rfl) hle h.below h.hB (fun j=>?_) ?_ ?_ h.bound h.fsub trivial trivial
 ·exact this.redirty
 ·show CO _ (upd st.objs k .dead) _ _ _ (nth .none (upd st.objs k .dead) j);by_cases hkj:k=j
  ·subst hkj;rw[nth_upd_same _ _ _ hlt];simp[CO,kill_]
  ·rw[nth_upd_ne _ _ _ hkj];exact CO.le (fun _ h=>h) (fun _ _=>rfl) hle (by simp[kill_,Ne.symm hkj]) rfl (fun b c hb=>⟨rfl,fun h=>h⟩) (h.objs j)
 ·intro j j' b c c' h1 h2;simp only[kill_]at h1 h2;split at h1
  ·simp at h1
  ·split at h2
   ·simp at h2
   ·exact h.inj _ _ _ _ _ h1 h2
 ·intro j b c h1;simp only[kill_]at h1;split at h1
  ·simp at h1
  ·exact h.fresh _ _ _ h1
theorem Conc.kill {k s:Nat} {es:List (List D)} {fz:Bool} (h:Conc C B F0 w0 F loc st a w) (hk:nth .none st.objs k= .arr s es fz) (dt:List Nat):
 Conc C B F0 w0 F (kill_ loc k) ⟨st.tmps,upd st.objs k .dead,dt⟩ a w:=h.killO (by rw[hk];simp) dt
theorem Conc.adopt {d b cap tt:Nat} {ob:Obj} {v:V} {x:Value} {cs:Array Value} {t:TypeId} (h:Conc C B F0 w0 F loc st a w) (hd:freeKey st.objs d=true)
 (hb:Own B b∧b<w.heap.size) (hnF:¬F b) (hno:∀k c,loc k≠some (b,c))
 (hob:CO (at_ loc d (b,cap) tt) (upd st.objs d ob) (setBlk w b (.cells cs t (0,0))) F d ob)
 (hv:CV (at_ loc d (b,cap) tt) (upd st.objs d ob) (setBlk w b (.cells cs t (0,0))) F v x) (hr:Ref (upd st.objs d ob) v):
 Conc C B F0 w0 F (at_ loc d (b,cap) tt) (st.put dst v [(d,ob)]) (a.put dst x) (setBlk w b (.cells cs t (0,0))):=by
 obtain⟨hnone,hlt⟩:=freeKey_ok hd;have hw:∀b',F b'→(setBlk w b (.cells cs t (0,0))).heap[b']? =w.heap[b']? :=fun b' hb'=>setBlk_ne (fun e=>hnF (e▸hb'))
 have hle:Le st.objs (upd st.objs d ob) loc (at_ loc d (b,cap) tt):=by
  refine⟨rfl,fun k hk=>by
   have:k≠d:=fun e=>by subst e;exact absurd hnone hk
   simp[at_,this],fun k hk=>?_,fun k o' hk hc hbx=>?_,fun k s es' fz' hk hc=>?_⟩
  ·by_cases hkd:d=k
   ·subst hkd;exact absurd hnone hk
   ·rw[nth_upd_ne _ _ _ hkd];exact hk
  ·by_cases hkd:d=k
   ·subst hkd;exact absurd hnone hk
   ·rw[nth_upd_ne _ _ _ hkd]at hc;exact⟨by rw[hc];exact hbx,by simp[at_,Ne.symm hkd]⟩
  ·by_cases hkd:d=k
   ·subst hkd;exact absurd hnone hk
   ·rw[nth_upd_ne _ _ _ hkd]at hc;exact⟨⟨_,_,hc,rfl⟩,by simp[at_,Ne.symm hkd]⟩
 refine h.step (up:=[(d,ob)]) (fun _ h=>h) hw hle (BelowX.setBlk h.below hb.1) (by rw[setBlk_size];exact h.hB) (fun k=>?_) ?_ ?_ (fun b' hb'=>by rw[setBlk_size];exact h.bound b' hb') h.fsub hv hr
 ·show CO _ (upd st.objs d ob) _ _ _ (nth .none (upd st.objs d ob) k);by_cases hk:d=k
  ·subst hk;rw[nth_upd_same _ _ _ hlt];exact hob
  ·rw[nth_upd_ne _ _ _ hk];refine CO.le (fun _ h=>h) hw hle (by simp[at_,Ne.symm hk]) (by simp[at_,Ne.symm hk]) (fun b' c hb'=>⟨setBlk_ne (fun e=>?_),fun h=>h⟩) (h.objs k);subst e;exact hno _ _ hb'
 ·intro k k' b' c c' h1 h2;simp only[at_]at h1 h2;split at h1<;>split at h2
  ·rw[‹k=d›,‹k'=d›]
  ·simp only[Option.some.injEq,Prod.mk.injEq]at h1;rw[←h1.1]at h2;exact absurd h2 (hno _ _)
  ·simp only[Option.some.injEq,Prod.mk.injEq]at h2;rw[←h2.1]at h1;exact absurd h1 (hno _ _)
  ·exact h.inj _ _ _ _ _ h1 h2
 ·intro k b' c h1;simp only[at_]at h1;rw[setBlk_size];split at h1
  ·simp only[Option.some.injEq,Prod.mk.injEq]at h1;obtain⟨rfl,_⟩:=h1;exact hb
  ·exact h.fresh _ _ _ h1
theorem rs_len {x:Operand} {ts:Array TypeId} (h:Conc C B F0 w0 F loc st a w):RS C B F0 w0 st a w ⟨dst,.call ⟨.builtin .len, #[x],ts⟩,ty,pos,after,g⟩ (lenV C.P st.objs ts (ev st x)):=by
 unfold lenV;have hx:=(ev_ok h x).1;split
 ·rename_i t hts;have hex:∀n:Int,(Builtin.len_ ts ty #[a.eval x]).run C.P w= .ok (.int .i64 n) w→(execOp a.eval ⟨dst,.call ⟨.builtin .len, #[x],ts⟩,ty,pos,after,g⟩).run C.P w= .ok (.value (.int .i64 n)) w:=fun n hn=>by simp[execOp,resolve,invoke,builtin,hn]
  have hts':ts[0]? =some t:=by
   have:ts= #[t]:=by apply Array.ext';simpa using hts
   rw[this];rfl
  split
  ·rename_i hu;split
   ·rename_i s hv;rw[hv]at hx;refine rs_value h (CD.int _ _) trivial (hex _ ?_);simp[Builtin.len_,hts',run_und hu,str_inv hx,goInt];rfl
   ·trivial
  ·rename_i e hu;have hsl:∀ad n c,a.eval x= .slice ad n c→(Builtin.len_ ts ty #[a.eval x]).run C.P w= .ok (.int .i64 n) w:=fun ad n c hxe=>by simp[Builtin.len_,hts',run_und hu,hxe,goInt]
   split
   ·rename_i es hv;rw[hv]at hx;obtain⟨ad,c,hxe,_⟩:=CD.slice_inv hx;exact rs_value h (CD.int _ _) trivial (hex _ (hsl _ _ _ hxe))
   ·rename_i hv;rw[hv]at hx;exact rs_value h (CD.int _ _) trivial (hex _ (hsl none 0 0 hx))
   ·rename_i k hv;rw[hv]at hx;split
    ·rename_i s es fz hk;rcases hx s es fz hk with⟨b,c,_,hxe⟩|⟨_,rfl,hxe⟩
     ·exact rs_value h (CD.int _ _) trivial (hex _ (hsl _ _ _ hxe))
     ·exact rs_value h (CD.int _ _) trivial (hex _ (hsl _ _ _ hxe))
    ·trivial
   ·rename_i k o l hv;rw[hv]at hx;split
    ·rename_i s es fz hk;rcases hx s es fz hk with⟨b,c,_,_,hxe⟩|⟨_,_,_,_,rfl,hxe⟩|⟨_,_,_,rfl,_,_,hxe⟩
     ·exact rs_value h (CD.int _ _) trivial (hex _ (hsl _ _ _ hxe))
     ·exact rs_value h (CD.int _ _) trivial (hex _ (hsl _ _ _ hxe))
     ·exact rs_value h (CD.int _ _) trivial (hex _ (hsl _ _ _ hxe))
    ·trivial
   ·rename_i k n hv;rw[hv]at hx;split
    ·rename_i cells hk;obtain⟨b,c,_,hxe⟩:=hx _ hk rfl;exact rs_value h (CD.int _ _) trivial (hex _ (hsl _ _ _ hxe))
    ·trivial
   ·trivial
  ·trivial
 ·trivial
theorem bound_ok {d:Int} {x:Option Operand} {n:Int} (h:Conc C B F0 w0 F loc st a w) (hb:boundV d (optEv (ev st) x)=some n):(x=none∧n=d)∨∃y k,x=some y∧a.eval y= .int k n:=by
 cases x with
 |none=>simp only[optEv,boundV,Option.some.injEq]at hb;exact .inl ⟨rfl,hb.symm⟩
 |some y=>
  simp only[optEv]at hb;have hy:=(ev_ok h y).1;generalize ev st y=v at hb hy;unfold boundV at hb;split at hb
  ·rename_i heq;simp at heq
  ·rename_i k m heq;simp only[Option.some.injEq]at heq hb;subst heq hb;exact .inr ⟨y,k,rfl,int_inv hy⟩
  ·simp at hb
omit [Env] in
theorem run_bounds {P:Program} {sl:Bool} {len cap:Nat} {lo hi:Option Operand} {l r:Int} (hl:(lo=none∧l=0)∨∃y k,lo=some y∧a.eval y= .int k l) (hr:(hi=none∧r=len)∨∃y k,hi=some y∧a.eval y= .int k r)
 (h0:0≤l) (h1:l≤r) (h2:r≤len) (h3:len≤cap):(Instr.sliceBounds sl len cap (lo.map a.eval) (hi.map a.eval) none).run P w= .ok (l.toNat,r.toNat,cap) w:=by
 have hr0:0≤r:=by omega
 have hrc:r≤(cap:Int):=by omega
 have hlr:l≤(r.toNat:Int):=by omega
 rcases hl with⟨rfl,rfl⟩|⟨y,k,rfl,hy⟩<;>rcases hr with⟨rfl,rfl⟩|⟨y',k',rfl,hy'⟩
 ·simp[Instr.sliceBounds]
 ·simp[Instr.sliceBounds,hy',run_sliceBound _ _ _ _ _ hr0 hrc]
 ·have:l≤(len:Int):=h1;simp[Instr.sliceBounds,hy,run_sliceBound _ _ _ _ _ h0 this]
 ·simp[Instr.sliceBounds,hy,hy',run_sliceBound _ _ _ _ _ hr0 hrc,run_sliceBound _ _ _ _ _ h0 hlr]
omit [Env] in
theorem run_bounds3 {P:Program} {sl:Bool} {len cap:Nat} {lo hi mx:Option Operand} {l r m:Int} (hl:(lo=none∧l=0)∨∃y k,lo=some y∧a.eval y= .int k l) (hr:∃y k,hi=some y∧a.eval y= .int k r)
 (hm:∃y k,mx=some y∧a.eval y= .int k m) (h0:0≤l) (h1:l≤r) (h2:r≤m) (h3:m≤cap):(Instr.sliceBounds sl len cap (lo.map a.eval) (hi.map a.eval) (mx.map a.eval)).run P w= .ok (l.toNat,r.toNat,m.toNat) w:=by
 have hm0:0≤m:=by omega
 have hr0:0≤r:=by omega
 have hrm:r≤(m.toNat:Int):=by omega
 have hlr:l≤(r.toNat:Int):=by omega
 obtain⟨y',k',rfl,hy'⟩:=hr;obtain⟨y'',k'',rfl,hy''⟩:=hm;rcases hl with⟨rfl,rfl⟩|⟨y,k,rfl,hy⟩
 ·simp[Instr.sliceBounds,hy',hy'',run_sliceBound _ _ _ _ _ hm0 h3,run_sliceBound _ _ _ _ _ hr0 hrm]
 ·simp[Instr.sliceBounds,hy,hy',hy'',run_sliceBound _ _ _ _ _ hm0 h3,run_sliceBound _ _ _ _ _ hr0 hrm,run_sliceBound _ _ _ _ _ h0 hlr]
theorem Row.part {es:List (List D)} {b o size l r:Nat} (h:Row w F es b o size) (h1:l≤r) (h2:r≤es.length):Row w F ((es.take r).drop l) b (o+l*size) size:=by
 refine⟨fun e he=>h.hs e (List.mem_of_mem_take (List.mem_of_mem_drop he)),h.hF,fun j hj=>?_⟩;have hlen:((es.take r).drop l).length=r-l:=by simp;omega
 rw[hlen]at hj;obtain⟨q,hq⟩:∃q,q=j/size:=⟨_,rfl⟩;have hs0:0<size:=by
  rcases Nat.eq_zero_or_pos size with h0|h0
  ·subst h0;omega
  ·exact h0
 have hqr:q<r-l:=by rw[hq];exact Nat.div_lt_of_lt_mul (by rw[Nat.mul_comm];exact hj)
 have hjq:j=q*size+j%size:=by rw[hq,Nat.mul_comm];exact(Nat.div_add_mod j size).symm
 have hms:=Nat.mod_lt j hs0;obtain⟨v,q1,q2⟩:=h.hc ((l+q)*size+j%size) (idx_lt (by omega) hms);refine⟨v,by rw[←q1];congr 2;rw[Nat.add_mul];omega,?_⟩;rw[nth_flatten h.hs _ _ (by omega) hms]at q2;rw[hjq,nth_flatten (fun e he=>h.hs e (List.mem_of_mem_take (List.mem_of_mem_drop he))) _ _ (by omega) hms];have:nth [] (List.drop l (List.take r es)) q=nth [] es (l+q):=by simp only[nth_eq,List.getElem?_drop];rw[List.getElem?_take,if_pos (by omega)]
 rw[this];exact q2
theorem slice_CD {es:List (List D)} {x:Value} {z:List Value} {e:TypeId} {l r m:Nat} (hx:CD w F (.sl es) x) (_hz:zeros C.P e=some z) (hlens:lens z.length es) (h1:l≤r) (h2:r≤es.length) (h3:r≤m):
 ∃ad c,x= .slice ad es.length c∧es.length≤c∧(m≤c→CD w F (.sl ((es.take r).drop l)) (.slice (if m=l then ad else ad.map (·.add (l*z.length))) (r-l) (m-l))):=by
 obtain⟨ad,c,hxe,hlc,hrow⟩:=hx.slice_inv;refine⟨ad,c,hxe,hlc,fun _=>?_⟩;have hlen:((es.take r).drop l).length=r-l:=by simp;omega
 rcases Nat.eq_or_lt_of_le h1 with rfl|hlt
 ·have:(es.take l).drop l=[]:=List.eq_nil_of_length_eq_zero (by rw[hlen];omega);rw[this,Nat.sub_self];exact .nil _ _
 ·rcases hrow with rfl|⟨b,o,size,rfl,hrow⟩
  ·simp at h2;omega
  ·have hne:es≠[]:=by intro h0;subst h0;simp at h2;omega
   obtain⟨e0,es0,rfl⟩:=List.exists_cons_of_ne_nil hne;have hsz:size=z.length:=by rw[←hlens e0 (by simp)];exact(hrow.hs e0 (by simp)).symm
   subst hsz;rw[if_neg (by omega)];have:=(hrow.part h1 h2).CD (c:=m-l) (by rw[hlen];omega);rw[hlen]at this
   simpa [addr_add]using this
theorem rs_slice0 {t:TypeId} {x:Operand} {lo hi mx:Option Operand} (h:Conc C B F0 w0 F loc st a w):RS C B F0 w0 st a w ⟨dst,.slice t x lo hi mx,ty,pos,after,g⟩ (sliceV C.P t st.objs (ev st x) (optEv (ev st) lo) (optEv (ev st) hi) (optEv (ev st) mx)):=by
 simp only[sliceV];have hx:=(ev_ok h x).1;split
 ·rename_i hu;split
  ·rename_i s hv;rw[hv]at hx;have hs:=str_inv hx;split
   ·rename_i l r hl hr;have hl':=bound_ok h hl;have hr':=bound_ok h hr;split
    ·rename_i hm;have hmx:mx=none:=by cases mx with|none=>rfl|some y=>simp[optEv]at hm
     subst hmx;rintro⟨h0,h1,h2⟩;have hb:=run_bounds (P:=C.P) (w:=w) (sl:=false) (len:=s.length) (cap:=s.length) hl' hr' h0 h1 h2 (Nat.le_refl _);refine does_pure h (x:= .string ⟨⟨(s.take r.toNat).drop l.toNat⟩⟩) ?_ (CD.str _) trivial;have hsz:(⟨⟨s⟩⟩:ByteArray).size=s.length:=rfl;have hext:(⟨⟨s⟩⟩:ByteArray).extract l.toNat r.toNat=⟨⟨(s.take r.toNat).drop l.toNat⟩⟩:=by apply ByteArray.ext;apply Array.ext';simp only[ByteArray.data_extract,Array.toList_extract,List.extract_eq_take_drop];rw[List.drop_take]
     simp[execOp,Instr.sliceAt,run_und hu,Instr.slice,hs,hsz,hb,hext]
    ·trivial
   ·trivial
  ·trivial
 ·rename_i e hu;split
  ·rename_i z es us hz hel;obtain⟨hfz,hcd⟩:=elems_ok h hel hx;have key:∀(l r m:Int) (c0:∀(F':Nat→Prop) ad c,CD w F' (.sl es) (a.eval x)→a.eval x= .slice ad es.length c→es.length≤c→∃mm:Nat,mm≤c∧r.toNat≤mm∧(Instr.sliceBounds true es.length c (lo.map a.eval) (hi.map a.eval) (mx.map a.eval)).run C.P w= .ok (l.toNat,r.toNat,mm) w),
    0≤l→l≤r→r≤es.length→lens z.length es→Does C B F0 w0 ⟨dst,.slice t x lo hi mx,ty,pos,after,g⟩ a w (st.put dst (.c (.sl ((es.take r.toNat).drop l.toNat))) us):=by
    intro l r m c0 h0 h1 h2 hlens;obtain⟨F',hc',hF',hb'⟩:=h.freezes hfz st.dirty;have hcd':=hcd F' hF' hb';obtain⟨ad,c,hxe,hlc,_⟩:=hcd'.slice_inv;obtain⟨mm,hm1,hm2,hrun⟩:=c0 F' ad c hcd' hxe hlc;obtain⟨ad',c',hxe',_,hres⟩:=slice_CD (C:=C) (l:=l.toNat) (r:=r.toNat) (m:=mm) hcd' hz hlens (by omega) (by omega) hm2;rw[hxe]at hxe';simp only[Value.slice.injEq]at hxe';obtain⟨rfl,_,rfl⟩:=hxe';refine⟨_,_,w,?_,.inl rfl,F',loc,(hc'.pure (dst:=dst) (v:= .c (.sl ((es.take r.toNat).drop l.toNat))) (hres hm1) trivial).redirty⟩;have h3:=run_sizeOf' hz w;simp[execOp,Instr.sliceAt,run_und hu,Instr.slice,hxe,hrun,h3]
   split
   ·rename_i l r hl hr;have hl':=bound_ok h hl;have hr':=bound_ok h hr;split
    ·rename_i hm;have hmx:mx=none:=by cases mx with|none=>rfl|some y=>simp[optEv]at hm
     subst hmx;rintro⟨h0,h1,h2,h3⟩;exact key l r 0 (fun F' ad c _ _ hlc=>⟨c,Nat.le_refl _,by omega,run_bounds (P:=C.P) hl' hr' h0 h1 h2 hlc⟩) h0 h1 h2 h3
    ·rename_i mv hm;split
     ·rename_i m _ hmm hh;rw[←hm]at hmm;rcases bound_ok h hmm with⟨hmx,_⟩|hm'
      ·subst hmx;simp[optEv]at hm
      rcases hr' with⟨hhi,_⟩|hr'
      ·subst hhi;simp[optEv]at hh
      ·rintro⟨h0,h1,h2,h3,h4⟩;exact key l r m (fun F' ad c _ _ hlc=>⟨m.toNat,by omega,by omega,run_bounds3 (P:=C.P) hl' hr' hm' h0 h1 h2 (by omega)⟩) h0 h1 (by omega) h4
     ·trivial
   ·trivial
  ·trivial
 ·trivial
theorem rs_sliceW {t:TypeId} {x:Operand} {lo hi mx:Option Operand} (h:Conc C B F0 w0 F loc st a w):RS C B F0 w0 st a w ⟨dst,.slice t x lo hi mx,ty,pos,after,g⟩ (sliceW C.P t st.objs (ev st x) (optEv (ev st) lo) (optEv (ev st) hi) (optEv (ev st) mx)):=by
 unfold sliceW;split
 ·exact rs_slice0 h
 ·rename_i hnb;have hv:ev st x= .nilS:=by
   cases hq:ev st x<;>rw[hq]at hnb<;>simp[nilB]at hnb ⊢
  split
  ·rename_i e hu hm;split
   ·rename_i z l r hz hl hr;have hmx:mx=none:=by cases mx with|none=>rfl|some y=>simp[optEv]at hm
    subst hmx;rintro⟨h0,h1,h2⟩;have hx:=(ev_ok h x).1;rw[hv]at hx;have hx:a.eval x= .slice none 0 0:=hx;have hl':=bound_ok h hl;have hr':=bound_ok h hr;have hb:=run_bounds (P:=C.P) (w:=w) (sl:=true) (len:=0) (cap:=0) hl' hr' h0 h1 h2 (Nat.le_refl _);refine does_pure h (x:= .slice none 0 0) ?_ rfl trivial;have h3:=run_sizeOf' hz w;have e1:l.toNat=0:=by omega
    have e2:r.toNat=0:=by omega
    rw[e1,e2]at hb;simp[execOp,Instr.sliceAt,run_und hu,Instr.slice,hx,hb,h3]
   ·trivial
  ·trivial
theorem rs_keep {t:TypeId} {x:Operand} {lo hi mx:Option Operand} (h:Conc C B F0 w0 F loc st a w):RS C B F0 w0 st a w ⟨dst,.slice t x lo hi mx,ty,pos,after,g⟩ (keepV C.P t st.objs (ev st x) (optEv (ev st) lo) (optEv (ev st) hi) (optEv (ev st) mx)):=by
 unfold keepV;have hx:=ev_ok h x;split
 ·rename_i e hu;split
  ·rename_i z k hz hv;rw[hv]at hx;split
   ·rename_i s es fz hk;split
    ·rename_i hlo hmx;have hlo:lo=none:=by cases lo with|none=>rfl|some y=>simp[optEv]at hlo
     have hmx:mx=none:=by cases mx with|none=>rfl|some y=>simp[optEv]at hmx
     subst hlo hmx;split
     ·rename_i r hs hr;have hs:s=z.length:=Nat.eq_of_beq_eq_true hs;have hr':=bound_ok h hr;have core:(0≤r∧r≤es.length)→True→Does C B F0 w0 ⟨dst,.slice t x none hi none,ty,pos,after,g⟩ a w (st.put dst (.sub k 0 r.toNat) []):=by
       rintro⟨h0,h2⟩ _;have hco:=h.objs k;rw[hk]at hco;rcases hx.1 s es fz hk with⟨b,c,hlk,hxe⟩|⟨hlk,rfl,hxe⟩
       ·obtain⟨_,_,_,hco⟩:=hco;rcases hco with⟨h5,_⟩|⟨b',c',cs,t',h5,_,_,_,hlc,_⟩
        ·rw[h5]at hlk;simp at hlk
        rw[h5]at hlk;simp only[Option.some.injEq,Prod.mk.injEq]at hlk;obtain⟨rfl,rfl⟩:=hlk;have hrun:=run_bounds (P:=C.P) (w:=w) (sl:=true) (len:=es.length) (cap:=c') (lo:=none) (l:=0) (.inl ⟨rfl,rfl⟩) hr' (by omega) (by omega) h2 hlc.1;simp only[Option.map_none]at hrun;have h3':=run_sizeOf' hz w;refine does_pure h (x:= .slice (some ⟨b',0,none⟩) r.toNat c') ?_ (fun s' es' fz' hc=>?_) hx.2
        ·by_cases hne:c'=0
         ·rw[hne]at hxe hrun ⊢;simp[execOp,Instr.sliceAt,run_und hu,Instr.slice,hxe,hrun,h3']
         ·simp[execOp,Instr.sliceAt,run_und hu,Instr.slice,hxe,hrun,h3',hne,addr_add]
        ·rw[hk]at hc;simp only[Obj.arr.injEq]at hc;obtain⟨rfl,rfl,rfl⟩:=hc;exact .inl ⟨b',c',h5,by omega,by simp⟩
       ·have hr0:r.toNat=0:=by simp at h2;omega
        have hrun:=run_bounds (P:=C.P) (w:=w) (sl:=true) (len:=0) (cap:=0) (lo:=none) (l:=0) (.inl ⟨rfl,rfl⟩) hr' (by omega) (by omega) (by simpa using h2) (Nat.le_refl _);simp only[Option.map_none]at hrun;have h3':=run_sizeOf' hz w;refine does_pure h (x:= .slice none 0 0) ?_ (fun s' es' fz' hc=>?_) hx.2
        ·rw[hr0]at hrun;simp[execOp,Instr.sliceAt,run_und hu,Instr.slice,hxe,hrun,h3']
        ·rw[hk]at hc;simp only[Obj.arr.injEq]at hc;obtain⟨rfl,rfl,rfl⟩:=hc;exact .inr (.inl ⟨by have:=hco.2.1;omega,hlk,rfl,rfl,hr0,rfl⟩)
      exact fun hc=>core hc trivial
     ·trivial
    split
    ·rename_i l r hs hl hr hm;have hs:s=z.length:=Nat.eq_of_beq_eq_true hs;have hmx:mx=none:=by cases mx with|none=>rfl|some y=>simp[optEv]at hm
     subst hmx;have hl':=bound_ok h hl;have hr':=bound_ok h hr;have core:(0≤l∧l≤r∧r≤es.length)→True→Does C B F0 w0 ⟨dst,.slice t x lo hi none,ty,pos,after,g⟩ a w (st.put dst (.sub k l.toNat (r.toNat-l.toNat)) []):=by
      rintro⟨h0,h1,h2⟩ _;have hco:=h.objs k;rw[hk]at hco;rcases hx.1 s es fz hk with⟨b,c,hlk,hxe⟩|⟨hlk,rfl,hxe⟩
      ·obtain⟨_,hs0,_,hco⟩:=hco;rcases hco with⟨h5,_⟩|⟨b',c',cs,t',h5,_,_,_,hlc,_⟩
       ·rw[h5]at hlk;simp at hlk
       rw[h5]at hlk;simp only[Option.some.injEq,Prod.mk.injEq]at hlk;obtain⟨rfl,rfl⟩:=hlk;have hrun:=run_bounds (P:=C.P) (w:=w) (sl:=true) (len:=es.length) (cap:=c') hl' hr' h0 (by omega) h2 hlc.1;have h3:=run_sizeOf' hz w;by_cases hne:c'=l.toNat
       ·have hlr:r.toNat-l.toNat=0:=by omega
        refine does_pure h (x:= .slice (some ⟨b',0,none⟩) (r.toNat-l.toNat) (c'-l.toNat)) ?_ (fun s' es' fz' hc=>?_) hx.2
        ·rw[hne]at hxe hrun ⊢;simp[execOp,Instr.sliceAt,run_und hu,Instr.slice,hxe,hrun,h3]
        ·rw[hk]at hc;simp only[Obj.arr.injEq]at hc;obtain⟨rfl,rfl,rfl⟩:=hc;rcases Nat.eq_zero_or_pos l.toNat with hl0|hl0
         ·exact .inl ⟨b',c',h5,by omega,by rw[hl0,Nat.zero_mul]⟩
         ·exact .inr (.inr ⟨by omega,hl0,by omega,hlr,_,_,by rw[hlr]⟩)
       ·refine does_pure h (x:= .slice (some ⟨b',l.toNat*s,none⟩) (r.toNat-l.toNat) (c'-l.toNat)) ?_ (fun s' es' fz' hc=>?_) hx.2
        ·simp[execOp,Instr.sliceAt,run_und hu,Instr.slice,hxe,hrun,h3,hs,hne,addr_add]
        ·rw[hk]at hc;simp only[Obj.arr.injEq]at hc;obtain⟨rfl,rfl,rfl⟩:=hc;exact .inl ⟨b',c',h5,by omega,rfl⟩
      ·have hr0:r.toNat=0:=by simp at h2;omega
       have hl0:l.toNat=0:=by omega
       have hrun:=run_bounds (P:=C.P) (w:=w) (sl:=true) (len:=0) (cap:=0) hl' hr' h0 (by omega) (by simpa using h2) (Nat.le_refl _);have h3:=run_sizeOf' hz w;refine does_pure h (x:= .slice none 0 0) ?_ (fun s' es' fz' hc=>?_) hx.2
       ·rw[hr0,hl0]at hrun;simp[execOp,Instr.sliceAt,run_und hu,Instr.slice,hxe,hrun,h3]
       ·rw[hk]at hc;simp only[Obj.arr.injEq]at hc;obtain⟨rfl,rfl,rfl⟩:=hc;exact .inr (.inl ⟨by have:=hco.2.1;omega,hlk,rfl,hl0,by omega,rfl⟩)
     exact fun hc=>core hc trivial
    ·trivial
   ·trivial
  ·trivial
 ·trivial
theorem rs_slice {t:TypeId} {x:Operand} {lo hi mx:Option Operand} (h:Conc C B F0 w0 F loc st a w):RS C B F0 w0 st a w ⟨dst,.slice t x lo hi mx,ty,pos,after,g⟩ (opFn C ⟨dst,.slice t x lo hi mx,ty,pos,after,g⟩ (ev st) st.objs):=by
 simp only[opFn];split
 ·rename_i g' hg;have hv:ev st x= .gl g' 0:=by
   unfold globOf at hg;split at hg
   ·rename_i hv;simp only[Option.some.injEq]at hg;rw[hv,hg]
   ·simp at hg
  have hx:=(ev_ok h x).1;rw[hv]at hx;have hx:a.eval x= .pointer (some ⟨g',0,none⟩):=hx;unfold sliceG;split
  ·rename_i len e hu hlo hhi hmx;have hlo:lo=none:=by cases lo with|none=>rfl|some y=>simp[optEv]at hlo
   have hhi:hi=none:=by cases hi with|none=>rfl|some y=>simp[optEv]at hhi
   have hmx:mx=none:=by cases mx with|none=>rfl|some y=>simp[optEv]at hmx
   subst hlo hhi hmx;split
   ·rename_i es hes;obtain⟨hrow,hlen,hp0⟩:=rowsG_ok h hes;obtain⟨inf,q1,q2⟩:=info_of_cells (P:=C.P) (t:=e) (by omega);refine rs_value h (x:= .slice (some ⟨g',0,none⟩) es.length es.length) (hrow.CD (Nat.le_refl _)) trivial ?_;simp[execOp,Instr.sliceAt,run_und hu,Instr.slice,hx,hlen,Go.sizeOf,typeInfo,q1,Instr.sureAddr,Instr.sliceBounds,addr_add]
   ·trivial
  ·trivial
 ·split
  ·exact rs_sliceW h
  ·exact rs_keep h
end
end Eng
end

section
namespace Eng
open Go Go.RowKit
variable [Env]
section
variable {C:Cx} {B:Bd} {F0:Nat→Prop} {w0:World} {F:Nat→Prop} {loc:Where} {st:St} {a:Act} {w:World}
variable {dst:Option Nat} {ty:TypeId} {pos:String} {after:Array Edge} {g:Option (Nat×Bool)}
omit [Env] in
theorem foldl_updsL {off:Nat}:∀(l:List Value) (k:Nat) (cells:Array Value),(l.zipIdx k).foldl (fun cs (x:Value×Nat)=>cs.setIfInBounds (off+x.2) x.1) cells=(updsL cells.toList (off+k) l).toArray
 |[],_,cells=>by simp[updsL]
 |v::l,k,cells=>by rw[List.zipIdx_cons,List.foldl_cons,foldl_updsL l (k+1)];simp only[updsL,Array.toList_setIfInBounds,←upd_eq];rw[show off+(k+1)=off+k+1 by omega]
omit [Env] in
theorem fill_step {v:Value} {off:Nat} {cells:Array Value}:v.cells.zipIdx.foldl (fun cs (x:Value×Nat)=>cs.setIfInBounds (off+x.2) x.1) cells=(updsL cells.toList off v.cells.toList).toArray:=by
 have:=foldl_updsL (off:=off) v.cells.toList 0 cells;rw[Nat.add_zero]at this;rw[←this,←Array.foldl_toList,Array.toList_zipIdx]
theorem parts_ok:∀{ps:List (Nat×Operand)} {qs:List (Nat×List D)} {us:List (Nat×Obj)} (_:Conc C B F0 w0 F loc st a w) (_:partsD st.objs (ev st) ps=some (qs,us)),
 Frz st.objs us∧∀F':Nat→Prop,(∀b,F b→F' b)→(∀p∈us,∀b c,loc p.1=some (b,c)→F' b)→All2 (fun q (p:Nat×Value)=>q.1=p.1∧All2 (CD w F') q.2 p.2.cells.toList) qs (ps.map fun x=>(x.1,a.eval x.2))
 |[],qs,us,h,hp=>by simp only[partsD,Option.some.injEq,Prod.mk.injEq]at hp;obtain⟨rfl,rfl⟩:=hp;exact⟨Frz.nil _,fun _ _ _=>trivial⟩
 |(i,x)::ps,qs,us,h,hp=>by
  simp only[partsD]at hp;split at hp
  ·rename_i ds u qs' us' h1 h2;simp only[Option.some.injEq,Prod.mk.injEq]at hp;obtain⟨rfl,rfl⟩:=hp;obtain⟨q1,q2⟩:=cellsOf_ok h h1 (ev_ok h x).1;obtain⟨r1,r2⟩:=parts_ok h h2;exact⟨q1.append r1,fun F' hF hb=>⟨⟨rfl,q2 F' hF fun p hp=>hb p (by simp[hp])⟩,r2 F' hF fun p hp=>hb p (by simp[hp])⟩⟩
  ·simp at hp
theorem buildV_ok {F':Nat→Prop} {pl:List (Nat×Nat)} {place:Nat→Option (Nat×Nat)} (hpl:∀i p,pl[i]? =some p→place i=some p):
 ∀(qs:List (Nat×List D)) (ps:List (Nat×Value)) (cs cs':List D) (vs:Array Value),All2 (fun q (p:Nat×Value)=>q.1=p.1∧All2 (CD w F') q.2 p.2.cells.toList) qs ps→buildV pl qs cs=some cs'→All2 (CD w F') cs vs.toList→
  ∃vs':Array Value,Instr.fill place vs ps=some vs'∧All2 (CD w F') cs' vs'.toList
 |[],[],cs,cs',vs,_,hb,hv=>by simp only[buildV,Option.some.injEq]at hb;subst hb;exact⟨vs,rfl,hv⟩
 |(i,ds)::qs,(i',x)::ps,cs,cs',vs,hq,hb,hv=>by
  obtain⟨⟨rfl,h1⟩,h2⟩:=hq;simp only[buildV]at hb;split at hb
  ·rename_i off size hf;split at hb
   ·rename_i hc;simp only[Bool.and_eq_true,decide_eq_true_eq]at hc;have hlen:=h1.length;have hvl:cs.length=vs.size:=by simpa using hv.length
    simp at hlen;obtain⟨vs',q1,q2⟩:=buildV_ok hpl qs ps _ cs' (updsL vs.toList off x.cells.toList).toArray h2 hb (by
     rw[updsD_eq];exact All2.upds _ _ _ _ _ h1 hv)
    refine⟨vs',?_,q2⟩;simp only[Instr.fill,hpl _ _ hf];rw[if_neg (by simp;omega)];have:=fill_step (v:=x) (off:=off) (cells:=vs);rw[this];exact q1
   ·simp at hb
  ·simp at hb
 |[],_::_,_,_,_,hq,_,_=>hq.elim
 |_::_,[],_,_,_,hq,_,_=>hq.elim
theorem all2_constD {F':Nat→Prop}:∀{z:List Value},(∀x∈z,x.oneCell'=true)→All2 (CD w F') (z.map constD) z
 |[],_=>trivial
 |x::z,h=>⟨constD_ok _ _ x (h x (by simp)),all2_constD fun y hy=>h y (by simp[hy])⟩
theorem constC_ok (w:World) (F:Nat→Prop) (v:Value) (h:v.oneCell'=true):CVC loc st.objs w F (constC v) v:=by
 unfold constC;split
 ·rfl
 ·exact constD_ok w F v h
theorem all2_constC:∀{z:List Value},(∀x∈z,x.oneCell'=true)→All2 (CVC loc st.objs w F) (z.map constC) z
 |[],_=>trivial
 |x::z,h=>⟨constC_ok _ _ x (h x (by simp)),all2_constC fun y hy=>h y (by simp[hy])⟩
omit [Env] in
theorem updsC_eq:∀(vs:List D) (cs:List VC) (off:Nat),updsC cs off vs=updsL cs off (vs.map VC.d)
 |[],cs,off=>rfl
 |v::vs,cs,off=>by simp[updsL,updsC,updsC_eq vs]
theorem all2_d {loc':Where} {objs':List Obj} {F':Nat→Prop}:∀{ds:List D} {xs:List Value},All2 (CD w F') ds xs→All2 (CVC loc' objs' w F') (ds.map VC.d) xs
 |[],[],_=>trivial
 |_::_,_::_,h=>⟨h.1,all2_d h.2⟩
 |[],_::_,h=>h.elim
 |_::_,[],h=>h.elim
omit [Env] in
theorem buildN_dt {pl:List (Nat×Nat)}:∀(qs:List (Nat×List D)) (cs cs':List VC),buildN pl qs cs=some cs'→keysC cs=[]→keysC cs'=[]
 |[],cs,cs',h,hk=>by simp only[buildN,Option.some.injEq]at h;subst h;exact hk
 |(i,ds)::qs,cs,cs',h,hk=>by
  simp only[buildN]at h;split at h
  ·split at h
   ·refine buildN_dt qs _ cs' h ?_;rw[updsC_eq];rw[List.eq_nil_iff_forall_not_mem]at hk ⊢;intro k hk';have:=keysC_iff.1 hk';have hm:∀(l:List VC) (cs:List VC) (off:Nat) (v:VC),v∈updsL cs off l→v∈cs∨v∈l:=by
     intro l
     induction l with
     |nil=>intro cs off v hv;exact .inl hv
     |cons d l ih=>
      intro cs off v hv;rcases ih _ _ _ hv with hv|hv
      ·rcases mem_upd hv with hv|rfl
       ·exact .inl hv
       ·exact .inr (by simp)
      ·exact .inr (by simp[hv])
    rcases hm _ _ _ _ this with h1|h1
    ·exact hk k (keysC_iff.2 h1)
    ·obtain⟨_,_,e⟩:=List.mem_map.1 h1;cases e
   ·simp at h
  ·simp at h
omit [Env] in
theorem keys_constC:∀(z:List Value),keysC (z.map constC)=[]
 |[]=>rfl
 |v::z=>by
  simp only[List.map_cons];unfold constC;split
  ·exact keys_constC z
  ·exact keys_constC z
theorem buildN_ok {loc':Where} {objs':List Obj} {F':Nat→Prop} {pl:List (Nat×Nat)} {place:Nat→Option (Nat×Nat)} (hpl:∀i p,pl[i]? =some p→place i=some p):
 ∀(qs:List (Nat×List D)) (ps:List (Nat×Value)) (cs cs':List VC) (vs:Array Value),All2 (fun q (p:Nat×Value)=>q.1=p.1∧All2 (CD w F') q.2 p.2.cells.toList) qs ps→buildN pl qs cs=some cs'→All2 (CVC loc' objs' w F') cs vs.toList→
  ∃vs':Array Value,Instr.fill place vs ps=some vs'∧All2 (CVC loc' objs' w F') cs' vs'.toList
 |[],[],cs,cs',vs,_,hb,hv=>by simp only[buildN,Option.some.injEq]at hb;subst hb;exact⟨vs,rfl,hv⟩
 |(i,ds)::qs,(i',x)::ps,cs,cs',vs,hq,hb,hv=>by
  obtain⟨⟨rfl,h1⟩,h2⟩:=hq;simp only[buildN]at hb;split at hb
  ·rename_i off size hf;split at hb
   ·rename_i hc;simp only[Bool.and_eq_true,decide_eq_true_eq]at hc;have hlen:=h1.length;have hvl:cs.length=vs.size:=by simpa using hv.length
    simp at hlen;obtain⟨vs',q1,q2⟩:=buildN_ok hpl qs ps _ cs' (updsL vs.toList off x.cells.toList).toArray h2 hb (by
     rw[updsC_eq];exact All2.upds _ _ _ _ _ (all2_d h1) hv)
    refine⟨vs',?_,q2⟩;simp only[Instr.fill,hpl _ _ hf];rw[if_neg (by simp;omega)];have:=fill_step (v:=x) (off:=off) (cells:=vs);rw[this];exact q1
   ·simp at hb
  ·simp at hb
 |[],_::_,_,_,_,hq,_,_=>hq.elim
 |_::_,[],_,_,_,hq,_,_=>hq.elim
theorem rs_build {t:TypeId} {parts:Array (Nat×Operand)} (h:Conc C B F0 w0 F loc st a w):RS C B F0 w0 st a w ⟨dst,.build t parts,ty,pos,after,g⟩ (opFn C ⟨dst,.build t parts,ty,pos,after,g⟩ (ev st) st.objs):=by
 simp only[opFn];split
 ·rename_i z pl hz hpl;split
  ·rename_i qs us hp;split
   ·split
    ·rename_i cs hb;obtain⟨inf,zv,hi,hzv,hzc,hsz,hone,_⟩:=zeros_ok hz;obtain⟨hfz,hall⟩:=parts_ok h hp;obtain⟨F',hc',hF',hb'⟩:=h.freezes hfz st.dirty;have hq:=hall F' hF' hb';have hz2:All2 (CD w F') (z.map constD) zv.cells.toList:=by rw[hzc];exact all2_constD hone
     have hbuilt:∃vs':Array Value,C.P.built t ((parts.map fun(i,x)=>(i,a.eval x)).toList)=some vs'∧All2 (CD w F') cs vs'.toList:=by
      have hmap:(parts.map fun(i,x)=>(i,a.eval x)).toList=parts.toList.map fun x=>(x.1,a.eval x.2):=by simp
      rw[hmap];unfold placesOf at hpl;split at hpl
      ·rename_i fs hu;obtain⟨vs',q1,q2⟩:=buildV_ok (w:=w) (F':=F') (pl:=pl) (place:=(pl.toArray[·]?)) (fun i p hp=>by simpa using hp) qs _ _ cs zv.cells hq hb hz2;exact⟨vs',by simp only[Program.built,hi,hu,hzv,hpl];exact q1,q2⟩
      ·rename_i n e hu;split at hpl
       ·rename_i ie hie;simp only[Option.some.injEq]at hpl;subst hpl;obtain⟨vs',q1,q2⟩:=buildV_ok (w:=w) (F':=F') (place:=fun k=>some (k*ie.size,ie.size)) (fun i p hp=>by
         simp only[List.getElem?_map,Option.map_eq_some_iff]at hp;obtain⟨k,hk,rfl⟩:=hp;have:k=i:=by
          have:=List.getElem?_range (n:=n) (i:=i);rcases Nat.lt_or_ge i n with h1|h1
          ·simp[h1]at hk;exact hk.symm
          ·simp[h1]at hk
         subst this;rfl) qs _ _ cs zv.cells hq hb hz2
        exact⟨vs',by simp only[Program.built,hi,hu,hzv,hie];exact q1,q2⟩
       ·simp at hpl
      ·simp at hpl
     obtain⟨vs',q1,q2⟩:=hbuilt;refine⟨_,_,w,?_,.inl rfl,F',loc,(hc'.pure (dst:=dst) (v:= .ag cs) (x:= .agg vs') ⟨vs',rfl,q2⟩ trivial).redirty⟩;have hr:=run_build (P:=C.P) w t (parts.map fun(i,x)=>(i,a.eval x)) vs' q1;simp only[execOp,Sem.run_bind,hr,Result.andThen_ok];rfl
    ·trivial
   ·split
    ·rename_i cs hb;obtain⟨inf,zv,hi,hzv,hzc,hsz,hone,_⟩:=zeros_ok hz;obtain⟨hfz,hall⟩:=parts_ok h hp;obtain⟨F',hc',hF',hb'⟩:=h.freezes hfz st.dirty;have hq:=hall F' hF' hb';have hz2:All2 (CVC loc (upds st.objs us) w F') (z.map constC) zv.cells.toList:=by rw[hzc];exact all2_constC (st:=⟨st.tmps,upds st.objs us,st.dirty⟩) hone
     have hbuilt:∃vs':Array Value,C.P.built t ((parts.map fun(i,x)=>(i,a.eval x)).toList)=some vs'∧All2 (CVC loc (upds st.objs us) w F') cs vs'.toList:=by
      have hmap:(parts.map fun(i,x)=>(i,a.eval x)).toList=parts.toList.map fun x=>(x.1,a.eval x.2):=by simp
      rw[hmap];unfold placesOf at hpl;split at hpl
      ·rename_i fs hu;obtain⟨vs',q1,q2⟩:=buildN_ok (loc':=loc) (objs':=upds st.objs us) (w:=w) (F':=F') (pl:=pl) (place:=(pl.toArray[·]?)) (fun i p hp=>by simpa using hp) qs _ _ cs zv.cells hq hb hz2;exact⟨vs',by simp only[Program.built,hi,hu,hzv,hpl];exact q1,q2⟩
      ·rename_i n e hu;split at hpl
       ·rename_i ie hie;simp only[Option.some.injEq]at hpl;subst hpl;obtain⟨vs',q1,q2⟩:=buildN_ok (loc':=loc) (objs':=upds st.objs us) (w:=w) (F':=F') (place:=fun k=>some (k*ie.size,ie.size)) (fun i p hp=>by
         simp only[List.getElem?_map,Option.map_eq_some_iff]at hp;obtain⟨k,hk,rfl⟩:=hp;have:k=i:=by
          have:=List.getElem?_range (n:=n) (i:=i);rcases Nat.lt_or_ge i n with h1|h1
          ·simp[h1]at hk;exact hk.symm
          ·simp[h1]at hk
         subst this;rfl) qs _ _ cs zv.cells hq hb hz2
        exact⟨vs',by simp only[Program.built,hi,hu,hzv,hie];exact q1,q2⟩
       ·simp at hpl
      ·simp at hpl
     obtain⟨vs',q1,q2⟩:=hbuilt;refine⟨_,_,w,?_,.inl rfl,F',loc,(hc'.pure (dst:=dst) (v:= .agv cs) (x:= .agg vs') ⟨vs',rfl,q2⟩ (fun k hk=>by rw[buildN_dt _ _ _ hb (keys_constC z)]at hk;simp at hk)).redirty⟩;have hr:=run_build (P:=C.P) w t (parts.map fun(i,x)=>(i,a.eval x)) vs' q1;simp only[execOp,Sem.run_bind,hr,Result.andThen_ok];rfl
    ·trivial
  ·trivial
 ·trivial
end
end Eng
end

section
namespace Eng
open Go Go.RowKit
variable [Env]
section
variable {C:Cx} {B:Bd} {F0:Nat→Prop} {w0:World} {F:Nat→Prop} {loc:Where} {st:St} {a:Act} {w:World}
variable {dst:Option Nat} {ty:TypeId} {pos:String} {after:Array Edge} {g:Option (Nat×Bool)}
omit [Env] in
theorem all2_of_nth {α β:Type} {R:α→β→Prop} (d:α) (e:β):∀{as:List α} {bs:List β},as.length=bs.length→(∀i,i<as.length→R (nth d as i) (nth e bs i))→All2 R as bs
 |[],[],_,_=>trivial
 |a::as,b::bs,hl,h=>⟨h 0 (by simp),all2_of_nth d e (by simpa using hl) fun i hi=>h (i+1) (by simpa using hi)⟩
 |[],_::_,hl,_=>by simp at hl
 |_::_,[],hl,_=>by simp at hl
omit [Env] in
theorem updsL_full {α:Type}:∀(ds l p:List α),l.length=ds.length→updsL (p++l) p.length ds=p++ds
 |[],l,p,h=>by have:l=[]:=List.eq_nil_of_length_eq_zero h;subst this;simp[updsL]
 |d::ds,[],p,h=>by simp at h
 |d::ds,x::l,p,h=>by
  simp only[updsL];have h1:upd (p++x::l) p.length d=(p++[d])++l:=by rw[upd_eq,List.set_append_right _ _ (Nat.le_refl _)];simp
  rw[h1];have:=updsL_full ds l (p++[d]) (by simpa using h);rw[List.length_append]at this;simp only[List.length_cons,List.length_nil,Nat.zero_add]at this;rw[this];simp
omit [Env] in
theorem length_flatten {size:Nat}:∀{es:List (List D)},(∀e∈es,e.length=size)→es.flatten.length=es.length*size
 |[],_=>by simp
 |e::es,h=>by rw[List.flatten_cons,List.length_append,h e (by simp),length_flatten fun e he=>h e (by simp[he]),List.length_cons,Nat.succ_mul];omega
theorem buildEs_ok {F':Nat→Prop} {size:Nat}:
 ∀(qs:List (Nat×List D)) (ps:List (Nat×Value)) (es es':List (List D)) (vs:Array Value),All2 (fun q (p:Nat×Value)=>q.1=p.1∧All2 (CD w F') q.2 p.2.cells.toList) qs ps→buildEs size qs es=some es'→
  (∀e∈es,e.length=size)→All2 (CD w F') es.flatten vs.toList→
  ∃vs':Array Value,Instr.fill (fun i=>some (i*size,size)) vs ps=some vs'∧All2 (CD w F') es'.flatten vs'.toList∧(∀e∈es',e.length=size)∧es'.length=es.length
 |[],[],es,es',vs,_,hb,hs,hv=>by simp only[buildEs,Option.some.injEq]at hb;subst hb;exact⟨vs,rfl,hv,hs,rfl⟩
 |(i,ds)::qs,(i',x)::ps,es,es',vs,hq,hb,hs,hv=>by
  obtain⟨⟨rfl,h1⟩,h2⟩:=hq;simp only[buildEs]at hb;split at hb
  ·rename_i hc;simp only[Bool.and_eq_true,decide_eq_true_eq]at hc;obtain⟨hc1,hc2⟩:=hc;have hlen:=h1.length;simp at hlen;have hvl:=hv.length;rw[length_flatten hs]at hvl;simp at hvl;have hfl:=flatten_upd es hs i 0 ds hc2 (by omega);have hfull:updsL (nth [] es i) 0 ds=ds:=by
    have:=updsL_full ds (nth [] es i) [] (by rw[nth_of_lt _ hc2,hs _ (List.getElem_mem hc2),hc1])
    simpa using this
   rw[hfull,Nat.add_zero]at hfl;obtain⟨vs',q1,q2,q3,q4⟩:=buildEs_ok (F':=F') (size:=size) qs ps (upd es i ds) es' (updsL vs.toList (i*size) x.cells.toList).toArray h2 hb (by
    intro e he;rcases mem_upd he with he|rfl
    ·exact hs e he
    ·exact hc1) (by rw[hfl];exact All2.upds _ _ _ _ _ h1 hv)
   refine⟨vs',?_,q2,q3,by rw[q4,length_upd]⟩;have hle:=idx_lt (s:=size) (m:=size-1) hc2;simp only[Instr.fill];rw[if_neg (by
    have h5:(i+1)*size≤es.length*size:=Nat.mul_le_mul_right _ hc2;rw[Nat.succ_mul]at h5;simp;omega)]
   have:=fill_step (v:=x) (off:=i*size) (cells:=vs);rw[this];exact q1
  ·simp at hb
 |[],_::_,_,_,_,hq,_,_,_=>hq.elim
 |_::_,[],_,_,_,hq,_,_,_=>hq.elim
theorem made_ok {F':Nat→Prop} {z:Array Value} {n:Nat} (h0:0<z.size) (hone:∀x∈z.toList,x.oneCell'=true):
 All2 (CD w F') (List.replicate n (z.toList.map constD)).flatten ((Array.range (n*z.size)).map (z[· %z.size]!)).toList:=by
 have hs:∀e∈List.replicate n (z.toList.map constD),e.length=z.size:=fun e he=>by rw[List.eq_of_mem_replicate he];simp
 refine all2_of_nth .undef undef ?_ fun j hj=>?_
 ·rw[length_flatten hs];simp
 ·rw[length_flatten hs,List.length_replicate]at hj;have hm:=Nat.mod_lt j h0;have hq:j/z.size<n:=Nat.div_lt_of_lt_mul (by rw[Nat.mul_comm];exact hj);have hjq:j=j/z.size*z.size+j%z.size:=by rw[Nat.mul_comm];exact(Nat.div_add_mod j z.size).symm
  have h1:nth .undef (List.replicate n (z.toList.map constD)).flatten j=constD z[j%z.size]:=by
   conv=>lhs;rw[hjq]
   have hE:nth [] (List.replicate n (z.toList.map constD)) (j/z.size)=z.toList.map constD:=by rw[nth_of_lt _ (by simpa using hq)];simp
   rw[nth_flatten hs _ _ (by simpa using hq) hm,hE,nth_of_lt _ (by simpa using hm)];simp
  have h2:nth undef ((Array.range (n*z.size)).map (z[· %z.size]!)).toList j=z[j%z.size]:=by rw[nth_of_lt _ (by simpa using hj)];simp[hm]
  rw[h1,h2];exact constD_ok _ _ _ (hone _ (by simp))
theorem conc_arr {d s:Nat} {es:List (List D)} {cs:Array Value} {e:TypeId} {cap:Nat} (h:Conc C B F0 w0 F loc st a w) (hd:freeKey st.objs d=true) (hroom:roomS s es.length) (hs0:0<s) (hs:∀x∈es,x.length=s)
 (hcap:es.length≤cap∧cap≤9223372036854775807) (hsz:cs.size=cap*s) (hcs:∀j,j<es.length*s→∃v,cs[j]? =some v∧CD w F (nth .undef es.flatten j) v) (hty:C.P.cellsOf e=s):
 Conc C B F0 w0 F (at_ loc d (w.heap.size,cap) e) (st.put dst (.arr d) [(d,.arr s es false)]) (a.put dst (.slice (some ⟨w.heap.size,0,none⟩) es.length cap)) (w.alloc (.cells cs e)):=by
 obtain⟨_,hlt⟩:=freeKey_ok hd;refine h.new hd ⟨hroom,hs0,hs,.inr ⟨w.heap.size,cap,cs,e,by simp[at_],?_,by show(w.heap.push _)[w.heap.size]? =_;simp,hsz,hcap,fun j hj=>?_,(by show loc.P.cellsOf e=s;rw[h.prog];exact hty),by simp[at_]⟩⟩ ?_ ?_
 ·show ¬F w.heap.size;intro hF;have:=h.bound _ hF;omega
 ·obtain⟨v,h1,h2⟩:=hcs j hj;exact⟨v,h1,h2.mono (fun _ h=>h) fun b hb=>Below.heap_alloc _ _ _ (h.bound b hb)⟩
 ·intro s' es' fz' hc;rw[nth_upd_same _ _ _ hlt]at hc;simp only[Obj.arr.injEq]at hc;obtain⟨rfl,rfl,rfl⟩:=hc;exact .inl ⟨w.heap.size,cap,by simp[at_],rfl⟩
 ·show nth .none (upd st.objs d (.arr s es false)) d≠ .none;rw[nth_upd_same _ _ _ hlt];simp
theorem conc_vec {d:Nat} {cells:List V} {cs:Array Value} {e:TypeId} {cap:Nat} (h:Conc C B F0 w0 F loc st a w) (hd:freeKey st.objs d=true) (hroom:room cells.length)
 (hcap:cells.length≤cap∧cap≤9223372036854775807) (hsz:cs.size=cap) (hcs:∀j,j<cells.length→∃x,cs[j]? =some x∧CV loc st.objs w F (nth .any cells j) x∧x.oneCell'=true) (hrefs:∀v∈cells,Ref st.objs v) (hty:C.P.cellsOf e=1):
 Conc C B F0 w0 F (at_ loc d (w.heap.size,cap) e) (st.put dst (.vec d cells.length) [(d,.vec cells)]) (a.put dst (.slice (some ⟨w.heap.size,0,none⟩) cells.length cap)) (w.alloc (.cells cs e)):=by
 obtain⟨_,hlt⟩:=freeKey_ok hd;have hle:Le st.objs (upd st.objs d (.vec cells)) loc (at_ loc d (w.heap.size,cap) e):=le_at hd;refine h.new hd ⟨w.heap.size,cap,cs,e,by simp[at_],?_,by show(w.heap.push _)[w.heap.size]? =_;simp,hsz,hcap,fun j hj=>?_,fun v hv=>(hrefs v hv).le hle,(by show loc.P.cellsOf e=1;rw[h.prog];exact hty),hroom⟩ ?_ ?_
 ·intro hF;have:=h.bound _ hF;omega
 ·obtain⟨v,h1,h2,h3⟩:=hcs j hj;exact⟨v,h1,CV.le (fun _ h=>h) (fun b hb=>Below.heap_alloc _ _ _ (h.bound b hb)) hle (hrefs _ (mem_nth hj)) h2,h3⟩
 ·intro o ho hb;exact⟨w.heap.size,cap,by simp[at_],rfl⟩
 ·show nth .none (upd st.objs d (.vec cells)) d≠ .none;rw[nth_upd_same _ _ _ hlt];simp
omit [Env] in
theorem elemT_ok {P:Program} {t e:TypeId} (h:elemT P t=some e):P.underlying t=some (.slice e):=by
 unfold elemT at h;split at h
 ·rename_i e' hu;simp only[Option.some.injEq]at h;subst h;exact hu
 ·simp at h
omit [Env] in
theorem freeKey_upds {d:Nat}:∀{us:List (Nat×Obj)} {objs:List Obj},Frz objs us→freeKey objs d=true→freeKey (upds objs us) d=true
 |[],_,_,h=>h
 |(k,o)::us,objs,hf,h=>by
  obtain⟨s,es,fz,h1,h2⟩:=hf (k,o) (by simp);simp only at h1 h2;subst h2;refine freeKey_upds (us:=us) (objs:=upd objs k (.arr s es true)) (Frz.step h1 fun p hp=>hf p (by simp[hp])) ?_;obtain⟨q1,q2⟩:=freeKey_ok h;have hkd:k≠d:=by rintro rfl;rw[h1]at q1;simp at q1
  unfold freeKey;rw[nth_upd_ne _ _ _ hkd,nth_of_lt _ q2];rw[nth_of_lt _ q2]at q1;rw[q1]
omit [Env] in
theorem upds_append:∀(us us':List (Nat×Obj)) (objs:List Obj),upds objs (us++us')=upds (upds objs us) us'
 |[],_,_=>rfl
 |(k,o)::us,us',objs=>upds_append us us' (upd objs k o)
omit [Env] in
theorem partV_ok {ρ:Operand→V} {ps:List (Nat×Operand)} {v:V} (h:partV ρ ps=v) (hv:v≠ .any):∃x,ps=[(0,x)]∧ρ x=v:=by
 unfold partV at h;split at h
 ·exact⟨_,rfl,h⟩
 ·exact absurd h.symm hv
theorem rs_buildSlice {t:TypeId} {len:Nat} {parts:Array (Nat×Operand)} (h:Conc C B F0 w0 F loc st a w):RS C B F0 w0 st a w ⟨dst,.buildSlice t len parts,ty,pos,after,g⟩ (opFn C ⟨dst,.buildSlice t len parts,ty,pos,after,g⟩ (ev st) st.objs):=by
 simp only[opFn];split
 ·rename_i d;split
  ·rename_i e hd he;split
   ·unfold buildW;split
    ·rename_i j hpv;split
     ·rename_i s' es' fz' hj;split
      ·rename_i hlen hz;obtain rfl:=Nat.eq_of_beq_eq_true hlen;obtain⟨x,hparts,hvx⟩:=partV_ok hpv (by simp);have hx:=ev_ok h x;rw[hvx]at hx;have hone1:(a.eval x).oneCell'=true:=by
        rcases hx.1 s' es' fz' hj with⟨b1,c1,_,h2⟩|⟨_,_,h2⟩
        ·rw[h2];rfl
        ·rw[h2];rfl
       have h1:=one_cells hone1;have h1s:(a.eval x).cells= #[a.eval x]:=by apply Array.ext';simpa using h1
       obtain⟨inf,zv,hi,hzv,hzc,hsz,hone,_⟩:=zeros_ok hz;have hzs:zv.cells.size=1:=by
        have:zv.cells.toList.length=1:=by rw[hzc];rfl
        simpa using this
       have hszr:=run_sizeOf' hz w;have hmap:(parts.map fun(i,x)=>(i,a.eval x)).toList=[(0,a.eval x)]:=by simp[hparts]
       have hrun:(execOp a.eval ⟨some d,.buildSlice t 1 parts,ty,pos,after,g⟩).run C.P w= .ok (.value (.slice (some ⟨w.heap.size,0,none⟩) 1 1)) (w.alloc (.cells #[a.eval x] e)):=by
        have hzr:(zeroValue e).run C.P w= .ok zv w:=by simp[zeroValue,typeInfo,hi,hzv]
        have hfill:Instr.fill (fun i=>some (i*1,1)) ((Array.range (1*1)).map (zv.cells[· %zv.cells.size]!)) [(0,a.eval x)]=some #[a.eval x]:=by
         have e1:((Array.range (1*1)).map (zv.cells[· %zv.cells.size]!)).size=1:=by simp
         have e2:∀(A:Array Value) (v:Value),A.size=1→A.setIfInBounds 0 v= #[v]:=fun A v h=>by
          apply Array.ext
          ·simpa using h
          ·intro k hk1 hk2;have:k=0:=by simpa using hk2
           subst this;simp
         simp only[Instr.fill,h1s];rw[if_neg (by simp)];have e3:∀A:Array Value,Array.foldl (fun(cs:Array Value) (x:Value×Nat)=>cs.setIfInBounds (0*1+x.2) x.1) A (#[a.eval x]:Array Value).zipIdx=A.setIfInBounds 0 (a.eval x):=fun A=>by simp[Array.zipIdx]
         have:=(e3 _).trans (e2 _ (a.eval x) e1);exact congrArg some this
        simp only[execOp,Instr.buildSlice,Sem.run_bind,run_und (elemT_ok he),Result.andThen_ok,hszr,List.length_cons,List.length_nil,hmap];simp only[Sem.run_bind,hzr,Result.andThen_ok,Sem.run_pure,hfill,Nat.zero_add,Nat.one_mul,if_neg (show ¬(1>2^24)by decide),if_neg (show ¬(1=0)by decide)];simp[newRow]
       have hfin:=conc_vec (dst:=some d) (d:=d) (cells:=[.arr j]) (cs:= #[a.eval x]) (e:=e) (cap:=1) h hd (by unfold room;simp) ⟨Nat.le_refl _,by omega⟩ rfl (fun k hk=>by
        have:k=0:=by simpa using hk
        subst this;exact⟨_,rfl,hx.1,hone1⟩) (fun v hv=>by rw[List.mem_singleton.1 hv];exact hx.2) (cellsOf_len hz)
       exact⟨_,_,_,hrun,.inl rfl,F,_,hfin⟩
      ·trivial
     ·trivial
    ·trivial
   split
   ·rename_i z qs us hz hp;split
    ·rename_i es hb;split
     ·rename_i hc;simp only[Bool.and_eq_true,decide_eq_true_eq]at hc;obtain⟨hc1,hc2⟩:=hc;obtain⟨inf,zv,hi,hzv,hzc,hsz,hone,_⟩:=zeros_ok hz;obtain⟨hfz,hall⟩:=parts_ok h hp;obtain⟨F',hc',hF',hb'⟩:=h.freezes hfz st.dirty;have hq:=hall F' hF' hb';have hzs:zv.cells.size=z.length:=by rw[←hzc];simp
      have hmade:=made_ok (w:=w) (F':=F') (z:=zv.cells) (n:=len) (by omega) (by rw[hzc];exact hone);rw[hzc,hzs]at hmade;obtain⟨vs',q1,q2,q3,q4⟩:=buildEs_ok (F':=F') (size:=z.length) qs _ (List.replicate len (z.map constD)) es _ hq hb (fun e he=>by rw[List.eq_of_mem_replicate he];simp) hmade;rw[List.length_replicate]at q4;have hmap:(parts.map fun(i,x)=>(i,a.eval x)).toList=parts.toList.map fun x=>(x.1,a.eval x.2):=by simp
      have hlen24:¬(len*z.length>2^24):=by omega
      have hszr:=run_sizeOf' hz w;have hfill:Instr.fill (fun i=>some (i*z.length,z.length)) ((Array.range (len*z.length)).map (zv.cells[· %zv.cells.size]!)) ((parts.map fun(i,x)=>(i,a.eval x)).toList)=some vs':=by rw[hmap,hzs];exact q1
      have hrun:(execOp a.eval ⟨some d,.buildSlice t len parts,ty,pos,after,g⟩).run C.P w= .ok (.value (.slice (some ⟨w.heap.size,0,none⟩) es.length es.length)) (w.alloc (.cells vs' e)):=by
       rw[q4];by_cases h0:len*z.length=0
       ·have hr0:((Array.range (len*z.length)).map (zv.cells[· %zv.cells.size]!))= #[]:=by rw[h0];simp
        rw[hr0]at hfill;have hl0:len=0:=by
         rcases Nat.mul_eq_zero.1 h0 with h1|h1
         ·exact h1
         ·omega
        subst hl0;have hfill':Instr.fill (fun i=>some (i*z.length,z.length)) #[] (parts.toList.map fun x=>(x.1,a.eval x.2))=some vs':=by rw[hmap]at hfill;exact hfill
        simp[execOp,Instr.buildSlice,run_und (elemT_ok he),hszr,Array.range_zero',hfill',newRow]
       ·simp only[execOp,Instr.buildSlice,Sem.run_bind,run_und (elemT_ok he),Result.andThen_ok,hszr,if_neg hlen24,if_neg h0];have hzr:(zeroValue e).run C.P w= .ok zv w:=by simp[zeroValue,typeInfo,hi,hzv]
        simp only[Sem.run_bind,hzr,Result.andThen_ok,Sem.run_pure,hfill];simp[newRow]
      have hvl:=q2.length;rw[length_flatten q3]at hvl;simp at hvl;have hfin:=conc_arr (dst:=some d) (st:=⟨st.tmps,upds st.objs us,st.dirty⟩) (d:=d) (s:=z.length) (es:=es) (cs:=vs') (e:=e) (cap:=es.length) hc' (freeKey_upds (objs:=st.objs) hfz hd) (by refine .inl ?_;rw[q4];have:len*1≤len*z.length:=Nat.mul_le_mul_left _ hc2;omega) hc2 q3 ⟨Nat.le_refl _,by rw[q4];have:len*1≤len*z.length:=Nat.mul_le_mul_left _ hc2;omega⟩ hvl.symm (fun j hj=>by
       refine⟨nth undef vs'.toList j,?_,q2.nth .undef undef _ _ j (by rw[length_flatten q3];exact hj)⟩;rw[nth_of_lt _ (by simp;omega)];simp[show j<vs'.size by omega])
      refine⟨_,_,_,hrun,.inl rfl,F',at_ loc d (w.heap.size,es.length) e,?_⟩;have hput:(⟨st.tmps,upds st.objs us,st.dirty⟩:St).put (some d) (.arr d) [(d,.arr z.length es false)]=⟨(st.put (some d) (.arr d) (us++[(d,.arr z.length es false)])).tmps,(st.put (some d) (.arr d) (us++[(d,.arr z.length es false)])).objs,d::st.dirty⟩:=by simp only[St.put,upds_append];rfl
      rw[hput]at hfin;exact(hfin (cellsOf_len hz)).redirty
     ·trivial
    ·trivial
   ·trivial
  ·trivial
 ·trivial
theorem rs_makeSlice {t:TypeId} {x y:Operand} (h:Conc C B F0 w0 F loc st a w):RS C B F0 w0 st a w ⟨dst,.makeSlice t x y,ty,pos,after,g⟩ (opFn C ⟨dst,.makeSlice t x y,ty,pos,after,g⟩ (ev st) st.objs):=by
 simp only[opFn];have hx:=(ev_ok h x).1;have hy:=(ev_ok h y).1;split
 ·rename_i d;split
  ·rename_i e hd he;split
   ·rename_i z l c hz hvx hvy;rw[hvx]at hx;rw[hvy]at hy;split
    ·rename_i hc;simp only[Bool.and_eq_true,decide_eq_true_eq]at hc;obtain⟨hc1,hc2⟩:=hc;split
     case h_2=>
      split
      ·rintro⟨h0,h1,h2⟩;subst h1;obtain⟨inf,zv,hi,hzv,hzc,hsz,hone,_⟩:=zeros_ok hz;unfold room at h2;have hby:C.P.bytesOf e=inf.bytes:=by simp[Program.bytesOf,hi]
       have hmul:(inf.bytes:Int)*l≤4096*1073741824:=by
        have h3:(inf.bytes:Int)≤4096:=by omega
        have h4:l≤1073741824:=by omega
        exact Int.mul_le_mul h3 h4 (by omega) (by omega)
       have hr:=run_make (P:=C.P) w t e inf zv (elemT_ok he) hi hzv .i64 .i64 l l h0 (Int.le_refl _) (by omega) (by omega);have hrun:(execOp a.eval ⟨some d,.makeSlice t x y,ty,pos,after,g⟩).run C.P w= .ok (.value (.slice (some ⟨w.heap.size,0,none⟩) l.toNat l.toNat)) (w.alloc (.cells (madeCells zv.cells (l.toNat*inf.size)) e)):=by simp[execOp,int_inv hx,int_inv hy,hr]
       have hs1:inf.size=1:=hsz;have hz2:zv.cells= #[.slice none 0 0]:=by apply Array.ext';exact hzc
       have hlr:(List.replicate l.toNat V.nilS).length=l.toNat:=by simp
       have hfin:=conc_vec (dst:=some d) (d:=d) (cells:=List.replicate l.toNat .nilS) (cs:=madeCells zv.cells (l.toNat*inf.size)) (e:=e) (cap:=l.toNat) h hd (by unfold room;rw[hlr];omega) (by rw[hlr];omega)
        (by rw[size_madeCells,hs1,Nat.mul_one]) (fun j hj=>by
         rw[hlr]at hj;refine⟨.slice none 0 0,?_,?_,rfl⟩
         ·unfold madeCells;rw[hs1,hz2,Nat.mul_one,Array.getElem?_map,Array.getElem?_range,if_pos hj];simp[Nat.mod_one]
         ·rw[nth_of_lt _ (by simpa using hj)];simp;rfl) (fun v hv=>by rw[List.eq_of_mem_replicate hv];trivial) (cellsOf_len hz)
       rw[hlr]at hfin;exact⟨_,_,_,hrun,.inl rfl,F,_,hfin⟩
      ·trivial
     rintro⟨h0,h1,h2⟩;obtain⟨inf,zv,hi,hzv,hzc,hsz,hone,_⟩:=zeros_ok hz;unfold room at h2;have hby:C.P.bytesOf e=inf.bytes:=by simp[Program.bytesOf,hi]
     have hmul:(inf.bytes:Int)*c≤4096*1073741824:=by
      have h3:(inf.bytes:Int)≤4096:=by omega
      have h4:c≤1073741824:=by omega
      exact Int.mul_le_mul h3 h4 (by omega) (by omega)
     have hr:=run_make (P:=C.P) w t e inf zv (elemT_ok he) hi hzv .i64 .i64 l c h0 h1 (by omega) (by omega);have hrun:(execOp a.eval ⟨some d,.makeSlice t x y,ty,pos,after,g⟩).run C.P w= .ok (.value (.slice (some ⟨w.heap.size,0,none⟩) l.toNat c.toNat)) (w.alloc (.cells (madeCells zv.cells (c.toNat*inf.size)) e)):=by simp[execOp,int_inv hx,int_inv hy,hr]
     have hzs:zv.cells.size=z.length:=by rw[←hzc];simp
     have hmade:=made_ok (w:=w) (F':=F) (z:=zv.cells) (n:=c.toNat) (by omega) (by rw[hzc];exact hone);rw[hzc]at hmade;have hlr:(List.replicate l.toNat (z.map constD)).length=l.toNat:=by simp
     have hsr:∀n,∀e∈List.replicate n (z.map constD),e.length=z.length:=fun n e he=>by rw[List.eq_of_mem_replicate he];simp
     have hfin:=conc_arr (dst:=some d) (d:=d) (s:=z.length) (es:=List.replicate l.toNat (z.map constD)) (cs:=madeCells zv.cells (c.toNat*inf.size)) (e:=e) (cap:=c.toNat) h hd (by refine .inl ?_;rw[hlr];omega) hc2 (hsr _) (by rw[hlr];omega)
      (by rw[size_madeCells,hsz]) (fun j hj=>by
       rw[hlr]at hj;have hjc:j<c.toNat*z.length:=Nat.lt_of_lt_of_le hj (Nat.mul_le_mul_right _ (by omega));have h5:=hmade.nth .undef undef _ _ j (by rw[length_flatten (hsr _),List.length_replicate];exact hjc);refine⟨nth undef ((Array.range (c.toNat*zv.cells.size)).map (zv.cells[· %zv.cells.size]!)).toList j,?_,?_⟩
       ·unfold madeCells;rw[hsz,hzs,nth_of_lt _ (by simpa using hjc)];simp[hjc]
       ·have hm:=Nat.mod_lt j hc2;have hjq:j=j/z.length*z.length+j%z.length:=by rw[Nat.mul_comm];exact(Nat.div_add_mod j z.length).symm
        have hq1:j/z.length<l.toNat:=Nat.div_lt_of_lt_mul (by rw[Nat.mul_comm];exact hj);have hq2:j/z.length<c.toNat:=by omega
        have hE:∀n,j/z.length<n→nth .undef (List.replicate n (z.map constD)).flatten j=nth .undef (z.map constD) (j%z.length):=fun n hn=>by
         have hE1:nth [] (List.replicate n (z.map constD)) (j/z.length)=z.map constD:=by rw[nth_of_lt _ (by simpa using hn)];simp
         conv=>lhs;rw[hjq]
         rw[nth_flatten (hsr _) _ _ (by simpa using hn) hm,hE1]
        have:nth .undef (List.replicate l.toNat (z.map constD)).flatten j=nth .undef (List.replicate c.toNat (z.map constD)).flatten j:=by rw[hE _ hq1,hE _ hq2]
        rw[this];exact h5)
     rw[hlr]at hfin;exact⟨_,_,_,hrun,.inl rfl,F,_,hfin (cellsOf_len hz)⟩
    ·trivial
   ·trivial
  ·trivial
 ·trivial
end
end Eng
end

section
namespace Eng
open Go Go.RowKit
variable [Env]
section
variable {C:Cx} {B:Bd} {F0:Nat→Prop} {w0:World} {F:Nat→Prop} {loc:Where} {st:St} {a:Act} {w:World}
variable {dst:Option Nat} {ty:TypeId} {pos:String} {after:Array Edge} {g:Option (Nat×Bool)}
theorem conc_nil {d s:Nat} (h:Conc C B F0 w0 F loc st a w) (hd:freeKey st.objs d=true) (hs0:0<s):
 Conc C B F0 w0 F loc (st.put dst (.arr d) [(d,.arr s [] false)]) (a.put dst (.slice none 0 0)) w:=by
 obtain⟨hnone,hlt⟩:=freeKey_ok hd;have hlocd:loc d=none:=by have:=h.objs d;rw[hnone]at this;exact this
 have hle:Le st.objs (upd st.objs d (.arr s [] false)) loc loc:=by
  refine⟨rfl,fun _ _=>rfl,fun k hk=>?_,fun k o' hk hc hbx=>?_,fun k s' es' fz' hk hc=>?_⟩
  ·by_cases hkd:d=k
   ·subst hkd;exact absurd hnone hk
   ·rw[nth_upd_ne _ _ _ hkd];exact hk
  ·by_cases hkd:d=k
   ·subst hkd;exact absurd hnone hk
   ·rw[nth_upd_ne _ _ _ hkd]at hc;exact⟨by rw[hc];exact hbx,rfl⟩
  ·by_cases hkd:d=k
   ·subst hkd;exact absurd hnone hk
   ·rw[nth_upd_ne _ _ _ hkd]at hc;exact⟨⟨_,_,hc,rfl⟩,rfl⟩
 refine h.step (up:=[(d,.arr s [] false)]) (loc':=loc) (fun _ h=>h) (fun _ _=>rfl) hle h.below h.hB (fun k=>?_) h.inj h.fresh h.bound h.fsub ?_ ?_
 ·show CO _ (upd st.objs d (.arr s [] false)) _ _ _ (nth .none (upd st.objs d (.arr s [] false)) k);by_cases hk:d=k
  ·subst hk;rw[nth_upd_same _ _ _ hlt];exact⟨by simp[roomS],hs0,by simp,.inl ⟨hlocd,rfl⟩⟩
  ·rw[nth_upd_ne _ _ _ hk];exact CO.le (fun _ h=>h) (fun _ _=>rfl) hle rfl rfl (fun b c hb=>⟨rfl,fun h=>h⟩) (h.objs k)
 ·intro s' es' fz' hc;show _∨_;rw[show upds st.objs [(d,.arr s [] false)]=upd st.objs d (.arr s [] false)from rfl,nth_upd_same _ _ _ hlt]at hc;simp only[Obj.arr.injEq]at hc;obtain⟨rfl,rfl,rfl⟩:=hc;exact .inr ⟨hlocd,rfl,rfl⟩
 ·show nth .none (upd st.objs d (.arr s [] false)) d≠ .none;rw[nth_upd_same _ _ _ hlt];simp
theorem src_ok {v:V} {x:Value} {ys:List (List D)} {us:List (Nat×Obj)} (h:Conc C B F0 w0 F loc st a w) (hc:elems st.objs v=some (ys,us)) (hv:CV loc st.objs w F v x):
 ∃ad c,x= .slice ad ys.length c∧(ys=[]∨∃b o size,ad=some ⟨b,o,none⟩∧(∀e∈ys,e.length=size)∧∀j,j<ys.length*size→∃u,w.cell? ⟨b,o+j,none⟩=some u∧CD w F (nth .undef ys.flatten j) u):=by
 unfold elems at hc;split at hc
 ·simp only[Option.some.injEq,Prod.mk.injEq]at hc;obtain⟨rfl,rfl⟩:=hc;obtain⟨ad,c,h1,_,h2⟩:=CD.slice_inv (hv:CD w F _ _);refine⟨ad,c,h1,?_⟩;rcases h2 with h2|⟨b,o,size,h2,h3⟩
  ·exact .inl h2
  ·exact .inr ⟨b,o,size,h2,h3.hs,h3.hc⟩
 ·simp only[Option.some.injEq,Prod.mk.injEq]at hc;obtain⟨rfl,rfl⟩:=hc;exact⟨none,0,hv,.inl rfl⟩
 ·rename_i k;split at hc
  ·rename_i s es' fz hk;simp only[Option.some.injEq,Prod.mk.injEq]at hc;obtain⟨rfl,rfl⟩:=hc;have h0:=h.objs k;rw[hk]at h0;obtain⟨_,_,hs,h4⟩:=h0;rcases hv s es' fz hk with⟨b,c,q1,rfl⟩|⟨q1,rfl,rfl⟩
   ·rcases h4 with⟨h4,rfl⟩|⟨b',c',cs,t,h4,h5,h6,h7,h8,h9⟩
    ·exact⟨_,c,rfl,.inl rfl⟩
    ·rw[h4]at q1;simp only[Option.some.injEq,Prod.mk.injEq]at q1;obtain⟨rfl,rfl⟩:=q1;refine⟨_,c',rfl,.inr ⟨b',0,s,rfl,hs,fun j hj=>?_⟩⟩;obtain⟨u,r1,r2⟩:=h9.1 j hj;exact⟨u,by rw[cell_blk h6,Nat.zero_add];exact r1,r2⟩
   ·exact⟨none,0,rfl,.inl rfl⟩
  ·simp at hc
 ·simp at hc
omit [Env] in
theorem nth_part {es:List (List D)} {s o l j:Nat} (hs:∀e∈es,e.length=s) (hol:o+l≤es.length) (hj:j<l*s):nth .undef ((es.drop o).take l).flatten j=nth .undef es.flatten (o*s+j):=by
 have e1:es.flatten=(es.take o).flatten++(((es.drop o).take l).flatten++((es.drop o).drop l).flatten):=by rw[←List.flatten_append,←List.flatten_append,List.take_append_drop,List.take_append_drop]
 have l1:(es.take o).flatten.length=o*s:=by rw[length_flatten (fun e he=>hs e (List.mem_of_mem_take he)),List.length_take,Nat.min_eq_left (by omega)]
 have l2:((es.drop o).take l).flatten.length=l*s:=by rw[length_flatten (fun e he=>hs e (List.mem_of_mem_drop (List.mem_of_mem_take he))),List.length_take,List.length_drop,Nat.min_eq_left (by omega)]
 rw[e1,nth_eq,nth_eq,List.getElem?_append_right (by omega),l1,Nat.add_sub_cancel_left,List.getElem?_append_left (by omega)]
theorem srcS_ok {v:V} {x:Value} {ys:List (List D)} (h:Conc C B F0 w0 F loc st a w) (hc:elemsS st.objs v=some ys) (hv:CV loc st.objs w F v x):
 ∃ad c,x= .slice ad ys.length c∧(ys=[]∨∃b o size,ad=some ⟨b,o,none⟩∧(∀e∈ys,e.length=size)∧∀j,j<ys.length*size→∃u,w.cell? ⟨b,o+j,none⟩=some u∧CD w F (nth .undef ys.flatten j) u):=by
 have gen:∀us,elems st.objs v=some (ys,us)→_:=fun us hh=>src_ok h hh hv
 unfold elemsS at hc;split at hc
 ·rename_i k o l;clear gen;split at hc
  ·rename_i s es' fz hk;simp only[Option.some.injEq]at hc;subst hc;have h0:=h.objs k;rw[hk]at h0;obtain⟨_,_,hs,h4⟩:=h0;rcases hv s es' fz hk with⟨b,c,q1,q2,rfl⟩|⟨_,q1,rfl,rfl,rfl,rfl⟩|⟨_,q1,q2,rfl,ad,c,rfl⟩
   ·rcases h4 with⟨h4,rfl⟩|⟨b',c',cs,t,h4,h5,h6,h7,h8,h9⟩
    ·rw[h4]at q1;simp at q1
    ·rw[h4]at q1;simp only[Option.some.injEq,Prod.mk.injEq]at q1;obtain⟨rfl,rfl⟩:=q1;have hl:((es'.drop o).take l).length=l:=by rw[List.length_take,List.length_drop];omega
     refine⟨some ⟨b',o*s,none⟩,c'-o,by rw[hl],.inr ⟨b',o*s,s,rfl,fun e he=>hs e (List.mem_of_mem_drop (List.mem_of_mem_take he)),fun j hj=>?_⟩⟩;rw[hl]at hj;have hj2:o*s+j<es'.length*s:=by have:=Nat.mul_le_mul_right s q2;rw[Nat.add_mul]at this;omega
     obtain⟨u,r1,r2⟩:=h9.1 _ hj2;rw[nth_part hs q2 hj];exact⟨u,by rw[cell_blk h6];exact r1,r2⟩
   ·exact⟨none,0,by simp,.inl (by simp)⟩
   ·exact⟨ad,c,by simp,.inl (by simp)⟩
  ·simp at hc
 ·split at hc
  ·rename_i es us hh;simp only[Option.some.injEq]at hc;subst hc;exact gen us hh
  ·simp at hc
omit [Env] in
theorem run_append_empty {P:Program} {t e ty:TypeId} {z:List Value} (ht:P.underlying t=some (.slice e)) (hz:zeros P e=some z) (base:Option Addr) (sLen sCap:Nat) (hle:sLen≤sCap) (ad:Option Addr) (c:Nat) (w:World):
 (Builtin.append_ #[t,t] ty #[.slice base sLen sCap,.slice ad 0 c]).run P w= .ok (.slice base sLen sCap) w:=by
 have h2:=run_sizeOf' hz w;have h3:∀x:Addr,(loadCells x 0).run P w= .ok #[] w:=fun x=>rfl
 cases base<;>cases ad<;>simp[Builtin.append_,run_und ht,h2,Builtin.lenOf,Builtin.firstCells,hle,storeCells,h3]
omit [Env] in
theorem run_append_fit {P:Program} {t e ty t':TypeId} {inf:TypeInfo} (ht:P.underlying t=some (.slice e)) (hi:P.info? e=some inf) {b sLen sCap:Nat} {cur:Array Value} (hg:w.heap[b]? =some (.cells cur t' (0,0)))
 (ad:Addr) (m c:Nat) (news:List Value) (hl:news.length=m*inf.size) (hnews:∀j u,news[j]? =some u→w.cell? (ad.add j)=some u) (h1:∀u∈news,u.oneCell'=true)
 (hroom:sLen+m≤sCap) (hfit:sLen*inf.size+news.length≤cur.size):
 (Builtin.append_ #[t,t] ty #[.slice (some ⟨b,0,none⟩) sLen sCap,.slice (some ad) m c]).run P w=
  .ok (.slice (some ⟨b,0,none⟩) (sLen+m) sCap) (setBlk w b (.cells (updsL cur.toList (sLen*inf.size) news).toArray t' (0,0))):=by
 have hf:=run_firstCells_some (P:=P) w inf.size m ad m c news hl hnews;have hst:=run_storeCells_blk (P:=P) (o:=sLen*inf.size) news 0 w cur hg (by omega) h1;simp only[Nat.add_zero]at hst;simp[Builtin.append_,run_und ht,Go.sizeOf,typeInfo,hi,Builtin.lenOf,hroom,hf,addr_add,hst]
omit [Env] in
theorem vecL_ok {objs:List Obj} {v:V} {cells:List V} {up:List (Nat×Obj)} (h:vecL objs v=some (cells,up)):(v= .nilS∧cells=[]∧up=[])∨∃k,v= .vec k cells.length∧nth .none objs k= .vec cells∧up=[(k,.dead)]:=by
 unfold vecL at h;split at h
 ·simp only[Option.some.injEq,Prod.mk.injEq]at h;exact .inl ⟨rfl,h.1.symm,h.2.symm⟩
 ·split at h
  ·rename_i k n _ cs hk;split at h
   ·rename_i hn;simp only[Option.some.injEq,Prod.mk.injEq]at h;obtain⟨rfl,rfl⟩:=h;exact .inr ⟨k,by rw[Nat.eq_of_beq_eq_true hn],hk,rfl⟩
   ·simp at h
  ·simp at h
 ·simp at h
theorem rs_appendW {d:Nat} {x y:Operand} {t e:TypeId} (h:Conc C B F0 w0 F loc st a w) (hd:freeKey st.objs d=true) (he:elemT C.P t=some e):
 RS C B F0 w0 st a w ⟨some d,.call ⟨.builtin .append, #[x,y], #[t,t]⟩,ty,pos,after,g⟩ (appendW C.P d st.objs e (ev st x) (ev st y)):=by
 unfold appendW;have hx:=(ev_ok h x).1;have hy:=(ev_ok h y).1;have hu:=elemT_ok he;split
 ·rename_i xs up v u2 hxs hys hz;split
  ·rename_i hc;simp only[Bool.and_eq_true,decide_eq_true_eq,List.all_eq_true,Bool.not_eq_true']at hc;obtain⟨hc1,hcd⟩:=hc;intro hroom;obtain⟨inf,zv,hi,hzv,hzc,hsz,hone,_⟩:=zeros_ok hz;have hs1:inf.size=1:=hsz;have hby:C.P.bytesOf e=inf.bytes:=by simp[Program.bytesOf,hi]
   obtain⟨ky,hvy,hky,_⟩:=(vecL_ok hys).resolve_left (by rintro⟨_,h1,_⟩;simp at h1);rw[hvy]at hy;obtain⟨b2,c2,hl2,hye⟩:=hy _ hky rfl;have hco:=h.objs ky;rw[hky]at hco;obtain⟨b',c',csy,t',hl',_,hblk2,_,_,hall2,hrefs2,_⟩:=hco;rw[hl2]at hl';simp only[Option.some.injEq,Prod.mk.injEq]at hl';obtain⟨rfl,rfl⟩:=hl';obtain⟨x0,hx0,hv0,ho0⟩:=hall2 0 (by simp);have hv0:CV loc st.objs w F v x0:=hv0;have hr0:Ref st.objs v:=hrefs2 v (by simp);have hye:a.eval y= .slice (some ⟨b2,0,none⟩) 1 c2:=hye;have hnw:∀j u,[x0][j]? =some u→w.cell? ((⟨b2,0,none⟩:Addr).add j)=some u:=fun j u hj=>by
    cases j with
    |zero=>rw[addr_add,cell_blk hblk2];simpa using hx0.trans (by simpa using hj)
    |succ j=>simp at hj
   have hex:∀r w',(Builtin.append_ #[t,t] ty #[a.eval x,.slice (some ⟨b2,0,none⟩) 1 c2]).run C.P w= .ok r w'→(execOp a.eval ⟨some d,.call ⟨.builtin .append, #[x,y], #[t,t]⟩,ty,pos,after,g⟩).run C.P w= .ok (.value r) w':=fun r w' hr=>by rw[←hye]at hr;simp[execOp,resolve,invoke,builtin,hr]
   have hrm:xs.length+1≤1073741824:=hroom;have hrb:((xs.length+1)+(xs.length+1)/4+192)*inf.bytes≤281474976710656:=by have:((xs.length+1)+(xs.length+1)/4+192)*inf.bytes≤1342177472*4096:=Nat.mul_le_mul (by omega) (by omega);omega
   have hgrow:∀(loc':Where) (st':St) (olds:List Value) (old:Nat),Conc C B F0 w0 F loc' st' a w→freeKey st'.objs d=true→olds.length=xs.length→(∀j,j<xs.length→∃u,olds[j]? =some u∧CV loc' st'.objs w F (nth .any xs j) u∧u.oneCell'=true)→
    (∀u∈xs,Ref st'.objs u)→CV loc' st'.objs w F v x0→Ref st'.objs v→
    Conc C B F0 w0 F (at_ loc' d (w.heap.size,grownCap w (xs.length+1) old e) e) (st'.put (some d) (.vec d (xs.length+1)) [(d,.vec (xs++[v]))]) (a.put (some d) (.slice (some ⟨w.heap.size,0,none⟩) (xs.length+1) (grownCap w (xs.length+1) old e)))
     (w.drew.alloc (.cells (olds.toArray++[x0].toArray++Builtin.zeroCells zv.cells (grownCap w (xs.length+1) old e-(xs.length+1))) e)):=by
    intro loc' st' olds old hC hfree hol hxs' hrx hv' hr';have hge:=grownCap_ge w (xs.length+1) old e;have hzs:zv.cells.size=1:=by
     have:zv.cells.toList.length=1:=by rw[hzc];rfl
     simpa using this
    have:=conc_vec (dst:=some d) (d:=d) (cells:=xs++[v]) (cs:=olds.toArray++[x0].toArray++Builtin.zeroCells zv.cells (grownCap w (xs.length+1) old e-(xs.length+1))) (e:=e) (cap:=grownCap w (xs.length+1) old e) hC.drew hfree (by rw[List.length_append];exact hroom)
     (by rw[List.length_append];exact⟨hge,Nat.le_trans (grownCap_le_maxLen w _ old e (by simp only[maxLen];omega)) (by simp[maxLen])⟩)
     (by simp only[Array.size_append,List.size_toArray,size_zeroCells,hzs,List.length_cons,List.length_nil];omega)
     (fun j hj=>by
      rw[List.length_append]at hj;simp only[List.length_cons,List.length_nil]at hj;rcases Nat.lt_or_ge j xs.length with h1|h1
      ·obtain⟨u,q1,q2,q3⟩:=hxs' j h1;refine⟨u,?_,?_,q3⟩
       ·rw[Array.getElem?_append_left (by simp;omega),Array.getElem?_append_left (by simp;omega)];simpa using q1
       ·rw[nth_eq,List.getElem?_append_left h1,←nth_eq];exact CV.mem (w:=w) (w':=w.drew) (fun _ h=>h) (fun _ _=>rfl) q2
      ·have:j=xs.length:=by omega
       subst this;refine⟨x0,?_,?_,ho0⟩
       ·rw[Array.getElem?_append_left (by simp;omega),Array.getElem?_append_right (by simp;omega)];simp[hol]
       ·rw[nth_eq,List.getElem?_append_right (Nat.le_refl _),Nat.sub_self];exact CV.mem (w:=w) (w':=w.drew) (fun _ h=>h) (fun _ _=>rfl) hv')
     (fun u hu=>by rcases List.mem_append.1 hu with hu|hu;exact hrx u hu;rw[List.mem_singleton.1 hu];exact hr') (cellsOf_len hz)
    rw[List.length_append]at this;exact this
   rcases vecL_ok hxs with⟨hvx,rfl,rfl⟩|⟨k,hvx,hk,rfl⟩
   ·rw[hvx]at hx;have hxe:a.eval x= .slice none 0 0:=hx;rw[hxe]at hex;have hr:=run_append_nil (P:=C.P) w t ty e inf zv hu hi hzv ⟨b2,0,none⟩ 1 c2 [x0] (by simp[hs1]) hnw (by omega) (by omega) (Nat.le_trans (Nat.mul_le_mul_right _ (by omega)) hrb);have:=hgrow loc st [] 0 h hd rfl (by simp) (by simp) hv0 hr0;simp only[List.length_nil,Nat.zero_add,List.nil_append,Array.empty_append]at this;exact⟨_,_,_,hex _ _ hr,.inl rfl,F,_,this⟩
   ·rw[hvx]at hx;obtain⟨b,cap,hl,hxe⟩:=hx _ hk rfl;have hkd:¬k=d:=fun e=>by have:=hcd _ (List.mem_singleton.2 rfl);rw[e]at this;simp at this
    have hco:=h.objs k;rw[hk]at hco;obtain⟨b',cap',cs,t',hl',hnF,hblk,hcsz,hlc,hall,hrefs,h9⟩:=hco;rw[hl]at hl';simp only[Option.some.injEq,Prod.mk.injEq]at hl';obtain⟨rfl,rfl⟩:=hl';rw[hxe]at hex;have hf:=h.fresh _ _ _ hl;have hkn:nth .none st.objs k≠ .none:=by rw[hk];simp
    have hle:=le_kill (loc:=loc) hkn;have hkill:=h.killO hkn (k::st.dirty);have hfree':freeKey (upd st.objs k .dead) d=true:=by obtain⟨q1,q2⟩:=freeKey_ok hd;unfold freeKey;rw[nth_upd_ne _ _ _ hkd,nth_of_lt _ q2];rw[nth_of_lt _ q2]at q1;rw[q1]
    have hput:∀o',(⟨st.tmps,upd st.objs k .dead,k::st.dirty⟩:St).put (some d) (.vec d (xs.length+1)) [(d,o')]=⟨(st.put (some d) (.vec d (xs.length+1)) [(k,.dead),(d,o')]).tmps,(st.put (some d) (.vec d (xs.length+1)) [(k,.dead),(d,o')]).objs,d::k::st.dirty⟩:=fun o'=>rfl
    have hno:∀j c',kill_ loc k j≠some (b,c'):=by
     intro j c' hj;simp only[kill_]at hj;split at hj
     ·simp at hj
     ·rename_i hjk;exact hjk (h.inj _ _ _ _ _ hj hl)
    have hcell:∀j,j<xs.length→∃u,cs[j]? =some u∧CV (kill_ loc k) (upd st.objs k .dead) w F (nth .any xs j) u∧u.oneCell'=true:=fun j hj=>by obtain⟨u,q1,q2,q3⟩:=hall j hj;exact⟨u,q1,CV.le (fun _ h=>h) (fun _ _=>rfl) hle (hrefs _ (mem_nth hj)) q2,q3⟩
    have hv1:CV (kill_ loc k) (upd st.objs k .dead) w F v x0:=CV.le (fun _ h=>h) (fun _ _=>rfl) hle hr0 hv0;by_cases hfit:xs.length+1≤cap
    ·have hr:=run_append_fit (P:=C.P) (ty:=ty) hu hi hblk ⟨b2,0,none⟩ 1 c2 [x0] (by simp[hs1]) hnw (by simpa using ho0) hfit (by rw[hs1];simp;omega);rw[hs1,Nat.mul_one]at hr;have hlt:d<(upd st.objs k .dead).length:=(freeKey_ok hfree').2;have hle2:Le (upd st.objs k .dead) (upd (upd st.objs k .dead) d (.vec (xs++[v]))) (kill_ loc k) (at_ (kill_ loc k) d (b,cap) t'):=le_at hfree';have hw:∀b',F b'→(setBlk w b (.cells (updsL cs.toList xs.length [x0]).toArray t' (0,0))).heap[b']? =w.heap[b']? :=fun b' hb=>setBlk_ne (fun e=>hnF (e▸hb))
     have:=hkill.adopt (tt:=t') (dst:=some d) (d:=d) (b:=b) (cap:=cap) (ob:= .vec (xs++[v])) (v:= .vec d (xs.length+1)) (x:= .slice (some ⟨b,0,none⟩) (xs.length+1) cap) (cs:=(updsL cs.toList xs.length [x0]).toArray) (t:=t') hfree' hf hnF hno
      ⟨b,cap,_,t',by simp[at_],hnF,setBlk_at hf.2,by simp[updsL,length_upd,hcsz],by rw[List.length_append];exact⟨hfit,hlc.2⟩,fun j hj=>by
       rw[List.length_append]at hj;simp only[List.length_cons,List.length_nil]at hj;rcases Nat.lt_or_ge j xs.length with h1|h1
       ·obtain⟨u,q1,q2,q3⟩:=hcell j h1;refine⟨u,?_,?_,q3⟩
        ·simp only[updsL,upd_eq];simp[show ¬xs.length=j by omega,q1]
        ·rw[nth_eq,List.getElem?_append_left h1,←nth_eq];exact CV.le (fun _ h=>h) hw hle2 ((hrefs _ (mem_nth h1)).le hle) q2
       ·have:j=xs.length:=by omega
        subst this;refine⟨x0,?_,?_,ho0⟩
        ·simp only[updsL,upd_eq];simp[show xs.length<cs.size by omega]
        ·rw[nth_eq,List.getElem?_append_right (Nat.le_refl _),Nat.sub_self];exact CV.le (fun _ h=>h) hw hle2 (hr0.le hle) hv1,
       fun u hu=>by
        rcases List.mem_append.1 hu with hu|hu
        ·exact((hrefs u hu).le hle).le hle2
        ·rw[List.mem_singleton.1 hu];exact(hr0.le hle).le hle2,by show loc.P.cellsOf t'=1;exact h9.1,by rw[List.length_append];exact hroom⟩
      (fun o ho hb=>⟨b,cap,by simp[at_],rfl⟩)
      (by show nth .none (upd (upd st.objs k .dead) d (.vec (xs++[v]))) d≠ .none;rw[nth_upd_same _ _ _ hlt];simp)
     rw[hput]at this;exact⟨_,_,_,hex _ _ hr,.inl rfl,F,_,this.redirty⟩
    ·have hxl:xs.length≤cs.size:=by omega
     have hr:=run_append_grow (P:=C.P) w t ty e inf zv hu hi hzv ⟨b,0,none⟩ xs.length cap (cs.toList.take xs.length) (by rw[hs1];simp;omega) (fun j u hj=>by
      rw[addr_add,cell_blk hblk,Nat.zero_add];rw[List.getElem?_take]at hj;split at hj
      ·simpa using hj
      ·simp at hj) ⟨b2,0,none⟩ 1 c2 [x0] (by simp[hs1]) hnw (by omega) (by omega) (growslice_fits_wide (by omega) hrb)
     have:=hgrow _ _ (cs.toList.take xs.length) cap hkill hfree' (by simp;omega) (fun j hj=>by
      obtain⟨u,q1,q2,q3⟩:=hcell j hj;exact⟨u,by rw[List.getElem?_take,if_pos hj];simpa using q1,q2,q3⟩) (fun u hu=>(hrefs u hu).le hle) hv1 (hr0.le hle)
     rw[hput]at this;exact⟨_,_,_,hex _ _ hr,.inl rfl,F,_,this.redirty⟩
  ·trivial
 ·trivial
theorem rs_append {x y:Operand} {ts:Array TypeId} (h:Conc C B F0 w0 F loc st a w):RS C B F0 w0 st a w ⟨dst,.call ⟨.builtin .append, #[x,y],ts⟩,ty,pos,after,g⟩ (appendV C dst st.objs ts (ev st x) (ev st y)):=by
 unfold appendV;have hx:=(ev_ok h x).1;have hy:=(ev_ok h y).1;split
 ·trivial
 rename_i d;split
 ·trivial
 rename_i hd;split
 ·rename_i t t2 hts;split
  ·rename_i e he ht2;have ht2:t2=t:=by simpa using ht2
   subst ht2;have hts':ts= #[t2,t2]:=by apply Array.ext';simpa using hts
   subst hts';have hu:=elemT_ok he;split
   ·exact rs_appendW h (by simpa using hd) he
   split
   ·rename_i ys z hel hz
    ·split
     ·rename_i hc;simp only[Bool.and_eq_true,decide_eq_true_eq]at hc;obtain⟨hc1,hc2⟩:=hc;obtain⟨inf,zv,hi,hzv,hzc,hsz,hone,_⟩:=zeros_ok hz;have hzs:zv.cells.size=z.length:=by rw[←hzc];simp
      have hby:C.P.bytesOf e=inf.bytes:=by simp[Program.bytesOf,hi]
      obtain⟨ad,c,hye,hysrc⟩:=srcS_ok h hel hy;have hex:∀v w',(Builtin.append_ #[t2,t2] ty #[a.eval x,.slice ad ys.length c]).run C.P w= .ok v w'→(execOp a.eval ⟨some d,.call ⟨.builtin .append, #[x,y], #[t2,t2]⟩,ty,pos,after,g⟩).run C.P w= .ok (.value v) w':=fun v w' hr=>by rw[←hye]at hr;simp[execOp,resolve,invoke,builtin,hr]
      --the cells that are appended
      have hnews:lens z.length ys→ys≠[]→∃b o,ad=some ⟨b,o,none⟩∧∃news:List Value,news.length=ys.length*inf.size∧(∀j u,news[j]? =some u→w.cell? ((⟨b,o,none⟩:Addr).add j)=some u)∧All2 (CD w F) ys.flatten news:=by
       intro hl hne;rcases hysrc with hys|⟨b,o,size,had,hs,hcells⟩
       ·exact absurd hys hne
       ·obtain⟨y0,ys0,rfl⟩:=List.exists_cons_of_ne_nil hne;have hsize:size=z.length:=by rw[←hl y0 (by simp),hs y0 (by simp)]
        subst hsize;refine⟨b,o,had,?_⟩;have hfn:∀j,∃u,j<(y0::ys0).length*z.length→w.cell? ⟨b,o+j,none⟩=some u∧CD w F (nth .undef (y0::ys0).flatten j) u:=fun j=>by
         by_cases hj:j<(y0::ys0).length*z.length
         ·obtain⟨u,hu⟩:=hcells j hj;exact⟨u,fun _=>hu⟩
         ·exact⟨undef,fun hh=>absurd hh hj⟩
        let f:Nat→Value:=fun j=>Classical.choose (hfn j)
        have hf:∀j,j<(y0::ys0).length*z.length→w.cell? ⟨b,o+j,none⟩=some (f j)∧CD w F (nth .undef (y0::ys0).flatten j) (f j):=fun j hj=>Classical.choose_spec (hfn j) hj
        refine⟨(List.range ((y0::ys0).length*z.length)).map f,by simp[hsz],fun j u hj=>?_,?_⟩
        ·rw[addr_add];simp only[List.getElem?_map,Option.map_eq_some_iff]at hj;obtain⟨k,hk,rfl⟩:=hj;rcases Nat.lt_or_ge j ((y0::ys0).length*z.length)with h1|h1
         ·rw[List.getElem?_range h1]at hk;simp only[Option.some.injEq]at hk;subst hk;exact(hf _ h1).1
         ·rw[List.getElem?_eq_none (by simpa using h1)]at hk;simp at hk
        ·refine all2_of_nth .undef undef (by rw[length_flatten hl];simp) fun j hj=>?_
         rw[length_flatten hl]at hj;rw[nth_of_lt undef (by simpa using hj)];simp only[List.getElem_map,List.getElem_range];exact(hf j hj).2
      --a new array out of all that there is
      have hgrow:∀(loc':Where) (st':St) (es:List (List D)) (olds news:List Value) (old:Nat),Conc C B F0 w0 F loc' st' a w→freeKey st'.objs d=true→roomS z.length (es.length+ys.length)→(∀q∈es,q.length=z.length)→(∀q∈ys,q.length=z.length)→
       All2 (CD w F) es.flatten olds→All2 (CD w F) ys.flatten news→
       Conc C B F0 w0 F (at_ loc' d (w.heap.size,grownCap w (es.length+ys.length) old e) e) (st'.put (some d) (.arr d) [(d,.arr z.length (es++ys) false)]) (a.put (some d) (.slice (some ⟨w.heap.size,0,none⟩) (es.length+ys.length) (grownCap w (es.length+ys.length) old e)))
        (w.drew.alloc (.cells (olds.toArray++news.toArray++Builtin.zeroCells zv.cells (grownCap w (es.length+ys.length) old e-(es.length+ys.length))) e)):=by
       intro loc' st' es olds news old hC hfree hroom hs1 hs2 ho hn;have hge:=grownCap_ge w (es.length+ys.length) old e;have hl1:=ho.length;have hl2:=hn.length;rw[length_flatten hs1]at hl1;rw[length_flatten hs2]at hl2;have hs3:∀q∈es++ys,q.length=z.length:=fun q hq=>by rcases List.mem_append.1 hq with hq|hq;exact hs1 q hq;exact hs2 q hq
       have:=conc_arr (dst:=some d) (d:=d) (s:=z.length) (es:=es++ys) (cs:=olds.toArray++news.toArray++Builtin.zeroCells zv.cells (grownCap w (es.length+ys.length) old e-(es.length+ys.length))) (e:=e) (cap:=grownCap w (es.length+ys.length) old e) hC.drew hfree (by rw[List.length_append];exact hroom) hc2 hs3 (by rw[List.length_append];exact⟨hge,Nat.le_trans (grownCap_le_maxLen w _ old e (by simp only[maxLen];have:=hroom.max;omega)) (by simp[maxLen])⟩)
        (by
         simp only[Array.size_append,List.size_toArray,size_zeroCells,hzs,←hl1,←hl2,←Nat.add_mul];congr 1;omega)
        (fun j hj=>by
         rw[List.length_append,Nat.add_mul]at hj;have hall:=All2.append ho hn;have:=hall.nth .undef undef _ _ j (by rw[List.length_append,length_flatten hs1,length_flatten hs2];exact hj);refine⟨nth undef (olds++news) j,?_,?_⟩
         ·rw[nth_of_lt _ (by rw[List.length_append];omega)];rw[Array.getElem?_append_left (by simp;omega)];simp[show j<olds.length+news.length by omega]
         ·rw[List.flatten_append];exact this.mono (fun _ h=>h) fun _ _=>rfl)
       rw[List.length_append]at this;exact this (cellsOf_len hz)
      have hwide:∀n,roomG (Nat.beq (C.P.bytesOf e) 56&&Nat.beq z.length 4) n→roomS z.length n∧(n+n/4+192)*inf.bytes≤281474976710656:=fun n hn=>by
       cases hb:(Nat.beq (C.P.bytesOf e) 56&&Nat.beq z.length 4)with
       |false=>rw[hb]at hn;have hn:n≤1073741824:=hn;have:(n+n/4+192)*inf.bytes≤1342177472*4096:=Nat.mul_le_mul (by omega) (by omega);exact⟨.inl hn,by omega⟩
       |true=>
        rw[hb]at hn;have hn:n≤4000000000000:=hn;rw[Bool.and_eq_true]at hb;have h56:=Nat.eq_of_beq_eq_true hb.1;have h4:=Nat.eq_of_beq_eq_true hb.2;have hib:inf.bytes=56:=by rw[←h56];simp[Program.bytesOf,hi]
        refine⟨.inr ⟨h4,hn⟩,?_⟩;rw[hib];omega
      have core:∀(k n:Nat) (es E:List (List D)),nth .none st.objs k= .arr z.length es false→E=es.take n→¬k=d→
       ((∃b cap,loc k=some (b,cap)∧n≤es.length∧a.eval x= .slice (some ⟨b,0,none⟩) n cap)∨(loc k=none∧E=[]∧a.eval x= .slice none 0 0))→
       roomG (Nat.beq (C.P.bytesOf e) 56&&Nat.beq z.length 4) (E.length+ys.length)→lens z.length ys→Does C B F0 w0 ⟨some d,.call ⟨.builtin .append, #[x,y], #[t2,t2]⟩,ty,pos,after,g⟩ a w (st.put (some d) (.arr d) [(k,.dead),(d,.arr z.length (E++ys) false)]):=by
       intro k n es E hk hE hkd hform hroomg hlens;obtain⟨hroom,hrb⟩:=hwide _ hroomg;have hkill:=h.kill hk (k::st.dirty);have hfree':freeKey (upd st.objs k .dead) d=true:=by obtain⟨q1,q2⟩:=freeKey_ok hd;unfold freeKey;rw[nth_upd_ne _ _ _ hkd,nth_of_lt _ q2];rw[nth_of_lt _ q2]at q1;rw[q1]
       have hput:∀o',(⟨st.tmps,upd st.objs k .dead,k::st.dirty⟩:St).put (some d) (.arr d) [(d,o')]=⟨(st.put (some d) (.arr d) [(k,.dead),(d,o')]).tmps,(st.put (some d) (.arr d) [(k,.dead),(d,o')]).objs,d::k::st.dirty⟩:=fun o'=>rfl
       have hco:=h.objs k;rw[hk]at hco;obtain⟨hroom0,_,hs0,hco⟩:=hco;have hs:∀e∈E,e.length=z.length:=fun e he=>by rw[hE]at he;exact hs0 e (List.mem_of_mem_take he)
       have hroomn:=hroom.max;rcases hform with⟨b,cap,hl,hnl,hxe⟩|⟨hl,hE0,hxe⟩
       ·rcases hco with⟨hl',_⟩|⟨b',cap',cs,t',hl',hnF,hblk,hcsz,hlc,hcs⟩
        ·rw[hl]at hl';simp at hl'
        rw[hl]at hl';simp only[Option.some.injEq,Prod.mk.injEq]at hl';obtain⟨rfl,rfl⟩:=hl';have hnF:¬F b:=hnF;have hEl:E.length=n:=by rw[hE,List.length_take];omega
        have hcE:∀j,j<E.length*z.length→∃v,cs[j]? =some v∧CD w F (nth .undef E.flatten j) v:=fun j hj=>by rw[hEl]at hj;have hj2:j<es.length*z.length:=Nat.lt_of_lt_of_le hj (Nat.mul_le_mul_right _ hnl);obtain⟨v,r1,r2⟩:=hcs.1 j hj2;refine⟨v,r1,?_⟩;have:=nth_part (o:=0) hs0 (by omega) hj;rw[List.drop_zero,Nat.zero_mul,Nat.zero_add]at this;rw[hE,this];exact r2
        have hlE:E.length≤cap:=by omega
        rw[←hEl]at hxe;rw[hxe]at hex;have hf:=h.fresh _ _ _ hl;have hno:∀j c',kill_ loc k j≠some (b,c'):=by
         intro j c' hj;simp only[kill_]at hj;split at hj
         ·simp at hj
         ·rename_i hjk;exact hjk (h.inj _ _ _ _ _ hj hl)
        --the array stands where it stood,with these elements
        have hstay:∀(es':List (List D)) (cs':Array Value),roomS z.length es'.length→(∀q∈es',q.length=z.length)→cs'.size=cap*z.length→es'.length≤cap→(∀j,j<es'.length*z.length→∃v,cs'[j]? =some v∧CD w F (nth .undef es'.flatten j) v)→
         Conc C B F0 w0 F (at_ (kill_ loc k) d (b,cap) t') (st.put (some d) (.arr d) [(k,.dead),(d,.arr z.length es' false)]) (a.put (some d) (.slice (some ⟨b,0,none⟩) es'.length cap)) (setBlk w b (.cells cs' t' (0,0))):=by
         intro es' cs' r1 r2 r3 r4 r5;have hlt:d<(upd st.objs k .dead).length:=(freeKey_ok hfree').2;have:=hkill.adopt (tt:=t') (dst:=some d) (d:=d) (b:=b) (cap:=cap) (ob:= .arr z.length es' false) (v:= .arr d) (x:= .slice (some ⟨b,0,none⟩) es'.length cap) (cs:=cs') (t:=t') hfree' hf hnF hno
          ⟨r1,hc2,r2,.inr ⟨b,cap,cs',t',by simp[at_],hnF,setBlk_at hf.2,r3,⟨r4,hlc.2⟩,fun j hj=>by
           obtain⟨v,p1,p2⟩:=r5 j hj;exact⟨v,p1,p2.mono (fun _ h=>h) fun b' hb'=>setBlk_ne (fun e=>hnF (e▸hb'))⟩,hcs.2.1,by simp[at_]⟩⟩
          (fun s' es'' fz' hc=>by
           rw[nth_upd_same _ _ _ hlt]at hc;simp only[Obj.arr.injEq]at hc;obtain⟨rfl,rfl,rfl⟩:=hc;exact .inl ⟨b,cap,by simp[at_],rfl⟩)
          (by show nth .none (upd (upd st.objs k .dead) d (.arr z.length es' false)) d≠ .none;rw[nth_upd_same _ _ _ hlt];simp)
         rw[hput]at this;exact this.redirty
        by_cases hne:ys=[]
        ·subst hne;have:=hstay E cs (hroom.le (by omega)) hs hcsz hlE hcE;rw[setBlk_self hblk]at this;rw[List.append_nil];exact⟨_,_,w,hex _ _ (run_append_empty hu hz _ _ _ hlE ad c w),.inl rfl,F,_,this⟩
        ·obtain⟨b2,o2,rfl,news,hn1,hn2,hn3⟩:=hnews hlens hne;have hn1':news.length=ys.length*z.length:=by rw[←hsz];exact hn1
         have holds:All2 (CD w F) E.flatten (cs.toList.take (E.length*z.length)):=by
          have hle:E.length*z.length≤cs.size:=by rw[hcsz];exact Nat.mul_le_mul_right _ hlE
          refine all2_of_nth .undef undef (by rw[length_flatten hs];simp;omega) fun j hj=>?_
          rw[length_flatten hs]at hj;obtain⟨v,p1,p2⟩:=hcE j hj;have:nth undef (cs.toList.take (E.length*z.length)) j=v:=by rw[nth_eq,List.getElem?_take,if_pos hj];simp[p1]
          rw[this];exact p2
         have hone':∀u∈news,u.oneCell'=true:=by
          have:∀(ds:List D) (vs:List Value),All2 (CD w F) ds vs→∀v∈vs,v.oneCell'=true:=by
           intro ds
           induction ds with
           |nil=>intro vs hvs v hv;cases vs with|nil=>simp at hv|cons _ _=>exact hvs.elim
           |cons d ds ih=>
            intro vs hvs v hv;cases vs with
            |nil=>exact hvs.elim
            |cons y vs=>
             rcases List.mem_cons.1 hv with rfl|hv
             ·exact hvs.1.one
             ·exact ih vs hvs.2 v hv
          exact this _ _ hn3
         by_cases hfit:E.length+ys.length≤cap
         ·have hfit':E.length*inf.size+news.length≤cs.size:=by rw[hn1,hcsz,hsz,←Nat.add_mul];exact Nat.mul_le_mul_right _ hfit
          have hr:=run_append_fit (P:=C.P) (ty:=ty) hu hi hblk ⟨b2,o2,none⟩ ys.length c news hn1 hn2 hone' hfit hfit';have hs3:∀q∈E++ys,q.length=z.length:=fun q hq=>by rcases List.mem_append.1 hq with hq|hq;exact hs q hq;exact hlens q hq
          have:=hstay (E++ys) (updsL cs.toList (E.length*inf.size) news).toArray (by rw[List.length_append];exact hroom) hs3 (by simp[length_updsL,hcsz]) (by rw[List.length_append];exact hfit) (fun j hj=>by
           rw[List.length_append,Nat.add_mul]at hj;rw[List.flatten_append];have hl3:=hn3.length;rw[length_flatten hlens]at hl3;have hsz':(updsL cs.toList (E.length*inf.size) news).length=cs.size:=by simp[length_updsL]
           rw[hsz]at hfit' hsz' ⊢;refine⟨nth undef (updsL cs.toList (E.length*z.length) news) j,?_,?_⟩
           ·rw[nth_of_lt _ (by omega)];simp[show j<(updsL cs.toList (E.length*z.length) news).length by omega]
           ·rcases Nat.lt_or_ge j (E.length*z.length)with h6|h6
            ·rw[nth_updsL_lt _ _ _ _ _ h6];obtain⟨v,p1,p2⟩:=hcE j h6;have e1:nth undef cs.toList j=v:=by rw[nth_eq];simp[p1]
             have e2:nth .undef (E.flatten++ys.flatten) j=nth .undef E.flatten j:=by rw[nth_eq,nth_eq,List.getElem?_append_left (by rw[length_flatten hs];exact h6)]
             rw[e1,e2];exact p2
            ·obtain⟨i,rfl⟩:∃i,j=E.length*z.length+i:=⟨j-E.length*z.length,by omega⟩;rw[nth_updsL_in _ _ _ _ _ (by omega) (by simp;omega)];have e2:nth .undef (E.flatten++ys.flatten) (E.length*z.length+i)=nth .undef ys.flatten i:=by rw[nth_eq,nth_eq,List.getElem?_append_right (by rw[length_flatten hs];omega),length_flatten hs,Nat.add_sub_cancel_left]
             rw[e2];exact hn3.nth .undef undef _ _ i (by rw[length_flatten hlens];omega))
          rw[List.length_append]at this;exact⟨_,_,_,hex _ _ hr,.inl rfl,F,_,this⟩
         ·have ho1:(cs.toList.take (E.length*z.length)).length=E.length*inf.size:=by have:=holds.length;rw[length_flatten hs]at this;rw[hsz];exact this.symm
          have hr:=run_append_grow (P:=C.P) w t2 ty e inf zv hu hi hzv ⟨b,0,none⟩ E.length cap (cs.toList.take (E.length*z.length)) ho1 (fun j v hj=>by
           rw[addr_add,cell_blk hblk,Nat.zero_add];rw[List.getElem?_take]at hj;split at hj
           ·simpa using hj
           ·simp at hj) ⟨b2,o2,none⟩ ys.length c news hn1 hn2 (by omega) (by omega) (growslice_fits_wide (by omega) hrb)
          have:=hgrow _ _ E _ news cap hkill hfree' hroom hs hlens holds hn3;rw[hput]at this;exact⟨_,_,_,hex _ _ hr,.inl rfl,F,_,this.redirty⟩
       ·rw[hxe]at hex;subst hE0;by_cases hne:ys=[]
        ·subst hne;have:=conc_nil (dst:=some d) hkill hfree' hc2;rw[hput]at this;exact⟨_,_,w,hex _ _ (run_append_empty hu hz none 0 0 (Nat.le_refl _) ad c w),.inl rfl,F,_,this.redirty⟩
        ·obtain⟨b,o,rfl,news,hn1,hn2,hn3⟩:=hnews hlens hne;have hpos:0<ys.length:=List.length_pos_iff.2 hne;simp only[List.length_nil,Nat.zero_add]at hroomn hrb;have hr:=run_append_nil (P:=C.P) w t2 ty e inf zv hu hi hzv ⟨b,o,none⟩ ys.length c news hn1 hn2 hpos (by omega) (Nat.le_trans (Nat.mul_le_mul_right _ (by omega)) hrb);have:=hgrow _ _ [] [] news 0 hkill hfree' hroom (by simp) hlens trivial hn3;simp only[List.length_nil,Nat.zero_add,List.nil_append,Array.empty_append]at this;rw[hput]at this;exact⟨_,_,_,hex _ _ hr,.inl rfl,F,_,this.redirty⟩
      split
      ·rename_i hvx;rw[hvx]at hx;have hxe:a.eval x= .slice none 0 0:=hx;rw[hxe]at hex;rintro⟨hroomg,hlens⟩;obtain⟨hroom,hrb⟩:=hwide _ hroomg;have hroomn:=hroom.max;by_cases hne:ys=[]
       ·subst hne;exact⟨_,_,w,hex _ _ (run_append_empty hu hz none 0 0 (Nat.le_refl _) ad c w),.inl rfl,F,loc,conc_nil h hd hc2⟩
       ·obtain⟨b,o,rfl,news,hn1,hn2,hn3⟩:=hnews hlens hne;have hpos:0<ys.length:=List.length_pos_iff.2 hne;have hr:=run_append_nil (P:=C.P) w t2 ty e inf zv hu hi hzv ⟨b,o,none⟩ ys.length c news hn1 hn2 hpos (by omega) (Nat.le_trans (Nat.mul_le_mul_right _ (by omega)) hrb);have:=hgrow loc st [] [] news 0 h hd (by simpa using hroom) (by simp) hlens trivial hn3;simp only[List.length_nil,Nat.zero_add,List.nil_append,Array.empty_append]at this;exact⟨_,_,_,hex _ _ hr,.inl rfl,F,_,this⟩
      ·rename_i k hvx;rw[hvx]at hx;split
       ·rename_i s es hk;split
        ·rename_i hsk;simp only[Bool.and_eq_true,decide_eq_true_eq,Bool.not_eq_true',decide_eq_false_iff_not]at hsk;obtain⟨rfl,hkd⟩:=hsk;rintro⟨hroom,hlens⟩;refine core k es.length es es hk (by simp) hkd ?_ hroom hlens;rcases hx _ es false hk with⟨b,cap,hl,hxe⟩|⟨hl,h0,hxe⟩
         ·exact .inl ⟨b,cap,hl,Nat.le_refl _,hxe⟩
         ·exact .inr ⟨hl,h0,hxe⟩
        ·trivial
       ·trivial
      ·rename_i k o n hvx;rw[hvx]at hx;split
       ·rename_i s es ho hk;obtain rfl:=Nat.eq_of_beq_eq_true ho;split
        ·rename_i hsk;simp only[Bool.and_eq_true,decide_eq_true_eq,Bool.not_eq_true',decide_eq_false_iff_not]at hsk;obtain⟨rfl,hkd⟩:=hsk;rintro⟨hroom,hlens⟩;refine core k n es (es.take n) hk rfl hkd ?_ hroom hlens;rcases hx _ es false hk with⟨b,cap,hl,hnl,hxe⟩|⟨_,hl,h0,_,_,hxe⟩|⟨_,h0,_⟩
         ·exact .inl ⟨b,cap,hl,by omega,by rw[hxe,Nat.zero_mul,Nat.sub_zero]⟩
         ·exact .inr ⟨hl,by rw[h0];simp,hxe⟩
         ·omega
        ·trivial
       ·trivial
      ·trivial
     ·trivial
   ·trivial
  ·trivial
 ·trivial
omit [Env] in
theorem all2_right {α β:Type} {R:α→β→Prop}:∀{as:List α} {bs:List β},All2 R as bs→∀b∈bs,∃a,R a b
 |[],[],_,b,hb=>by simp at hb
 |a::as,c::bs,h,b,hb=>by
  rcases List.mem_cons.1 hb with rfl|hb
  ·exact⟨a,h.1⟩
  ·exact all2_right h.2 b hb
 |[],_::_,h,_,_=>h.elim
 |_::_,[],h,_,_=>h.elim
theorem rs_clear {x:Operand} {ts:Array TypeId} (h:Conc C B F0 w0 F loc st a w):RS C B F0 w0 st a w ⟨dst,.call ⟨.builtin .clear, #[x],ts⟩,ty,pos,after,g⟩ (clearV C st.objs ts (ev st x)):=by
 unfold clearV;have hx:=(ev_ok h x).1;split
 ·rename_i t hts;have hts':ts= #[t]:=by apply Array.ext';simpa using hts
  subst hts';split
  ·rename_i e he;split
   ·rename_i z k o l hz hv;rw[hv]at hx;split
    ·rename_i s es hk;split
     ·rename_i hsz;obtain rfl:=Nat.eq_of_beq_eq_true hsz;intro hl0;obtain⟨b,c,hl,hol,hxe⟩:=(hx _ es false hk).resolve_right (by rintro(⟨_,_,_,_,h4,_⟩|⟨_,_,_,h4,_⟩)<;>omega);have hco:=h.objs k;rw[hk]at hco;obtain⟨hroom,hs0,hs,hco⟩:=hco;rcases hco with⟨hl',_⟩|⟨b',c',cs,t',hl',hnF,hblk,hcsz,hlc,hcs⟩
      ·rw[hl]at hl';simp at hl'
      rw[hl]at hl';simp only[Option.some.injEq,Prod.mk.injEq]at hl';obtain⟨rfl,rfl⟩:=hl';have hf:=h.fresh _ _ _ hl;obtain⟨inf,zv,hi,hzv,hzc,hszz,hone,_⟩:=zeros_ok hz;have hzs:zv.cells.size=z.length:=by rw[←hzc];simp
      have hmade:=made_ok (w:=w) (F':=F) (z:=zv.cells) (n:=l) (by omega) (by rw[hzc];exact hone);rw[hzc]at hmade;have hin:(o+l)*z.length≤es.length*z.length:=Nat.mul_le_mul_right _ hol;have hinc:es.length*z.length≤c*z.length:=Nat.mul_le_mul_right _ hlc.1;have hml:=hmade.length;have hfl:=length_flatten (es:=List.replicate l (z.map constD)) (size:=z.length) (fun e he=>by rw[List.eq_of_mem_replicate he];simp);rw[List.length_replicate]at hfl;have hadd:(o+l)*z.length=o*z.length+l*z.length:=Nat.add_mul ..;have hml2:(Builtin.zeroCells zv.cells l).toList.length=l*z.length:=by simp[Builtin.zeroCells,hzs]
      have hst:=run_storeCells_blk (P:=C.P) (b:=b) (o:=o*z.length) (Builtin.zeroCells zv.cells l).toList 0 w cs hblk (by rw[hml2,hcsz];omega) (fun v hv=>?_)
      ·refine⟨_,.tuple #[],setBlk w b (.cells (updsL cs.toList (o*z.length) (Builtin.zeroCells zv.cells l).toList).toArray t' (0,0)),?_,.inl rfl,?_⟩
       ·have hzr:∀w,(zeroValue e).run C.P w= .ok zv w:=fun w=>by simp[zeroValue,typeInfo,hi,hzv]
        have hll:∃m,l=m+1:=⟨l-1,by omega⟩;obtain⟨m,rfl⟩:=hll;rw[Nat.add_zero]at hst;simp[execOp,resolve,invoke,builtin,Builtin.clear_,hxe,run_und (elemT_ok he),hzr,hst]
       ·have h5:=conc_storeFlat (.tuple #[]) (dst:=dst) (k:=k) (p:=o*z.length) (es':=es.take o++(List.replicate l (z.map constD)++es.drop (o+l))) h hk hl hblk hmade (by simp;omega) (fun e' he'=>?_) ?_ (by omega)
        ·exact⟨F,loc,h5⟩
        ·rcases List.mem_append.1 he' with he'|he'
         ·exact hs _ (List.mem_of_mem_take he')
         ·rcases List.mem_append.1 he' with he'|he'
          ·rw[List.eq_of_mem_replicate he'];simp
          ·exact hs _ (List.mem_of_mem_drop he')
        ·have e1:es=es.take o++((es.drop o).take l++es.drop (o+l)):=by rw[←List.drop_drop,List.take_append_drop,List.take_append_drop]
         conv=>rhs;rw[e1]
         simp only[List.flatten_append];have hta:(es.take o).flatten.length=o*z.length:=by rw[length_flatten (fun e he=>hs e (List.mem_of_mem_take he)),List.length_take,Nat.min_eq_left (by omega)]
         rw[←hta,updsL_mid];rw[hfl,length_flatten (size:=z.length) (fun e he=>hs e (List.mem_of_mem_drop (List.mem_of_mem_take he))),List.length_take,List.length_drop,Nat.min_eq_left (by omega)]
      ·obtain⟨d,hd⟩:=all2_right hmade v hv;exact hd.one
     ·trivial
    ·trivial
   ·trivial
  ·trivial
 ·trivial
end
end Eng
end

section
namespace Eng
open Go Go.RowKit
variable [Env]
section
variable {C:Cx} {B:Bd} {F0:Nat→Prop} {w0:World} {F:Nat→Prop} {loc:Where} {st:St} {a:Act} {w:World}
variable {dst:Option Nat} {ty:TypeId} {pos:String} {after:Array Edge} {g:Option (Nat×Bool)}
theorem flat_CD {w w':World} {F F':Nat→Prop} {d:D} {v:Value} (h:CD w F d v) (hf:flatD d=true):CD w' F' d v:=by
 cases h with
 |tok p i v h=>refine .tok p i v ?_;rcases Env.fl p i hf with⟨b,e⟩|⟨k,n,e⟩<;>(rw[e]at h ⊢;cases h;constructor)
 |_=>first|(simp[flatD]at hf;done)|(constructor;done)|(constructor;assumption)
theorem flat_CA {w w':World} {F F':Nat→Prop} {d:A} {v:Value} (h:CA w F d v) (hf:flatA d=true):CA w' F' d v:=by
 cases d with
 |c d=>exact flat_CD h hf
 |ag cs=>obtain⟨vs,rfl,h⟩:=h;exact⟨vs,rfl,h.mono_mem fun d hd v hv=>flat_CD hv (List.all_eq_true.1 hf d hd)⟩
theorem flat_CRes {w w':World} {F F':Nat→Prop} {rs:List A} {v:Value} (h:CRes w F rs v) (hf:∀r∈rs,flatA r=true):CRes w' F' rs v:=by
 unfold CRes at h ⊢;split
 ·rename_i r;exact flat_CA h (hf r (by simp))
 ·rename_i hne;split at h
  ·exact absurd rfl (hne _)
  ·obtain⟨vs,rfl,h⟩:=h;exact⟨vs,rfl,h.mono_mem fun r hr v hv=>flat_CA hv (hf r hr)⟩
theorem res_CV {objs:List Obj} {rs:List A} {v:Value} (h:CRes w F rs v):CV loc objs w F (resV rs) v∧Ref objs (resV rs):=by
 unfold resV;split
 ·exact⟨h,trivial⟩
 ·exact⟨h,trivial⟩
 ·rename_i h1 h2;unfold CRes at h;split at h
  ·rename_i r;cases r with
   |c d=>exact absurd rfl (h1 d)
   |ag cs=>exact absurd rfl (h2 cs)
  ·exact⟨h,trivial⟩
theorem Conc.behind {v:V} {x:Value} {w':World} (h:Conc C B F0 w0 F loc st a w) (hb:Below w.heap.size w w') (hv:CV loc st.objs w' (fun b=>F b∨(w.heap.size≤b∧b<w'.heap.size)) v x) (hr:Ref st.objs v):
 Conc C B F0 w0 (fun b=>F b∨(w.heap.size≤b∧b<w'.heap.size)) loc (st.put dst v []) (a.put dst x) w':=by
 have hw:∀b,F b→w'.heap[b]? =w.heap[b]? :=fun b hF=>hb.block b (h.bound b hF)
 have hsz:=hb.size;refine h.step (up:=[]) (fun b hF=> .inl hF) hw (Le.refl _ _) (h.below.trans (.of hb h.hB)) (by have:=h.hB;omega) (fun k=>?_) h.inj (fun k b c hl=>?_) ?_ ?_ hv hr
 ·refine CO.le (fun b hF=> .inl hF) hw (Le.refl _ _) rfl rfl (fun b c hl=>?_) (h.objs k);have hf:=(h.fresh _ _ _ hl).2;exact⟨hb.block b hf,fun hn hor=>by rcases hor with hor|hor;exact hn hor;omega⟩
 ·have:=h.fresh _ _ _ hl;exact⟨this.1,by omega⟩
 ·intro b hF;rcases hF with hF|hF
  ·have:=h.bound b hF;omega
  ·exact hF.2
 ·intro b hF;rcases hF with hF|hF
  ·exact h.fsub b hF
  ·have:=h.hB;exact .inr (.inl (by omega))
theorem all2_ev (h:Conc C B F0 w0 F loc st a w):∀(xs:List Operand),All2 (CV loc st.objs w F) (xs.map (ev st)) (xs.map a.eval)
 |[]=>trivial
 |x::xs=>⟨(ev_ok h x).1,all2_ev h xs⟩
theorem rs_callG {f:Nat} {o:Oper} {vs:List V} {xs:List Value} (h:Conc C B F0 w0 F loc st a w) (hvs:All2 (CV loc st.objs w F) vs xs)
 (hrun:∀fn,C.P.funcs[f]? =some fn→fn.body≠none→fn.name≠ "runtime.NumGoroutine" →(execOp a.eval o).run C.P w= .ok (.enter f xs.toArray) w):RS C B F0 w0 st a w o (callV C st.objs f vs):=by
 unfold callV;split
 ·trivial
 ·rename_i fn hfn;split
  ·trivial
  ·rename_i hbn;simp only[Bool.and_eq_true,Bool.not_eq_true']at hbn;obtain⟨hbody,hname⟩:=hbn;have hrun:=hrun fn hfn (by intro hb;simp[hb]at hbody) (by simpa using hname);split
   ·rename_i as us sh hto hsh;obtain⟨hfz,hall⟩:=toAs_ok h hto hvs;obtain⟨F',hc',hF',hb'⟩:=h.freezes hfz st.dirty;have hargs:=hall F' hF' hb';have key:∀(up:List (Nat×Obj)) (rs:List A),Gives C f as rs→(∀v w',Below w.heap.size w w'→CRes w' (fun b=>F' b∨(w.heap.size≤b∧b<w'.heap.size)) rs v→St.has C B F0 w0 (st.put o.dst (resV rs) up) (a.put o.dst v) w')→
     ∀(next:Act→World→Prop) (Q:Exit→Act→World→Prop),(∀a' w',St.has C B F0 w0 (st.put o.dst (resV rs) up) a' w'→next a' w')→Oper.wp C.P o a w next Q:=by
     intro up rs hg hres next Q hn
     unfold Oper.wp;rw[hrun,Oper.upon_enter];refine(hg w F' xs hc'.bound hc'.inv hargs).mono fun e w' he=>?_
     obtain⟨hbel,v,rfl,hr⟩:=he;exact hn _ _ (hres v w' hbel hr)
    split
    ·intro rs hg _ next Q hn
     refine key us rs hg (fun v w' hbel hr=>?_) next Q hn
     have hcv:=res_CV (loc:=loc) (objs:=upds st.objs us) hr;exact⟨_,loc,(hc'.behind (dst:=o.dst) hbel hcv.1 hcv.2).redirty⟩
    ·rename_i hns;intro rs hg hflat next Q hn
     refine key [] rs hg (fun v w' hbel hr=>?_) next Q hn
     have hr':CRes w' (fun b=>F b∨(w.heap.size≤b∧b<w'.heap.size)) rs v:=flat_CRes hr (hflat hns);have hcv:=res_CV (loc:=loc) (objs:=st.objs) hr';exact⟨_,loc,h.behind (dst:=o.dst) hbel hcv.1 hcv.2⟩
   ·trivial
theorem rs_call {f:Nat} {cal:Operand} {args:Array Operand} {ts:Array TypeId} (h:Conc C B F0 w0 F loc st a w) (hcal:a.eval cal= .func (.func f) #[] #[]):RS C B F0 w0 st a w ⟨dst,.call ⟨.value cal,args,ts⟩,ty,pos,after,g⟩ (callV C st.objs f (args.toList.map (ev st))):=by
 refine rs_callG h (all2_ev h args.toList) fun fn hfn hb2 hne=>?_
 have hargs':(args.toList.map a.eval).toArray=args.map a.eval:=by apply Array.ext';simp
 rw[hargs'];simp[execOp,resolve,hcal,Deferred.ofValue,invoke,callFunc,hfn,hne,hb2]
omit [Env] in
theorem all2_range {R:D→Value→Prop}:∀(ps:List D) (vs:Nat→Value) (i:Nat),(∀j,j<ps.length→R (nth .undef ps j) (vs (i+j)))→All2 R ps ((List.range' i ps.length).map vs)
 |[],_,_,_=>trivial
 |p::ps,vs,i,h=>by
  rw[List.length_cons,List.range'_succ,List.map_cons];refine⟨by have:=h 0 (by simp);simpa [nth]using this,all2_range ps vs (i+1) fun j hj=>?_⟩;have:=h (j+1) (by simp;omega);rw[show i+1+j=i+(j+1)by omega]
  simpa [nth]using this
theorem all2_mapc:∀{ps:List D} {xs:List Value},All2 (CD w F) ps xs→All2 (CV loc st.objs w F) (ps.map V.c) xs
 |[],[],_=>trivial
 |_::_,_::_,h=>⟨h.1,all2_mapc h.2⟩
 |[],_::_,h=>h.elim
 |_::_,[],h=>h.elim
omit [Env] in
theorem all2_appd {α β:Type} {R:α→β→Prop}:∀{as as':List α} {bs bs':List β},All2 R as bs→All2 R as' bs'→All2 R (as++as') (bs++bs')
 |[],_,[],_,_,h'=>h'
 |_::_,_,_::_,_,h,h'=>⟨h.1,all2_appd h.2 h'⟩
 |[],_,_::_,_,h,_=>h.elim
 |_::_,_,[],_,h,_=>h.elim
theorem rs_clo {f:Nat} {ps:List D} {cal:Operand} {args:Array Operand} {ts:Array TypeId} (h:Conc C B F0 w0 F loc st a w) (hcal:CD w F (.clo f ps) (a.eval cal)):
 RS C B F0 w0 st a w ⟨dst,.call ⟨.value cal,args,ts⟩,ty,pos,after,g⟩ (callV C st.objs f (args.toList.map (ev st)++ps.map V.c)):=by
 generalize hc:a.eval cal=y at hcal;cases hcal with
 |clo f ps vs hd=>
  have h2:All2 (CD w F) ps ((List.range ps.length).map vs):=by rw[List.range_eq_range'];exact all2_range ps vs 0 fun j hj=>by rw[Nat.zero_add];exact hd j hj
  refine rs_callG h (all2_appd (all2_ev h args.toList) (all2_mapc h2)) fun fn hfn hb2 hne=>?_
  have hargs':(args.toList.map a.eval++(List.range ps.length).map vs).toArray=args.map a.eval++((List.range ps.length).map vs).toArray:=by apply Array.ext';simp
  rw[hargs'];simp[execOp,resolve,hc,Deferred.ofValue,invoke,callFunc,hfn,hne,hb2]
theorem capD_ok (h:Conc C B F0 w0 F loc st a w):∀{vs:List V} {xs:List Value} {ps:List D} {us:List (Nat×Obj)},capD st.objs vs=some (ps,us)→All2 (CV loc st.objs w F) vs xs→
 (∀p∈us,p.2= .dead∧(∃v∈vs,p.1∈keysV v)∧∃cells,nth .none st.objs p.1= .box cells)∧∀F':Nat→Prop,(∀b,F b→F' b)→(∀p∈us,∀b c,loc p.1=some (b,c)→F' b)→All2 (CD w F') ps xs
 |[],[],ps,us,hc,_=>by simp only[capD,Option.some.injEq,Prod.mk.injEq]at hc;obtain⟨rfl,rfl⟩:=hc;exact⟨fun p hp=>by simp at hp,fun _ _ _=>trivial⟩
 |v::vs,x::xs,ps,us,hc,hv=>by
  unfold capD at hc;split at hc
  ·rename_i k;split at hc
   ·rename_i cells hk;split at hc
    ·rename_i ds ps' us' hds hr;simp only[Option.some.injEq,Prod.mk.injEq]at hc;obtain⟨rfl,rfl⟩:=hc;obtain⟨h1,h2⟩:=capD_ok h hr hv.2;refine⟨fun p hp=>?_,fun F' hF hb=>⟨?_,h2 F' hF fun p hp=>hb p (by simp[hp])⟩⟩
     ·rcases List.mem_cons.1 hp with rfl|hp
      ·exact⟨rfl,⟨_,List.mem_cons_self ..,by simp[keysV]⟩,_,hk⟩
      ·obtain⟨q1,⟨u,q2,q3⟩,q4⟩:=h1 p hp;exact⟨q1,⟨u,List.mem_cons_of_mem _ q2,q3⟩,q4⟩
     ·obtain⟨b,c,hl,hx⟩:=hv.1 _ hk rfl;have hco:=h.objs k;rw[hk]at hco;obtain⟨b',c',cs,t',hl',hnF,hblk,hall,hrefs⟩:=hco;rw[hl]at hl';simp only[Option.some.injEq,Prod.mk.injEq]at hl';obtain⟨rfl,rfl⟩:=hl';have hcd:All2 (CD w F) ds cs.toList:=dataCells_ok (loc:=loc) (objs:=st.objs) hds (hall.mono fun _ _ h=>h.1);have hlen:=hcd.length;rw[hx];refine CD.ptr ds b 0 (fun j=>nth undef cs.toList j) (hb _ (List.mem_cons_self ..) _ _ hl) (fun j hj=>?_) (fun j hj=>?_)
      ·rw[Nat.zero_add,cell_blk hblk,nth_of_lt _ (by omega)];simp at hlen;simp[show j<cs.size by omega]
      ·exact(hcd.nth .undef undef _ _ j hj).mono hF fun _ _=>rfl
    ·simp at hc
   ·simp at hc
  ·rename_i ds;split at hc
   ·rename_i ps' us' hr;simp only[Option.some.injEq,Prod.mk.injEq]at hc;obtain⟨rfl,rfl⟩:=hc;obtain⟨h1,h2⟩:=capD_ok h hr hv.2;obtain⟨b,o,size,hx,_,hrow⟩:=hv.1;have hsz:ds.length=size:=hrow.hs ds (by simp);have hcell:∀j,j<ds.length→∃v,w.cell? ⟨b,o+j,none⟩=some v∧CD w F (nth .undef ds j) v:=fun j hj=>by
     have:=hrow.hc j (by simp only[List.length_singleton,Nat.one_mul];omega)
     simpa using this
    open Classical in
    have hptr:CD w F (.ptr ds) x:=by
     rw[hx];simp only[Nat.zero_mul,Nat.add_zero];refine CD.ptr ds b o (fun j=>if h:j<ds.length then Classical.choose (hcell j h)else undef) hrow.hF (fun j hj=>?_) (fun j hj=>?_)
     ·rw[dif_pos hj];exact(Classical.choose_spec (hcell j hj)).1
     ·rw[dif_pos hj];exact(Classical.choose_spec (hcell j hj)).2
    refine⟨fun p hp=>?_,fun F' hF hb=>⟨CD.mono hptr hF fun _ _=>rfl,h2 F' hF hb⟩⟩;obtain⟨q1,⟨u,q2,q3⟩,q4⟩:=h1 p hp;exact⟨q1,⟨u,List.mem_cons_of_mem _ q2,q3⟩,q4⟩
   ·simp at hc
  ·simp at hc
 |[],_::_,_,_,_,h=>h.elim
 |_::_,[],_,_,_,h=>h.elim
omit [Env] in
theorem nth_upds_dead:∀(us:List (Nat×Obj)) (objs:List Obj) (k:Nat),(∀p∈us,p.2= .dead∧p.1<objs.length)→nth .none (upds objs us) k=if(∃p∈us,p.1=k)then .dead else nth .none objs k
 |[],objs,k,_=>by simp[upds]
 |(j,o)::us,objs,k,h=>by
  obtain⟨h1,h2⟩:=h (j,o) (by simp);simp only at h1 h2;subst h1;simp only[upds];rw[nth_upds_dead us _ k fun p hp=>⟨(h p (by simp[hp])).1,by rw[length_upd];exact(h p (by simp[hp])).2⟩];by_cases hk:∃p∈us,p.1=k
  ·rw[if_pos hk,if_pos];obtain⟨p,hp,e⟩:=hk;exact⟨p,by simp[hp],e⟩
  ·rw[if_neg hk];by_cases hj:j=k
   ·subst hj;rw[nth_upd_same _ _ _ h2,if_pos ⟨(j,.dead),by simp,rfl⟩]
   ·rw[nth_upd_ne _ _ _ hj,if_neg];rintro⟨p,hp,e⟩;rcases List.mem_cons.1 hp with rfl|hp
    ·exact hj e
    ·exact hk ⟨p,hp,e⟩
theorem Conc.capture {us:List (Nat×Obj)} {v:V} {x:Value} (h:Conc C B F0 w0 F loc st a w) (hu:∀p∈us,p.2= .dead∧∃cells,nth .none st.objs p.1= .box cells)
 (hv:CD w (fun b=>F b∨∃p∈us,∃c,loc p.1=some (b,c)) (match v with| .c d=>d|_=> .undef) x) (hvc:∃d,v= .c d):St.has C B F0 w0 (st.put dst v us) (a.put dst x) w:=by
 have hlt:∀p∈us,p.2= .dead∧p.1<st.objs.length:=fun p hp=>by
  obtain⟨h1,cells,h2⟩:=hu p hp;refine⟨h1,?_⟩;rcases Nat.lt_or_ge p.1 st.objs.length with h3|h3
  ·exact h3
  ·rw[nth_big _ h3]at h2;simp at h2
 have hn:=fun k=>nth_upds_dead us st.objs k hlt
 open Classical in
 let loc':Where:=⟨loc.P,fun k=>if(∃p∈us,p.1=k)then none else loc k,loc.ty⟩
 have hle:Le st.objs (upds st.objs us) loc loc':=by
  refine⟨rfl,fun _ _=>rfl,fun j hj=>?_,fun j o' hj hc hbx=>?_,fun j s' es' fz' hj hc=>?_⟩
  ·rw[hn];split
   ·simp
   ·exact hj
  ·rw[hn]at hc;split at hc
   ·rw[←hc]at hbx;simp[isBox]at hbx
   ·rename_i e;exact⟨by rw[hc];exact hbx,by simp only[loc'];rw[if_neg e]⟩
  ·rw[hn]at hc;split at hc
   ·simp at hc
   ·rename_i e;exact⟨⟨_,_,hc,rfl⟩,by simp only[loc'];rw[if_neg e]⟩
 have hloc':∀k b c,loc' k=some (b,c)→loc k=some (b,c)∧¬∃p∈us,p.1=k:=fun k b c hl=>by
  simp only[loc']at hl;split at hl
  ·simp at hl
  ·rename_i e;exact⟨hl,e⟩
 refine⟨fun b=>F b∨∃p∈us,∃c,loc p.1=some (b,c),loc',h.step (fun b hb=> .inl hb) (fun _ _=>rfl) hle h.below h.hB (fun k=>?_) ?_ ?_ ?_ ?_ ?_ ?_⟩
 ·rw[hn];by_cases hk:∃p∈us,p.1=k
  ·rw[if_pos hk];show loc' k=none;simp only[loc'];rw[if_pos hk]
  ·rw[if_neg hk];refine CO.le (fun b hb=> .inl hb) (fun _ _=>rfl) hle (by simp only[loc'];rw[if_neg hk]) rfl (fun b c hl=>⟨rfl,fun hnF hor=>?_⟩) (h.objs k);rcases hor with hor|⟨p,hp,c',hor⟩
   ·exact hnF hor
   ·exact hk ⟨p,hp,h.inj _ _ _ _ _ hor hl⟩
 ·intro k k' b c c' h1 h2;exact h.inj _ _ _ _ _ (hloc' _ _ _ h1).1 (hloc' _ _ _ h2).1
 ·intro k b c h1;exact h.fresh _ _ _ (hloc' _ _ _ h1).1
 ·intro b hb;rcases hb with hb|⟨p,hp,c,hb⟩
  ·exact h.bound b hb
  ·exact(h.fresh _ _ _ hb).2
 ·intro b hb;rcases hb with hb|⟨p,hp,c,hb⟩
  ·exact h.fsub b hb
  ·exact .inr (h.fresh _ _ _ hb).1
 ·obtain⟨d,rfl⟩:=hvc;exact hv
 ·obtain⟨d,rfl⟩:=hvc;trivial
theorem rs_makeFunc {fn:Fn} {first captured:Array Operand} (h:Conc C B F0 w0 F loc st a w):RS C B F0 w0 st a w ⟨dst,.makeFunc fn first captured,ty,pos,after,g⟩ (opFn C ⟨dst,.makeFunc fn first captured,ty,pos,after,g⟩ (ev st) st.objs):=by
 simp only[opFn];split
 ·rename_i f hf;have hfirst:first= #[]:=by apply Array.ext';simpa using hf
  subst hfirst;split
  ·rename_i ps us hcap;obtain⟨h1,h2⟩:=capD_ok h hcap (all2_ev h captured.toList);have h3:=h2 (fun b=>F b∨∃p∈us,∃c,loc p.1=some (b,c)) (fun b hb=> .inl hb) (fun p hp b c hl=> .inr ⟨p,hp,c,hl⟩);refine⟨_,.func (.func f) #[] (captured.map a.eval),w,by simp[execOp,Instr.makeFunc],.inl rfl,?_⟩;refine h.capture (fun p hp=>⟨(h1 p hp).1,(h1 p hp).2.2⟩) ?_ (by cases ps<;>exact⟨_,rfl⟩);have hl:=h3.length;cases ps with
   |nil=>
    have:captured.map a.eval= #[]:=by
     apply Array.ext';have:captured.toList.length=0:=by simpa using hl.symm
     simp[List.eq_nil_of_length_eq_zero this]
    rw[this];exact CD.fn f
   |cons p ps=>
    have e:captured.map a.eval=((List.range (p::ps).length).map fun j=>nth undef (captured.toList.map a.eval) j).toArray:=by
     apply Array.ext';rw[Array.toList_map];apply List.ext_getElem
     ·simp at hl ⊢;omega
     ·intro i hi1 hi2;simp only[List.getElem_map,List.getElem_range];rw[nth_of_lt _ (by simpa using hi1)];simp
    rw[e];exact CD.clo f (p::ps) _ fun j hj=>h3.nth .undef undef _ _ j hj
  ·trivial
 ·trivial
def RSW (C:Cx) (B:Bd) (F0:Nat→Prop) (w0:World) (st:St) (a:Act) (w:World) (o:Oper):R→Prop
 | .fail=>True
 | .ok v up=>∀(next:Act→World→Prop) (Q:Exit→Act→World→Prop),(∀a' w',St.has C B F0 w0 (st.put o.dst v up) a' w'→next a' w')→o.wp C.P a w next Q
 | .cond (dc:=_) c v up=>c→∀(next:Act→World→Prop) (Q:Exit→Act→World→Prop),(∀a' w',St.has C B F0 w0 (st.put o.dst v up) a' w'→next a' w')→o.wp C.P a w next Q
 | .look z row off ag=>∀ds,cut row off z.length ds→∀(next:Act→World→Prop) (Q:Exit→Act→World→Prop),(∀a' w',St.has C B F0 w0 (st.put o.dst (match ag with|true=> .ag ds|false=> .c (nth .undef ds 0)) []) a' w'→next a' w')→o.wp C.P a w next Q
 | .call f as sh up=>∀rs,Gives C f as rs→(hasSlice sh=false→∀r∈rs,flatA r=true)→∀(next:Act→World→Prop) (Q:Exit→Act→World→Prop),
  (∀a' w',St.has C B F0 w0 (st.put o.dst (resV rs) up) a' w'→next a' w')→o.wp C.P a w next Q
theorem rsw {o:Oper} {r:R} (h:RS C B F0 w0 st a w o r):RSW C B F0 w0 st a w o r:=by
 cases r with
 |fail=>trivial
 |ok v up=>exact fun next Q hn=>Does.wp h hn
 |cond c v up=>exact fun hc next Q hn=>Does.wp (h hc) hn
 |look z row off ag=>exact fun ds hc next Q hn=>Does.wp (h ds hc) hn
 |call f as sh up=>exact h
def objVs:Obj→List V
 | .box cells=>cells
 | .vec cells=>cells
 | .bld _ q=>[q]
 |_=>[]
def VOk (ob:List Obj) (up:List (Nat×Obj)) (v:V):Prop:=∀k∈keysV v,nth .none ob k≠ .none∨(freeKey ob k=true∧∃x,(k,x)∈up)
def newK (wd:Bool) (dst:Option Nat) (k:Nat):Prop:=dst=some k∨(wd=true∧∃d,dst=some d∧k=d+1)
def EffR (wd:Bool) (dst:Option Nat) (keys:List Nat) (ob:List Obj):R→Prop
 | .fail=>True
 | .ok v up| .cond (dc:=_) _ v up=>(∀p∈up,((newK wd dst p.1∧freeKey ob p.1=true)∨(p.1∈keys∧nth .none ob p.1≠ .none))∧p.2≠ .none∧∀u∈objVs p.2,VOk ob up u)∧VOk ob up v
 | .look .. =>False
 | .call .. =>False
class EffOk (C:Cx):Prop where
 rs:∀{f:Nat} {e:Option Nat→List V→List Obj→R},C.eff f=some e→∀{B:Bd} {F0:Nat→Prop} {w0:World} {F:Nat→Prop} {loc:Where} {st:St} {a:Act} {w:World} {dst:Option Nat} {args:Array Operand} {ts:Array TypeId} {ty:TypeId} {pos:String} {after:Array Edge} {g:Option (Nat×Bool)},
  Conc C B F0 w0 F loc st a w→RSW C B F0 w0 st a w ⟨dst,.call ⟨.value (.func f),args,ts⟩,ty,pos,after,g⟩ (e dst (args.toList.map (ev st)) st.objs)
 ag:∀{f:Nat} {e:Option Nat→List V→List Obj→R},C.eff f=some e→∀(dst:Option Nat) (vs:List V) (ob ob':List Obj),(∀k∈deepB ob (vs.flatMap keysV),nth .none ob k=nth .none ob' k)→(∀d,newK (C.wd f) dst d→freeKey ob d=freeKey ob' d)→e dst vs ob=e dst vs ob'
 good:∀{f:Nat} {e:Option Nat→List V→List Obj→R},C.eff f=some e→∀(dst:Option Nat) (vs:List V) (ob:List Obj),(∀v∈vs,∀k∈keysV v,nth .none ob k≠ .none)→(∀k,∀u∈objVs (nth .none ob k),∀j∈keysV u,nth .none ob j≠ .none)→EffR (C.wd f) dst (deepB ob (vs.flatMap keysV)) ob (e dst vs ob)
theorem op_RS [EffOk C] {o:Oper} (h:Conc C B F0 w0 F loc st a w):RSW C B F0 w0 st a w o (opFn C o (ev st) st.objs):=by
 obtain⟨dst,op,ty,pos,after,g⟩:=o;cases op with
 |move x=>exact rsw (rs_move h)
 |assign x=>exact rsw (rs_assign h)
 |pick c x y=>exact rsw (rs_pick h)
 |alloc t=>exact rsw (rs_alloc h)
 |box t x=>exact rsw (rs_box h)
 |build t parts=>exact rsw (rs_build h)
 |buildSlice t len parts=>exact rsw (rs_buildSlice h)
 |load t x=>exact rsw (rs_load h)
 |store t p x=>exact rsw (rs_store h)
 |nilCheck x=>exact rsw (rs_nilCheck h)
 |binOp op t x y t2=>exact rsw (rs_binOp h)
 |unOp op t x=>exact rsw (rs_unOp h)
 |convert s t x=>exact rsw (rs_convert h)
 |makeSlice t x y=>exact rsw (rs_makeSlice h)
 |slice t x lo hi mx=>exact rsw (rs_slice h)
 |fieldAddr t x f=>exact rsw (rs_fieldAddr h)
 |field t x f=>exact rsw (rs_field h)
 |indexAddr t x i=>exact rsw (rs_indexAddr h)
 |index t x i=>exact rsw (rs_index h)
 |extract x i=>exact rsw (rs_extract h)
 |makeFunc fn first captured=>exact rsw (rs_makeFunc h)
 |call c=>
  obtain⟨callee,args,ts⟩:=c;simp only[opFn];split
  ·split
   ·rename_i e he;exact EffOk.rs he h
   ·exact rsw (rs_call h rfl)
  ·split
   ·rename_i t _ f hx;have hx0:=(ev_ok h (.tmp t)).1;rw[hx]at hx0;split
    ·trivial
    refine rsw (rs_call h ((fun(y:Value) (hy:CD w F (.fn f) y)=>(by cases hy;rfl:y= .func (.func f) #[] #[])) _ hx0))
   ·rename_i t _ f ps hx;have hx0:=(ev_ok h (.tmp t)).1;rw[hx]at hx0;split
    ·trivial
    exact rsw (rs_clo h hx0)
   ·trivial
  ·split
   ·rename_i x hx;have:args= #[x]:=by apply Array.ext';simpa using hx
    subst this;exact rsw (rs_len h)
   ·trivial
  ·split
   ·rename_i x y hx;have:args= #[x,y]:=by apply Array.ext';simpa using hx
    subst this;exact rsw (rs_append h)
   ·trivial
  ·split
   ·rename_i x hx;have:args= #[x]:=by apply Array.ext';simpa using hx
    subst this;exact rsw (rs_clear h)
   ·trivial
  ·split
   ·rename_i x y hx;have:args= #[x,y]:=by apply Array.ext';simpa using hx
    subst this;exact rsw (rs_mx h)
   ·trivial
  ·split
   ·rename_i x y hx;have:args= #[x,y]:=by apply Array.ext';simpa using hx
    subst this;exact rsw (rs_mn h)
   ·trivial
  ·trivial
 |_=>trivial
omit [Env] in
theorem isR4_eq {z r:List Value} (h:isR4 z=some r):∃b o n c b' o' n' c',z= .bool b:: .slice o n c:: .bool b':: .slice o' n' c'::r:=by
 unfold isR4 at h;split at h
 ·rename_i b o n c b' o' n' c' q;simp only[Option.some.injEq]at h;subst h;exact⟨b,o,n,c,b',o',n',c',rfl⟩
 ·simp at h
omit [Env] in
theorem isR4_ref {z r:List Value} (h:isR4 z=some r):anyRefZ z=true∧z.length=r.length+4:=by
 obtain⟨b,o,n,c,b',o',n',c',rfl⟩:=isR4_eq h;simp[anyRefZ,refZ]
omit [Env] in
theorem isR4s_len:∀{k:Nat} {z r:List Value},isR4s k z=some r→z.length=r.length+4*k∧(0<k→anyRefZ z=true)
 |0,z,r,h=>by simp only[isR4s,Option.some.injEq]at h;subst h;simp
 |k+1,z,r,h=>by
  simp only[isR4s]at h;split at h
  ·rename_i q hq;have h1:=isR4_ref hq;have h2:=isR4s_len h;exact⟨by omega,fun _=>h1.1⟩
  ·simp at h
omit [Env] in
theorem isC66_len {z r:List Value} (h:isC66 z=some r):z.length=r.length+66∧anyRefZ z=true:=by
 unfold isC66 at h;split at h
 ·rename_i b q;split at h
  ·rename_i b' q' hq;have h1:=isR4s_len hq;have h2:=isR4s_len h;simp only[List.length_cons]at h1 ⊢;exact⟨by omega,by simp[anyRefZ,h1.2]⟩
  ·simp at h
 ·simp at h
omit [Env] in
theorem R4.len (x:R4) (t:List D):(rk x t).length=t.length+4:=rfl
omit [Env] in
theorem P20.len (x:P20) (t:List D):(pk x t).length=t.length+20:=rfl
omit [Env] in
theorem C66.len (x:C66) (t:List D):(ck x t).length=t.length+66:=rfl
omit [Env] in
theorem exG_spec:∀{g:Bool} {n:Nat} {z:List Value} {K:List D→Prop},exG g n z K→∃ds,K ds∧(anyRefZ z=false→∀d∈ds,flatD d=true)∧ds.length=z.length
 |_,0,_,_,h=>h.elim
 |_,_+1,[],K,h=>⟨[],h,fun _ d hd=>absurd hd (by simp),rfl⟩
 |g,n+1,z::r,K,h=>by
  simp only[exG]at h;split at h
  ·rename_i q hq;obtain⟨x,h⟩:=h;obtain⟨ds,h1,_,h3⟩:=exG_spec h;have h4:=isC66_len hq;exact⟨_,h1,fun hz=>(by rw[h4.2]at hz;simp at hz),by rw[C66.len,h3,h4.1]⟩
  split at h
  ·rename_i q hq;obtain⟨x,h⟩:=h;obtain⟨ds,h1,_,h3⟩:=exG_spec h;have h4:=isR4s_len hq;exact⟨_,h1,fun hz=>(by rw[h4.2 (by omega)]at hz;simp at hz),by rw[P20.len,h3,h4.1]⟩
  split at h
  ·rename_i q hq;obtain⟨x,h⟩:=h;obtain⟨ds,h1,_,h3⟩:=exG_spec h;have hq:isR4 (z::r)=some q:=by
    split at hq
    ·exact hq
    ·simp at hq
   have h4:=isR4_ref hq;exact⟨_,h1,fun hz=>(by rw[h4.1]at hz;simp at hz),by rw[R4.len,h3,h4.2]⟩
  have key:∀(d:D),(exG g n r fun ds=>K (d::ds))→(refZ z=false→flatD d=true)→∃ds,K ds∧(anyRefZ (z::r)=false→∀d∈ds,flatD d=true)∧ds.length=(z::r).length:=by
   intro d hd hflat;obtain⟨ds,h1,h2,h3⟩:=exG_spec hd;refine⟨d::ds,h1,fun hz e he=>?_,by simp[h3]⟩;simp only[anyRefZ,Bool.or_eq_false_iff]at hz;rcases List.mem_cons.1 he with rfl|he
   ·exact hflat hz.1
   ·exact h2 hz.2 e he
  cases z<;>obtain⟨x,h⟩:=h<;>refine key _ h ?_<;>simp[flatD,refZ]
omit [Env] in
theorem exCells_spec {z:List Value} {K:List D→Prop} (h:exCells z K):∃ds,K ds∧(anyRefZ z=false→∀d∈ds,flatD d=true)∧ds.length=z.length:=exG_spec h
omit [Env] in
theorem exRes_spec:∀{sh:List (Bool×List Value)} {K:List A→Prop},exRes sh K→∃rs,K rs∧(hasSlice sh=false→∀r∈rs,flatA r=true)
 |[],K,h=>⟨[],h,fun _ d hd=>absurd hd (by simp)⟩
 |(true,z)::r,K,h=>by
  simp only[exRes]at h;obtain⟨ds,h1,h2,h5⟩:=exCells_spec h;obtain⟨rs,h3,h4⟩:=exRes_spec h1;refine⟨_,h3,fun hs=>?_⟩;cases z with
  |nil=>simp[hasSlice]at hs
  |cons z0 z=>
   simp only[hasSlice,Bool.or_eq_false_iff]at hs;intro q hq;rcases List.mem_cons.1 hq with rfl|hq
   ·exact List.all_eq_true.2 (h2 hs.1)
   ·exact h4 hs.2 q hq
 |(false,z)::r,K,h=>by
  simp only[exRes]at h;obtain⟨ds,h1,h2,h5⟩:=exCells_spec h;obtain⟨rs,h3,h4⟩:=exRes_spec h1;refine⟨_,h3,fun hs=>?_⟩;cases z with
  |nil=>simp[hasSlice]at hs
  |cons z0 z=>
   simp only[hasSlice,Bool.or_eq_false_iff]at hs;intro q hq;rcases List.mem_cons.1 hq with rfl|hq
   ·cases ds with
    |nil=>simp at h5
    |cons d ds=>exact h2 hs.1 d (by simp)
   ·exact h4 hs.2 q hq
end
end Eng
end
