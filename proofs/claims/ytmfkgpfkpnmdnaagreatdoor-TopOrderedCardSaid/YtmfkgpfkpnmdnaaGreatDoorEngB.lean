import Derived.Test.YtmfkgpfkpnmdnaaGreatDoorEngA
import Derived.Laws.IdiomStrings
import Derived.Deep.DeepAppendWide
open Array renaming getElem?_append_left->Aw, range->Dd, ext'->Gv, empty_append->Hu, toList_extract->Hv, size_append->Hx
open Bool renaming and_eq_true->Hy, not_eq_true'->I0
open Eng.CD renaming int->I1, slice_inv->I2, one->I3
open Eng.Obj.arr renaming injEq->J3
open Go renaming sizeOf->J4
open Go.Builtin renaming zeroCells->Lm, append_->Lr, len_->Ls, lenOf->Lv
open Go.Instr renaming sliceBounds->M0, sliceAt->M1, fill->M2, slice->M3, indexAt->No, sureAddr->Pl, buildSlice->P1, storeAt->Sz, extract->Tk, fieldAt->Ts, field->U0
open Go.Obj.cells renaming injEq->U3
open Go.Program renaming built->V1, bytesOf->W0
open Go.Result renaming andThen_ok->W1
open Go.Sem renaming run_bind->W2, run_pure->bF
open Go.Value renaming cells->cF, oneCell'->cH
open List renaming length_append->cL, replicate->en, mem_of_mem_take->ep, length_cons->et, eq_of_mem_replicate->eu, length_nil->ey, mem_of_mem_drop->ez, flatten_cons->eH, length_take->eL, eq_nil_of_length_eq_zero->eU, mem_singleton->fe, take_append_drop->fg, getElem?_append_right->fk, getElem?_append_left->fx, flatten_append->fy, mem_cons->fR, mem_append->fS, getElem?_take->ga, getElem?_map->gb, length_replicate->gd, getElem?_range->gm, length_drop->gn, set_append_right->gp, mem_map->gq, getElem_mem->gr, nil_append->gu, exists_cons_of_ne_nil->gx, extract_eq_take_drop->gy, map_cons->gz, length_pos_iff->g0, size_toArray->g1, getElem_map->g2
open Nat renaming eq_of_beq_eq_true->g4, mul_le_mul_right->g5, lt_or_ge->g6, zero_add->g7, le_refl->hA, add_mul->hD, mul_comm->hH, add_sub_cancel_left->hK, succ_mul->hL, le_trans->hM, min_eq_left->hO, div_lt_of_lt_mul->hP, zero_mul->hQ, add_zero->hR, mul_one->hS, div_add_mod->hT, beq->hU, add_assoc->hV, sub_self->hW, mul_le_mul_left->hX, mod_lt->ia, lt_of_lt_of_le->ib, eq_zero_or_pos->im, mul_le_mul->iz, one_mul->j2
open Ne renaming symm->j4
open Option renaming map_eq_some_iff->kh, map_none->kk
open Option.some renaming injEq->ks
open Prod.mk renaming injEq->k0
section
namespace Eng
open Go Go.RowKit
variable [Env]
section
variable {C:Cx} {B:Bd} {F0:Nat->Prop} {w0:World} {F:Nat->Prop} {loc:Where} {st:St} {a:Act} {w:World}
omit [Env] in
theorem yx {x:Value} (h:x.oneCell'=true):x.cells.toList=[x]:=by
 cases x<;>first|rfl|simp[cH]at h
omit [Env] in
theorem zW {P:Program} {t t':TypeId} {z:List Value} {b o:Nat} {cs:Array Value} {x:Value} (hz:zN P t=some z) (hb:w.heap[b]? =some (.cells cs t' (0,0))) (hlen:x.cells.toList.length=z.length)
 (hle:o+z.length<=cs.size) (hone:∀v∈x.cells.toList,v.oneCell'=true):
 (Sz t (.pointer (some ⟨b,o,none⟩)) x).run P w= .ok () (setBlk w b (.cells (qH cs.toList o x.cells.toList).toArray t' (0,0))):=by
 have h2:=xe hz w;have h3:=xU (P:=P) (o:=o) x.cells.toList 0 w cs hb (by omega) hone;have h4:¬x.cells.size≠z.length:=by rw[<-hlen];simp
 simp only[Sz,Pl,storeVar,W2,bF,W1,h2,if_neg h4]
 simpa using h3
omit [Env] in
theorem RG {objs:List Obj} {k:Nat} {cells cells':List V} (hk:nth .none objs k= .box cells):Le objs (upd objs k (.box cells')) loc loc:=by
 have a0:k<objs.length:=by
  rcases g6 k objs.length with h1|h1
  .exact h1
  .rw[qC _ h1]at hk;simp at hk
 refine⟨rfl,λ_ _=>rfl,λj hj=>?_,λj o' hj hc hbx=>?_,λj s' es' fz' hj hc=>?_⟩
 .by_cases hkj:k=j
  .subst hkj;rw[qb _ _ _ a0];simp
  .rw[qa _ _ _ hkj];exact hj
 .by_cases hkj:k=j
  .subst hkj;exact⟨by rw[hk];rfl,rfl⟩
  .rw[qa _ _ _ hkj]at hc;exact⟨by rw[hc];exact hbx,rfl⟩
 .by_cases hkj:k=j
  .subst hkj;rw[qb _ _ _ a0]at hc;simp at hc
  .rw[qa _ _ _ hkj]at hc;exact⟨⟨_,_,hc,rfl⟩,rfl⟩
omit [Env] in
theorem Fd {objs:List Obj} {k:Nat} {cells cells':List V} (hk:nth .none objs k= .vec cells):Le objs (upd objs k (.vec cells')) loc loc:=by
 have a0:k<objs.length:=by
  rcases g6 k objs.length with h1|h1
  .exact h1
  .rw[qC _ h1]at hk;simp at hk
 refine⟨rfl,λ_ _=>rfl,λj hj=>?_,λj o' hj hc hbx=>?_,λj s' es' fz' hj hc=>?_⟩
 .by_cases hkj:k=j
  .subst hkj;rw[qb _ _ _ a0];simp
  .rw[qa _ _ _ hkj];exact hj
 .by_cases hkj:k=j
  .subst hkj;exact⟨by rw[hk];rfl,rfl⟩
  .rw[qa _ _ _ hkj]at hc;exact⟨by rw[hc];exact hbx,rfl⟩
 .by_cases hkj:k=j
  .subst hkj;rw[qb _ _ _ a0]at hc;simp at hc
  .rw[qa _ _ _ hkj]at hc;exact⟨⟨_,_,hc,rfl⟩,rfl⟩
omit [Env] in
theorem Te {objs:List Obj} {k s:Nat} {es es':List (List D)} {fz fz':Bool} (hk:nth .none objs k= .arr s es fz) (hlen:es'.length=es.length):Le objs (upd objs k (.arr s es' fz')) loc loc:=by
 have a0:k<objs.length:=by
  rcases g6 k objs.length with h1|h1
  .exact h1
  .rw[qC _ h1]at hk;simp at hk
 refine⟨rfl,λ_ _=>rfl,λj hj=>?_,λj o' hj hc hbx=>?_,λj s' es'' fz'' hj hc=>?_⟩
 .by_cases hkj:k=j
  .subst hkj;rw[qb _ _ _ a0];simp
  .rw[qa _ _ _ hkj];exact hj
 .by_cases hkj:k=j
  .subst hkj;rw[qb _ _ _ a0]at hc;rw[<-hc]at hbx;simp[xD]at hbx
  .rw[qa _ _ _ hkj]at hc;exact⟨by rw[hc];exact hbx,rfl⟩
 .by_cases hkj:k=j
  .subst hkj;rw[qb _ _ _ a0]at hc;simp only[J3]at hc;obtain⟨rfl,rfl,rfl⟩:=hc;exact⟨⟨_,_,hk,hlen⟩,rfl⟩
  .rw[qa _ _ _ hkj]at hc;exact⟨⟨_,_,hc,rfl⟩,rfl⟩
theorem Qg {dst:Option Nat} {k off b c:Nat} {cells vs:List V} {cs:Array Value} {t':TypeId} {xs:List Value} (h:Conc C B F0 w0 F loc st a w) (hk:nth .none st.objs k= .box cells) (hl:loc k=some (b,c))
 (hnF:¬F b) (hall:All2 (λv x=>CV loc st.objs w F v x/\x.oneCell'=true) cells cs.toList) (hrefs:∀v∈cells,Ref st.objs v)
 (hvs:All2 (λv x=>CV loc st.objs w F v x/\x.oneCell'=true) vs xs) (hvr:∀v∈vs,Ref st.objs v):
 Conc C B F0 w0 F loc (st.put dst .any [(k,.box (qH cells off vs))]) (a.put dst undef) (setBlk w b (.cells (qH cs.toList off xs).toArray t' (0,0))):=by
 have hlt:k<st.objs.length:=by
  rcases g6 k st.objs.length with h1|h1
  .exact h1
  .rw[qC _ h1]at hk;simp at hk
 have a1:Le st.objs (upd st.objs k (.box (qH cells off vs))) loc loc:=RG hk;have hf:=h.fresh _ _ _ hl;have hw:∀b',F b'->(setBlk w b (.cells (qH cs.toList off xs).toArray t' (0,0))).heap[b']? =w.heap[b']? :=λb' hb=>za (λe=>hnF (e▸hb))
 have a0:∀(vs:List V) (cells:List V) (off:Nat) (v:V),v∈qH cells off vs->v∈cells\/v∈vs:=by
  intro vs
  induction vs with
  |nil=>intro cells off v hv;exact .inl hv
  |cons u vs ih=>
   intro cells off v hv;rcases ih _ _ _ hv with hv|hv
   .rcases xJ hv with hv|rfl
    .exact .inl hv
    .exact .inr (by simp)
   .exact .inr (by simp[hv])
 refine h.write hlt hl hnF ?_ a1;have a2:∀v x,(CV loc st.objs w F v x/\x.oneCell'=true)->Ref st.objs v->(CV loc (upd st.objs k (.box (qH cells off vs))) (setBlk w b (.cells (qH cs.toList off xs).toArray t' (0,0))) F v x/\x.oneCell'=true):=λv x hx hr=>⟨CV.le (λ_ h=>h) hw a1 hr hx.1,hx.2⟩
 refine⟨b,c,_,t',hl,hnF,jE hf.2,?_,?_⟩
 .exact All2.upds vs xs cells cs.toList off (hvs.mono_mem λv hv x hx=>a2 v x hx (hvr v hv)) (hall.mono_mem λv hv x hx=>a2 v x hx (hrefs v hv))
 .intro v hv;rcases a0 _ _ _ _ hv with hv|hv
  .exact(hrefs v hv).le a1
  .exact(hvr v hv).le a1
theorem JH {dst:Option Nat} {k off b c:Nat} {cells:List V} {cs:Array Value} {t':TypeId} {v:V} {x:Value} (h:Conc C B F0 w0 F loc st a w) (hk:nth .none st.objs k= .vec cells) (hl:loc k=some (b,c))
 (hblk:w.heap[b]? =some (.cells cs t' (0,0))) (hv:CV loc st.objs w F v x) (h1:x.oneCell'=true) (hr:Ref st.objs v):
 Conc C B F0 w0 F loc (st.put dst .any [(k,.vec (upd cells off v))]) (a.put dst undef) (setBlk w b (.cells (qH cs.toList off [x]).toArray t' (0,0))):=by
 have hlt:k<st.objs.length:=by
  rcases g6 k st.objs.length with h1|h1
  .exact h1
  .rw[qC _ h1]at hk;simp at hk
 have a2:Le st.objs (upd st.objs k (.vec (upd cells off v))) loc loc:=Fd hk;have hf:=h.fresh _ _ _ hl;have a6:=h.objs k;rw[hk]at a6;obtain⟨b',c',cs',t'',a4,a5,a0,hsz,hlc,a3,a1,h9⟩:=a6;rw[hl]at a4;simp only[ks,k0]at a4;obtain⟨rfl,rfl⟩:=a4;rw[hblk]at a0;simp only[ks,U3,and_true]at a0;obtain⟨rfl,rfl⟩:=a0;have hw:∀b',F b'->(setBlk w b (.cells (qH cs.toList off [x]).toArray t' (0,0))).heap[b']? =w.heap[b']? :=λb' hb=>za (λe=>a5 (e▸hb))
 refine h.write hlt hl a5 ⟨b,c,_,t',hl,a5,jE hf.2,by simp[qH,qj,hsz],by rw[qj];exact hlc,λj hj=>?_,λu hu=>?_,by rw[qj];exact h9⟩ a2
 .rw[qj]at hj;obtain⟨y,q1,q2,q3⟩:=a3 j hj;have hjs:j<cs.size:=by omega
  by_cases e:off=j
  .subst e;refine⟨x,?_,?_,h1⟩
   .simp only[qH,xh];simp[hjs]
   .rw[qb _ _ _ hj];exact CV.le (λ_ h=>h) hw a2 hr hv
  .refine⟨y,?_,?_,q3⟩
   .simp only[qH,xh];simp[e,q1]
   .rw[qa _ _ _ e];exact CV.le (λ_ h=>h) hw a2 (a1 _ (qT hj)) q2
 .rcases xJ hu with hu|rfl
  .exact(a1 u hu).le a2
  .exact hr.le a2
omit [Env] in
theorem upd1 {α:Type} (l:List α) (i:Nat) (y:α):upd l i y=qH l i [y]:=rfl
omit [Env] in
theorem vS {size:Nat}:∀(es:List (List D)) (_:∀e∈es,e.length=size) (i off:Nat) (ds:List D),i<es.length->off+ds.length<=size->(upd es i (qH (nth [] es i) off ds)).flatten=qH es.flatten (i*size+off) ds
 |[],_,_,_,_,hi,_=>absurd hi (by simp)
 |e::es,hs,0,off,ds,_,hd=>by
  have he:=hs e (by simp);simp only[upd,nth,eH,hQ,g7];have:∀(ds:List D) (e r:List D) (off:Nat),off+ds.length<=e.length->qH e off ds++r=qH (e++r) off ds:=by
   intro ds
   induction ds with
   |nil=>intro _ _ _ _;rfl
   |cons d ds ih=>intro e r off h;simp only[et]at h;simp only[qH];rw[ih _ _ _ (by rw[qj];omega)];congr 1;rw[xh,xh,List.set_append_left _ _ (by omega)]
  exact this ds e es.flatten off (by omega)
 |e::es,hs,i+1,off,ds,hi,hd=>by
  have he:=hs e (by simp);have ih:=vS (size:=size) es (λe he=>hs e (by simp[he])) i off ds (by simpa using hi) hd;simp only[upd,nth,eH,ih];have:∀(ds:List D) (e r:List D) (off:Nat),e++qH r off ds=qH (e++r) (e.length+off) ds:=by
   intro ds
   induction ds with
   |nil=>intro _ _ _;rfl
   |cons d ds ih=>intro e r off;simp only[qH];rw[ih e (upd r off d) (off+1)];congr 1;rw[xh,xh,gp _ _ (by omega)];congr 2;omega
  rw[this ds e es.flatten (i*size+off)];congr 1;rw[he,hL];omega
theorem yy {dst:Option Nat} {k i off b c s:Nat} {es:List (List D)} {cs:Array Value} {t':TypeId} {ds:List D} {xs:List Value} (h:Conc C B F0 w0 F loc st a w) (hk:nth .none st.objs k= .arr s es false) (hl:loc k=some (b,c))
 (hi:i<es.length) (hblk:w.heap[b]? =some (.cells cs t' (0,0))) (hxs:All2 (CD w F) ds xs) (hle':off+ds.length<=s):
 Conc C B F0 w0 F loc (st.put dst .any [(k,.arr s (upd es i (qH (nth [] es i) off ds)) false)]) (a.put dst undef) (setBlk w b (.cells (qH cs.toList (i*s+off) xs).toArray t' (0,0))):=by
 have hlt:k<st.objs.length:=by
  rcases g6 k st.objs.length with h1|h1
  .exact h1
  .rw[qC _ h1]at hk;simp at hk
 have ad:Le st.objs (upd st.objs k (.arr s (upd es i (qH (nth [] es i) off ds)) false)) loc loc:=Te hk (by rw[qj]);have hf:=h.fresh _ _ _ hl;have a4:=h.objs k;rw[hk]at a4;obtain⟨a1,hs0,hs,a4⟩:=a4;rcases a4 with⟨a2,_⟩|⟨b',c',cs',t'',a2,a3,a0,hsz,a7,a5⟩
 .rw[hl]at a2;simp at a2
 rw[hl]at a2;simp only[ks,k0]at a2;obtain⟨rfl,rfl⟩:=a2;rw[hblk]at a0;simp only[ks,U3,and_true]at a0;obtain⟨rfl,rfl⟩:=a0;have a3:¬F b:=a3;have hw:∀b',F b'->(setBlk w b (.cells (qH cs.toList (i*s+off) xs).toArray t' (0,0))).heap[b']? =w.heap[b']? :=λb' hb=>za (λe=>a3 (e▸hb))
 refine h.write hlt hl a3 ⟨by rw[qj];exact a1,hs0,?_,.inr ⟨b,c,_,t',hl,a3,jE hf.2,?_,by rw[qj];exact a7,?_,a5.2⟩⟩ ad
 .intro e he;rcases xJ he with he|rfl
  .exact hs e he
  .rw[xM,qk _ hi];exact hs _ (gr hi)
 .simp[xM,hsz]
 .rw[qj];intro j hj;rw[vS es hs i off ds hi hle'];obtain⟨v0,h1,h2⟩:=a5.1 j hj;have hxl:=hxs.length;have hjs:j<cs.size:=by
   rcases g6 j cs.size with h3|h3
   .exact h3
   .simp[h3]at h1
  have hfl:es.flatten.length=es.length*s:=by
   clear a5 hj h1 h2 a7 hi hk a1 ad h
   induction es with
   |nil=>simp
   |cons e es ih=>rw[eH,cL,hs e (by simp),ih (λe he=>hs e (by simp[he])),et,hL];omega
  have a6:∀(l:List Value),l.length=cs.size->∃v,l.toArray[j]? =some v/\nth undef l j=v:=λl hl=>⟨nth undef l j,by rw[qk _ (by omega)];simp[show j<l.length by omega],rfl⟩
  obtain⟨v,q1,q2⟩:=a6 (qH cs.toList (i*s+off) xs) (by simp[xM]);refine⟨v,q1,?_⟩;rw[<-q2];by_cases hin:i*s+off<=j/\j<i*s+off+ds.length
  .obtain⟨m,rfl⟩:∃m,j=i*s+off+m:=⟨j-(i*s+off),by omega⟩;rw[zy _ _ _ _ _ (by omega) (by rw[hfl];omega),zy _ _ _ _ _ (by omega) (by simpa using hjs)];exact(hxs.nth .undef undef ds xs m (by omega)).mono (λ_ h=>h) hw
  .have h3:nth undef cs.toList j=v0:=by rw[qw];simp[h1]
   rcases g6 j (i*s+off)with h4|h4
   .rw[xZ _ _ _ _ _ h4,xZ _ _ _ _ _ h4,h3];exact h2.mono (λ_ h=>h) hw
   .rw[jl _ _ _ _ _ (by omega),jl _ _ _ _ _ (by omega),h3];exact h2.mono (λ_ h=>h) hw
theorem ZF (x:Value) {dst:Option Nat} {k p b c s:Nat} {es es':List (List D)} {cs:Array Value} {t':TypeId} {ds:List D} {xs:List Value} (h:Conc C B F0 w0 F loc st a w) (hk:nth .none st.objs k= .arr s es false) (hl:loc k=some (b,c))
 (hblk:w.heap[b]? =some (.cells cs t' (0,0))) (hxs:All2 (CD w F) ds xs) (hlen:es'.length=es.length) (hs':∀e∈es',e.length=s) (hfe:es'.flatten=qH es.flatten p ds) (_hp:p+ds.length<=es.length*s):
 Conc C B F0 w0 F loc (st.put dst .any [(k,.arr s es' false)]) (a.put dst x) (setBlk w b (.cells (qH cs.toList p xs).toArray t' (0,0))):=by
 have hlt:k<st.objs.length:=by
  rcases g6 k st.objs.length with h1|h1
  .exact h1
  .rw[qC _ h1]at hk;simp at hk
 have ad:Le st.objs (upd st.objs k (.arr s es' false)) loc loc:=Te hk hlen;have hf:=h.fresh _ _ _ hl;have a4:=h.objs k;rw[hk]at a4;obtain⟨a1,hs0,hs,a4⟩:=a4;rcases a4 with⟨a2,_⟩|⟨b',c',cs',t'',a2,a3,a0,hsz,a7,a5⟩
 .rw[hl]at a2;simp at a2
 rw[hl]at a2;simp only[ks,k0]at a2;obtain⟨rfl,rfl⟩:=a2;rw[hblk]at a0;simp only[ks,U3,and_true]at a0;obtain⟨rfl,rfl⟩:=a0;have a3:¬F b:=a3;have hw:∀b',F b'->(setBlk w b (.cells (qH cs.toList p xs).toArray t' (0,0))).heap[b']? =w.heap[b']? :=λb' hb=>za (λe=>a3 (e▸hb))
 refine h.writeX x hlt hl a3 ⟨by rw[hlen];exact a1,hs0,hs',.inr ⟨b,c,_,t',hl,a3,jE hf.2,?_,by rw[hlen];exact a7,?_,a5.2⟩⟩ ad
 .simp[xM,hsz]
 .rw[hlen];intro j hj;rw[hfe];obtain⟨v0,h1,h2⟩:=a5.1 j hj;have hxl:=hxs.length;have hjs:j<cs.size:=by
   rcases g6 j cs.size with h3|h3
   .exact h3
   .simp[h3]at h1
  have hfl:es.flatten.length=es.length*s:=by
   clear a5 hj h1 h2 a7 hk a1 ad h hlen hfe _hp
   induction es with
   |nil=>simp
   |cons e es ih=>rw[eH,cL,hs e (by simp),ih (λe he=>hs e (by simp[he])),et,hL];omega
  have a6:∀(l:List Value),l.length=cs.size->∃v,l.toArray[j]? =some v/\nth undef l j=v:=λl hl=>⟨nth undef l j,by rw[qk _ (by omega)];simp[show j<l.length by omega],rfl⟩
  obtain⟨v,q1,q2⟩:=a6 (qH cs.toList p xs) (by simp[xM]);refine⟨v,q1,?_⟩;rw[<-q2];by_cases hin:p<=j/\j<p+ds.length
  .obtain⟨m,rfl⟩:∃m,j=p+m:=⟨j-p,by omega⟩;rw[zy _ _ _ _ _ (by omega) (by rw[hfl];omega),zy _ _ _ _ _ (by omega) (by simpa using hjs)];exact(hxs.nth .undef undef ds xs m (by omega)).mono (λ_ h=>h) hw
  .have h3:nth undef cs.toList j=v0:=by rw[qw];simp[h1]
   rcases g6 j p with h4|h4
   .rw[xZ _ _ _ _ _ h4,xZ _ _ _ _ _ h4,h3];exact h2.mono (λ_ h=>h) hw
   .rw[jl _ _ _ _ _ (by omega),jl _ _ _ _ _ (by omega),h3];exact h2.mono (λ_ h=>h) hw
omit [Env] in
theorem Wk {α:Type}:∀(R M:List α) (A Bx:List α),R.length=M.length->qH (A++(M++Bx)) A.length R=A++(R++Bx)
 |[],M,A,Bx,h=>by have:M=[]:=eU (by simpa using h.symm);subst this;rfl
 |r::R,[],A,Bx,h=>by simp at h
 |r::R,m::M,A,Bx,h=>by
  simp only[qH];have e1:upd (A++(m::M++Bx)) A.length r=(A++[r])++(M++Bx):=by rw[xh,gp _ _ (by omega)];simp
  have e2:A.length+1=(A++[r]).length:=by simp
  rw[e1,e2,Wk R M (A++[r]) Bx (by simpa using h)];simp
omit [Env] in
theorem vG {P:V->Value->Prop}:∀{as:List V} {bs:List Value},All2 (λv x=>P v x/\x.oneCell'=true) as bs->∀v∈bs,v.oneCell'=true
 |[],[],_,v,hv=>by simp at hv
 |_::_,b::bs,h,v,hv=>by
  rcases fR.1 hv with rfl|hv
  .exact h.1.2
  .exact vG h.2 v hv
 |[],_::_,h,_,_=>h.elim
 |_::_,[],h,_,_=>h.elim
theorem Oj {dst:Option Nat} {t:TypeId} {p x:Operand} {ty:TypeId} {pos:String} {after:Array Edge} {g:Option (Nat×Bool)} (h:Conc C B F0 w0 F loc st a w):
 RS C B F0 w0 st a w ⟨dst,.store t p x,ty,pos,after,g⟩ (xl C ⟨dst,.store t p x,ty,pos,after,g⟩ (ev st) st.objs):=by
 simp only[xl,Y4];have hp:=(qU h p).1;have hx:=(qU h x).1;have al:=(qU h x).2;have a6:∀w',(Sz t (a.eval p) (a.eval x)).run C.P w= .ok () w'->(execOp a.eval ⟨dst,.store t p x,ty,pos,after,g⟩).run C.P w= .ok .skip w':=λw' hy=>by simp[execOp,hy]
 split
 .trivial
 .rename_i z hz;split
  .rename_i k ba hv;rw[hv]at hp;split
   .rename_i a3 hk;obtain⟨b,c,hl,b0⟩:=hp _ hk rfl;have ad:=h.objs k;rw[hk]at ad;obtain⟨b',c',cs,t',a5,an,a1,ag,a7⟩:=ad;rw[hl]at a5;simp only[ks,k0]at a5;obtain⟨rfl,rfl⟩:=a5;have hlen:a3.length=cs.size:=by simpa using ag.length
    rw[b0]at a6;split
    .split
     .rename_i ds b5;rw[b5]at hx;obtain⟨vs,b2,a0⟩:=hx;split
      .rename_i hc;simp only[Hy,decide_eq_true_eq]at hc;have bc:=a0.length;rw[b2]at a6;refine⟨_,_,_,a6 _ (zW hz a1 (by simp only[cF];omega) (by omega) ?_),.inr ⟨rfl,rfl⟩,F,loc,?_⟩
       .intro v hv;have:∀(ds:List D) (vs:List Value),All2 (CD w F) ds vs->∀v∈vs,v.oneCell'=true:=by
         intro ds
         induction ds with
         |nil=>intro vs a0 v hv;cases vs with|nil=>simp at hv|cons _ _=>exact a0.elim
         |cons d ds ih=>
          intro vs a0 v hv;cases vs with
          |nil=>exact a0.elim
          |cons y vs=>
           rcases fR.1 hv with rfl|hv
           .exact a0.1.one
           .exact ih vs a0.2 v hv
        exact this ds _ a0 v hv
       .rw[Y9];refine Qg h hk hl an ag a7 ?_ (λv hv=>by obtain⟨_,_,rfl⟩:=gq.1 hv;trivial);show All2 _ (ds.map V.c) vs.toList;have:∀(ds:List D) (vs:List Value),All2 (CD w F) ds vs->All2 (λv x=>CV loc st.objs w F v x/\x.oneCell'=true) (ds.map V.c) vs:=by
         intro ds
         induction ds with
         |nil=>intro vs a0;cases vs with|nil=>trivial|cons _ _=>exact a0.elim
         |cons d ds ih=>intro vs a0;cases vs with|nil=>exact a0.elim|cons y vs=>exact⟨⟨a0.1,a0.1.one⟩,ih vs a0.2⟩
        exact this ds _ a0
      .trivial
     .rename_i ds b5;rw[b5]at hx al;obtain⟨vs,b2,a0⟩:=hx;split
      .rename_i hc;simp only[Hy,decide_eq_true_eq]at hc;have bc:=a0.length;rw[b2]at a6;have a4:∀(ds:List VC) (vs:List Value),(∀c∈ds,Ref st.objs c.v)->All2 (CVC loc st.objs w F) ds vs->All2 (λv x=>CV loc st.objs w F v x/\x.oneCell'=true) (ds.map VC.v) vs:=by
        intro ds
        induction ds with
        |nil=>intro vs _ a0;cases vs with|nil=>trivial|cons _ _=>exact a0.elim
        |cons d ds ih=>
         intro vs hr a0;cases vs with
         |nil=>exact a0.elim
         |cons y vs=>exact⟨⟨a0.1.v,a0.1.one⟩,ih vs (λc hc=>hr c (by simp[hc])) a0.2⟩
       have a4:=a4 ds vs.toList (λc hc=>Ref.cell al hc) a0;refine⟨_,_,_,a6 _ (zW hz a1 (by simp only[cF];omega) (by omega) ?_),.inr ⟨rfl,rfl⟩,F,loc,?_⟩
       .intro v hv;exact vG a4 v hv
       .rw[Wi];exact Qg h hk hl an ag a7 a4 (λv hv=>by obtain⟨c,hc,rfl⟩:=gq.1 hv;exact Ref.cell al hc)
      .trivial
     .trivial
    .have b6:∀(v:V),ev st x=v->(a.eval x).oneCell'=true->(decide (ba<a3.length)&&decide (z.length=1))=true->
      Does C B F0 w0 ⟨dst,.store t p x,ty,pos,after,g⟩ a w (st.put dst .any [(k,.box (upd a3 ba v))]):=by
      intro v hve a2 hc;simp only[Hy,decide_eq_true_eq]at hc;have h1:=yx a2;refine⟨_,_,_,a6 _ (zW hz a1 (by rw[h1];simp;omega) (by omega) (by rw[h1];simpa using a2)),.inr ⟨rfl,rfl⟩,F,loc,?_⟩;rw[h1,upd1];subst hve;exact Qg h hk hl an ag a7 ⟨⟨hx,a2⟩,trivial⟩ (λu hu=>by simp at hu;subst hu;exact al)
     split
     .rename_i d hd;split
      .rename_i hc;exact b6 _ hd (by rw[hd]at hx;exact I3 hx) hc
      .trivial
     .rename_i hd;split
      .rename_i hc;exact b6 _ hd (by rw[hd]at hx;rw[show a.eval x= .slice none 0 0 from hx];rfl) hc
      .trivial
     .rename_i j hd;split
      .rename_i s' b3 b4 hj;split
       .rename_i hc;refine b6 _ hd ?_ hc;rw[hd]at hx;rcases hx s' b3 b4 hj with⟨b1,c1,_,h2⟩|⟨_,_,h2⟩
        .rw[h2];rfl
        .rw[h2];rfl
       .trivial
      .trivial
     .trivial
   .rename_i a3 hk;obtain⟨b,c,hl,b0⟩:=hp _ hk rfl;have ad:=h.objs k;rw[hk]at ad;obtain⟨b',c',cs,t',a5,an,a1,hsz,bb,_⟩:=ad;rw[hl]at a5;simp only[ks,k0]at a5;obtain⟨rfl,rfl⟩:=a5;rw[b0]at a6;split
    .rename_i j hd;split
     .rename_i s' b3 b4 hj;split
      .rename_i hc;simp only[Hy,decide_eq_true_eq]at hc;rw[hd]at hx al;have a2:(a.eval x).oneCell'=true:=by
        rcases hx s' b3 b4 hj with⟨b1,c1,_,h2⟩|⟨_,_,h2⟩
        .rw[h2];rfl
        .rw[h2];rfl
       have h1:=yx a2;refine⟨_,_,_,a6 _ (zW hz a1 (by rw[h1];simp;omega) (by omega) (by rw[h1];simpa using a2)),.inr ⟨rfl,rfl⟩,F,loc,?_⟩;rw[h1];exact JH h hk hl a1 hx a2 al
      .trivial
     .trivial
    .trivial
   .trivial
  .rename_i k i ba hv;rw[hv]at hp;split
   .rename_i s es hk;obtain⟨b,c,hl,hi,b0⟩:=hp s es false hk;have ad:=h.objs k;rw[hk]at ad;obtain⟨_,hs0,hs,ad⟩:=ad;rcases ad with⟨a5,_⟩|⟨b',c',cs,t',a5,an,a1,hsz,bb,hcs⟩
    .rw[hl]at a5;simp at a5
    rw[hl]at a5;simp only[ks,k0]at a5;obtain⟨rfl,rfl⟩:=a5;rw[b0]at a6;have hmul:=Wj (s:=s) (m:=s-1) hi (by omega);have hcap:es.length*s<=c*s:=g5 s bb.1;split
    .rename_i d hd;split
     .rename_i hc;simp only[Hy,decide_eq_true_eq]at hc;intro ap;rw[hd]at hx;have h1:=yx (I3 hx);refine⟨_,_,_,a6 _ (zW hz a1 (by rw[h1];simp;omega) (by omega) (by rw[h1];simpa using I3 hx)),.inr ⟨rfl,rfl⟩,F,loc,?_⟩;rw[h1];exact yy (ds:=[d]) h hk hl hi a1 ⟨hx,trivial⟩ (by simp;omega)
     .trivial
    .rename_i ds hd;split
     .rename_i hc;simp only[Hy,decide_eq_true_eq]at hc;intro ap;rw[hd]at hx;obtain⟨vs,b2,a0⟩:=hx;have bc:=a0.length;rw[b2]at a6;refine⟨_,_,_,a6 _ (zW hz a1 (by simp only[cF];omega) (by omega) ?_),.inr ⟨rfl,rfl⟩,F,loc,?_⟩
      .intro v hv;have:∀(ds:List D) (vs:List Value),All2 (CD w F) ds vs->∀v∈vs,v.oneCell'=true:=by
        intro ds
        induction ds with
        |nil=>intro vs a0 v hv;cases vs with|nil=>simp at hv|cons _ _=>exact a0.elim
        |cons d ds ih=>
         intro vs a0 v hv;cases vs with
         |nil=>exact a0.elim
         |cons y vs=>
          rcases fR.1 hv with rfl|hv
          .exact a0.1.one
          .exact ih vs a0.2 v hv
       exact this ds _ a0 v hv
      .rw[JC];exact yy (ds:=ds) h hk hl hi a1 a0 ap
     .trivial
    .trivial
   .trivial
  .trivial
end
end Eng
end
section
namespace Eng
open Go Go.RowKit
variable [Env]
section
variable {C:Cx} {B:Bd} {F0:Nat->Prop} {w0:World} {F:Nat->Prop} {loc:Where} {st:St} {a:Act} {w:World}
variable {dst:Option Nat} {ty:TypeId} {pos:String} {after:Array Edge} {g:Option (Nat×Bool)}
theorem V9 {x:Operand} (h:Conc C B F0 w0 F loc st a w):RS C B F0 w0 st a w ⟨dst,.nilCheck x,ty,pos,after,g⟩ (xl C ⟨dst,.nilCheck x,ty,pos,after,g⟩ (ev st) st.objs):=by
 simp only[xl];have hx:=qU h x;split
 .rename_i k off hv;rw[hv]at hx;split
  .rename_i a0 hk;obtain⟨b,c,_,hp⟩:=hx.1 _ hk rfl;refine qJ h hx.1 hx.2 ?_;simp[execOp,hp]
  .trivial
 .trivial
theorem VA {op:BinOp} {t:TypeId} {x y:Operand} {p q:Bool} {u v:Value} (hp:CD w F (.ifc p) u) (hq:CD w F (.ifc q) v) (hxy:vD x=true\/vD y=true):(eqGuard op t x y u v).run C.P w= .ok () w:=by
 cases hp with
 |nilI=>cases hq with
  |nilI=>
   rcases hxy with hxy|hxy
   .cases x<;>simp[vD]at hxy;cases op<;>rfl
   .cases y<;>simp[vD]at hxy;cases op<;>cases x<;>rfl
  |someI=>cases op<;>rfl
 |someI=>cases hq<;>cases op<;>rfl
theorem Ol {op:BinOp} {t t2:TypeId} {x y:Operand} (h:Conc C B F0 w0 F loc st a w):RS C B F0 w0 st a w ⟨dst,.binOp op t x y t2,ty,pos,after,g⟩ (xl C ⟨dst,.binOp op t x y t2,ty,pos,after,g⟩ (ev st) st.objs):=by
 simp only[xl];have hx:=(qU h x).1;have hy:=(qU h y).1;have hvs:=Bb (P:=C.P) (op:=op) (t:=t) (xo:=x) (yo:=y) hx hy;by_cases hr0:SR C.P op t x y (ev st x) (ev st y)= .fail
 .rw[hr0];trivial
 have hg:(eqGuard op t x y (a.eval x) (a.eval y)).run C.P w= .ok () w:=by
  generalize hu:ev st x=u at *;generalize hv:ev st y=v at *;unfold SR at hr0;split at hr0
  .rename_i ms hms;split at hr0
   .rename_i p q;split at hr0
    .rename_i hc;have hxy:vD x=true\/vD y=true:=by
      cases hx0:vD x<;>cases hy0:vD y<;>simp[hx0,hy0]at hc ⊢
     exact VA hx hy hxy
    .exact absurd rfl hr0
   .exact absurd rfl hr0
  .split at hr0
   .have a1:CD w F _ _:=hx;refine ZT a1.one λe=>?_
    rw[e]at a1;cases a1
   .exact absurd rfl hr0
  .by_cases a0:∃fs,C.P.underlying t=some (.struct fs)
   .obtain⟨fs,a0⟩:=a0;unfold eqV at hr0;rw[a0]at hr0;exact Hr a0 hx hy hr0
   have hg:(a.eval x).oneCell'=true/\a.eval x≠ .nilIface:=by
    have h0:∃d,u= .c d/\((∃k n,d= .int k n)\/(∃b,d= .bool b)\/(∃s,d= .str s)\/∃p c,d= .tok p 9/\nmT p=some c):=by
     unfold eqV at hr0;split at hr0
     .split at hr0
      .exact⟨_,rfl,.inr (.inl ⟨_,rfl⟩)⟩
      .exact absurd rfl hr0
     .rename_i fs hfs;exact absurd ⟨fs,hfs⟩ a0
     .unfold E3 at hr0;split at hr0
      .exact⟨_,rfl,.inl ⟨_,_,rfl⟩⟩
      .exact⟨_,rfl,.inr (.inr (.inl ⟨_,rfl⟩))⟩
      .split at hr0
       .rename_i a2 hp hq;rw[Hy]at a2;obtain rfl:=g4 a2.1;exact⟨_,rfl,.inr (.inr (.inr ⟨_,_,rfl,hp⟩))⟩
       .exact absurd rfl hr0
      .exact absurd rfl hr0
    obtain⟨d,h1,h2⟩:=h0;rw[h1]at hx;rcases h2 with⟨k,n,rfl⟩|⟨b,rfl⟩|⟨s,rfl⟩|⟨p,c,rfl,hp⟩
    .rw[kG hx];exact⟨rfl,by simp⟩
    .rw[Y8 hx];exact⟨rfl,by simp⟩
    .rw[X0 hx];exact⟨rfl,by simp⟩
    .obtain⟨rfl,b1,b2⟩:=Ta hp;obtain⟨m,_,e1,_⟩:=Env.nd c c b1 b2 b1 b2;have h1:a.eval x= .int .i64 m:=by
      have hx:CD w F (.tok [(c,[])] 9) (a.eval x):=hx;generalize a.eval x=y at hx;cases hx with
      |tok _ _ _ h=>rw[e1]at h;cases h;rfl
     rw[h1];exact⟨rfl,by simp⟩
   exact ZT hg.1 hg.2
 refine yu h hvs (λv hv=>?_);simp[execOp,hg,hv]
theorem cG {x y:Operand} {ts:Array TypeId} (h:Conc C B F0 w0 F loc st a w):RS C B F0 w0 st a w ⟨dst,.call ⟨.builtin .max, #[x,y],ts⟩,ty,pos,after,g⟩ (mxV true (ev st x) (ev st y)):=by
 refine yu h (Bc (P:=C.P) (ts:=ts) (ty:=ty) (qU h x).1 (qU h y).1) (λv hv=>?_);simp[execOp,resolve,invoke,builtin,hv]
theorem cJ {x y:Operand} {ts:Array TypeId} (h:Conc C B F0 w0 F loc st a w):RS C B F0 w0 st a w ⟨dst,.call ⟨.builtin .min, #[x,y],ts⟩,ty,pos,after,g⟩ (mxV false (ev st x) (ev st y)):=by
 refine yu h (Be (P:=C.P) (ts:=ts) (ty:=ty) (qU h x).1 (qU h y).1) (λv hv=>?_);simp[execOp,resolve,invoke,builtin,hv]
theorem Bi {op:UnOp} {t:TypeId} {x:Operand} (h:Conc C B F0 w0 F loc st a w):RS C B F0 w0 st a w ⟨dst,.unOp op t x,ty,pos,after,g⟩ (xl C ⟨dst,.unOp op t x,ty,pos,after,g⟩ (ev st) st.objs):=by
 simp only[xl];refine yu h (Fb (P:=C.P) (op:=op) (qU h x).1) (λv hv=>?_);simp[execOp,hv]
omit [Env] in
theorem ZG (l:List UInt8):(ym l).flatten=l.map λc=>D.int .u8 c.toNat:=by
 induction l with
 |nil=>rfl
 |cons c l ih=>simp only[ym,gz,eH]at ih ⊢;rw[ih];rfl
theorem Hw {s t:TypeId} {x:Operand} {l:List UInt8} (h:Conc C B F0 w0 F loc st a w) (hb:US C.P s t=true) (hx:ev st x= .c (.str l)):
 Does C B F0 w0 ⟨dst,.convert s t x,ty,pos,after,g⟩ a w (st.put dst (.c (.sl (ym l))) []):=by
 obtain⟨e,hs,hd,he⟩:∃e,C.P.underlying s=some .string/\C.P.underlying t=some (.slice e)/\C.P.underlying e=some (.int .u8):=by
  unfold US at hb;split at hb
  .rename_i e h1 h2;split at hb
   .rename_i h3;exact⟨e,h1,h2,h3⟩
   .simp at hb
  .simp at hb
 have a4:=(qU h x).1;rw[hx]at a4;have a4:=X0 a4;have a0:=run_bytes_of_string (P:=C.P) w s t e ⟨⟨l⟩⟩ hs hd he;have hsz:(⟨⟨l⟩⟩:ByteArray).size=l.length:=rfl;rw[hsz]at a0;generalize hcap:grownCap w l.length 0 e=cap at a0;generalize hob:Go.Obj.cells (bytesRow ⟨⟨l⟩⟩ cap) e ((bytesRow ⟨⟨l⟩⟩ cap).size,(bytesRow ⟨⟨l⟩⟩ cap).size+1)=ob at a0;have a7:(w.drew.alloc ob).heap.size=w.heap.size+1:=World.size_alloc ..;have a1:∀b,b<w.heap.size->(w.drew.alloc ob).heap[b]? =w.heap[b]? :=λb hb=>Below.heap_alloc w.drew ob b hb
 refine⟨.value (.slice (some ⟨w.heap.size,0,none⟩) l.length cap),_,w.drew.alloc ob,by simp[execOp,a4,a0],.inl rfl,λb=>F b\/b=w.heap.size,loc,?_⟩;refine h.step (up:=[]) (λb h=> .inl h) (λb hb=>a1 b (h.bound b hb)) (Le.refl _ _) ((BelowX.drew h.below).alloc h.hB _) (by have:=h.hB;omega) (λk=>?_) h.inj (λk b c hl=>⟨(h.fresh k b c hl).1,by have:=h.fresh k b c hl;omega⟩) (λb hb=>?_) (λb hb=>?_) ?_ trivial
 .refine CO.le (λb h=> .inl h) (λb hb=>a1 b (h.bound b hb)) (Le.refl _ _) rfl rfl (λb c hl=>?_) (h.objs k);have hf:=(h.fresh _ _ _ hl).2;exact⟨a1 b hf,λhn a3=>by rcases a3 with a3|a3;exact hn a3;omega⟩
 .rcases hb with hb|hb
  .have:=h.bound b hb;omega
  .omega
 .rcases hb with hb|hb
  .exact h.fsub b hb
  .have:=h.hB;exact .inr (.inl (by omega))
 .show CD _ _ (.sl (ym l)) _;have a5:(ym l).length=l.length:=by simp[ym]
  have hfl:=ZG l;have a6:Row (w.drew.alloc ob) (λb=>F b\/b=w.heap.size) (ym l) w.heap.size 0 1:=by
   refine⟨λe he=>?_,.inr rfl,λj hj=>?_⟩
   .simp only[ym,gq]at he;obtain⟨c,_,rfl⟩:=he;rfl
   .rw[a5,hS]at hj;refine⟨.int .u8 (l[j]).toNat,?_,?_⟩
    .have a2:(w.drew.alloc ob).heap[w.heap.size]? =some ob:=by show(w.heap.push ob)[w.heap.size]? =_;simp
     rw[<-hob]at a2 ⊢;unfold World.cell?;rw[a2];simp only[g7];unfold bytesRow;rw[Aw (by simpa using hj)];simp[hj]
    .rw[hfl,qk _ (by simpa using hj)];simp only[g2];exact .int _ _
  have:=a6.CD (c:=cap) (by
   rw[a5,<-hcap];exact grownCap_ge w l.length 0 e)
  rw[a5]at this;exact this
theorem H0 {s t:TypeId} {x:Operand} (h:Conc C B F0 w0 F loc st a w):RS C B F0 w0 st a w ⟨dst,.convert s t x,ty,pos,after,g⟩ (xl C ⟨dst,.convert s t x,ty,pos,after,g⟩ (ev st) st.objs):=by
 simp only[xl];split
 .rename_i hb;split
  .rename_i str hx;exact λ_=>Hw h hb hx
  .trivial
 .split
  .rename_i ds hs;refine yu h (Og (P:=C.P) (src:=s) (dst:=t) hs (qU h x).1) (λv hv=>?_);simp[execOp,hv]
  .trivial
omit [Env] in
theorem ZV {P:Program} {t f off:Nat} {ft:TypeId} (h:Xm P t f=some (off,ft)):∃fs fd,P.underlying t=some (.struct fs)/\fs[f]? =some fd/\fd.offset=off/\fd.type=ft:=by
 unfold Xm at h;split at h
 .rename_i fs hu;split at h
  .rename_i fd hf;simp only[ks,k0]at h;exact⟨fs,fd,hu,hf,h.1,h.2⟩
  .simp at h
 .simp at h
omit [Env] in
theorem zd {P:Program} {t:TypeId} (h:P.cellsOf t≠0):∃i,P.info? t=some i/\i.size=P.cellsOf t:=by
 unfold Program.cellsOf at h ⊢;cases hi:P.info? t with
 |none=>simp[hi]at h
 |some i=>exact⟨i,rfl,by simp⟩
omit [Env] in
theorem kI {P:Program} {t f off b o:Nat} {ft:TypeId} (h:Xm P t f=some (off,ft)) (h0:P.cellsOf ft≠0) (w:World):
 (Ts t (.pointer (some ⟨b,o,none⟩)) f).run P w= .ok (.pointer (some ⟨b,o+off,none⟩)) w:=by
 obtain⟨fs,fd,hu,hf,rfl,rfl⟩:=ZV h;obtain⟨i,hi,hs⟩:=zd h0;have hsz:i.size≠0:=by rw[hs];exact h0
 simp[Ts,qM hu,hf,Pl,fieldPlace,J4,typeInfo,hi,hsz,xm]
theorem Wl {t:TypeId} {x:Operand} {f:Nat} (h:Conc C B F0 w0 F loc st a w):RS C B F0 w0 st a w ⟨dst,.fieldAddr t x f,ty,pos,after,g⟩ (xl C ⟨dst,.fieldAddr t x f,ty,pos,after,g⟩ (ev st) st.objs):=by
 simp only[xl];have hx:=qU h x;split
 .rename_i a2 ft hf;split
  .trivial
  .rename_i h0;have h0:C.P.cellsOf ft≠0:=by simpa using h0
   split
   .rename_i k o hv;rw[hv]at hx;split
    .rename_i a3 hk;obtain⟨b,c,hl,hp⟩:=hx.1 _ hk rfl;refine qJ h (x:= .pointer (some ⟨b,o+a2,none⟩)) (λcells' hc _=>⟨b,c,hl,rfl⟩) hx.2 ?_;simp[execOp,hp,kI hf h0]
    .trivial
   .rename_i k i o hv;rw[hv]at hx;split
    .rename_i s es fz hk;obtain⟨b,c,hl,hi,hp⟩:=hx.1 s es fz hk;refine qJ h (x:= .pointer (some ⟨b,i*s+o+a2,none⟩)) (λs' es' fz' hc=>?_) hx.2 ?_
     .rw[hk]at hc;simp only[J3]at hc;obtain⟨rfl,rfl,rfl⟩:=hc;exact⟨b,c,hl,hi,by rw[hV]⟩
     .simp[execOp,hp,kI hf h0]
    .trivial
   .rename_i es i o hv;rw[hv]at hx;obtain⟨b,p,a0,hp,hi,a1⟩:=hx.1;refine qJ h (x:= .pointer (some ⟨b,p+i*a0+o+a2,none⟩)) ⟨b,p,a0,by rw[hV],hi,a1⟩ trivial ?_;simp[execOp,hp,kI hf h0]
   .trivial
 .trivial
theorem Om {t:TypeId} {x:Operand} {f:Nat} (h:Conc C B F0 w0 F loc st a w):RS C B F0 w0 st a w ⟨dst,.field t x f,ty,pos,after,g⟩ (xl C ⟨dst,.field t x f,ty,pos,after,g⟩ (ev st) st.objs):=by
 simp only[xl];have hx:=qU h x;split
 .rename_i off ft cs hf hv;rw[hv]at hx;obtain⟨vs,a4,a1⟩:=hx.1;have hl:cs.length=vs.size:=by simpa using a1.length
  split
  .rename_i z hz;obtain⟨fs,fd,hu,a2,ho,ht⟩:=ZV hf;subst ho ht;have h1:=vf hz w;have h2:=xe hz w;split
   .rename_i a3;have a3:fd.offset+z.length<=cs.length:=by simpa using a3
    split
    .rename_i ha;rw[ha]at h1;refine qJ h (x:= .agg (vs.extract fd.offset (fd.offset+z.length))) ⟨_,rfl,?_⟩ trivial ?_
     .have:(vs.extract fd.offset (fd.offset+z.length)).toList=JE (λj=>nth undef vs.toList j) fd.offset z.length:=by
       rw[<-zV];apply List.ext_getElem?;intro j;simp only[Hv,gy,hK,gb];by_cases hj:j<z.length
       .have hsz:fd.offset+j<vs.size:=by omega
        simp[hj,qw,hsz]
       .simp[hj];omega
      rw[this,ZU];exact yw _ _ λj hj=>a1.nth .undef undef _ _ _ (by omega)
     .simp[execOp,U0,qM hu,a2,part,a4,asAgg,h1,h2]
    .rename_i ha;rw[ha]at h1;split
     .rename_i a0;have a0:0<z.length:=by simpa using a0
      have hlt:fd.offset<vs.size:=by omega
      refine qJ h (x:=nth undef vs.toList fd.offset) (show CD w F _ _ from a1.nth .undef undef _ _ fd.offset (by omega)) trivial ?_;simp[execOp,U0,qM hu,a2,part,a4,asAgg,h1,hlt,qw]
     .trivial
   .trivial
  .trivial
 .trivial
theorem H1 {x:Operand} {i:Nat} (h:Conc C B F0 w0 F loc st a w):RS C B F0 w0 st a w ⟨dst,.extract x i,ty,pos,after,g⟩ (xl C ⟨dst,.extract x i,ty,pos,after,g⟩ (ev st) st.objs):=by
 simp only[xl];have hx:=qU h x;split
 .rename_i as hv;rw[hv]at hx;obtain⟨vs,a2,a4⟩:=hx.1;have hl:as.length=vs.size:=by simpa using a4.length
  split
  .rename_i a1;have a1:i<as.length:=by simpa using a1
   have h1:=a4.nth (A.c .undef) undef as vs.toList i a1;have a0:(execOp a.eval ⟨dst,.extract x i,ty,pos,after,g⟩).run C.P w= .ok (.value (nth undef vs.toList i)) w:=by simp[execOp,Tk,a2,qw,show i<vs.size by omega]
   split
   .rename_i d hd;rw[hd]at h1;exact qJ h h1 trivial a0
   .rename_i cs hd;rw[hd]at h1;exact qJ h h1 trivial a0
  .trivial
 .rename_i k as hv;rw[hv]at hx;obtain⟨⟨y,ys,a2,hy,a5⟩,a3⟩:=hx;have hl:as.length=ys.length:=by simpa using a5.length
  split
  .have a0:(execOp a.eval ⟨dst,.extract x 0,ty,pos,after,g⟩).run C.P w= .ok (.value y) w:=by simp[execOp,Tk,a2]
   refine qJ h (x:=y) (λs es fz hc=>?_) a3 a0;obtain⟨b,c,h1,h2⟩:=hy s es fz hc;exact .inl ⟨b,c,h1,h2⟩
  .rename_i j;split
   .rename_i a1;have a1:j<as.length:=by simpa using a1
    have h1:=a5.nth (A.c .undef) undef as ys j a1;have a0:(execOp a.eval ⟨dst,.extract x (j+1),ty,pos,after,g⟩).run C.P w= .ok (.value (nth undef ys j)) w:=by simp[execOp,Tk,a2,qw,show j<ys.length by omega]
    split
    .rename_i d hd;rw[hd]at h1;exact qJ h h1 trivial a0
    .rename_i cs hd;rw[hd]at h1;exact qJ h h1 trivial a0
   .trivial
 .trivial
theorem On {t:TypeId} {x i:Operand} (h:Conc C B F0 w0 F loc st a w):RS C B F0 w0 st a w ⟨dst,.index t x i,ty,pos,after,g⟩ (xl C ⟨dst,.index t x i,ty,pos,after,g⟩ (ev st) st.objs):=by
 simp only[xl];have hx:=(qU h x).1;have hi:=(qU h i).1;split
 .rename_i s k n hu hvx hvi;rw[hvx]at hx;rw[hvi]at hi;rintro⟨h0,h1⟩;refine qV h (x:= .int .u8 ((nth 0 s n.toNat).toNat:Int)) ?_ (I1 _ _) trivial;have hs:=X0 hx;have hn:=kG hi;have a0:n.toNat<s.length:=by omega
  have hg:(⟨⟨s⟩⟩:ByteArray)[n.toNat]? =some (nth 0 s n.toNat):=by rw[qk _ a0];have:n.toNat<(⟨⟨s⟩⟩:ByteArray).size:=a0;rw[getElem?_pos (⟨⟨s⟩⟩:ByteArray) n.toNat this];rfl
  simp[execOp,Instr.index,hs,hn,asIntOf,qM hu,h0,hg]
 .trivial
omit [Env] in
theorem X4 (s:Nat):∀(n:Nat) (cs:List D),(kD s n cs).length=n
 |0,_=>rfl
 |n+1,cs=>by simp only[kD,et];rw[X4 s n]
omit [Env] in
theorem Q4 (s:Nat):∀(n:Nat) (cs:List D),cs.length=n*s->(kD s n cs).flatten=cs/\∀e∈kD s n cs,e.length=s
 |0,cs,h=>by have:cs=[]:=eU (by omega);subst this;exact⟨rfl,λe he=>by simp[kD]at he⟩
 |n+1,cs,h=>by
  rw[hD,j2]at h;obtain⟨h1,h2⟩:=Q4 s n (cs.drop s) (by rw[gn];omega);refine⟨?_,λe he=>?_⟩
  .simp only[kD,eH];rw[h1,fg]
  .simp only[kD,fR]at he;rcases he with rfl|he
   .rw[eL];omega
   .exact h2 e he
theorem YA (h:Conc C B F0 w0 F loc st a w) {g len:Nat} {e:TypeId} {es:List (List D)} (hg:NT C g len e=some es):Row w F es g 0 (C.P.cellsOf e)/\es.length=len/\0<C.P.cellsOf e:=by
 unfold NT at hg;split at hg
 .rename_i cs hG;split at hg
  .rename_i hc;simp only[Hy,decide_eq_true_eq]at hc;simp only[ks]at hg;subst hg;obtain⟨hF,vs,t,fr,a1,a0⟩:=h.inv g cs hG;obtain⟨h1,h2⟩:=Q4 _ _ _ hc.2;have hl:=X4 (C.P.cellsOf e) len cs;refine⟨⟨h2,hF,λj hj=>?_⟩,hl,hc.1⟩;rw[hl]at hj;have a2:=a0.length;refine⟨nth undef vs.toList j,?_,?_⟩
   .have a3:j<vs.size:=by simp at a2;omega
    have:w.cell? ⟨g,0+j,none⟩=vs[0+j]? :=by simp[World.cell?,a1]
    rw[this,g7,qk _ (by simpa using a3)];simp[a3]
   .rw[h1];exact a0.nth .undef undef _ _ j (by omega)
  .simp at hg
 .simp at hg
theorem Wm {t:TypeId} {x i:Operand} (h:Conc C B F0 w0 F loc st a w):RS C B F0 w0 st a w ⟨dst,.indexAddr t x i,ty,pos,after,g⟩ (xl C ⟨dst,.indexAddr t x i,ty,pos,after,g⟩ (ev st) st.objs):=by
 simp only[xl,vc];have hx:=(qU h x);have hi:=(qU h i).1;split
 .rename_i k n hvi;rw[hvi]at hi;have hn:=kG hi;split
  .rename_i e hu;have ag:∀s,C.P.cellsOf e=s->s≠0->(J4 e).run C.P w= .ok s w:=λs hs h0=>by obtain⟨an,h1,h2⟩:=zd (P:=C.P) (t:=e) (by rw[hs];exact h0);simp[J4,typeInfo,h1,h2,hs]
   split
   .rename_i es a1;rw[a1]at hx;split
    .rename_i al;have al:0<C.P.cellsOf e:=by simpa using al
     rintro⟨h0,h1,h2⟩;obtain⟨ad,c,a2,_,a0⟩:=I2 hx.1;rcases a0 with rfl|⟨b,o,a3,rfl,a0⟩
     .simp at h1;omega
     have a5:n.toNat<es.length:=by omega
     have a7:a3=C.P.cellsOf e:=by rw[<-h2,qk _ a5];exact(a0.hs _ (gr a5)).symm
     subst a7;refine qV h (x:= .pointer (some ⟨b,o+n.toNat*C.P.cellsOf e,none⟩)) ?_ ⟨b,o,_,by simp,a5,a0⟩ trivial;simp[execOp,No,a2,hn,asIntOf,qM hu,h0,h1,ag _ rfl (by omega),xm]
    .trivial
   .rename_i k' a1;rw[a1]at hx;split
    .rename_i s es fz hk;split
     .rename_i hs;have hs:s=C.P.cellsOf e:=by simpa using hs
      rintro⟨h0,h1⟩;have a4:=h.objs k';rw[hk]at a4;obtain⟨_,hs0,_,a4⟩:=a4;rcases hx.1 s es fz hk with⟨b,c,hl,a2⟩|⟨_,rfl,_⟩
      .have a5:n.toNat<es.length:=by omega
       refine qV h (x:= .pointer (some ⟨b,n.toNat*s,none⟩)) ?_ (λs' es' fz' hc=>?_) hx.2
       .simp[execOp,No,a2,hn,asIntOf,qM hu,h0,h1,ag _ hs.symm (by omega),xm]
       .rw[hk]at hc;simp only[J3]at hc;obtain⟨rfl,rfl,rfl⟩:=hc;exact⟨b,c,hl,a5,by simp⟩
      .simp at h1;omega
     .trivial
    .trivial
   .rename_i k' o l a1;rw[a1]at hx;split
    .rename_i s es fz hk;split
     .rename_i hs;have hs:s=C.P.cellsOf e:=by simpa using hs
      rintro⟨h0,h1⟩;have a4:=h.objs k';rw[hk]at a4;obtain⟨_,hs0,_,a4⟩:=a4;obtain⟨b,c,hl,hol,a2⟩:=(hx.1 s es fz hk).resolve_right (by rintro(⟨_,_,_,_,h4,_⟩|⟨_,_,_,h4,_⟩)<;>omega);refine qV h (x:= .pointer (some ⟨b,o*s+n.toNat*s,none⟩)) ?_ (λs' es' fz' hc=>?_) hx.2
      .simp[execOp,No,a2,hn,asIntOf,qM hu,h0,h1,ag _ hs.symm (by omega),xm]
      .rw[hk]at hc;simp only[J3]at hc;obtain⟨rfl,rfl,rfl⟩:=hc;exact⟨b,c,hl,by omega,by rw[hD];simp⟩
     .trivial
    .trivial
   .rename_i k' l a1;rw[a1]at hx;split
    .rename_i a6 hk;split
     .rename_i hs;have hs:C.P.cellsOf e=1:=by simpa using hs
      rintro⟨h0,h1⟩;obtain⟨b,c,hl,a2⟩:=hx.1 _ hk rfl;refine qV h (x:= .pointer (some ⟨b,n.toNat,none⟩)) ?_ (λo ho hb=>⟨b,c,hl,rfl⟩) hx.2;simp[execOp,No,a2,hn,asIntOf,qM hu,h0,h1,ag _ hs (by omega),xm]
     .trivial
    .trivial
   .trivial
  .rename_i len e hu;split
   .rename_i k' ap a1;rw[a1]at hx;split
    .rename_i a6 hk;split
     .rename_i m;split
      .rename_i hm;simp only[Hy,decide_eq_true_eq]at hm;obtain⟨b,c,hl,a2⟩:=hx.1 _ hk rfl;obtain⟨an,h1,h2⟩:=zd (P:=C.P) (t:=e) (by omega);refine qJ h (x:= .pointer (some ⟨b,ap+m*C.P.cellsOf e,none⟩)) (λcells' hc _=>⟨b,c,hl,rfl⟩) hx.2 ?_;simp[execOp,No,a2,hn,asIntOf,qM hu,hm.1,Pl,J4,typeInfo,h1,h2,xm]
      .trivial
     .trivial
    .trivial
   .rename_i g' a1;rw[a1]at hx;split
    .rename_i es hes;obtain⟨a0,hlen,al⟩:=YA h hes;rintro⟨h0,h1⟩;have a2:a.eval x= .pointer (some ⟨g',0,none⟩):=hx.1;have a5:n.toNat<es.length:=by omega
     obtain⟨an,q1,q2⟩:=zd (P:=C.P) (t:=e) (by omega);refine qV h (x:= .pointer (some ⟨g',0+n.toNat*C.P.cellsOf e,none⟩)) ?_ ⟨g',0,_,by simp,a5,a0⟩ trivial;have h3:n.toNat<len:=by omega
     simp[execOp,No,a2,hn,asIntOf,qM hu,h0,h1,Pl,J4,typeInfo,q1,q2,xm]
    .trivial
   .rename_i es j ap a1;rw[a1]at hx;split
    .rename_i m;split
     .rename_i hm;simp only[Hy,decide_eq_true_eq]at hm;obtain⟨b,p,a3,hp,hi2,a0⟩:=hx.1;obtain⟨an,h1,h2⟩:=zd (P:=C.P) (t:=e) (by omega);refine qJ h (x:= .pointer (some ⟨b,p+j*a3+ap+m*C.P.cellsOf e,none⟩)) ⟨b,p,a3,by rw[hV],hi2,a0⟩ trivial ?_;simp[execOp,No,hp,hn,asIntOf,qM hu,hm.1,Pl,J4,typeInfo,h1,h2,xm]
     .trivial
    .trivial
   .trivial
  .trivial
 .trivial
end
end Eng
end
section
namespace Eng
open Go Go.RowKit
variable [Env]
section
variable {C:Cx} {B:Bd} {F0:Nat->Prop} {w0:World} {F:Nat->Prop} {loc:Where} {st:St} {a:Act} {w:World}
variable {dst:Option Nat} {ty:TypeId} {pos:String} {after:Array Edge} {g:Option (Nat×Bool)}
theorem CO.heap {objs:List Obj} {w':World} {k:Nat} {o:Obj} (hh:w'.heap=w.heap) (h:CO loc objs w F k o):CO loc objs w' F k o:=
 CO.le (λ_ h=>h) (λ_ _=>by rw[hh]) (Le.refl _ _) rfl rfl (λ_ _ _=>⟨by rw[hh],λh=>h⟩) h
theorem Conc.drew (h:Conc C B F0 w0 F loc st a w):Conc C B F0 w0 F loc st a w.drew:=
 ⟨h.prog,h.below.drew,h.hB,h.defers,All2.mono (R:=CV loc st.objs w F) (λ_ _ hv=>CV.mem (w:=w) (w':=w.drew) (λ_ h=>h) (λ_ _=>rfl) hv) h.tmps,h.refs,λk=>CO.heap (w:=w) (w':=w.drew) rfl (h.objs k),h.inj,h.fresh,h.bound,h.fsub,h.fsup,h.inv.mono (λ_ h=>h) λ_ _=>rfl⟩
def ka (loc:Where) (k:Nat):Where:=⟨loc.P,λj=>if j=k then none else loc j,loc.ty⟩
omit [Env] in
theorem Tf {objs:List Obj} {k:Nat} (hk:nth .none objs k≠ .none):Le objs (upd objs k .dead) loc (ka loc k):=by
 have a0:k<objs.length:=by
  rcases g6 k objs.length with h1|h1
  .exact h1
  .rw[qC _ h1]at hk;simp at hk
 refine⟨rfl,λ_ _=>rfl,λj hj=>?_,λj o' hj hc hbx=>?_,λj s' es' fz' hj hc=>?_⟩
 .by_cases hkj:k=j
  .subst hkj;rw[qb _ _ _ a0];simp
  .rw[qa _ _ _ hkj];exact hj
 .by_cases hkj:k=j
  .subst hkj;rw[qb _ _ _ a0]at hc;rw[<-hc]at hbx;simp[xD]at hbx
  .rw[qa _ _ _ hkj]at hc;exact⟨by rw[hc];exact hbx,by simp[ka,j4 hkj]⟩
 .by_cases hkj:k=j
  .subst hkj;rw[qb _ _ _ a0]at hc;simp at hc
  .rw[qa _ _ _ hkj]at hc;exact⟨⟨_,_,hc,rfl⟩,by simp[ka,j4 hkj]⟩
theorem Conc.killO {k:Nat} (h:Conc C B F0 w0 F loc st a w) (hk:nth .none st.objs k≠ .none) (dt:List Nat):
 Conc C B F0 w0 F (ka loc k) ⟨st.tmps,upd st.objs k .dead,dt⟩ a w:=by
 have hlt:k<st.objs.length:=by
  rcases g6 k st.objs.length with h1|h1
  .exact h1
  .rw[qC _ h1]at hk;simp at hk
 have a0:Le st.objs (upd st.objs k .dead) loc (ka loc k):=Tf hk;have:=h.step (dst:=none) (v:= .any) (x:=undef) (up:=[(k,.dead)]) (loc':=ka loc k) (F':=F) (λ_ h=>h) (λ_ _=>rfl) a0 h.below h.hB (λj=>?_) ?_ ?_ h.bound h.fsub trivial trivial
 .exact this.redirty
 .show CO _ (upd st.objs k .dead) _ _ _ (nth .none (upd st.objs k .dead) j);by_cases hkj:k=j
  .subst hkj;rw[qb _ _ _ hlt];simp[CO,ka]
  .rw[qa _ _ _ hkj];exact CO.le (λ_ h=>h) (λ_ _=>rfl) a0 (by simp[ka,j4 hkj]) rfl (λb c hb=>⟨rfl,λh=>h⟩) (h.objs j)
 .intro j j' b c c' h1 h2;simp only[ka]at h1 h2;split at h1
  .simp at h1
  .split at h2
   .simp at h2
   .exact h.inj _ _ _ _ _ h1 h2
 .intro j b c h1;simp only[ka]at h1;split at h1
  .simp at h1
  .exact h.fresh _ _ _ h1
theorem Conc.kill {k s:Nat} {es:List (List D)} {fz:Bool} (h:Conc C B F0 w0 F loc st a w) (hk:nth .none st.objs k= .arr s es fz) (dt:List Nat):
 Conc C B F0 w0 F (ka loc k) ⟨st.tmps,upd st.objs k .dead,dt⟩ a w:=h.killO (by rw[hk];simp) dt
theorem Conc.adopt {d b cap tt:Nat} {ob:Obj} {v:V} {x:Value} {cs:Array Value} {t:TypeId} (h:Conc C B F0 w0 F loc st a w) (hd:qx st.objs d=true)
 (hb:Own B b/\b<w.heap.size) (hnF:¬F b) (hno:∀k c,loc k≠some (b,c))
 (hob:CO (at_ loc d (b,cap) tt) (upd st.objs d ob) (setBlk w b (.cells cs t (0,0))) F d ob)
 (hv:CV (at_ loc d (b,cap) tt) (upd st.objs d ob) (setBlk w b (.cells cs t (0,0))) F v x) (hr:Ref (upd st.objs d ob) v):
 Conc C B F0 w0 F (at_ loc d (b,cap) tt) (st.put dst v [(d,ob)]) (a.put dst x) (setBlk w b (.cells cs t (0,0))):=by
 obtain⟨a0,hlt⟩:=qI hd;have hw:∀b',F b'->(setBlk w b (.cells cs t (0,0))).heap[b']? =w.heap[b']? :=λb' hb'=>za (λe=>hnF (e▸hb'))
 have a1:Le st.objs (upd st.objs d ob) loc (at_ loc d (b,cap) tt):=by
  refine⟨rfl,λk hk=>by
   have:k≠d:=λe=>by subst e;exact absurd a0 hk
   simp[at_,this],λk hk=>?_,λk o' hk hc hbx=>?_,λk s es' fz' hk hc=>?_⟩
  .by_cases hkd:d=k
   .subst hkd;exact absurd a0 hk
   .rw[qa _ _ _ hkd];exact hk
  .by_cases hkd:d=k
   .subst hkd;exact absurd a0 hk
   .rw[qa _ _ _ hkd]at hc;exact⟨by rw[hc];exact hbx,by simp[at_,j4 hkd]⟩
  .by_cases hkd:d=k
   .subst hkd;exact absurd a0 hk
   .rw[qa _ _ _ hkd]at hc;exact⟨⟨_,_,hc,rfl⟩,by simp[at_,j4 hkd]⟩
 refine h.step (up:=[(d,ob)]) (λ_ h=>h) hw a1 (BelowX.setBlk h.below hb.1) (by rw[zU];exact h.hB) (λk=>?_) ?_ ?_ (λb' hb'=>by rw[zU];exact h.bound b' hb') h.fsub hv hr
 .show CO _ (upd st.objs d ob) _ _ _ (nth .none (upd st.objs d ob) k);by_cases hk:d=k
  .subst hk;rw[qb _ _ _ hlt];exact hob
  .rw[qa _ _ _ hk];refine CO.le (λ_ h=>h) hw a1 (by simp[at_,j4 hk]) (by simp[at_,j4 hk]) (λb' c hb'=>⟨za (λe=>?_),λh=>h⟩) (h.objs k);subst e;exact hno _ _ hb'
 .intro k k' b' c c' h1 h2;simp only[at_]at h1 h2;split at h1<;>split at h2
  .rw[‹k=d›,‹k'=d›]
  .simp only[ks,k0]at h1;rw[<-h1.1]at h2;exact absurd h2 (hno _ _)
  .simp only[ks,k0]at h2;rw[<-h2.1]at h1;exact absurd h1 (hno _ _)
  .exact h.inj _ _ _ _ _ h1 h2
 .intro k b' c h1;simp only[at_]at h1;rw[zU];split at h1
  .simp only[ks,k0]at h1;obtain⟨rfl,_⟩:=h1;exact hb
  .exact h.fresh _ _ _ h1
theorem Fe {x:Operand} {ts:Array TypeId} (h:Conc C B F0 w0 F loc st a w):RS C B F0 w0 st a w ⟨dst,.call ⟨.builtin .len, #[x],ts⟩,ty,pos,after,g⟩ (EW C.P st.objs ts (ev st x)):=by
 unfold EW;have hx:=(qU h x).1;split
 .rename_i t hts;have a1:∀n:Int,(Ls ts ty #[a.eval x]).run C.P w= .ok (.int .i64 n) w->(execOp a.eval ⟨dst,.call ⟨.builtin .len, #[x],ts⟩,ty,pos,after,g⟩).run C.P w= .ok (.value (.int .i64 n)) w:=λn hn=>by simp[execOp,resolve,invoke,builtin,hn]
  have a3:ts[0]? =some t:=by
   have:ts= #[t]:=by apply Gv;simpa using hts
   rw[this];rfl
  split
  .rename_i hu;split
   .rename_i s hv;rw[hv]at hx;refine qJ h (I1 _ _) trivial (a1 _ ?_);simp[Ls,a3,qM hu,X0 hx,goInt];rfl
   .trivial
  .rename_i e hu;have a2:∀ad n c,a.eval x= .slice ad n c->(Ls ts ty #[a.eval x]).run C.P w= .ok (.int .i64 n) w:=λad n c a0=>by simp[Ls,a3,qM hu,a0,goInt]
   split
   .rename_i es hv;rw[hv]at hx;obtain⟨ad,c,a0,_⟩:=I2 hx;exact qJ h (I1 _ _) trivial (a1 _ (a2 _ _ _ a0))
   .rename_i hv;rw[hv]at hx;exact qJ h (I1 _ _) trivial (a1 _ (a2 none 0 0 hx))
   .rename_i k hv;rw[hv]at hx;split
    .rename_i s es fz hk;rcases hx s es fz hk with⟨b,c,_,a0⟩|⟨_,rfl,a0⟩
     .exact qJ h (I1 _ _) trivial (a1 _ (a2 _ _ _ a0))
     .exact qJ h (I1 _ _) trivial (a1 _ (a2 _ _ _ a0))
    .trivial
   .rename_i k o l hv;rw[hv]at hx;split
    .rename_i s es fz hk;rcases hx s es fz hk with⟨b,c,_,_,a0⟩|⟨_,_,_,_,rfl,a0⟩|⟨_,_,_,rfl,_,_,a0⟩
     .exact qJ h (I1 _ _) trivial (a1 _ (a2 _ _ _ a0))
     .exact qJ h (I1 _ _) trivial (a1 _ (a2 _ _ _ a0))
     .exact qJ h (I1 _ _) trivial (a1 _ (a2 _ _ _ a0))
    .trivial
   .rename_i k n hv;rw[hv]at hx;split
    .rename_i a4 hk;obtain⟨b,c,_,a0⟩:=hx _ hk rfl;exact qJ h (I1 _ _) trivial (a1 _ (a2 _ _ _ a0))
    .trivial
   .trivial
  .trivial
 .trivial
theorem jg {d:Int} {x:Option Operand} {n:Int} (h:Conc C B F0 w0 F loc st a w) (hb:kf d (xW (ev st) x)=some n):(x=none/\n=d)\/∃y k,x=some y/\a.eval y= .int k n:=by
 cases x with
 |none=>simp only[xW,kf,ks]at hb;exact .inl ⟨rfl,hb.symm⟩
 |some y=>
  simp only[xW]at hb;have hy:=(qU h y).1;generalize ev st y=v at hb hy;unfold kf at hb;split at hb
  .rename_i a0;simp at a0
  .rename_i k m a0;simp only[ks]at a0 hb;subst a0 hb;exact .inr ⟨y,k,rfl,kG hy⟩
  .simp at hb
omit [Env] in
theorem zX {P:Program} {sl:Bool} {len cap:Nat} {lo hi:Option Operand} {l r:Int} (hl:(lo=none/\l=0)\/∃y k,lo=some y/\a.eval y= .int k l) (hr:(hi=none/\r=len)\/∃y k,hi=some y/\a.eval y= .int k r)
 (h0:0<=l) (h1:l<=r) (h2:r<=len) (h3:len<=cap):(M0 sl len cap (lo.map a.eval) (hi.map a.eval) none).run P w= .ok (l.toNat,r.toNat,cap) w:=by
 have a0:0<=r:=by omega
 have a1:r<=(cap:Int):=by omega
 have hlr:l<=(r.toNat:Int):=by omega
 rcases hl with⟨rfl,rfl⟩|⟨y,k,rfl,hy⟩<;>rcases hr with⟨rfl,rfl⟩|⟨y',k',rfl,a2⟩
 .simp[M0]
 .simp[M0,a2,run_sliceBound _ _ _ _ _ a0 a1]
 .have:l<=(len:Int):=h1;simp[M0,hy,run_sliceBound _ _ _ _ _ h0 this]
 .simp[M0,hy,a2,run_sliceBound _ _ _ _ _ a0 a1,run_sliceBound _ _ _ _ _ h0 hlr]
omit [Env] in
theorem VB {P:Program} {sl:Bool} {len cap:Nat} {lo hi mx:Option Operand} {l r m:Int} (hl:(lo=none/\l=0)\/∃y k,lo=some y/\a.eval y= .int k l) (hr:∃y k,hi=some y/\a.eval y= .int k r)
 (hm:∃y k,mx=some y/\a.eval y= .int k m) (h0:0<=l) (h1:l<=r) (h2:r<=m) (h3:m<=cap):(M0 sl len cap (lo.map a.eval) (hi.map a.eval) (mx.map a.eval)).run P w= .ok (l.toNat,r.toNat,m.toNat) w:=by
 have a1:0<=m:=by omega
 have a2:0<=r:=by omega
 have a3:r<=(m.toNat:Int):=by omega
 have hlr:l<=(r.toNat:Int):=by omega
 obtain⟨y',k',rfl,a4⟩:=hr;obtain⟨y'',k'',rfl,a0⟩:=hm;rcases hl with⟨rfl,rfl⟩|⟨y,k,rfl,hy⟩
 .simp[M0,a4,a0,run_sliceBound _ _ _ _ _ a1 h3,run_sliceBound _ _ _ _ _ a2 a3]
 .simp[M0,hy,a4,a0,run_sliceBound _ _ _ _ _ a1 h3,run_sliceBound _ _ _ _ _ a2 a3,run_sliceBound _ _ _ _ _ h0 hlr]
theorem Row.part {es:List (List D)} {b o size l r:Nat} (h:Row w F es b o size) (h1:l<=r) (h2:r<=es.length):Row w F ((es.take r).drop l) b (o+l*size) size:=by
 refine⟨λe he=>h.hs e (ep (ez he)),h.hF,λj hj=>?_⟩;have a0:((es.take r).drop l).length=r-l:=by simp;omega
 rw[a0]at hj;obtain⟨q,hq⟩:∃q,q=j/size:=⟨_,rfl⟩;have hs0:0<size:=by
  rcases im size with h0|h0
  .subst h0;omega
  .exact h0
 have hqr:q<r-l:=by rw[hq];exact hP (by rw[hH];exact hj)
 have hjq:j=q*size+j%size:=by rw[hq,hH];exact(hT j size).symm
 have a1:=ia j hs0;obtain⟨v,q1,q2⟩:=h.hc ((l+q)*size+j%size) (Wj (by omega) a1);refine⟨v,by rw[<-q1];congr 2;rw[hD];omega,?_⟩;rw[xO h.hs _ _ (by omega) a1]at q2;rw[hjq,xO (λe he=>h.hs e (ep (ez he))) _ _ (by omega) a1];have:nth [] (List.drop l (List.take r es)) q=nth [] es (l+q):=by simp only[qw,List.getElem?_drop];rw[ga,if_pos (by omega)]
 rw[this];exact q2
theorem Oo {es:List (List D)} {x:Value} {z:List Value} {e:TypeId} {l r m:Nat} (hx:CD w F (.sl es) x) (_hz:zN C.P e=some z) (hlens:lens z.length es) (h1:l<=r) (h2:r<=es.length) (h3:r<=m):
 ∃ad c,x= .slice ad es.length c/\es.length<=c/\(m<=c->CD w F (.sl ((es.take r).drop l)) (.slice (if m=l then ad else ad.map (·.add (l*z.length))) (r-l) (m-l))):=by
 obtain⟨ad,c,hxe,hlc,a0⟩:=hx.slice_inv;refine⟨ad,c,hxe,hlc,λ_=>?_⟩;have a1:((es.take r).drop l).length=r-l:=by simp;omega
 rcases Nat.eq_or_lt_of_le h1 with rfl|hlt
 .have:(es.take l).drop l=[]:=eU (by rw[a1];omega);rw[this,hW];exact .nil _ _
 .rcases a0 with rfl|⟨b,o,a2,rfl,a0⟩
  .simp at h2;omega
  .have hne:es≠[]:=by intro h0;subst h0;simp at h2;omega
   obtain⟨e0,es0,rfl⟩:=gx hne;have hsz:a2=z.length:=by rw[<-hlens e0 (by simp)];exact(a0.hs e0 (by simp)).symm
   subst hsz;rw[if_neg (by omega)];have:=(a0.part h1 h2).CD (c:=m-l) (by rw[a1];omega);rw[a1]at this
   simpa [xm]using this
theorem Tg {t:TypeId} {x:Operand} {lo hi mx:Option Operand} (h:Conc C B F0 w0 F loc st a w):RS C B F0 w0 st a w ⟨dst,.slice t x lo hi mx,ty,pos,after,g⟩ (KZ C.P t st.objs (ev st x) (xW (ev st) lo) (xW (ev st) hi) (xW (ev st) mx)):=by
 simp only[KZ];have hx:=(qU h x).1;split
 .rename_i hu;split
  .rename_i s hv;rw[hv]at hx;have hs:=X0 hx;split
   .rename_i l r hl hr;have a5:=jg h hl;have a2:=jg h hr;split
    .rename_i hm;have a4:mx=none:=by cases mx with|none=>rfl|some y=>simp[xW]at hm
     subst a4;rintro⟨h0,h1,h2⟩;have hb:=zX (P:=C.P) (w:=w) (sl:=false) (len:=s.length) (cap:=s.length) a5 a2 h0 h1 h2 (hA _);refine qV h (x:= .string ⟨⟨(s.take r.toNat).drop l.toNat⟩⟩) ?_ (CD.str _) trivial;have hsz:(⟨⟨s⟩⟩:ByteArray).size=s.length:=rfl;have a7:(⟨⟨s⟩⟩:ByteArray).extract l.toNat r.toNat=⟨⟨(s.take r.toNat).drop l.toNat⟩⟩:=by apply ByteArray.ext;apply Gv;simp only[ByteArray.data_extract,Hv,gy];rw[List.drop_take]
     simp[execOp,M1,qM hu,M3,hs,hsz,hb,a7]
    .trivial
   .trivial
  .trivial
 .rename_i e hu;split
  .rename_i z es us hz hel;obtain⟨hfz,hcd⟩:=Oe h hel hx;have b0:∀(l r m:Int) (c0:∀(F':Nat->Prop) ad c,CD w F' (.sl es) (a.eval x)->a.eval x= .slice ad es.length c->es.length<=c->∃mm:Nat,mm<=c/\r.toNat<=mm/\(M0 true es.length c (lo.map a.eval) (hi.map a.eval) (mx.map a.eval)).run C.P w= .ok (l.toNat,r.toNat,mm) w),
    0<=l->l<=r->r<=es.length->lens z.length es->Does C B F0 w0 ⟨dst,.slice t x lo hi mx,ty,pos,after,g⟩ a w (st.put dst (.c (.sl ((es.take r.toNat).drop l.toNat))) us):=by
    intro l r m c0 h0 h1 h2 a3;obtain⟨F',hc',hF',hb'⟩:=h.freezes hfz st.dirty;have a0:=hcd F' hF' hb';obtain⟨ad,c,an,a6,_⟩:=a0.slice_inv;obtain⟨mm,hm1,hm2,al⟩:=c0 F' ad c a0 an a6;obtain⟨ad',c',a1,_,ag⟩:=Oo (C:=C) (l:=l.toNat) (r:=r.toNat) (m:=mm) a0 hz a3 (by omega) (by omega) hm2;rw[an]at a1;simp only[Value.slice.injEq]at a1;obtain⟨rfl,_,rfl⟩:=a1;refine⟨_,_,w,?_,.inl rfl,F',loc,(hc'.pure (dst:=dst) (v:= .c (.sl ((es.take r.toNat).drop l.toNat))) (ag hm1) trivial).redirty⟩;have h3:=xe hz w;simp[execOp,M1,qM hu,M3,an,al,h3]
   split
   .rename_i l r hl hr;have a5:=jg h hl;have a2:=jg h hr;split
    .rename_i hm;have a4:mx=none:=by cases mx with|none=>rfl|some y=>simp[xW]at hm
     subst a4;rintro⟨h0,h1,h2,h3⟩;exact b0 l r 0 (λF' ad c _ _ a6=>⟨c,hA _,by omega,zX (P:=C.P) a5 a2 h0 h1 h2 a6⟩) h0 h1 h2 h3
    .rename_i mv hm;split
     .rename_i m _ ap hh;rw[<-hm]at ap;rcases jg h ap with⟨a4,_⟩|hm'
      .subst a4;simp[xW]at hm
      rcases a2 with⟨hhi,_⟩|a2
      .subst hhi;simp[xW]at hh
      .rintro⟨h0,h1,h2,h3,h4⟩;exact b0 l r m (λF' ad c _ _ a6=>⟨m.toNat,by omega,by omega,VB (P:=C.P) a5 a2 hm' h0 h1 h2 (by omega)⟩) h0 h1 (by omega) h4
     .trivial
   .trivial
  .trivial
 .trivial
theorem Th {t:TypeId} {x:Operand} {lo hi mx:Option Operand} (h:Conc C B F0 w0 F loc st a w):RS C B F0 w0 st a w ⟨dst,.slice t x lo hi mx,ty,pos,after,g⟩ (Wa C.P t st.objs (ev st x) (xW (ev st) lo) (xW (ev st) hi) (xW (ev st) mx)):=by
 unfold Wa;split
 .exact Tg h
 .rename_i a0;have hv:ev st x= .nilS:=by
   cases hq:ev st x<;>rw[hq]at a0<;>simp[nilB]at a0 ⊢
  split
  .rename_i e hu hm;split
   .rename_i z l r hz hl hr;have hmx:mx=none:=by cases mx with|none=>rfl|some y=>simp[xW]at hm
    subst hmx;rintro⟨h0,h1,h2⟩;have hx:=(qU h x).1;rw[hv]at hx;have hx:a.eval x= .slice none 0 0:=hx;have hl':=jg h hl;have hr':=jg h hr;have hb:=zX (P:=C.P) (w:=w) (sl:=true) (len:=0) (cap:=0) hl' hr' h0 h1 h2 (hA _);refine qV h (x:= .slice none 0 0) ?_ rfl trivial;have h3:=xe hz w;have e1:l.toNat=0:=by omega
    have e2:r.toNat=0:=by omega
    rw[e1,e2]at hb;simp[execOp,M1,qM hu,M3,hx,hb,h3]
   .trivial
  .trivial
theorem Bj {t:TypeId} {x:Operand} {lo hi mx:Option Operand} (h:Conc C B F0 w0 F loc st a w):RS C B F0 w0 st a w ⟨dst,.slice t x lo hi mx,ty,pos,after,g⟩ (V0 C.P t st.objs (ev st x) (xW (ev st) lo) (xW (ev st) hi) (xW (ev st) mx)):=by
 unfold V0;have hx:=qU h x;split
 .rename_i e hu;split
  .rename_i z k hz hv;rw[hv]at hx;split
   .rename_i s es fz hk;split
    .rename_i an a6;have an:lo=none:=by cases lo with|none=>rfl|some y=>simp[xW]at an
     have a6:mx=none:=by cases mx with|none=>rfl|some y=>simp[xW]at a6
     subst an a6;split
     .rename_i r hs hr;have hs:s=z.length:=g4 hs;have a7:=jg h hr;have a4:(0<=r/\r<=es.length)->True->Does C B F0 w0 ⟨dst,.slice t x none hi none,ty,pos,after,g⟩ a w (st.put dst (.sub k 0 r.toNat) []):=by
       rintro⟨h0,h2⟩ _;have a2:=h.objs k;rw[hk]at a2;rcases hx.1 s es fz hk with⟨b,c,a1,a3⟩|⟨a1,rfl,a3⟩
       .obtain⟨_,_,_,a2⟩:=a2;rcases a2 with⟨h5,_⟩|⟨b',c',cs,t',h5,_,_,_,al,_⟩
        .rw[h5]at a1;simp at a1
        rw[h5]at a1;simp only[ks,k0]at a1;obtain⟨rfl,rfl⟩:=a1;have a0:=zX (P:=C.P) (w:=w) (sl:=true) (len:=es.length) (cap:=c') (lo:=none) (l:=0) (.inl ⟨rfl,rfl⟩) a7 (by omega) (by omega) h2 al.1;simp only[kk]at a0;have ad:=xe hz w;refine qV h (x:= .slice (some ⟨b',0,none⟩) r.toNat c') ?_ (λs' es' fz' hc=>?_) hx.2
        .by_cases hne:c'=0
         .rw[hne]at a3 a0 ⊢;simp[execOp,M1,qM hu,M3,a3,a0,ad]
         .simp[execOp,M1,qM hu,M3,a3,a0,ad,hne,xm]
        .rw[hk]at hc;simp only[J3]at hc;obtain⟨rfl,rfl,rfl⟩:=hc;exact .inl ⟨b',c',h5,by omega,by simp⟩
       .have ag:r.toNat=0:=by simp at h2;omega
        have a0:=zX (P:=C.P) (w:=w) (sl:=true) (len:=0) (cap:=0) (lo:=none) (l:=0) (.inl ⟨rfl,rfl⟩) a7 (by omega) (by omega) (by simpa using h2) (hA _);simp only[kk]at a0;have ad:=xe hz w;refine qV h (x:= .slice none 0 0) ?_ (λs' es' fz' hc=>?_) hx.2
        .rw[ag]at a0;simp[execOp,M1,qM hu,M3,a3,a0,ad]
        .rw[hk]at hc;simp only[J3]at hc;obtain⟨rfl,rfl,rfl⟩:=hc;exact .inr (.inl ⟨by have:=a2.2.1;omega,a1,rfl,rfl,ag,rfl⟩)
      exact λhc=>a4 hc trivial
     .trivial
    split
    .rename_i l r hs hl hr hm;have hs:s=z.length:=g4 hs;have a6:mx=none:=by cases mx with|none=>rfl|some y=>simp[xW]at hm
     subst a6;have ap:=jg h hl;have a7:=jg h hr;have a4:(0<=l/\l<=r/\r<=es.length)->True->Does C B F0 w0 ⟨dst,.slice t x lo hi none,ty,pos,after,g⟩ a w (st.put dst (.sub k l.toNat (r.toNat-l.toNat)) []):=by
      rintro⟨h0,h1,h2⟩ _;have a2:=h.objs k;rw[hk]at a2;rcases hx.1 s es fz hk with⟨b,c,a1,a3⟩|⟨a1,rfl,a3⟩
      .obtain⟨_,hs0,_,a2⟩:=a2;rcases a2 with⟨h5,_⟩|⟨b',c',cs,t',h5,_,_,_,al,_⟩
       .rw[h5]at a1;simp at a1
       rw[h5]at a1;simp only[ks,k0]at a1;obtain⟨rfl,rfl⟩:=a1;have a0:=zX (P:=C.P) (w:=w) (sl:=true) (len:=es.length) (cap:=c') ap a7 h0 (by omega) h2 al.1;have h3:=xe hz w;by_cases hne:c'=l.toNat
       .have b0:r.toNat-l.toNat=0:=by omega
        refine qV h (x:= .slice (some ⟨b',0,none⟩) (r.toNat-l.toNat) (c'-l.toNat)) ?_ (λs' es' fz' hc=>?_) hx.2
        .rw[hne]at a3 a0 ⊢;simp[execOp,M1,qM hu,M3,a3,a0,h3]
        .rw[hk]at hc;simp only[J3]at hc;obtain⟨rfl,rfl,rfl⟩:=hc;rcases im l.toNat with a5|a5
         .exact .inl ⟨b',c',h5,by omega,by rw[a5,hQ]⟩
         .exact .inr (.inr ⟨by omega,a5,by omega,b0,_,_,by rw[b0]⟩)
       .refine qV h (x:= .slice (some ⟨b',l.toNat*s,none⟩) (r.toNat-l.toNat) (c'-l.toNat)) ?_ (λs' es' fz' hc=>?_) hx.2
        .simp[execOp,M1,qM hu,M3,a3,a0,h3,hs,hne,xm]
        .rw[hk]at hc;simp only[J3]at hc;obtain⟨rfl,rfl,rfl⟩:=hc;exact .inl ⟨b',c',h5,by omega,rfl⟩
      .have ag:r.toNat=0:=by simp at h2;omega
       have a5:l.toNat=0:=by omega
       have a0:=zX (P:=C.P) (w:=w) (sl:=true) (len:=0) (cap:=0) ap a7 h0 (by omega) (by simpa using h2) (hA _);have h3:=xe hz w;refine qV h (x:= .slice none 0 0) ?_ (λs' es' fz' hc=>?_) hx.2
       .rw[ag,a5]at a0;simp[execOp,M1,qM hu,M3,a3,a0,h3]
       .rw[hk]at hc;simp only[J3]at hc;obtain⟨rfl,rfl,rfl⟩:=hc;exact .inr (.inl ⟨by have:=a2.2.1;omega,a1,rfl,a5,by omega,rfl⟩)
     exact λhc=>a4 hc trivial
    .trivial
   .trivial
  .trivial
 .trivial
theorem Oq {t:TypeId} {x:Operand} {lo hi mx:Option Operand} (h:Conc C B F0 w0 F loc st a w):RS C B F0 w0 st a w ⟨dst,.slice t x lo hi mx,ty,pos,after,g⟩ (xl C ⟨dst,.slice t x lo hi mx,ty,pos,after,g⟩ (ev st) st.objs):=by
 simp only[xl];split
 .rename_i g' hg;have hv:ev st x= .gl g' 0:=by
   unfold RB at hg;split at hg
   .rename_i hv;simp only[ks]at hg;rw[hv,hg]
   .simp at hg
  have hx:=(qU h x).1;rw[hv]at hx;have hx:a.eval x= .pointer (some ⟨g',0,none⟩):=hx;unfold UT;split
  .rename_i len e hu a2 a0 a3;have a2:lo=none:=by cases lo with|none=>rfl|some y=>simp[xW]at a2
   have a0:hi=none:=by cases hi with|none=>rfl|some y=>simp[xW]at a0
   have a3:mx=none:=by cases mx with|none=>rfl|some y=>simp[xW]at a3
   subst a2 a0 a3;split
   .rename_i es hes;obtain⟨a4,a1,hp0⟩:=YA h hes;obtain⟨inf,q1,q2⟩:=zd (P:=C.P) (t:=e) (by omega);refine qJ h (x:= .slice (some ⟨g',0,none⟩) es.length es.length) (a4.CD (hA _)) trivial ?_;simp[execOp,M1,qM hu,M3,hx,a1,J4,typeInfo,q1,Pl,M0,xm]
   .trivial
  .trivial
 .split
  .exact Th h
  .exact Bj h
end
end Eng
end
section
namespace Eng
open Go Go.RowKit
variable [Env]
section
variable {C:Cx} {B:Bd} {F0:Nat->Prop} {w0:World} {F:Nat->Prop} {loc:Where} {st:St} {a:Act} {w:World}
variable {dst:Option Nat} {ty:TypeId} {pos:String} {after:Array Edge} {g:Option (Nat×Bool)}
omit [Env] in
theorem X5 {off:Nat}:∀(l:List Value) (k:Nat) (cells:Array Value),(l.zipIdx k).foldl (λcs (x:Value×Nat)=>cs.setIfInBounds (off+x.2) x.1) cells=(qH cells.toList (off+k) l).toArray
 |[],_,cells=>by simp[qH]
 |v::l,k,cells=>by rw[List.zipIdx_cons,List.foldl_cons,X5 l (k+1)];simp only[qH,Array.toList_setIfInBounds,<-xh];rw[show off+(k+1)=off+k+1 by omega]
omit [Env] in
theorem yz {v:Value} {off:Nat} {cells:Array Value}:v.cells.zipIdx.foldl (λcs (x:Value×Nat)=>cs.setIfInBounds (off+x.2) x.1) cells=(qH cells.toList off v.cells.toList).toArray:=by
 have:=X5 (off:=off) v.cells.toList 0 cells;rw[hR]at this;rw[<-this,<-Array.foldl_toList,Array.toList_zipIdx]
theorem QU:∀{ps:List (Nat×Operand)} {qs:List (Nat×List D)} {us:List (Nat×Obj)} (_:Conc C B F0 w0 F loc st a w) (_:xX st.objs (ev st) ps=some (qs,us)),
 Frz st.objs us/\∀F':Nat->Prop,(∀b,F b->F' b)->(∀p∈us,∀b c,loc p.1=some (b,c)->F' b)->All2 (λq (p:Nat×Value)=>q.1=p.1/\All2 (CD w F') q.2 p.2.cells.toList) qs (ps.map λx=>(x.1,a.eval x.2))
 |[],qs,us,h,hp=>by simp only[xX,ks,k0]at hp;obtain⟨rfl,rfl⟩:=hp;exact⟨Frz.nil _,λ_ _ _=>trivial⟩
 |(i,x)::ps,qs,us,h,hp=>by
  simp only[xX]at hp;split at hp
  .rename_i ds u qs' us' h1 h2;simp only[ks,k0]at hp;obtain⟨rfl,rfl⟩:=hp;obtain⟨q1,q2⟩:=Hn h h1 (qU h x).1;obtain⟨r1,r2⟩:=QU h h2;exact⟨q1.append r1,λF' hF hb=>⟨⟨rfl,q2 F' hF λp hp=>hb p (by simp[hp])⟩,r2 F' hF λp hp=>hb p (by simp[hp])⟩⟩
  .simp at hp
theorem X6 {F':Nat->Prop} {pl:List (Nat×Nat)} {place:Nat->Option (Nat×Nat)} (hpl:∀i p,pl[i]? =some p->place i=some p):
 ∀(qs:List (Nat×List D)) (ps:List (Nat×Value)) (cs cs':List D) (vs:Array Value),All2 (λq (p:Nat×Value)=>q.1=p.1/\All2 (CD w F') q.2 p.2.cells.toList) qs ps->Wb pl qs cs=some cs'->All2 (CD w F') cs vs.toList->
  ∃vs':Array Value,M2 place vs ps=some vs'/\All2 (CD w F') cs' vs'.toList
 |[],[],cs,cs',vs,_,hb,hv=>by simp only[Wb,ks]at hb;subst hb;exact⟨vs,rfl,hv⟩
 |(i,ds)::qs,(i',x)::ps,cs,cs',vs,hq,hb,hv=>by
  obtain⟨⟨rfl,h1⟩,h2⟩:=hq;simp only[Wb]at hb;split at hb
  .rename_i off size hf;split at hb
   .rename_i hc;simp only[Hy,decide_eq_true_eq]at hc;have hlen:=h1.length;have hvl:cs.length=vs.size:=by simpa using hv.length
    simp at hlen;obtain⟨vs',q1,q2⟩:=X6 hpl qs ps _ cs' (qH vs.toList off x.cells.toList).toArray h2 hb (by
     rw[JC];exact All2.upds _ _ _ _ _ h1 hv)
    refine⟨vs',?_,q2⟩;simp only[M2,hpl _ _ hf];rw[if_neg (by simp;omega)];have:=yz (v:=x) (off:=off) (cells:=vs);rw[this];exact q1
   .simp at hb
  .simp at hb
 |[],_::_,_,_,_,hq,_,_=>hq.elim
 |_::_,[],_,_,_,hq,_,_=>hq.elim
theorem X7 {F':Nat->Prop}:∀{z:List Value},(∀x∈z,x.oneCell'=true)->All2 (CD w F') (z.map xG) z
 |[],_=>trivial
 |x::z,h=>⟨yr _ _ x (h x (by simp)),X7 λy hy=>h y (by simp[hy])⟩
theorem Ti (w:World) (F:Nat->Prop) (v:Value) (h:v.oneCell'=true):CVC loc st.objs w F (Xl v) v:=by
 unfold Xl;split
 .rfl
 .exact yr w F v h
theorem X8:∀{z:List Value},(∀x∈z,x.oneCell'=true)->All2 (CVC loc st.objs w F) (z.map Xl) z
 |[],_=>trivial
 |x::z,h=>⟨Ti _ _ x (h x (by simp)),X8 λy hy=>h y (by simp[hy])⟩
omit [Env] in
theorem JI:∀(vs:List D) (cs:List VC) (off:Nat),NO cs off vs=qH cs off (vs.map VC.d)
 |[],cs,off=>rfl
 |v::vs,cs,off=>by simp[qH,NO,JI vs]
theorem RH {loc':Where} {objs':List Obj} {F':Nat->Prop}:∀{ds:List D} {xs:List Value},All2 (CD w F') ds xs->All2 (CVC loc' objs' w F') (ds.map VC.d) xs
 |[],[],_=>trivial
 |_::_,_::_,h=>⟨h.1,RH h.2⟩
 |[],_::_,h=>h.elim
 |_::_,[],h=>h.elim
omit [Env] in
theorem X9 {pl:List (Nat×Nat)}:∀(qs:List (Nat×List D)) (cs cs':List VC),Q1 pl qs cs=some cs'->z5 cs=[]->z5 cs'=[]
 |[],cs,cs',h,hk=>by simp only[Q1,ks]at h;subst h;exact hk
 |(i,ds)::qs,cs,cs',h,hk=>by
  simp only[Q1]at h;split at h
  .split at h
   .refine X9 qs _ cs' h ?_;rw[JI];rw[List.eq_nil_iff_forall_not_mem]at hk ⊢;intro k hk';obtain⟨c',hc',hkv⟩:=xx.1 hk';have hm:∀(l:List VC) (cs:List VC) (off:Nat) (v:VC),v∈qH cs off l->v∈cs\/v∈l:=by
     intro l
     induction l with
     |nil=>intro cs off v hv;exact .inl hv
     |cons d l ih=>
      intro cs off v hv;rcases ih _ _ _ hv with hv|hv
      .rcases xJ hv with hv|rfl
       .exact .inl hv
       .exact .inr (by simp)
      .exact .inr (by simp[hv])
    rcases hm _ _ _ _ hc' with h1|h1
    .exact hk k (xx.2 ⟨_,h1,hkv⟩)
    .obtain⟨_,_,rfl⟩:=gq.1 h1;simp[VC.v,qh]at hkv
   .simp at h
  .simp at h
omit [Env] in
theorem kJ:∀(z:List Value),z5 (z.map Xl)=[]
 |[]=>rfl
 |v::z=>by
  simp only[gz];unfold Xl;split
  .exact kJ z
  .exact kJ z
theorem XA {loc':Where} {objs':List Obj} {F':Nat->Prop} {pl:List (Nat×Nat)} {place:Nat->Option (Nat×Nat)} (hpl:∀i p,pl[i]? =some p->place i=some p):
 ∀(qs:List (Nat×List D)) (ps:List (Nat×Value)) (cs cs':List VC) (vs:Array Value),All2 (λq (p:Nat×Value)=>q.1=p.1/\All2 (CD w F') q.2 p.2.cells.toList) qs ps->Q1 pl qs cs=some cs'->All2 (CVC loc' objs' w F') cs vs.toList->
  ∃vs':Array Value,M2 place vs ps=some vs'/\All2 (CVC loc' objs' w F') cs' vs'.toList
 |[],[],cs,cs',vs,_,hb,hv=>by simp only[Q1,ks]at hb;subst hb;exact⟨vs,rfl,hv⟩
 |(i,ds)::qs,(i',x)::ps,cs,cs',vs,hq,hb,hv=>by
  obtain⟨⟨rfl,h1⟩,h2⟩:=hq;simp only[Q1]at hb;split at hb
  .rename_i off size hf;split at hb
   .rename_i hc;simp only[Hy,decide_eq_true_eq]at hc;have hlen:=h1.length;have hvl:cs.length=vs.size:=by simpa using hv.length
    simp at hlen;obtain⟨vs',q1,q2⟩:=XA hpl qs ps _ cs' (qH vs.toList off x.cells.toList).toArray h2 hb (by
     rw[JI];exact All2.upds _ _ _ _ _ (RH h1) hv)
    refine⟨vs',?_,q2⟩;simp only[M2,hpl _ _ hf];rw[if_neg (by simp;omega)];have:=yz (v:=x) (off:=off) (cells:=vs);rw[this];exact q1
   .simp at hb
  .simp at hb
 |[],_::_,_,_,_,hq,_,_=>hq.elim
 |_::_,[],_,_,_,hq,_,_=>hq.elim
theorem cK {v:V} {c:VC} {x:Value} (h:vc1 st.objs v=some c) (hv:CV loc st.objs w F v x):c.v=v/\x.oneCell'=true:=by
 unfold vc1 at h;split at h
 .cases h;exact⟨rfl,I3 hv⟩
 .cases h;have hv:x= .slice none 0 0:=hv;subst hv;exact⟨rfl,rfl⟩
 .split at h
  .rename_i hk;cases h;refine⟨rfl,?_⟩;rcases hv _ _ _ hk with⟨_,_,_,rfl⟩|⟨_,_,rfl⟩<;>rfl
  .cases h
 .split at h
  .rename_i hk;cases h;refine⟨rfl,?_⟩;obtain⟨_,_,_,rfl⟩:=hv _ hk rfl;rfl
  .cases h
 .cases h
theorem XB {pl:List (Nat×Nat)} {place:Nat->Option (Nat×Nat)} (hpl:∀i p,pl[i]? =some p->place i=some p) (h:Conc C B F0 w0 F loc st a w):
 ∀(ps:List (Nat×Operand)) (j:Nat) (cs:List VC) (vs:Array Value),zO st.objs (ev st) pl j ps=some cs->j+ps.length=vs.size->
  ∃vs':Array Value,M2 place vs (ps.map λx=>(x.1,a.eval x.2))=some vs'/\vs'.size=vs.size/\(∀i,i<j->nth undef vs'.toList i=nth undef vs.toList i)/\All2 (CVC loc st.objs w F) cs (vs'.toList.drop j)
 |[],j,cs,vs,hb,hs=>by simp only[zO,ks]at hb;subst hb;refine⟨vs,rfl,rfl,λ_ _=>rfl,?_⟩;rw[List.drop_of_length_le (by simp at hs ⊢;omega)];trivial
 |(i,x)::ps,j,cs,vs,hb,hs=>by
  simp only[zO]at hb;split at hb
  .rename_i off size c cs' hp hc hb';split at hb
   .rename_i hchk;simp only[ks]at hb;subst hb;simp only[Hy]at hchk;obtain rfl:=g4 hchk.1;obtain rfl:=g4 hchk.2;obtain⟨hcv,hone⟩:=cK hc (qU h x).1;simp only[et]at hs;have hcells:(a.eval x).cells.toList=[a.eval x]:=by revert hone;cases a.eval x<;>intro hone<;>first|rfl|simp[cH]at hone
    obtain⟨vs',q1,q2,q3,q4⟩:=XB hpl h ps (off+1) cs' (qH vs.toList off (a.eval x).cells.toList).toArray hb' (by
     rw[hcells];simp[qH,xh];omega)
    have hsz:(qH vs.toList off (a.eval x).cells.toList).toArray.size=vs.size:=by rw[hcells];simp[qH,xh]
    have a0:nth undef vs'.toList off=a.eval x:=by rw[q3 off (by omega),hcells];simp only[qH];rw[qb _ _ _ (by simp;omega)]
    refine⟨vs',?_,q2.trans hsz,λk hk=>?_,?_⟩
    .simp only[gz,M2,hpl _ _ hp];have hsc:(a.eval x).cells.size=1:=by
      have:=congrArg List.length hcells
      simpa using this
     rw[if_neg (by simp[hsc];omega)];have:=yz (v:=a.eval x) (off:=off) (cells:=vs);rw[this];exact q1
    .rw[q3 k (by omega),hcells];simp only[qH];rw[qa _ _ _ (by omega)]
    .have a1:off<vs'.toList.length:=by simp;omega
     rw[List.drop_eq_getElem_cons a1];refine⟨?_,q4⟩;have e:vs'.toList[off]=a.eval x:=by rw[<-a0,qk _ a1]
     rw[e];refine CVC.of ?_ hone;rw[hcv];exact(qU h x).1
   .simp at hb
  .simp at hb
omit [Env] in
theorem vT {objs:List Obj} {ρ:Operand->V} {pl:List (Nat×Nat)}:∀(l:List (Nat×Operand)) (j:Nat) (cs:List VC),zO objs ρ pl j l=some cs->∀k∈z5 cs,nth .none objs k≠ .none
 |[],j,cs,hb,k,hk=>by simp only[zO,ks]at hb;subst hb;simp[z5]at hk
 |(i,x)::l,j,cs,hb,k,hk=>by
  simp only[zO]at hb;split at hb
  .rename_i off size c cs' hp hc hb';split at hb
   .simp only[ks]at hb;subst hb;obtain⟨c',hc',hkv⟩:=xx.1 hk;rcases fR.1 hc' with rfl|hc'
    .unfold vc1 at hc;split at hc
     .cases hc;simp[VC.v,qh]at hkv
     .cases hc;simp[VC.v,qh]at hkv
     .split at hc
      .rename_i h9;cases hc;simp only[VC.v,qh,fe]at hkv;subst hkv;rw[h9];simp
      .cases hc
     .split at hc
      .rename_i h9;cases hc;simp only[VC.v,qh,fe]at hkv;subst hkv;rw[h9];simp
      .cases hc
     .cases hc
    .exact vT l _ _ hb' k (xx.2 ⟨c',hc',hkv⟩)
   .simp at hb
  .simp at hb
theorem Ot {t:TypeId} {parts:Array (Nat×Operand)} (h:Conc C B F0 w0 F loc st a w):RS C B F0 w0 st a w ⟨dst,.build t parts,ty,pos,after,g⟩ (xl C ⟨dst,.build t parts,ty,pos,after,g⟩ (ev st) st.objs):=by
 simp only[xl];split
 .rename_i z pl hz a1;split
  .rename_i b2;split
   .rename_i cs hb;simp only[Hy]at b2;have hnp:=g4 b2.2.2;obtain⟨b5,zv,hi,a5,al,b3,a4,_⟩:=xy hz;have a2:∃a0:Array Value,C.P.built t ((parts.map λ(i,x)=>(i,a.eval x)).toList)=some a0/\All2 (CVC loc st.objs w F) cs a0.toList:=by
     have a3:(parts.map λ(i,x)=>(i,a.eval x)).toList=parts.toList.map λx=>(x.1,a.eval x.2):=by simp
     rw[a3];have b4:0+parts.toList.length=zv.cells.size:=by rw[hnp,g7,<-Array.length_toList,al]
     unfold QQ at a1;split at a1
     .rename_i fs hu;obtain⟨a0,q1,_,_,q2⟩:=XB (pl:=pl) (place:=(pl.toArray[·]?)) (λi p hp=>by simpa using hp) h _ _ cs zv.cells hb b4;exact⟨a0,by simp only[V1,hi,hu,a5,a1];exact q1,q2⟩
     .rename_i n e hu;split at a1
      .rename_i ie a7;simp only[ks]at a1;subst a1;obtain⟨a0,q1,_,_,q2⟩:=XB (place:=λk=>some (k*ie.size,ie.size)) (λi p hp=>by
        simp only[gb,kh]at hp;obtain⟨k,hk,rfl⟩:=hp;have:k=i:=by
         have:=gm (n:=n) (i:=i);rcases g6 i n with h1|h1
         .simp[h1]at hk;exact hk.symm
         .simp[h1]at hk
        subst this;rfl) h _ _ cs zv.cells hb b4
       exact⟨a0,by simp only[V1,hi,hu,a5,a7];exact q1,q2⟩
      .simp at a1
     .simp at a1
    obtain⟨a0,q1,q2⟩:=a2;have ad:Ref st.objs (.agv cs):=vT _ _ _ hb;refine⟨_,_,w,?_,.inl rfl,F,loc,h.pure (dst:=dst) (v:= .agv cs) (x:= .agg a0) ⟨a0,rfl,q2⟩ ad⟩;have hr:=run_build (P:=C.P) w t (parts.map λ(i,x)=>(i,a.eval x)) a0 q1;simp only[execOp,W2,hr,W1];rfl
   .trivial
  split
  .rename_i qs us hp;split
   .split
    .rename_i cs hb;obtain⟨b5,zv,hi,a5,al,b3,a4,_⟩:=xy hz;obtain⟨b1,a6⟩:=QU h hp;obtain⟨F',b0,an,ap⟩:=h.freezes b1 st.dirty;have hq:=a6 F' an ap;have ag:All2 (CD w F') (z.map xG) zv.cells.toList:=by rw[al];exact X7 a4
     have a2:∃a0:Array Value,C.P.built t ((parts.map λ(i,x)=>(i,a.eval x)).toList)=some a0/\All2 (CD w F') cs a0.toList:=by
      have a3:(parts.map λ(i,x)=>(i,a.eval x)).toList=parts.toList.map λx=>(x.1,a.eval x.2):=by simp
      rw[a3];unfold QQ at a1;split at a1
      .rename_i fs hu;obtain⟨a0,q1,q2⟩:=X6 (w:=w) (F':=F') (pl:=pl) (place:=(pl.toArray[·]?)) (λi p hp=>by simpa using hp) qs _ _ cs zv.cells hq hb ag;exact⟨a0,by simp only[V1,hi,hu,a5,a1];exact q1,q2⟩
      .rename_i n e hu;split at a1
       .rename_i ie a7;simp only[ks]at a1;subst a1;obtain⟨a0,q1,q2⟩:=X6 (w:=w) (F':=F') (place:=λk=>some (k*ie.size,ie.size)) (λi p hp=>by
         simp only[gb,kh]at hp;obtain⟨k,hk,rfl⟩:=hp;have:k=i:=by
          have:=gm (n:=n) (i:=i);rcases g6 i n with h1|h1
          .simp[h1]at hk;exact hk.symm
          .simp[h1]at hk
         subst this;rfl) qs _ _ cs zv.cells hq hb ag
        exact⟨a0,by simp only[V1,hi,hu,a5,a7];exact q1,q2⟩
       .simp at a1
      .simp at a1
     obtain⟨a0,q1,q2⟩:=a2;refine⟨_,_,w,?_,.inl rfl,F',loc,(b0.pure (dst:=dst) (v:= .ag cs) (x:= .agg a0) ⟨a0,rfl,q2⟩ trivial).redirty⟩;have hr:=run_build (P:=C.P) w t (parts.map λ(i,x)=>(i,a.eval x)) a0 q1;simp only[execOp,W2,hr,W1];rfl
    .trivial
   .split
    .rename_i cs hb;obtain⟨b5,zv,hi,a5,al,b3,a4,_⟩:=xy hz;obtain⟨b1,a6⟩:=QU h hp;obtain⟨F',b0,an,ap⟩:=h.freezes b1 st.dirty;have hq:=a6 F' an ap;have ag:All2 (CVC loc (upds st.objs us) w F') (z.map Xl) zv.cells.toList:=by rw[al];exact X8 (st:=⟨st.tmps,upds st.objs us,st.dirty⟩) a4
     have a2:∃a0:Array Value,C.P.built t ((parts.map λ(i,x)=>(i,a.eval x)).toList)=some a0/\All2 (CVC loc (upds st.objs us) w F') cs a0.toList:=by
      have a3:(parts.map λ(i,x)=>(i,a.eval x)).toList=parts.toList.map λx=>(x.1,a.eval x.2):=by simp
      rw[a3];unfold QQ at a1;split at a1
      .rename_i fs hu;obtain⟨a0,q1,q2⟩:=XA (loc':=loc) (objs':=upds st.objs us) (w:=w) (F':=F') (pl:=pl) (place:=(pl.toArray[·]?)) (λi p hp=>by simpa using hp) qs _ _ cs zv.cells hq hb ag;exact⟨a0,by simp only[V1,hi,hu,a5,a1];exact q1,q2⟩
      .rename_i n e hu;split at a1
       .rename_i ie a7;simp only[ks]at a1;subst a1;obtain⟨a0,q1,q2⟩:=XA (loc':=loc) (objs':=upds st.objs us) (w:=w) (F':=F') (place:=λk=>some (k*ie.size,ie.size)) (λi p hp=>by
         simp only[gb,kh]at hp;obtain⟨k,hk,rfl⟩:=hp;have:k=i:=by
          have:=gm (n:=n) (i:=i);rcases g6 i n with h1|h1
          .simp[h1]at hk;exact hk.symm
          .simp[h1]at hk
         subst this;rfl) qs _ _ cs zv.cells hq hb ag
        exact⟨a0,by simp only[V1,hi,hu,a5,a7];exact q1,q2⟩
       .simp at a1
      .simp at a1
     obtain⟨a0,q1,q2⟩:=a2;refine⟨_,_,w,?_,.inl rfl,F',loc,(b0.pure (dst:=dst) (v:= .agv cs) (x:= .agg a0) ⟨a0,rfl,q2⟩ (λk hk=>by rw[X9 _ _ _ hb (kJ z)]at hk;simp at hk)).redirty⟩;have hr:=run_build (P:=C.P) w t (parts.map λ(i,x)=>(i,a.eval x)) a0 q1;simp only[execOp,W2,hr,W1];rfl
    .trivial
  .trivial
 .trivial
end
end Eng
end
section
namespace Eng
open Go Go.RowKit
variable [Env]
section
variable {C:Cx} {B:Bd} {F0:Nat->Prop} {w0:World} {F:Nat->Prop} {loc:Where} {st:St} {a:Act} {w:World}
variable {dst:Option Nat} {ty:TypeId} {pos:String} {after:Array Edge} {g:Option (Nat×Bool)}
omit [Env] in
theorem zY {α β:Type} {R:α->β->Prop} (d:α) (e:β):∀{as:List α} {bs:List β},as.length=bs.length->(∀i,i<as.length->R (nth d as i) (nth e bs i))->All2 R as bs
 |[],[],_,_=>trivial
 |a::as,b::bs,hl,h=>⟨h 0 (by simp),zY d e (by simpa using hl) λi hi=>h (i+1) (by simpa using hi)⟩
 |[],_::_,hl,_=>by simp at hl
 |_::_,[],hl,_=>by simp at hl
omit [Env] in
theorem ZW {α:Type}:∀(ds l p:List α),l.length=ds.length->qH (p++l) p.length ds=p++ds
 |[],l,p,h=>by have:l=[]:=eU h;subst this;simp[qH]
 |d::ds,[],p,h=>by simp at h
 |d::ds,x::l,p,h=>by
  simp only[qH];have h1:upd (p++x::l) p.length d=(p++[d])++l:=by rw[xh,gp _ _ (hA _)];simp
  rw[h1];have:=ZW ds l (p++[d]) (by simpa using h);rw[cL]at this;simp only[et,ey,g7]at this;rw[this];simp
omit [Env] in
theorem qn {size:Nat}:∀{es:List (List D)},(∀e∈es,e.length=size)->es.flatten.length=es.length*size
 |[],_=>by simp
 |e::es,h=>by rw[eH,cL,h e (by simp),qn λe he=>h e (by simp[he]),et,hL];omega
theorem ZX {F':Nat->Prop} {size:Nat}:
 ∀(qs:List (Nat×List D)) (ps:List (Nat×Value)) (es es':List (List D)) (vs:Array Value),All2 (λq (p:Nat×Value)=>q.1=p.1/\All2 (CD w F') q.2 p.2.cells.toList) qs ps->Xo size qs es=some es'->
  (∀e∈es,e.length=size)->All2 (CD w F') es.flatten vs.toList->
  ∃vs':Array Value,M2 (λi=>some (i*size,size)) vs ps=some vs'/\All2 (CD w F') es'.flatten vs'.toList/\(∀e∈es',e.length=size)/\es'.length=es.length
 |[],[],es,es',vs,_,hb,hs,hv=>by simp only[Xo,ks]at hb;subst hb;exact⟨vs,rfl,hv,hs,rfl⟩
 |(i,ds)::qs,(i',x)::ps,es,es',vs,hq,hb,hs,hv=>by
  obtain⟨⟨rfl,h1⟩,h2⟩:=hq;simp only[Xo]at hb;split at hb
  .rename_i hc;simp only[Hy,decide_eq_true_eq]at hc;obtain⟨hc1,hc2⟩:=hc;have hlen:=h1.length;simp at hlen;have hvl:=hv.length;rw[qn hs]at hvl;simp at hvl;have hfl:=vS es hs i 0 ds hc2 (by omega);have hfull:qH (nth [] es i) 0 ds=ds:=by
    have:=ZW ds (nth [] es i) [] (by rw[qk _ hc2,hs _ (gr hc2),hc1])
    simpa using this
   rw[hfull,hR]at hfl;obtain⟨vs',q1,q2,q3,q4⟩:=ZX (F':=F') (size:=size) qs ps (upd es i ds) es' (qH vs.toList (i*size) x.cells.toList).toArray h2 hb (by
    intro e he;rcases xJ he with he|rfl
    .exact hs e he
    .exact hc1) (by rw[hfl];exact All2.upds _ _ _ _ _ h1 hv)
   refine⟨vs',?_,q2,q3,by rw[q4,qj]⟩;have hle:=Wj (s:=size) (m:=size-1) hc2;simp only[M2];rw[if_neg (by
    have h5:(i+1)*size<=es.length*size:=g5 _ hc2;rw[hL]at h5;simp;omega)]
   have:=yz (v:=x) (off:=i*size) (cells:=vs);rw[this];exact q1
  .simp at hb
 |[],_::_,_,_,_,hq,_,_,_=>hq.elim
 |_::_,[],_,_,_,hq,_,_,_=>hq.elim
theorem VD {F':Nat->Prop} {z:Array Value} {n:Nat} (h0:0<z.size) (hone:∀x∈z.toList,x.oneCell'=true):
 All2 (CD w F') (en n (z.toList.map xG)).flatten ((Dd (n*z.size)).map (z[· %z.size]!)).toList:=by
 have hs:∀e∈en n (z.toList.map xG),e.length=z.size:=λe he=>by rw[eu he];simp
 refine zY .undef undef ?_ λj hj=>?_
 .rw[qn hs];simp
 .rw[qn hs,gd]at hj;have hm:=ia j h0;have hq:j/z.size<n:=hP (by rw[hH];exact hj);have hjq:j=j/z.size*z.size+j%z.size:=by rw[hH];exact(hT j z.size).symm
  have h1:nth .undef (en n (z.toList.map xG)).flatten j=xG z[j%z.size]:=by
   conv=>lhs;rw[hjq]
   have hE:nth [] (en n (z.toList.map xG)) (j/z.size)=z.toList.map xG:=by rw[qk _ (by simpa using hq)];simp
   rw[xO hs _ _ (by simpa using hq) hm,hE,qk _ (by simpa using hm)];simp
  have h2:nth undef ((Dd (n*z.size)).map (z[· %z.size]!)).toList j=z[j%z.size]:=by rw[qk _ (by simpa using hj)];simp[hm]
  rw[h1,h2];exact yr _ _ _ (hone _ (by simp))
theorem JJ {d s:Nat} {es:List (List D)} {cs:Array Value} {e:TypeId} {cap:Nat} (h:Conc C B F0 w0 F loc st a w) (hd:qx st.objs d=true) (hroom:roomS s es.length) (hs0:0<s) (hs:∀x∈es,x.length=s)
 (hcap:es.length<=cap/\cap<=9223372036854775807) (hsz:cs.size=cap*s) (hcs:∀j,j<es.length*s->∃v,cs[j]? =some v/\CD w F (nth .undef es.flatten j) v) (hty:C.P.cellsOf e=s):
 Conc C B F0 w0 F (at_ loc d (w.heap.size,cap) e) (st.put dst (.arr d) [(d,.arr s es false)]) (a.put dst (.slice (some ⟨w.heap.size,0,none⟩) es.length cap)) (w.alloc (.cells cs e)):=by
 obtain⟨_,a0⟩:=qI hd;refine h.new hd ⟨hroom,hs0,hs,.inr ⟨w.heap.size,cap,cs,e,by simp[at_],?_,by show(w.heap.push _)[w.heap.size]? =_;simp,hsz,hcap,λj hj=>?_,(by show loc.P.cellsOf e=s;rw[h.prog];exact hty),by simp[at_]⟩⟩ ?_ ?_
 .show ¬F w.heap.size;intro hF;have:=h.bound _ hF;omega
 .obtain⟨v,h1,h2⟩:=hcs j hj;exact⟨v,h1,h2.mono (λ_ h=>h) λb hb=>Below.heap_alloc _ _ _ (h.bound b hb)⟩
 .intro s' es' fz' hc;rw[qb _ _ _ a0]at hc;simp only[J3]at hc;obtain⟨rfl,rfl,rfl⟩:=hc;exact .inl ⟨w.heap.size,cap,by simp[at_],rfl⟩
 .show nth .none (upd st.objs d (.arr s es false)) d≠ .none;rw[qb _ _ _ a0];simp
theorem JK {d:Nat} {cells:List V} {cs:Array Value} {e:TypeId} {cap:Nat} (h:Conc C B F0 w0 F loc st a w) (hd:qx st.objs d=true) (hroom:room cells.length)
 (hcap:cells.length<=cap/\cap<=9223372036854775807) (hsz:cs.size=cap) (hcs:∀j,j<cells.length->∃x,cs[j]? =some x/\CV loc st.objs w F (nth .any cells j) x/\x.oneCell'=true) (hrefs:∀v∈cells,Ref st.objs v) (hty:C.P.cellsOf e=1):
 Conc C B F0 w0 F (at_ loc d (w.heap.size,cap) e) (st.put dst (.vec d cells.length) [(d,.vec cells)]) (a.put dst (.slice (some ⟨w.heap.size,0,none⟩) cells.length cap)) (w.alloc (.cells cs e)):=by
 obtain⟨_,hlt⟩:=qI hd;have a0:Le st.objs (upd st.objs d (.vec cells)) loc (at_ loc d (w.heap.size,cap) e):=SY hd;refine h.new hd ⟨w.heap.size,cap,cs,e,by simp[at_],?_,by show(w.heap.push _)[w.heap.size]? =_;simp,hsz,hcap,λj hj=>?_,λv hv=>(hrefs v hv).le a0,(by show loc.P.cellsOf e=1;rw[h.prog];exact hty),hroom⟩ ?_ ?_
 .intro hF;have:=h.bound _ hF;omega
 .obtain⟨v,h1,h2,h3⟩:=hcs j hj;exact⟨v,h1,CV.le (λ_ h=>h) (λb hb=>Below.heap_alloc _ _ _ (h.bound b hb)) a0 (hrefs _ (qT hj)) h2,h3⟩
 .intro o ho hb;exact⟨w.heap.size,cap,by simp[at_],rfl⟩
 .show nth .none (upd st.objs d (.vec cells)) d≠ .none;rw[qb _ _ _ hlt];simp
omit [Env] in
theorem jU {P:Program} {t e:TypeId} (h:KU P t=some e):P.underlying t=some (.slice e):=by
 unfold KU at h;split at h
 .rename_i e' hu;simp only[ks]at h;subst h;exact hu
 .simp at h
omit [Env] in
theorem zz {d:Nat}:∀{us:List (Nat×Obj)} {objs:List Obj},Frz objs us->qx objs d=true->qx (upds objs us) d=true
 |[],_,_,h=>h
 |(k,o)::us,objs,hf,h=>by
  obtain⟨s,es,fz,h1,h2⟩:=hf (k,o) (by simp);simp only at h1 h2;subst h2;refine zz (us:=us) (objs:=upd objs k (.arr s es true)) (Frz.step h1 λp hp=>hf p (by simp[hp])) ?_;obtain⟨q1,q2⟩:=qI h;have hkd:k≠d:=by rintro rfl;rw[h1]at q1;simp at q1
  unfold qx;rw[qa _ _ _ hkd,qk _ q2];rw[qk _ q2]at q1;rw[q1]
omit [Env] in
theorem xE:∀(us us':List (Nat×Obj)) (objs:List Obj),upds objs (us++us')=upds (upds objs us) us'
 |[],_,_=>rfl
 |(k,o)::us,us',objs=>xE us us' (upd objs k o)
omit [Env] in
theorem JL {ρ:Operand->V} {ps:List (Nat×Operand)} {v:V} (h:JB ρ ps=v) (hv:v≠ .any):∃x,ps=[(0,x)]/\ρ x=v:=by
 unfold JB at h;split at h
 .exact⟨_,rfl,h⟩
 .exact absurd h.symm hv
theorem JM {t:TypeId} {len:Nat} {parts:Array (Nat×Operand)} (h:Conc C B F0 w0 F loc st a w):RS C B F0 w0 st a w ⟨dst,.buildSlice t len parts,ty,pos,after,g⟩ (xl C ⟨dst,.buildSlice t len parts,ty,pos,after,g⟩ (ev st) st.objs):=by
 simp only[xl];split
 .rename_i d;split
  .rename_i e hd he;split
   .unfold Xr;split
    .rename_i j hpv;split
     .rename_i s' es' fz' hj;split
      .rename_i b3 hz;obtain rfl:=g4 b3;obtain⟨x,ad,hvx⟩:=JL hpv (by simp);have hx:=qU h x;rw[hvx]at hx;have a5:(a.eval x).oneCell'=true:=by
        rcases hx.1 s' es' fz' hj with⟨b1,c1,_,h2⟩|⟨_,_,h2⟩
        .rw[h2];rfl
        .rw[h2];rfl
       have h1:=yx a5;have h1s:(a.eval x).cells= #[a.eval x]:=by apply Gv;simpa using h1
       obtain⟨inf,zv,hi,bb,ap,hsz,an,_⟩:=xy hz;have ba:zv.cells.size=1:=by
        have:zv.cells.toList.length=1:=by rw[ap];rfl
        simpa using this
       have a3:=xe hz w;have a2:(parts.map λ(i,x)=>(i,a.eval x)).toList=[(0,a.eval x)]:=by simp[ad]
       have ag:(execOp a.eval ⟨some d,.buildSlice t 1 parts,ty,pos,after,g⟩).run C.P w= .ok (.value (.slice (some ⟨w.heap.size,0,none⟩) 1 1)) (w.alloc (.cells #[a.eval x] e)):=by
        have b6:(zeroValue e).run C.P w= .ok zv w:=by simp[zeroValue,typeInfo,hi,bb]
        have a0:M2 (λi=>some (i*1,1)) ((Dd (1*1)).map (zv.cells[· %zv.cells.size]!)) [(0,a.eval x)]=some #[a.eval x]:=by
         have e1:((Dd (1*1)).map (zv.cells[· %zv.cells.size]!)).size=1:=by simp
         have e2:∀(A:Array Value) (v:Value),A.size=1->A.setIfInBounds 0 v= #[v]:=λA v h=>by
          apply Array.ext
          .simpa using h
          .intro k hk1 hk2;have:k=0:=by simpa using hk2
           subst this;simp
         simp only[M2,h1s];rw[if_neg (by simp)];have e3:∀A:Array Value,Array.foldl (λ(cs:Array Value) (x:Value×Nat)=>cs.setIfInBounds (0*1+x.2) x.1) A (#[a.eval x]:Array Value).zipIdx=A.setIfInBounds 0 (a.eval x):=λA=>by simp[Array.zipIdx]
         have:=(e3 _).trans (e2 _ (a.eval x) e1);exact congrArg some this
        simp only[execOp,P1,W2,qM (jU he),W1,a3,et,ey,a2];simp only[W2,b6,W1,bF,a0,g7,j2,if_neg (show ¬(1>2^24)by decide),if_neg (show ¬(1=0)by decide)];simp[newRow]
       have a1:=JK (dst:=some d) (d:=d) (cells:=[.arr j]) (cs:= #[a.eval x]) (e:=e) (cap:=1) h hd (by unfold room;simp) ⟨hA _,by omega⟩ rfl (λk hk=>by
        have:k=0:=by simpa using hk
        subst this;exact⟨_,rfl,hx.1,a5⟩) (λv hv=>by rw[fe.1 hv];exact hx.2) (zT hz)
       exact⟨_,_,_,ag,.inl rfl,F,_,a1⟩
      .trivial
     .trivial
    .trivial
   split
   .rename_i z qs us hz hp;split
    .rename_i es hb;split
     .rename_i hc;simp only[Hy,decide_eq_true_eq]at hc;obtain⟨hc1,b2⟩:=hc;obtain⟨inf,zv,hi,bb,ap,hsz,an,_⟩:=xy hz;obtain⟨bc,b0⟩:=QU h hp;obtain⟨F',hc',hF',hb'⟩:=h.freezes bc st.dirty;have hq:=b0 F' hF' hb';have ba:zv.cells.size=z.length:=by rw[<-ap];simp
      have a4:=VD (w:=w) (F':=F') (z:=zv.cells) (n:=len) (by omega) (by rw[ap];exact an);rw[ap,ba]at a4;obtain⟨al,q1,q2,q3,q4⟩:=ZX (F':=F') (size:=z.length) qs _ (en len (z.map xG)) es _ hq hb (λe he=>by rw[eu he];simp) a4;rw[gd]at q4;have a2:(parts.map λ(i,x)=>(i,a.eval x)).toList=parts.toList.map λx=>(x.1,a.eval x.2):=by simp
      have a7:¬(len*z.length>2^24):=by omega
      have a3:=xe hz w;have a0:M2 (λi=>some (i*z.length,z.length)) ((Dd (len*z.length)).map (zv.cells[· %zv.cells.size]!)) ((parts.map λ(i,x)=>(i,a.eval x)).toList)=some al:=by rw[a2,ba];exact q1
      have ag:(execOp a.eval ⟨some d,.buildSlice t len parts,ty,pos,after,g⟩).run C.P w= .ok (.value (.slice (some ⟨w.heap.size,0,none⟩) es.length es.length)) (w.alloc (.cells al e)):=by
       rw[q4];by_cases h0:len*z.length=0
       .have hr0:((Dd (len*z.length)).map (zv.cells[· %zv.cells.size]!))= #[]:=by rw[h0];simp
        rw[hr0]at a0;have hl0:len=0:=by
         rcases Nat.mul_eq_zero.1 h0 with h1|h1
         .exact h1
         .omega
        subst hl0;have a6:M2 (λi=>some (i*z.length,z.length)) #[] (parts.toList.map λx=>(x.1,a.eval x.2))=some al:=by rw[a2]at a0;exact a0
        simp[execOp,P1,qM (jU he),a3,Array.range_zero',a6,newRow]
       .simp only[execOp,P1,W2,qM (jU he),W1,a3,if_neg a7,if_neg h0];have b6:(zeroValue e).run C.P w= .ok zv w:=by simp[zeroValue,typeInfo,hi,bb]
        simp only[W2,b6,W1,bF,a0];simp[newRow]
      have b5:=q2.length;rw[qn q3]at b5;simp at b5;have a1:=JJ (dst:=some d) (st:=⟨st.tmps,upds st.objs us,st.dirty⟩) (d:=d) (s:=z.length) (es:=es) (cs:=al) (e:=e) (cap:=es.length) hc' (zz (objs:=st.objs) bc hd) (by refine .inl ?_;rw[q4];have:len*1<=len*z.length:=hX _ b2;omega) b2 q3 ⟨hA _,by rw[q4];have:len*1<=len*z.length:=hX _ b2;omega⟩ b5.symm (λj hj=>by
       refine⟨nth undef al.toList j,?_,q2.nth .undef undef _ _ j (by rw[qn q3];exact hj)⟩;rw[qk _ (by simp;omega)];simp[show j<al.size by omega])
      refine⟨_,_,_,ag,.inl rfl,F',at_ loc d (w.heap.size,es.length) e,?_⟩;have b4:(⟨st.tmps,upds st.objs us,st.dirty⟩:St).put (some d) (.arr d) [(d,.arr z.length es false)]=⟨(st.put (some d) (.arr d) (us++[(d,.arr z.length es false)])).tmps,(st.put (some d) (.arr d) (us++[(d,.arr z.length es false)])).objs,d::st.dirty⟩:=by simp only[St.put,xE];rfl
      rw[b4]at a1;exact(a1 (zT hz)).redirty
     .trivial
    .trivial
   .trivial
  .trivial
 .trivial
theorem Wn {t:TypeId} {x y:Operand} (h:Conc C B F0 w0 F loc st a w):RS C B F0 w0 st a w ⟨dst,.makeSlice t x y,ty,pos,after,g⟩ (xl C ⟨dst,.makeSlice t x y,ty,pos,after,g⟩ (ev st) st.objs):=by
 simp only[xl];have hx:=(qU h x).1;have hy:=(qU h y).1;split
 .rename_i d;split
  .rename_i e hd he;split
   .rename_i z l c hz hvx hvy;rw[hvx]at hx;rw[hvy]at hy;split
    .rename_i hc;simp only[Hy,decide_eq_true_eq]at hc;obtain⟨hc1,ap⟩:=hc;split
     case h_2=>
      split
      .rintro⟨h0,h1,h2⟩;subst h1;obtain⟨a0,zv,hi,an,a6,a7,a5,_⟩:=xy hz;unfold room at h2;have hby:C.P.bytesOf e=a0.bytes:=by simp[W0,hi]
       have ag:(a0.bytes:Int)*l<=4096*1073741824:=by
        have h3:(a0.bytes:Int)<=4096:=by omega
        have h4:l<=1073741824:=by omega
        exact Int.mul_le_mul h3 h4 (by omega) (by omega)
       have hr:=run_make (P:=C.P) w t e a0 zv (jU he) hi an .i64 .i64 l l h0 (Int.le_refl _) (by omega) (by omega);have a4:(execOp a.eval ⟨some d,.makeSlice t x y,ty,pos,after,g⟩).run C.P w= .ok (.value (.slice (some ⟨w.heap.size,0,none⟩) l.toNat l.toNat)) (w.alloc (.cells (madeCells zv.cells (l.toNat*a0.size)) e)):=by simp[execOp,kG hx,kG hy,hr]
       have b0:a0.size=1:=a7;have hz2:zv.cells= #[.slice none 0 0]:=by apply Gv;exact a6
       have a2:(en l.toNat V.nilS).length=l.toNat:=by simp
       have a1:=JK (dst:=some d) (d:=d) (cells:=en l.toNat .nilS) (cs:=madeCells zv.cells (l.toNat*a0.size)) (e:=e) (cap:=l.toNat) h hd (by unfold room;rw[a2];omega) (by rw[a2];omega)
        (by rw[size_madeCells,b0,hS]) (λj hj=>by
         rw[a2]at hj;refine⟨.slice none 0 0,?_,?_,rfl⟩
         .unfold madeCells;rw[b0,hz2,hS,Array.getElem?_map,Array.getElem?_range,if_pos hj];simp[Nat.mod_one]
         .rw[qk _ (by simpa using hj)];simp;rfl) (λv hv=>by rw[eu hv];trivial) (zT hz)
       rw[a2]at a1;exact⟨_,_,_,a4,.inl rfl,F,_,a1⟩
      .trivial
     rintro⟨h0,h1,h2⟩;obtain⟨a0,zv,hi,an,a6,a7,a5,_⟩:=xy hz;unfold room at h2;have hby:C.P.bytesOf e=a0.bytes:=by simp[W0,hi]
     have ag:(a0.bytes:Int)*c<=4096*1073741824:=by
      have h3:(a0.bytes:Int)<=4096:=by omega
      have h4:c<=1073741824:=by omega
      exact Int.mul_le_mul h3 h4 (by omega) (by omega)
     have hr:=run_make (P:=C.P) w t e a0 zv (jU he) hi an .i64 .i64 l c h0 h1 (by omega) (by omega);have a4:(execOp a.eval ⟨some d,.makeSlice t x y,ty,pos,after,g⟩).run C.P w= .ok (.value (.slice (some ⟨w.heap.size,0,none⟩) l.toNat c.toNat)) (w.alloc (.cells (madeCells zv.cells (c.toNat*a0.size)) e)):=by simp[execOp,kG hx,kG hy,hr]
     have hzs:zv.cells.size=z.length:=by rw[<-a6];simp
     have a3:=VD (w:=w) (F':=F) (z:=zv.cells) (n:=c.toNat) (by omega) (by rw[a6];exact a5);rw[a6]at a3;have a2:(en l.toNat (z.map xG)).length=l.toNat:=by simp
     have al:∀n,∀e∈en n (z.map xG),e.length=z.length:=λn e he=>by rw[eu he];simp
     have a1:=JJ (dst:=some d) (d:=d) (s:=z.length) (es:=en l.toNat (z.map xG)) (cs:=madeCells zv.cells (c.toNat*a0.size)) (e:=e) (cap:=c.toNat) h hd (by refine .inl ?_;rw[a2];omega) ap (al _) (by rw[a2];omega)
      (by rw[size_madeCells,a7]) (λj hj=>by
       rw[a2]at hj;have ad:j<c.toNat*z.length:=ib hj (g5 _ (by omega));have h5:=a3.nth .undef undef _ _ j (by rw[qn (al _),gd];exact ad);refine⟨nth undef ((Dd (c.toNat*zv.cells.size)).map (zv.cells[· %zv.cells.size]!)).toList j,?_,?_⟩
       .unfold madeCells;rw[a7,hzs,qk _ (by simpa using ad)];simp[ad]
       .have hm:=ia j ap;have hjq:j=j/z.length*z.length+j%z.length:=by rw[hH];exact(hT j z.length).symm
        have hq1:j/z.length<l.toNat:=hP (by rw[hH];exact hj);have hq2:j/z.length<c.toNat:=by omega
        have hE:∀n,j/z.length<n->nth .undef (en n (z.map xG)).flatten j=nth .undef (z.map xG) (j%z.length):=λn hn=>by
         have hE1:nth [] (en n (z.map xG)) (j/z.length)=z.map xG:=by rw[qk _ (by simpa using hn)];simp
         conv=>lhs;rw[hjq]
         rw[xO (al _) _ _ (by simpa using hn) hm,hE1]
        have:nth .undef (en l.toNat (z.map xG)).flatten j=nth .undef (en c.toNat (z.map xG)).flatten j:=by rw[hE _ hq1,hE _ hq2]
        rw[this];exact h5)
     rw[a2]at a1;exact⟨_,_,_,a4,.inl rfl,F,_,a1 (zT hz)⟩
    .trivial
   .trivial
  .trivial
 .trivial
end
end Eng
end
section
namespace Eng
open Go Go.RowKit
variable [Env]
section
variable {C:Cx} {B:Bd} {F0:Nat->Prop} {w0:World} {F:Nat->Prop} {loc:Where} {st:St} {a:Act} {w:World}
variable {dst:Option Nat} {ty:TypeId} {pos:String} {after:Array Edge} {g:Option (Nat×Bool)}
theorem YB {d s:Nat} (h:Conc C B F0 w0 F loc st a w) (hd:qx st.objs d=true) (hs0:0<s):
 Conc C B F0 w0 F loc (st.put dst (.arr d) [(d,.arr s [] false)]) (a.put dst (.slice none 0 0)) w:=by
 obtain⟨a0,a2⟩:=qI hd;have a1:loc d=none:=by have:=h.objs d;rw[a0]at this;exact this
 have a3:Le st.objs (upd st.objs d (.arr s [] false)) loc loc:=by
  refine⟨rfl,λ_ _=>rfl,λk hk=>?_,λk o' hk hc hbx=>?_,λk s' es' fz' hk hc=>?_⟩
  .by_cases hkd:d=k
   .subst hkd;exact absurd a0 hk
   .rw[qa _ _ _ hkd];exact hk
  .by_cases hkd:d=k
   .subst hkd;exact absurd a0 hk
   .rw[qa _ _ _ hkd]at hc;exact⟨by rw[hc];exact hbx,rfl⟩
  .by_cases hkd:d=k
   .subst hkd;exact absurd a0 hk
   .rw[qa _ _ _ hkd]at hc;exact⟨⟨_,_,hc,rfl⟩,rfl⟩
 refine h.step (up:=[(d,.arr s [] false)]) (loc':=loc) (λ_ h=>h) (λ_ _=>rfl) a3 h.below h.hB (λk=>?_) h.inj h.fresh h.bound h.fsub ?_ ?_
 .show CO _ (upd st.objs d (.arr s [] false)) _ _ _ (nth .none (upd st.objs d (.arr s [] false)) k);by_cases hk:d=k
  .subst hk;rw[qb _ _ _ a2];exact⟨by simp[roomS],hs0,by simp,.inl ⟨a1,rfl⟩⟩
  .rw[qa _ _ _ hk];exact CO.le (λ_ h=>h) (λ_ _=>rfl) a3 rfl rfl (λb c hb=>⟨rfl,λh=>h⟩) (h.objs k)
 .intro s' es' fz' hc;show _\/_;rw[show upds st.objs [(d,.arr s [] false)]=upd st.objs d (.arr s [] false)from rfl,qb _ _ _ a2]at hc;simp only[J3]at hc;obtain⟨rfl,rfl,rfl⟩:=hc;exact .inr ⟨a1,rfl,rfl⟩
 .show nth .none (upd st.objs d (.arr s [] false)) d≠ .none;rw[qb _ _ _ a2];simp
theorem Ff {v:V} {x:Value} {ys:List (List D)} {us:List (Nat×Obj)} (h:Conc C B F0 w0 F loc st a w) (hc:vM st.objs v=some (ys,us)) (hv:CV loc st.objs w F v x):
 ∃ad c,x= .slice ad ys.length c/\(ys=[]\/∃b o size,ad=some ⟨b,o,none⟩/\(∀e∈ys,e.length=size)/\∀j,j<ys.length*size->∃u,w.cell? ⟨b,o+j,none⟩=some u/\CD w F (nth .undef ys.flatten j) u):=by
 unfold vM at hc;split at hc
 .simp only[ks,k0]at hc;obtain⟨rfl,rfl⟩:=hc;obtain⟨ad,c,h1,_,h2⟩:=I2 (hv:CD w F _ _);refine⟨ad,c,h1,?_⟩;rcases h2 with h2|⟨b,o,size,h2,h3⟩
  .exact .inl h2
  .exact .inr ⟨b,o,size,h2,h3.hs,h3.hc⟩
 .simp only[ks,k0]at hc;obtain⟨rfl,rfl⟩:=hc;exact⟨none,0,hv,.inl rfl⟩
 .rename_i k;split at hc
  .rename_i s es' fz hk;simp only[ks,k0]at hc;obtain⟨rfl,rfl⟩:=hc;have h0:=h.objs k;rw[hk]at h0;obtain⟨_,_,hs,h4⟩:=h0;rcases hv s es' fz hk with⟨b,c,q1,rfl⟩|⟨q1,rfl,rfl⟩
   .rcases h4 with⟨h4,rfl⟩|⟨b',c',cs,t,h4,h5,h6,h7,h8,h9⟩
    .exact⟨_,c,rfl,.inl rfl⟩
    .rw[h4]at q1;simp only[ks,k0]at q1;obtain⟨rfl,rfl⟩:=q1;refine⟨_,c',rfl,.inr ⟨b',0,s,rfl,hs,λj hj=>?_⟩⟩;obtain⟨u,r1,r2⟩:=h9.1 j hj;exact⟨u,by rw[xI h6,g7];exact r1,r2⟩
   .exact⟨none,0,rfl,.inl rfl⟩
  .simp at hc
 .simp at hc
omit [Env] in
theorem YC {es:List (List D)} {s o l j:Nat} (hs:∀e∈es,e.length=s) (hol:o+l<=es.length) (hj:j<l*s):nth .undef ((es.drop o).take l).flatten j=nth .undef es.flatten (o*s+j):=by
 have e1:es.flatten=(es.take o).flatten++(((es.drop o).take l).flatten++((es.drop o).drop l).flatten):=by rw[<-fy,<-fy,fg,fg]
 have l1:(es.take o).flatten.length=o*s:=by rw[qn (λe he=>hs e (ep he)),eL,hO (by omega)]
 have l2:((es.drop o).take l).flatten.length=l*s:=by rw[qn (λe he=>hs e (ez (ep he))),eL,gn,hO (by omega)]
 rw[e1,qw,qw,fk (by omega),l1,hK,fx (by omega)]
theorem Bk {v:V} {x:Value} {ys:List (List D)} (h:Conc C B F0 w0 F loc st a w) (hc:v9 st.objs v=some ys) (hv:CV loc st.objs w F v x):
 ∃ad c,x= .slice ad ys.length c/\(ys=[]\/∃b o size,ad=some ⟨b,o,none⟩/\(∀e∈ys,e.length=size)/\∀j,j<ys.length*size->∃u,w.cell? ⟨b,o+j,none⟩=some u/\CD w F (nth .undef ys.flatten j) u):=by
 have a1:∀us,vM st.objs v=some (ys,us)->_:=λus hh=>Ff h hh hv
 unfold v9 at hc;split at hc
 .rename_i k o l;clear a1;split at hc
  .rename_i s a0 fz hk;simp only[ks]at hc;subst hc;have h0:=h.objs k;rw[hk]at h0;obtain⟨_,_,hs,h4⟩:=h0;rcases hv s a0 fz hk with⟨b,c,q1,q2,rfl⟩|⟨_,q1,rfl,rfl,rfl,rfl⟩|⟨_,q1,q2,rfl,ad,c,rfl⟩
   .rcases h4 with⟨h4,rfl⟩|⟨b',c',cs,t,h4,h5,h6,h7,h8,h9⟩
    .rw[h4]at q1;simp at q1
    .rw[h4]at q1;simp only[ks,k0]at q1;obtain⟨rfl,rfl⟩:=q1;have hl:((a0.drop o).take l).length=l:=by rw[eL,gn];omega
     refine⟨some ⟨b',o*s,none⟩,c'-o,by rw[hl],.inr ⟨b',o*s,s,rfl,λe he=>hs e (ez (ep he)),λj hj=>?_⟩⟩;rw[hl]at hj;have hj2:o*s+j<a0.length*s:=by have:=g5 s q2;rw[hD]at this;omega
     obtain⟨u,r1,r2⟩:=h9.1 _ hj2;rw[YC hs q2 hj];exact⟨u,by rw[xI h6];exact r1,r2⟩
   .exact⟨none,0,by simp,.inl (by simp)⟩
   .exact⟨ad,c,by simp,.inl (by simp)⟩
  .simp at hc
 .split at hc
  .rename_i es us hh;simp only[ks]at hc;subst hc;exact a1 us hh
  .simp at hc
omit [Env] in
theorem jr {P:Program} {t e ty:TypeId} {z:List Value} (ht:P.underlying t=some (.slice e)) (hz:zN P e=some z) (base:Option Addr) (sLen sCap:Nat) (hle:sLen<=sCap) (ad:Option Addr) (c:Nat) (w:World):
 (Lr #[t,t] ty #[.slice base sLen sCap,.slice ad 0 c]).run P w= .ok (.slice base sLen sCap) w:=by
 have h2:=xe hz w;have h3:∀x:Addr,(loadCells x 0).run P w= .ok #[] w:=λx=>rfl
 cases base<;>cases ad<;>simp[Lr,qM ht,h2,Lv,Builtin.firstCells,hle,storeCells,h3]
omit [Env] in
theorem vH {P:Program} {t e ty t':TypeId} {inf:TypeInfo} (ht:P.underlying t=some (.slice e)) (hi:P.info? e=some inf) {b sLen sCap:Nat} {cur:Array Value} (hg:w.heap[b]? =some (.cells cur t' (0,0)))
 (ad:Addr) (m c:Nat) (news:List Value) (hl:news.length=m*inf.size) (hnews:∀j u,news[j]? =some u->w.cell? (ad.add j)=some u) (h1:∀u∈news,u.oneCell'=true)
 (hroom:sLen+m<=sCap) (hfit:sLen*inf.size+news.length<=cur.size):
 (Lr #[t,t] ty #[.slice (some ⟨b,0,none⟩) sLen sCap,.slice (some ad) m c]).run P w=
  .ok (.slice (some ⟨b,0,none⟩) (sLen+m) sCap) (setBlk w b (.cells (qH cur.toList (sLen*inf.size) news).toArray t' (0,0))):=by
 have hf:=run_firstCells_some (P:=P) w inf.size m ad m c news hl hnews;have a0:=xU (P:=P) (o:=sLen*inf.size) news 0 w cur hg (by omega) h1;simp only[hR]at a0;simp[Lr,qM ht,J4,typeInfo,hi,Lv,hroom,hf,xm,a0]
omit [Env] in
theorem JN {objs:List Obj} {v:V} {cells:List V} {up:List (Nat×Obj)} (h:SS objs v=some (cells,up)):(v= .nilS/\cells=[]/\up=[])\/∃k,v= .vec k cells.length/\nth .none objs k= .vec cells/\up=[(k,.dead)]:=by
 unfold SS at h;split at h
 .simp only[ks,k0]at h;exact .inl ⟨rfl,h.1.symm,h.2.symm⟩
 .split at h
  .rename_i k n _ cs hk;split at h
   .rename_i hn;simp only[ks,k0]at h;obtain⟨rfl,rfl⟩:=h;exact .inr ⟨k,by rw[g4 hn],hk,rfl⟩
   .simp at h
  .simp at h
 .simp at h
theorem H2 {d:Nat} {x y:Operand} {t e:TypeId} (h:Conc C B F0 w0 F loc st a w) (hd:qx st.objs d=true) (he:KU C.P t=some e):
 RS C B F0 w0 st a w ⟨some d,.call ⟨.builtin .append, #[x,y], #[t,t]⟩,ty,pos,after,g⟩ (vN C.P d st.objs e (ev st x) (ev st y)):=by
 unfold vN;have hx:=(qU h x).1;have hy:=(qU h y).1;have hu:=jU he;split
 .rename_i xs up v u2 hxs hys hz;split
  .rename_i hc;simp only[Hy,decide_eq_true_eq,List.all_eq_true,I0]at hc;obtain⟨hc1,hcd⟩:=hc;intro a2;obtain⟨b3,zv,hi,cc,hzc,hsz,hone,_⟩:=xy hz;have b1:b3.size=1:=hsz;have hby:C.P.bytesOf e=b3.bytes:=by simp[W0,hi]
   obtain⟨ky,hvy,c3,_⟩:=(JN hys).resolve_left (by rintro⟨_,h1,_⟩;simp at h1);rw[hvy]at hy;obtain⟨b2,c2,hl2,c0⟩:=hy _ c3 rfl;have ba:=h.objs ky;rw[c3]at ba;obtain⟨b',c',csy,t',ap,_,b6,_,_,b4,b0,_⟩:=ba;rw[hl2]at ap;simp only[ks,k0]at ap;obtain⟨rfl,rfl⟩:=ap;obtain⟨x0,hx0,bg,bt⟩:=b4 0 (by simp);have bg:CV loc st.objs w F v x0:=bg;have be:Ref st.objs v:=b0 v (by simp);have c0:a.eval y= .slice (some ⟨b2,0,none⟩) 1 c2:=c0;have bs:∀j u,[x0][j]? =some u->w.cell? ((⟨b2,0,none⟩:Addr).add j)=some u:=λj u hj=>by
    cases j with
    |zero=>rw[xm,xI b6];simpa using hx0.trans (by simpa using hj)
    |succ j=>simp at hj
   have bb:∀r w',(Lr #[t,t] ty #[a.eval x,.slice (some ⟨b2,0,none⟩) 1 c2]).run C.P w= .ok r w'->(execOp a.eval ⟨some d,.call ⟨.builtin .append, #[x,y], #[t,t]⟩,ty,pos,after,g⟩).run C.P w= .ok (.value r) w':=λr w' hr=>by rw[<-c0]at hr;simp[execOp,resolve,invoke,builtin,hr]
   have hrm:xs.length+1<=1073741824:=a2;have c4:((xs.length+1)+(xs.length+1)/4+192)*b3.bytes<=281474976710656:=by have:((xs.length+1)+(xs.length+1)/4+192)*b3.bytes<=1342177472*4096:=iz (by omega) (by omega);omega
   have a7:∀(a3:Where) (an:St) (a4:List Value) (al:Nat),Conc C B F0 w0 F a3 an a w->qx an.objs d=true->a4.length=xs.length->(∀j,j<xs.length->∃u,a4[j]? =some u/\CV a3 an.objs w F (nth .any xs j) u/\u.oneCell'=true)->
    (∀u∈xs,Ref an.objs u)->CV a3 an.objs w F v x0->Ref an.objs v->
    Conc C B F0 w0 F (at_ a3 d (w.heap.size,grownCap w (xs.length+1) al e) e) (an.put (some d) (.vec d (xs.length+1)) [(d,.vec (xs++[v]))]) (a.put (some d) (.slice (some ⟨w.heap.size,0,none⟩) (xs.length+1) (grownCap w (xs.length+1) al e)))
     (w.drew.alloc (.cells (a4.toArray++[x0].toArray++Lm zv.cells (grownCap w (xs.length+1) al e-(xs.length+1))) e)):=by
    intro a3 an a4 al hC bc hol bx hrx hv' hr';have hge:=grownCap_ge w (xs.length+1) al e;have hzs:zv.cells.size=1:=by
     have:zv.cells.toList.length=1:=by rw[hzc];rfl
     simpa using this
    have:=JK (dst:=some d) (d:=d) (cells:=xs++[v]) (cs:=a4.toArray++[x0].toArray++Lm zv.cells (grownCap w (xs.length+1) al e-(xs.length+1))) (e:=e) (cap:=grownCap w (xs.length+1) al e) hC.drew bc (by rw[cL];exact a2)
     (by rw[cL];exact⟨hge,hM (grownCap_le_maxLen w _ al e (by simp only[maxLen];omega)) (by simp[maxLen])⟩)
     (by simp only[Hx,g1,size_zeroCells,hzs,et,ey];omega)
     (λj hj=>by
      rw[cL]at hj;simp only[et,ey]at hj;rcases g6 j xs.length with h1|h1
      .obtain⟨u,q1,q2,q3⟩:=bx j h1;refine⟨u,?_,?_,q3⟩
       .rw[Aw (by simp;omega),Aw (by simp;omega)];simpa using q1
       .rw[qw,fx h1,<-qw];exact CV.mem (w:=w) (w':=w.drew) (λ_ h=>h) (λ_ _=>rfl) q2
      .have:j=xs.length:=by omega
       subst this;refine⟨x0,?_,?_,bt⟩
       .rw[Aw (by simp;omega),Array.getElem?_append_right (by simp;omega)];simp[hol]
       .rw[qw,fk (hA _),hW];exact CV.mem (w:=w) (w':=w.drew) (λ_ h=>h) (λ_ _=>rfl) hv')
     (λu hu=>by rcases fS.1 hu with hu|hu;exact hrx u hu;rw[fe.1 hu];exact hr') (zT hz)
    rw[cL]at this;exact this
   rcases JN hxs with⟨bv,rfl,rfl⟩|⟨k,bv,hk,rfl⟩
   .rw[bv]at hx;have bw:a.eval x= .slice none 0 0:=hx;rw[bw]at bb;have hr:=run_append_nil (P:=C.P) w t ty e b3 zv hu hi cc ⟨b2,0,none⟩ 1 c2 [x0] (by simp[b1]) bs (by omega) (by omega) (hM (g5 _ (by omega)) c4);have:=a7 loc st [] 0 h hd rfl (by simp) (by simp) bg be;simp only[ey,g7,gu,Hu]at this;exact⟨_,_,_,bb _ _ hr,.inl rfl,F,_,this⟩
   .rw[bv]at hx;obtain⟨b,cap,hl,bw⟩:=hx _ hk rfl;have hkd:¬k=d:=λe=>by have:=hcd _ (fe.2 rfl);rw[e]at this;simp at this
    have ba:=h.objs k;rw[hk]at ba;obtain⟨b',cap',cs,t',ap,bm,b5,bl,hlc,bh,a1,h9⟩:=ba;rw[hl]at ap;simp only[ks,k0]at ap;obtain⟨rfl,rfl⟩:=ap;rw[bw]at bb;have hf:=h.fresh _ _ _ hl;have c1:nth .none st.objs k≠ .none:=by rw[hk];simp
    have ag:=Tf (loc:=loc) c1;have ad:=h.killO c1 (k::st.dirty);have a0:qx (upd st.objs k .dead) d=true:=by obtain⟨q1,q2⟩:=qI hd;unfold qx;rw[qa _ _ _ hkd,qk _ q2];rw[qk _ q2]at q1;rw[q1]
    have bd:∀o',(⟨st.tmps,upd st.objs k .dead,k::st.dirty⟩:St).put (some d) (.vec d (xs.length+1)) [(d,o')]=⟨(st.put (some d) (.vec d (xs.length+1)) [(k,.dead),(d,o')]).tmps,(st.put (some d) (.vec d (xs.length+1)) [(k,.dead),(d,o')]).objs,d::k::st.dirty⟩:=λo'=>rfl
    have hno:∀j c',ka loc k j≠some (b,c'):=by
     intro j c' hj;simp only[ka]at hj;split at hj
     .simp at hj
     .rename_i hjk;exact hjk (h.inj _ _ _ _ _ hj hl)
    have a6:∀j,j<xs.length->∃u,cs[j]? =some u/\CV (ka loc k) (upd st.objs k .dead) w F (nth .any xs j) u/\u.oneCell'=true:=λj hj=>by obtain⟨u,q1,q2,q3⟩:=bh j hj;exact⟨u,q1,CV.le (λ_ h=>h) (λ_ _=>rfl) ag (a1 _ (qT hj)) q2,q3⟩
    have cb:CV (ka loc k) (upd st.objs k .dead) w F v x0:=CV.le (λ_ h=>h) (λ_ _=>rfl) ag be bg;by_cases hfit:xs.length+1<=cap
    .have hr:=vH (P:=C.P) (ty:=ty) hu hi b5 ⟨b2,0,none⟩ 1 c2 [x0] (by simp[b1]) bs (by simpa using bt) hfit (by rw[b1];simp;omega);rw[b1,hS]at hr;have hlt:d<(upd st.objs k .dead).length:=(qI a0).2;have a5:Le (upd st.objs k .dead) (upd (upd st.objs k .dead) d (.vec (xs++[v]))) (ka loc k) (at_ (ka loc k) d (b,cap) t'):=SY a0;have hw:∀b',F b'->(setBlk w b (.cells (qH cs.toList xs.length [x0]).toArray t' (0,0))).heap[b']? =w.heap[b']? :=λb' hb=>za (λe=>bm (e▸hb))
     have:=ad.adopt (tt:=t') (dst:=some d) (d:=d) (b:=b) (cap:=cap) (ob:= .vec (xs++[v])) (v:= .vec d (xs.length+1)) (x:= .slice (some ⟨b,0,none⟩) (xs.length+1) cap) (cs:=(qH cs.toList xs.length [x0]).toArray) (t:=t') a0 hf bm hno
      ⟨b,cap,_,t',by simp[at_],bm,jE hf.2,by simp[qH,qj,bl],by rw[cL];exact⟨hfit,hlc.2⟩,λj hj=>by
       rw[cL]at hj;simp only[et,ey]at hj;rcases g6 j xs.length with h1|h1
       .obtain⟨u,q1,q2,q3⟩:=a6 j h1;refine⟨u,?_,?_,q3⟩
        .simp only[qH,xh];simp[show ¬xs.length=j by omega,q1]
        .rw[qw,fx h1,<-qw];exact CV.le (λ_ h=>h) hw a5 ((a1 _ (qT h1)).le ag) q2
       .have:j=xs.length:=by omega
        subst this;refine⟨x0,?_,?_,bt⟩
        .simp only[qH,xh];simp[show xs.length<cs.size by omega]
        .rw[qw,fk (hA _),hW];exact CV.le (λ_ h=>h) hw a5 (be.le ag) cb,
       λu hu=>by
        rcases fS.1 hu with hu|hu
        .exact((a1 u hu).le ag).le a5
        .rw[fe.1 hu];exact(be.le ag).le a5,by show loc.P.cellsOf t'=1;exact h9.1,by rw[cL];exact a2⟩
      (λo ho hb=>⟨b,cap,by simp[at_],rfl⟩)
      (by show nth .none (upd (upd st.objs k .dead) d (.vec (xs++[v]))) d≠ .none;rw[qb _ _ _ hlt];simp)
     rw[bd]at this;exact⟨_,_,_,bb _ _ hr,.inl rfl,F,_,this.redirty⟩
    .have hxl:xs.length<=cs.size:=by omega
     have hr:=run_append_grow (P:=C.P) w t ty e b3 zv hu hi cc ⟨b,0,none⟩ xs.length cap (cs.toList.take xs.length) (by rw[b1];simp;omega) (λj u hj=>by
      rw[xm,xI b5,g7];rw[ga]at hj;split at hj
      .simpa using hj
      .simp at hj) ⟨b2,0,none⟩ 1 c2 [x0] (by simp[b1]) bs (by omega) (by omega) (growslice_fits_wide (by omega) c4)
     have:=a7 _ _ (cs.toList.take xs.length) cap ad a0 (by simp;omega) (λj hj=>by
      obtain⟨u,q1,q2,q3⟩:=a6 j hj;exact⟨u,by rw[ga,if_pos hj];simpa using q1,q2,q3⟩) (λu hu=>(a1 u hu).le ag) cb (be.le ag)
     rw[bd]at this;exact⟨_,_,_,bb _ _ hr,.inl rfl,F,_,this.redirty⟩
  .trivial
 .trivial
theorem Tj {x y:Operand} {ts:Array TypeId} (h:Conc C B F0 w0 F loc st a w):RS C B F0 w0 st a w ⟨dst,.call ⟨.builtin .append, #[x,y],ts⟩,ty,pos,after,g⟩ (Xp C dst st.objs ts (ev st x) (ev st y)):=by
 unfold Xp;have hx:=(qU h x).1;have hy:=(qU h y).1;split
 .trivial
 rename_i d;split
 .trivial
 rename_i hd;split
 .rename_i t t2 hts;split
  .rename_i e he e0;have e0:t2=t:=by simpa using e0
   subst e0;have e4:ts= #[t2,t2]:=by apply Gv;simpa using hts
   subst e4;have hu:=jU he;split
   .exact H2 h (by simpa using hd) he
   split
   .rename_i ys z hel hz
    .split
     .rename_i hc;simp only[Hy,decide_eq_true_eq]at hc;obtain⟨hc1,ct⟩:=hc;obtain⟨al,zv,hi,e5,hzc,cm,hone,_⟩:=xy hz;have hzs:zv.cells.size=z.length:=by rw[<-hzc];simp
      have hby:C.P.bytesOf e=al.bytes:=by simp[W0,hi]
      obtain⟨ad,c,hye,cq⟩:=Bk h hel hy;have b3:∀v w',(Lr #[t2,t2] ty #[a.eval x,.slice ad ys.length c]).run C.P w= .ok v w'->(execOp a.eval ⟨some d,.call ⟨.builtin .append, #[x,y], #[t2,t2]⟩,ty,pos,after,g⟩).run C.P w= .ok (.value v) w':=λv w' hr=>by rw[<-hye]at hr;simp[execOp,resolve,invoke,builtin,hr]
      --the cells that are appended
      have b0:lens z.length ys->ys≠[]->∃b o,ad=some ⟨b,o,none⟩/\∃a0:List Value,a0.length=ys.length*al.size/\(∀j u,a0[j]? =some u->w.cell? ((⟨b,o,none⟩:Addr).add j)=some u)/\All2 (CD w F) ys.flatten a0:=by
       intro hl a7;rcases cq with hys|⟨b,o,e6,had,hs,bl⟩
       .exact absurd hys a7
       .obtain⟨y0,bt,rfl⟩:=gx a7;have cg:e6=z.length:=by rw[<-hl y0 (by simp),hs y0 (by simp)]
        subst cg;refine⟨b,o,had,?_⟩;have eb:∀j,∃u,j<(y0::bt).length*z.length->w.cell? ⟨b,o+j,none⟩=some u/\CD w F (nth .undef (y0::bt).flatten j) u:=λj=>by
         by_cases hj:j<(y0::bt).length*z.length
         .obtain⟨u,hu⟩:=bl j hj;exact⟨u,λ_=>hu⟩
         .exact⟨undef,λhh=>absurd hh hj⟩
        let f:Nat->Value:=λj=>Classical.choose (eb j)
        have hf:∀j,j<(y0::bt).length*z.length->w.cell? ⟨b,o+j,none⟩=some (f j)/\CD w F (nth .undef (y0::bt).flatten j) (f j):=λj hj=>Classical.choose_spec (eb j) hj
        refine⟨(List.range ((y0::bt).length*z.length)).map f,by simp[cm],λj u hj=>?_,?_⟩
        .rw[xm];simp only[gb,kh]at hj;obtain⟨k,hk,rfl⟩:=hj;rcases g6 j ((y0::bt).length*z.length)with h1|h1
         .rw[gm h1]at hk;simp only[ks]at hk;subst hk;exact(hf _ h1).1
         .rw[List.getElem?_eq_none (by simpa using h1)]at hk;simp at hk
        .refine zY .undef undef (by rw[qn hl];simp) λj hj=>?_
         rw[qn hl]at hj;rw[qk undef (by simpa using hj)];simp only[g2,List.getElem_range];exact(hf j hj).2
      --a new array out of all that there is
      have ap:∀(bs:Where) (cw:St) (es:List (List D)) (ag a0:List Value) (bg:Nat),Conc C B F0 w0 F bs cw a w->qx cw.objs d=true->roomS z.length (es.length+ys.length)->(∀q∈es,q.length=z.length)->(∀q∈ys,q.length=z.length)->
       All2 (CD w F) es.flatten ag->All2 (CD w F) ys.flatten a0->
       Conc C B F0 w0 F (at_ bs d (w.heap.size,grownCap w (es.length+ys.length) bg e) e) (cw.put (some d) (.arr d) [(d,.arr z.length (es++ys) false)]) (a.put (some d) (.slice (some ⟨w.heap.size,0,none⟩) (es.length+ys.length) (grownCap w (es.length+ys.length) bg e)))
        (w.drew.alloc (.cells (ag.toArray++a0.toArray++Lm zv.cells (grownCap w (es.length+ys.length) bg e-(es.length+ys.length))) e)):=by
       intro bs cw es ag a0 bg hC c3 a1 dl dr ho hn;have hge:=grownCap_ge w (es.length+ys.length) bg e;have ec:=ho.length;have ed:=hn.length;rw[qn dl]at ec;rw[qn dr]at ed;have dt:∀q∈es++ys,q.length=z.length:=λq hq=>by rcases fS.1 hq with hq|hq;exact dl q hq;exact dr q hq
       have:=JJ (dst:=some d) (d:=d) (s:=z.length) (es:=es++ys) (cs:=ag.toArray++a0.toArray++Lm zv.cells (grownCap w (es.length+ys.length) bg e-(es.length+ys.length))) (e:=e) (cap:=grownCap w (es.length+ys.length) bg e) hC.drew c3 (by rw[cL];exact a1) ct dt (by rw[cL];exact⟨hge,hM (grownCap_le_maxLen w _ bg e (by simp only[maxLen];have:=a1.max;omega)) (by simp[maxLen])⟩)
        (by
         simp only[Hx,g1,size_zeroCells,hzs,<-ec,<-ed,<-hD];congr 1;omega)
        (λj hj=>by
         rw[cL,hD]at hj;have cx:=All2.append ho hn;have:=cx.nth .undef undef _ _ j (by rw[cL,qn dl,qn dr];exact hj);refine⟨nth undef (ag++a0) j,?_,?_⟩
         .rw[qk _ (by rw[cL];omega)];rw[Aw (by simp;omega)];simp[show j<ag.length+a0.length by omega]
         .rw[fy];exact this.mono (λ_ h=>h) λ_ _=>rfl)
       rw[cL]at this;exact this (zT hz)
      have be:∀n,Hh (hU (C.P.bytesOf e) 56&&hU z.length 4) n->roomS z.length n/\(n+n/4+192)*al.bytes<=281474976710656:=λn hn=>by
       cases hb:(hU (C.P.bytesOf e) 56&&hU z.length 4)with
       |false=>rw[hb]at hn;have hn:n<=1073741824:=hn;have:(n+n/4+192)*al.bytes<=1342177472*4096:=iz (by omega) (by omega);exact⟨.inl hn,by omega⟩
       |true=>
        rw[hb]at hn;have hn:n<=4000000000000:=hn;rw[Hy]at hb;have h56:=g4 hb.1;have h4:=g4 hb.2;have hib:al.bytes=56:=by rw[<-h56];simp[W0,hi]
        refine⟨.inr ⟨h4,hn⟩,?_⟩;rw[hib];omega
      have c0:∀(k n:Nat) (es E:List (List D)),nth .none st.objs k= .arr z.length es false->E=es.take n->¬k=d->
       ((∃b cap,loc k=some (b,cap)/\n<=es.length/\a.eval x= .slice (some ⟨b,0,none⟩) n cap)\/(loc k=none/\E=[]/\a.eval x= .slice none 0 0))->
       Hh (hU (C.P.bytesOf e) 56&&hU z.length 4) (E.length+ys.length)->lens z.length ys->Does C B F0 w0 ⟨some d,.call ⟨.builtin .append, #[x,y], #[t2,t2]⟩,ty,pos,after,g⟩ a w (st.put (some d) (.arr d) [(k,.dead),(d,.arr z.length (E++ys) false)]):=by
       intro k n es E hk hE c4 c2 a4 a2;obtain⟨a1,cd⟩:=be _ a4;have a5:=h.kill hk (k::st.dirty);have a3:qx (upd st.objs k .dead) d=true:=by obtain⟨q1,q2⟩:=qI hd;unfold qx;rw[qa _ _ _ c4,qk _ q2];rw[qk _ q2]at q1;rw[q1]
       have b5:∀o',(⟨st.tmps,upd st.objs k .dead,k::st.dirty⟩:St).put (some d) (.arr d) [(d,o')]=⟨(st.put (some d) (.arr d) [(k,.dead),(d,o')]).tmps,(st.put (some d) (.arr d) [(k,.dead),(d,o')]).objs,d::k::st.dirty⟩:=λo'=>rfl
       have cv:=h.objs k;rw[hk]at cv;obtain⟨dd,_,el,cv⟩:=cv;have hs:∀e∈E,e.length=z.length:=λe he=>by rw[hE]at he;exact el e (ep he)
       have b1:=a1.max;rcases c2 with⟨b,cap,hl,ei,a6⟩|⟨hl,hE0,a6⟩
       .rcases cv with⟨bw,_⟩|⟨b',cap',cs,t',bw,cb,bh,b4,hlc,ea⟩
        .rw[hl]at bw;simp at bw
        rw[hl]at bw;simp only[ks,k0]at bw;obtain⟨rfl,rfl⟩:=bw;have cb:¬F b:=cb;have e7:E.length=n:=by rw[hE,eL];omega
        have cy:∀j,j<E.length*z.length->∃v,cs[j]? =some v/\CD w F (nth .undef E.flatten j) v:=λj hj=>by rw[e7]at hj;have hj2:j<es.length*z.length:=ib hj (g5 _ ei);obtain⟨v,r1,r2⟩:=ea.1 j hj2;refine⟨v,r1,?_⟩;have:=YC (o:=0) el (by omega) hj;rw[List.drop_zero,hQ,g7]at this;rw[hE,this];exact r2
        have dc:E.length<=cap:=by omega
        rw[<-e7]at a6;rw[a6]at b3;have hf:=h.fresh _ _ _ hl;have hno:∀j c',ka loc k j≠some (b,c'):=by
         intro j c' hj;simp only[ka]at hj;split at hj
         .simp at hj
         .rename_i hjk;exact hjk (h.inj _ _ _ _ _ hj hl)
        --the array stands where it stood,with em c1
        have bd:∀(an:List (List D)) (bv:Array Value),roomS z.length an.length->(∀q∈an,q.length=z.length)->bv.size=cap*z.length->an.length<=cap->(∀j,j<an.length*z.length->∃v,bv[j]? =some v/\CD w F (nth .undef an.flatten j) v)->
         Conc C B F0 w0 F (at_ (ka loc k) d (b,cap) t') (st.put (some d) (.arr d) [(k,.dead),(d,.arr z.length an false)]) (a.put (some d) (.slice (some ⟨b,0,none⟩) an.length cap)) (setBlk w b (.cells bv t' (0,0))):=by
         intro an bv r1 r2 r3 r4 r5;have eg:d<(upd st.objs k .dead).length:=(qI a3).2;have:=a5.adopt (tt:=t') (dst:=some d) (d:=d) (b:=b) (cap:=cap) (ob:= .arr z.length an false) (v:= .arr d) (x:= .slice (some ⟨b,0,none⟩) an.length cap) (cs:=bv) (t:=t') a3 hf cb hno
          ⟨r1,ct,r2,.inr ⟨b,cap,bv,t',by simp[at_],cb,jE hf.2,r3,⟨r4,hlc.2⟩,λj hj=>by
           obtain⟨v,p1,p2⟩:=r5 j hj;exact⟨v,p1,p2.mono (λ_ h=>h) λb' hb'=>za (λe=>cb (e▸hb'))⟩,ea.2.1,by simp[at_]⟩⟩
          (λs' es'' fz' hc=>by
           rw[qb _ _ _ eg]at hc;simp only[J3]at hc;obtain⟨rfl,rfl,rfl⟩:=hc;exact .inl ⟨b,cap,by simp[at_],rfl⟩)
          (by show nth .none (upd (upd st.objs k .dead) d (.arr z.length an false)) d≠ .none;rw[qb _ _ _ eg];simp)
         rw[b5]at this;exact this.redirty
        by_cases a7:ys=[]
        .subst a7;have:=bd E cs (a1.le (by omega)) hs b4 dc cy;rw[X2 bh]at this;rw[List.append_nil];exact⟨_,_,w,b3 _ _ (jr hu hz _ _ _ dc ad c w),.inl rfl,F,_,this⟩
        .obtain⟨b2,o2,rfl,a0,ba,bx,bb⟩:=b0 a2 a7;have hn1':a0.length=ys.length*z.length:=by rw[<-cm];exact ba
         have bc:All2 (CD w F) E.flatten (cs.toList.take (E.length*z.length)):=by
          have hle:E.length*z.length<=cs.size:=by rw[b4];exact g5 _ dc
          refine zY .undef undef (by rw[qn hs];simp;omega) λj hj=>?_
          rw[qn hs]at hj;obtain⟨v,p1,p2⟩:=cy j hj;have:nth undef (cs.toList.take (E.length*z.length)) j=v:=by rw[qw,ga,if_pos hj];simp[p1]
          rw[this];exact p2
         have cc:∀u∈a0,u.oneCell'=true:=by
          have:∀(ds:List D) (vs:List Value),All2 (CD w F) ds vs->∀v∈vs,v.oneCell'=true:=by
           intro ds
           induction ds with
           |nil=>intro vs co v hv;cases vs with|nil=>simp at hv|cons _ _=>exact co.elim
           |cons d ds ih=>
            intro vs co v hv;cases vs with
            |nil=>exact co.elim
            |cons y vs=>
             rcases fR.1 hv with rfl|hv
             .exact co.1.one
             .exact ih vs co.2 v hv
          exact this _ _ bb
         by_cases hfit:E.length+ys.length<=cap
         .have b6:E.length*al.size+a0.length<=cs.size:=by rw[ba,b4,cm,<-hD];exact g5 _ hfit
          have hr:=vH (P:=C.P) (ty:=ty) hu hi bh ⟨b2,o2,none⟩ ys.length c a0 ba bx cc hfit b6;have dt:∀q∈E++ys,q.length=z.length:=λq hq=>by rcases fS.1 hq with hq|hq;exact hs q hq;exact a2 q hq
          have:=bd (E++ys) (qH cs.toList (E.length*al.size) a0).toArray (by rw[cL];exact a1) dt (by simp[xM,b4]) (by rw[cL];exact hfit) (λj hj=>by
           rw[cL,hD]at hj;rw[fy];have hl3:=bb.length;rw[qn a2]at hl3;have dv:(qH cs.toList (E.length*al.size) a0).length=cs.size:=by simp[xM]
           rw[cm]at b6 dv ⊢;refine⟨nth undef (qH cs.toList (E.length*z.length) a0) j,?_,?_⟩
           .rw[qk _ (by omega)];simp[show j<(qH cs.toList (E.length*z.length) a0).length by omega]
           .rcases g6 j (E.length*z.length)with h6|h6
            .rw[xZ _ _ _ _ _ h6];obtain⟨v,p1,p2⟩:=cy j h6;have e1:nth undef cs.toList j=v:=by rw[qw];simp[p1]
             have e2:nth .undef (E.flatten++ys.flatten) j=nth .undef E.flatten j:=by rw[qw,qw,fx (by rw[qn hs];exact h6)]
             rw[e1,e2];exact p2
            .obtain⟨i,rfl⟩:∃i,j=E.length*z.length+i:=⟨j-E.length*z.length,by omega⟩;rw[zy _ _ _ _ _ (by omega) (by simp;omega)];have e2:nth .undef (E.flatten++ys.flatten) (E.length*z.length+i)=nth .undef ys.flatten i:=by rw[qw,qw,fk (by rw[qn hs];omega),qn hs,hK]
             rw[e2];exact bb.nth .undef undef _ _ i (by rw[qn a2];omega))
          rw[cL]at this;exact⟨_,_,_,b3 _ _ hr,.inl rfl,F,_,this⟩
         .have ho1:(cs.toList.take (E.length*z.length)).length=E.length*al.size:=by have:=bc.length;rw[qn hs]at this;rw[cm];exact this.symm
          have hr:=run_append_grow (P:=C.P) w t2 ty e al zv hu hi e5 ⟨b,0,none⟩ E.length cap (cs.toList.take (E.length*z.length)) ho1 (λj v hj=>by
           rw[xm,xI bh,g7];rw[ga]at hj;split at hj
           .simpa using hj
           .simp at hj) ⟨b2,o2,none⟩ ys.length c a0 ba bx (by omega) (by omega) (growslice_fits_wide (by omega) cd)
          have:=ap _ _ E _ a0 cap a5 a3 a1 hs a2 bc bb;rw[b5]at this;exact⟨_,_,_,b3 _ _ hr,.inl rfl,F,_,this.redirty⟩
       .rw[a6]at b3;subst hE0;by_cases a7:ys=[]
        .subst a7;have:=YB (dst:=some d) a5 a3 ct;rw[b5]at this;exact⟨_,_,w,b3 _ _ (jr hu hz none 0 0 (hA _) ad c w),.inl rfl,F,_,this.redirty⟩
        .obtain⟨b,o,rfl,a0,ba,bx,bb⟩:=b0 a2 a7;have bm:0<ys.length:=g0.2 a7;simp only[ey,g7]at b1 cd;have hr:=run_append_nil (P:=C.P) w t2 ty e al zv hu hi e5 ⟨b,o,none⟩ ys.length c a0 ba bx bm (by omega) (hM (g5 _ (by omega)) cd);have:=ap _ _ [] [] a0 0 a5 a3 a1 (by simp) a2 trivial bb;simp only[ey,g7,gu,Hu]at this;rw[b5]at this;exact⟨_,_,_,b3 _ _ hr,.inl rfl,F,_,this.redirty⟩
      split
      .rename_i cp;rw[cp]at hx;have a6:a.eval x= .slice none 0 0:=hx;rw[a6]at b3;rintro⟨a4,a2⟩;obtain⟨a1,cd⟩:=be _ a4;have b1:=a1.max;by_cases a7:ys=[]
       .subst a7;exact⟨_,_,w,b3 _ _ (jr hu hz none 0 0 (hA _) ad c w),.inl rfl,F,loc,YB h hd ct⟩
       .obtain⟨b,o,rfl,a0,ba,bx,bb⟩:=b0 a2 a7;have bm:0<ys.length:=g0.2 a7;have hr:=run_append_nil (P:=C.P) w t2 ty e al zv hu hi e5 ⟨b,o,none⟩ ys.length c a0 ba bx bm (by omega) (hM (g5 _ (by omega)) cd);have:=ap loc st [] [] a0 0 h hd (by simpa using a1) (by simp) a2 trivial bb;simp only[ey,g7,gu,Hu]at this;exact⟨_,_,_,b3 _ _ hr,.inl rfl,F,_,this⟩
      .rename_i k cp;rw[cp]at hx;split
       .rename_i s es hk;split
        .rename_i cl;simp only[Hy,decide_eq_true_eq,I0,decide_eq_false_iff_not]at cl;obtain⟨rfl,c4⟩:=cl;rintro⟨a1,a2⟩;refine c0 k es.length es es hk (by simp) c4 ?_ a1 a2;rcases hx _ es false hk with⟨b,cap,hl,a6⟩|⟨hl,h0,a6⟩
         .exact .inl ⟨b,cap,hl,hA _,a6⟩
         .exact .inr ⟨hl,h0,a6⟩
        .trivial
       .trivial
      .rename_i k o n cp;rw[cp]at hx;split
       .rename_i s es ho hk;obtain rfl:=g4 ho;split
        .rename_i cl;simp only[Hy,decide_eq_true_eq,I0,decide_eq_false_iff_not]at cl;obtain⟨rfl,c4⟩:=cl;rintro⟨a1,a2⟩;refine c0 k n es (es.take n) hk rfl c4 ?_ a1 a2;rcases hx _ es false hk with⟨b,cap,hl,ei,a6⟩|⟨_,hl,h0,_,_,a6⟩|⟨_,h0,_⟩
         .exact .inl ⟨b,cap,hl,by omega,by rw[a6,hQ,Nat.sub_zero]⟩
         .exact .inr ⟨hl,by rw[h0];simp,a6⟩
         .omega
        .trivial
       .trivial
      .trivial
     .trivial
   .trivial
  .trivial
 .trivial
omit [Env] in
theorem ZY {α β:Type} {R:α->β->Prop}:∀{as:List α} {bs:List β},All2 R as bs->∀b∈bs,∃a,R a b
 |[],[],_,b,hb=>by simp at hb
 |a::as,c::bs,h,b,hb=>by
  rcases fR.1 hb with rfl|hb
  .exact⟨a,h.1⟩
  .exact ZY h.2 b hb
 |[],_::_,h,_,_=>h.elim
 |_::_,[],h,_,_=>h.elim
theorem Ou {x:Operand} {ts:Array TypeId} (h:Conc C B F0 w0 F loc st a w):RS C B F0 w0 st a w ⟨dst,.call ⟨.builtin .clear, #[x],ts⟩,ty,pos,after,g⟩ (Xq C st.objs ts (ev st x)):=by
 unfold Xq;have hx:=(qU h x).1;split
 .rename_i t hts;have ad:ts= #[t]:=by apply Gv;simpa using hts
  subst ad;split
  .rename_i e he;split
   .rename_i z k o l hz hv;rw[hv]at hx;split
    .rename_i s es hk;split
     .rename_i hsz;obtain rfl:=g4 hsz;intro hl0;obtain⟨b,c,hl,hol,hxe⟩:=(hx _ es false hk).resolve_right (by rintro(⟨_,_,_,_,h4,_⟩|⟨_,_,_,h4,_⟩)<;>omega);have a4:=h.objs k;rw[hk]at a4;obtain⟨an,hs0,hs,a4⟩:=a4;rcases a4 with⟨a2,_⟩|⟨b',c',cs,t',a2,hnF,a3,a5,hlc,hcs⟩
      .rw[hl]at a2;simp at a2
      rw[hl]at a2;simp only[ks,k0]at a2;obtain⟨rfl,rfl⟩:=a2;have hf:=h.fresh _ _ _ hl;obtain⟨inf,zv,hi,hzv,ag,hszz,a7,_⟩:=xy hz;have hzs:zv.cells.size=z.length:=by rw[<-ag];simp
      have a0:=VD (w:=w) (F':=F) (z:=zv.cells) (n:=l) (by omega) (by rw[ag];exact a7);rw[ag]at a0;have hin:(o+l)*z.length<=es.length*z.length:=g5 _ hol;have hinc:es.length*z.length<=c*z.length:=g5 _ hlc.1;have hml:=a0.length;have al:=qn (es:=en l (z.map xG)) (size:=z.length) (λe he=>by rw[eu he];simp);rw[gd]at al;have hadd:(o+l)*z.length=o*z.length+l*z.length:=hD ..;have a6:(Lm zv.cells l).toList.length=l*z.length:=by simp[Lm,hzs]
      have ap:=xU (P:=C.P) (b:=b) (o:=o*z.length) (Lm zv.cells l).toList 0 w cs a3 (by rw[a6,a5];omega) (λv hv=>?_)
      .refine⟨_,.tuple #[],setBlk w b (.cells (qH cs.toList (o*z.length) (Lm zv.cells l).toList).toArray t' (0,0)),?_,.inl rfl,?_⟩
       .have hzr:∀w,(zeroValue e).run C.P w= .ok zv w:=λw=>by simp[zeroValue,typeInfo,hi,hzv]
        have hll:∃m,l=m+1:=⟨l-1,by omega⟩;obtain⟨m,rfl⟩:=hll;rw[hR]at ap;simp[execOp,resolve,invoke,builtin,Builtin.clear_,hxe,qM (jU he),hzr,ap]
       .have h5:=ZF (.tuple #[]) (dst:=dst) (k:=k) (p:=o*z.length) (es':=es.take o++(en l (z.map xG)++es.drop (o+l))) h hk hl a3 a0 (by simp;omega) (λe' a1=>?_) ?_ (by omega)
        .exact⟨F,loc,h5⟩
        .rcases fS.1 a1 with a1|a1
         .exact hs _ (ep a1)
         .rcases fS.1 a1 with a1|a1
          .rw[eu a1];simp
          .exact hs _ (ez a1)
        .have e1:es=es.take o++((es.drop o).take l++es.drop (o+l)):=by rw[<-List.drop_drop,fg,fg]
         conv=>rhs;rw[e1]
         simp only[fy];have hta:(es.take o).flatten.length=o*z.length:=by rw[qn (λe he=>hs e (ep he)),eL,hO (by omega)]
         rw[<-hta,Wk];rw[al,qn (size:=z.length) (λe he=>hs e (ez (ep he))),eL,gn,hO (by omega)]
      .obtain⟨d,hd⟩:=ZY a0 v hv;exact hd.one
     .trivial
    .trivial
   .trivial
  .trivial
 .trivial
end
end Eng
end
