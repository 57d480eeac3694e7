import Derived.Test.YthpplhmhgcenkaaGreatDoorEngA
import Derived.Laws.IdiomStrings
import Derived.Deep.DeepAppendWide
open Array renaming ext'->Aw, getElem?_append_left->Dd, range->Gv, empty_append->Hu, toList_extract->Hv, size_append->Hx
open Bool renaming and_eq_true->Hy, not_eq_true'->I0, or_eq_false_iff->I1
open Classical renaming choose_spec->I2, choose->I3
open Eng.CD renaming int->J3, slice_inv->J4, one->Lm
open Eng.Obj.arr renaming injEq->Lr
open Go renaming sizeOf->Ls
open Go.Builtin renaming zeroCells->Lv, append_->M0, len_->M1, lenOf->M2
open Go.Instr renaming sliceBounds->M3, sliceAt->No, slice->Pl, fill->P1, indexAt->Sz, sureAddr->Tk, buildSlice->Ts, storeAt->U0, extract->U3, fieldAt->V1, field->W0
open Go.Obj.cells renaming injEq->W1
open Go.Program renaming bytesOf->W2, built->bF
open Go.Result renaming andThen_ok->cF
open Go.Sem renaming run_bind->cH, run_pure->cL
open List renaming length_append->el, replicate->en, length_cons->ep, mem_of_mem_take->ey, mem_cons->ez, eq_of_mem_replicate->eH, eq_nil_of_length_eq_zero->eL, length_nil->eU, mem_of_mem_drop->fe, flatten_cons->fg, length_take->fk, take_append_drop->fx, getElem?_append_right->fy, getElem?_append_left->fR, flatten_append->fS, mem_append->gb, getElem?_take->gd, length_replicate->gk, mem_singleton->gm, getElem?_map->gn, length_drop->gp, set_append_right->gq, getElem?_range->gr, range->gu, mem_map->gv, getElem_mem->gx, getElem_map->gy, all_eq_true->gz, nil_append->g0, exists_cons_of_ne_nil->g1, extract_eq_take_drop->g2, map_cons->g4, mem_cons_of_mem->g5, length_pos_iff->g6, mem_cons_self->g7, getElem_range->hA, size_toArray->hD
open Nat renaming mul_le_mul_right->hH, lt_or_ge->hK, zero_add->hL, eq_of_beq_eq_true->hM, le_refl->hP, add_mul->hQ, mul_comm->hR, add_sub_cancel_left->hS, zero_mul->hT, succ_mul->hU, le_trans->hV, add_zero->hW, min_eq_left->hX, div_lt_of_lt_mul->ia, mul_one->ib, div_add_mod->im, beq->iz, add_assoc->j2, sub_self->j4, one_mul->ka, mul_le_mul_left->kb, mod_lt->kk, lt_of_lt_of_le->ks, eq_zero_or_pos->k0, mul_le_mul->k1
open Ne renaming symm->k2
open Option renaming map_eq_some_iff->k3, map_none->k4
open Option.some renaming injEq->k5
open Prod.mk renaming injEq->k6
section
namespace Eng
open Go Go.RowKit
variable [Env]
section
variable {C:Cx} {B:Bd} {F0:Nat->Prop} {w0:World} {F:Nat->Prop} {loc:Where} {st:St} {a:Act} {w:World}
omit [Env] in
theorem yF {x:Value} (h:x.oneCell'=true):x.cells.toList=[x]:=by
 cases x<;>first|rfl|simp[Value.oneCell']at h
omit [Env] in
theorem zY {P:Program} {t t':TypeId} {z:List Value} {b o:Nat} {cs:Array Value} {x:Value} (hz:zQ P t=some z) (hb:w.heap[b]? =some (.cells cs t' (0,0))) (hlen:x.cells.toList.length=z.length)
 (hle:o+z.length<=cs.size) (hone:∀v∈x.cells.toList,v.oneCell'=true):
 (U0 t (.pointer (some ⟨b,o,none⟩)) x).run P w= .ok () (setBlk w b (.cells (qK cs.toList o x.cells.toList).toArray t' (0,0))):=by
 have h2:=xf hz w;have h3:=xX (P:=P) (o:=o) x.cells.toList 0 w cs hb (by omega) hone;have h4:¬x.cells.size≠z.length:=by rw[<-hlen];simp
 simp only[U0,Tk,storeVar,cH,cL,cF,h2,if_neg h4]
 simpa using h3
omit [Env] in
theorem SY {objs:List Obj} {k:Nat} {cells cells':List V} (hk:nth .none objs k= .box cells):Le objs (upd objs k (.box cells')) loc loc:=by
 have a0:k<objs.length:=by
  rcases hK k objs.length with h1|h1
  .exact h1
  .rw[qF _ h1]at hk;simp at hk
 refine⟨rfl,λ_ _=>rfl,λj hj=>?_,λj o' hj hc hbx=>?_,λj s' es' fz' hj hc=>?_⟩
 .by_cases hkj:k=j
  .subst hkj;rw[qb _ _ _ a0];simp
  .rw[qa _ _ _ hkj];exact hj
 .by_cases hkj:k=j
  .subst hkj;exact⟨by rw[hk];rfl,rfl⟩
  .rw[qa _ _ _ hkj]at hc;exact⟨by rw[hc];exact hbx,rfl⟩
 .by_cases hkj:k=j
  .subst hkj;rw[qb _ _ _ a0]at hc;simp at hc
  .rw[qa _ _ _ hkj]at hc;exact⟨⟨_,_,hc,rfl⟩,rfl⟩
omit [Env] in
theorem Ib {objs:List Obj} {k:Nat} {cells cells':List V} (hk:nth .none objs k= .vec cells):Le objs (upd objs k (.vec cells')) loc loc:=by
 have a0:k<objs.length:=by
  rcases hK k objs.length with h1|h1
  .exact h1
  .rw[qF _ h1]at hk;simp at hk
 refine⟨rfl,λ_ _=>rfl,λj hj=>?_,λj o' hj hc hbx=>?_,λj s' es' fz' hj hc=>?_⟩
 .by_cases hkj:k=j
  .subst hkj;rw[qb _ _ _ a0];simp
  .rw[qa _ _ _ hkj];exact hj
 .by_cases hkj:k=j
  .subst hkj;exact⟨by rw[hk];rfl,rfl⟩
  .rw[qa _ _ _ hkj]at hc;exact⟨by rw[hc];exact hbx,rfl⟩
 .by_cases hkj:k=j
  .subst hkj;rw[qb _ _ _ a0]at hc;simp at hc
  .rw[qa _ _ _ hkj]at hc;exact⟨⟨_,_,hc,rfl⟩,rfl⟩
omit [Env] in
theorem T0 {objs:List Obj} {k s:Nat} {es es':List (List D)} {fz fz':Bool} (hk:nth .none objs k= .arr s es fz) (hlen:es'.length=es.length):Le objs (upd objs k (.arr s es' fz')) loc loc:=by
 have a0:k<objs.length:=by
  rcases hK k objs.length with h1|h1
  .exact h1
  .rw[qF _ h1]at hk;simp at hk
 refine⟨rfl,λ_ _=>rfl,λj hj=>?_,λj o' hj hc hbx=>?_,λj s' es'' fz'' hj hc=>?_⟩
 .by_cases hkj:k=j
  .subst hkj;rw[qb _ _ _ a0];simp
  .rw[qa _ _ _ hkj];exact hj
 .by_cases hkj:k=j
  .subst hkj;rw[qb _ _ _ a0]at hc;rw[<-hc]at hbx;simp[xZ]at hbx
  .rw[qa _ _ _ hkj]at hc;exact⟨by rw[hc];exact hbx,rfl⟩
 .by_cases hkj:k=j
  .subst hkj;rw[qb _ _ _ a0]at hc;simp only[Lr]at hc;obtain⟨rfl,rfl,rfl⟩:=hc;exact⟨⟨_,_,hk,hlen⟩,rfl⟩
  .rw[qa _ _ _ hkj]at hc;exact⟨⟨_,_,hc,rfl⟩,rfl⟩
theorem Qz {dst:Option Nat} {k off b c:Nat} {cells vs:List V} {cs:Array Value} {t':TypeId} {xs:List Value} (h:Conc C B F0 w0 F loc st a w) (hk:nth .none st.objs k= .box cells) (hl:loc k=some (b,c))
 (hnF:¬F b) (hall:All2 (λv x=>CV loc st.objs w F v x/\x.oneCell'=true) cells cs.toList) (hrefs:∀v∈cells,Ref st.objs v)
 (hvs:All2 (λv x=>CV loc st.objs w F v x/\x.oneCell'=true) vs xs) (hvr:∀v∈vs,Ref st.objs v):
 Conc C B F0 w0 F loc (st.put dst .any [(k,.box (qK cells off vs))]) (a.put dst undef) (setBlk w b (.cells (qK cs.toList off xs).toArray t' (0,0))):=by
 have hlt:k<st.objs.length:=by
  rcases hK k st.objs.length with h1|h1
  .exact h1
  .rw[qF _ h1]at hk;simp at hk
 have a1:Le st.objs (upd st.objs k (.box (qK cells off vs))) loc loc:=SY hk;have hf:=h.fresh _ _ _ hl;have hw:∀b',F b'->(setBlk w b (.cells (qK cs.toList off xs).toArray t' (0,0))).heap[b']? =w.heap[b']? :=λb' hb=>ze (λe=>hnF (e▸hb))
 have a0:∀(vs:List V) (cells:List V) (off:Nat) (v:V),v∈qK cells off vs->v∈cells\/v∈vs:=by
  intro vs
  induction vs with
  |nil=>intro cells off v hv;exact .inl hv
  |cons u vs ih=>
   intro cells off v hv;rcases ih _ _ _ hv with hv|hv
   .rcases xL hv with hv|rfl
    .exact .inl hv
    .exact .inr (by simp)
   .exact .inr (by simp[hv])
 refine h.write hlt hl hnF ?_ a1;have a2:∀v x,(CV loc st.objs w F v x/\x.oneCell'=true)->Ref st.objs v->(CV loc (upd st.objs k (.box (qK cells off vs))) (setBlk w b (.cells (qK cs.toList off xs).toArray t' (0,0))) F v x/\x.oneCell'=true):=λv x hx hr=>⟨CV.le (λ_ h=>h) hw a1 hr hx.1,hx.2⟩
 refine⟨b,c,_,t',hl,hnF,jJ hf.2,?_,?_⟩
 .exact All2.upds vs xs cells cs.toList off (hvs.mono_mem λv hv x hx=>a2 v x hx (hvr v hv)) (hall.mono_mem λv hv x hx=>a2 v x hx (hrefs v hv))
 .intro v hv;rcases a0 _ _ _ _ hv with hv|hv
  .exact(hrefs v hv).le a1
  .exact(hvr v hv).le a1
theorem Ka {dst:Option Nat} {k off b c:Nat} {cells:List V} {cs:Array Value} {t':TypeId} {v:V} {x:Value} (h:Conc C B F0 w0 F loc st a w) (hk:nth .none st.objs k= .vec cells) (hl:loc k=some (b,c))
 (hblk:w.heap[b]? =some (.cells cs t' (0,0))) (hv:CV loc st.objs w F v x) (h1:x.oneCell'=true) (hr:Ref st.objs v):
 Conc C B F0 w0 F loc (st.put dst .any [(k,.vec (upd cells off v))]) (a.put dst undef) (setBlk w b (.cells (qK cs.toList off [x]).toArray t' (0,0))):=by
 have hlt:k<st.objs.length:=by
  rcases hK k st.objs.length with h1|h1
  .exact h1
  .rw[qF _ h1]at hk;simp at hk
 have a2:Le st.objs (upd st.objs k (.vec (upd cells off v))) loc loc:=Ib hk;have hf:=h.fresh _ _ _ hl;have a6:=h.objs k;rw[hk]at a6;obtain⟨b',c',cs',t'',a4,a5,a0,hsz,hlc,a3,a1,h9⟩:=a6;rw[hl]at a4;simp only[k5,k6]at a4;obtain⟨rfl,rfl⟩:=a4;rw[hblk]at a0;simp only[k5,W1,and_true]at a0;obtain⟨rfl,rfl⟩:=a0;have hw:∀b',F b'->(setBlk w b (.cells (qK cs.toList off [x]).toArray t' (0,0))).heap[b']? =w.heap[b']? :=λb' hb=>ze (λe=>a5 (e▸hb))
 refine h.write hlt hl a5 ⟨b,c,_,t',hl,a5,jJ hf.2,by simp[qK,qi,hsz],by rw[qi];exact hlc,λj hj=>?_,λu hu=>?_,by rw[qi];exact h9⟩ a2
 .rw[qi]at hj;obtain⟨y,q1,q2,q3⟩:=a3 j hj;have hjs:j<cs.size:=by omega
  by_cases e:off=j
  .subst e;refine⟨x,?_,?_,h1⟩
   .simp only[qK,xn];simp[hjs]
   .rw[qb _ _ _ hj];exact CV.le (λ_ h=>h) hw a2 hr hv
  .refine⟨y,?_,?_,q3⟩
   .simp only[qK,xn];simp[e,q1]
   .rw[qa _ _ _ e];exact CV.le (λ_ h=>h) hw a2 (a1 _ (kc hj)) q2
 .rcases xL hu with hu|rfl
  .exact(a1 u hu).le a2
  .exact hr.le a2
omit [Env] in
theorem upd1 {α:Type} (l:List α) (i:Nat) (y:α):upd l i y=qK l i [y]:=rfl
omit [Env] in
theorem yh {size:Nat}:∀(es:List (List D)) (_:∀e∈es,e.length=size) (i off:Nat) (ds:List D),i<es.length->off+ds.length<=size->(upd es i (qK (nth [] es i) off ds)).flatten=qK es.flatten (i*size+off) ds
 |[],_,_,_,_,hi,_=>absurd hi (by simp)
 |e::es,hs,0,off,ds,_,hd=>by
  have he:=hs e (by simp);simp only[upd,nth,fg,hT,hL];have:∀(ds:List D) (e r:List D) (off:Nat),off+ds.length<=e.length->qK e off ds++r=qK (e++r) off ds:=by
   intro ds
   induction ds with
   |nil=>intro _ _ _ _;rfl
   |cons d ds ih=>intro e r off h;simp only[ep]at h;simp only[qK];rw[ih _ _ _ (by rw[qi];omega)];congr 1;rw[xn,xn,List.set_append_left _ _ (by omega)]
  exact this ds e es.flatten off (by omega)
 |e::es,hs,i+1,off,ds,hi,hd=>by
  have he:=hs e (by simp);have ih:=yh (size:=size) es (λe he=>hs e (by simp[he])) i off ds (by simpa using hi) hd;simp only[upd,nth,fg,ih];have:∀(ds:List D) (e r:List D) (off:Nat),e++qK r off ds=qK (e++r) (e.length+off) ds:=by
   intro ds
   induction ds with
   |nil=>intro _ _ _;rfl
   |cons d ds ih=>intro e r off;simp only[qK];rw[ih e (upd r off d) (off+1)];congr 1;rw[xn,xn,gq _ _ (by omega)];congr 2;omega
  rw[this ds e es.flatten (i*size+off)];congr 1;rw[he,hU];omega
theorem yG {dst:Option Nat} {k i off b c s:Nat} {es:List (List D)} {cs:Array Value} {t':TypeId} {ds:List D} {xs:List Value} (h:Conc C B F0 w0 F loc st a w) (hk:nth .none st.objs k= .arr s es false) (hl:loc k=some (b,c))
 (hi:i<es.length) (hblk:w.heap[b]? =some (.cells cs t' (0,0))) (hxs:All2 (CD w F) ds xs) (hle':off+ds.length<=s):
 Conc C B F0 w0 F loc (st.put dst .any [(k,.arr s (upd es i (qK (nth [] es i) off ds)) false)]) (a.put dst undef) (setBlk w b (.cells (qK cs.toList (i*s+off) xs).toArray t' (0,0))):=by
 have hlt:k<st.objs.length:=by
  rcases hK k st.objs.length with h1|h1
  .exact h1
  .rw[qF _ h1]at hk;simp at hk
 have ad:Le st.objs (upd st.objs k (.arr s (upd es i (qK (nth [] es i) off ds)) false)) loc loc:=T0 hk (by rw[qi]);have hf:=h.fresh _ _ _ hl;have a4:=h.objs k;rw[hk]at a4;obtain⟨a1,hs0,hs,a4⟩:=a4;rcases a4 with⟨a2,_⟩|⟨b',c',cs',t'',a2,a3,a0,hsz,a7,a5⟩
 .rw[hl]at a2;simp at a2
 rw[hl]at a2;simp only[k5,k6]at a2;obtain⟨rfl,rfl⟩:=a2;rw[hblk]at a0;simp only[k5,W1,and_true]at a0;obtain⟨rfl,rfl⟩:=a0;have a3:¬F b:=a3;have hw:∀b',F b'->(setBlk w b (.cells (qK cs.toList (i*s+off) xs).toArray t' (0,0))).heap[b']? =w.heap[b']? :=λb' hb=>ze (λe=>a3 (e▸hb))
 refine h.write hlt hl a3 ⟨by rw[qi];exact a1,hs0,?_,.inr ⟨b,c,_,t',hl,a3,jJ hf.2,?_,by rw[qi];exact a7,?_,a5.2⟩⟩ ad
 .intro e he;rcases xL he with he|rfl
  .exact hs e he
  .rw[xP,qm _ hi];exact hs _ (gx hi)
 .simp[xP,hsz]
 .rw[qi];intro j hj;rw[yh es hs i off ds hi hle'];obtain⟨v0,h1,h2⟩:=a5.1 j hj;have hxl:=hxs.length;have hjs:j<cs.size:=by
   rcases hK j cs.size with h3|h3
   .exact h3
   .simp[h3]at h1
  have hfl:es.flatten.length=es.length*s:=by
   clear a5 hj h1 h2 a7 hi hk a1 ad h
   induction es with
   |nil=>simp
   |cons e es ih=>rw[fg,el,hs e (by simp),ih (λe he=>hs e (by simp[he])),ep,hU];omega
  have a6:∀(l:List Value),l.length=cs.size->∃v,l.toArray[j]? =some v/\nth undef l j=v:=λl hl=>⟨nth undef l j,by rw[qm _ (by omega)];simp[show j<l.length by omega],rfl⟩
  obtain⟨v,q1,q2⟩:=a6 (qK cs.toList (i*s+off) xs) (by simp[xP]);refine⟨v,q1,?_⟩;rw[<-q2];by_cases hin:i*s+off<=j/\j<i*s+off+ds.length
  .obtain⟨m,rfl⟩:∃m,j=i*s+off+m:=⟨j-(i*s+off),by omega⟩;rw[z5 _ _ _ _ _ (by omega) (by rw[hfl];omega),z5 _ _ _ _ _ (by omega) (by simpa using hjs)];exact(hxs.nth .undef undef ds xs m (by omega)).mono (λ_ h=>h) hw
  .have h3:nth undef cs.toList j=v0:=by rw[qu];simp[h1]
   rcases hK j (i*s+off)with h4|h4
   .rw[zd _ _ _ _ _ h4,zd _ _ _ _ _ h4,h3];exact h2.mono (λ_ h=>h) hw
   .rw[jq _ _ _ _ _ (by omega),jq _ _ _ _ _ (by omega),h3];exact h2.mono (λ_ h=>h) hw
theorem ZU (x:Value) {dst:Option Nat} {k p b c s:Nat} {es es':List (List D)} {cs:Array Value} {t':TypeId} {ds:List D} {xs:List Value} (h:Conc C B F0 w0 F loc st a w) (hk:nth .none st.objs k= .arr s es false) (hl:loc k=some (b,c))
 (hblk:w.heap[b]? =some (.cells cs t' (0,0))) (hxs:All2 (CD w F) ds xs) (hlen:es'.length=es.length) (hs':∀e∈es',e.length=s) (hfe:es'.flatten=qK es.flatten p ds) (_hp:p+ds.length<=es.length*s):
 Conc C B F0 w0 F loc (st.put dst .any [(k,.arr s es' false)]) (a.put dst x) (setBlk w b (.cells (qK cs.toList p xs).toArray t' (0,0))):=by
 have hlt:k<st.objs.length:=by
  rcases hK k st.objs.length with h1|h1
  .exact h1
  .rw[qF _ h1]at hk;simp at hk
 have ad:Le st.objs (upd st.objs k (.arr s es' false)) loc loc:=T0 hk hlen;have hf:=h.fresh _ _ _ hl;have a4:=h.objs k;rw[hk]at a4;obtain⟨a1,hs0,hs,a4⟩:=a4;rcases a4 with⟨a2,_⟩|⟨b',c',cs',t'',a2,a3,a0,hsz,a7,a5⟩
 .rw[hl]at a2;simp at a2
 rw[hl]at a2;simp only[k5,k6]at a2;obtain⟨rfl,rfl⟩:=a2;rw[hblk]at a0;simp only[k5,W1,and_true]at a0;obtain⟨rfl,rfl⟩:=a0;have a3:¬F b:=a3;have hw:∀b',F b'->(setBlk w b (.cells (qK cs.toList p xs).toArray t' (0,0))).heap[b']? =w.heap[b']? :=λb' hb=>ze (λe=>a3 (e▸hb))
 refine h.writeX x hlt hl a3 ⟨by rw[hlen];exact a1,hs0,hs',.inr ⟨b,c,_,t',hl,a3,jJ hf.2,?_,by rw[hlen];exact a7,?_,a5.2⟩⟩ ad
 .simp[xP,hsz]
 .rw[hlen];intro j hj;rw[hfe];obtain⟨v0,h1,h2⟩:=a5.1 j hj;have hxl:=hxs.length;have hjs:j<cs.size:=by
   rcases hK j cs.size with h3|h3
   .exact h3
   .simp[h3]at h1
  have hfl:es.flatten.length=es.length*s:=by
   clear a5 hj h1 h2 a7 hk a1 ad h hlen hfe _hp
   induction es with
   |nil=>simp
   |cons e es ih=>rw[fg,el,hs e (by simp),ih (λe he=>hs e (by simp[he])),ep,hU];omega
  have a6:∀(l:List Value),l.length=cs.size->∃v,l.toArray[j]? =some v/\nth undef l j=v:=λl hl=>⟨nth undef l j,by rw[qm _ (by omega)];simp[show j<l.length by omega],rfl⟩
  obtain⟨v,q1,q2⟩:=a6 (qK cs.toList p xs) (by simp[xP]);refine⟨v,q1,?_⟩;rw[<-q2];by_cases hin:p<=j/\j<p+ds.length
  .obtain⟨m,rfl⟩:∃m,j=p+m:=⟨j-p,by omega⟩;rw[z5 _ _ _ _ _ (by omega) (by rw[hfl];omega),z5 _ _ _ _ _ (by omega) (by simpa using hjs)];exact(hxs.nth .undef undef ds xs m (by omega)).mono (λ_ h=>h) hw
  .have h3:nth undef cs.toList j=v0:=by rw[qu];simp[h1]
   rcases hK j p with h4|h4
   .rw[zd _ _ _ _ _ h4,zd _ _ _ _ _ h4,h3];exact h2.mono (λ_ h=>h) hw
   .rw[jq _ _ _ _ _ (by omega),jq _ _ _ _ _ (by omega),h3];exact h2.mono (λ_ h=>h) hw
omit [Env] in
theorem W6 {α:Type}:∀(R M:List α) (A Bx:List α),R.length=M.length->qK (A++(M++Bx)) A.length R=A++(R++Bx)
 |[],M,A,Bx,h=>by have:M=[]:=eL (by simpa using h.symm);subst this;rfl
 |r::R,[],A,Bx,h=>by simp at h
 |r::R,m::M,A,Bx,h=>by
  simp only[qK];have e1:upd (A++(m::M++Bx)) A.length r=(A++[r])++(M++Bx):=by rw[xn,gq _ _ (by omega)];simp
  have e2:A.length+1=(A++[r]).length:=by simp
  rw[e1,e2,W6 R M (A++[r]) Bx (by simpa using h)];simp
omit [Env] in
theorem vT {P:V->Value->Prop}:∀{as:List V} {bs:List Value},All2 (λv x=>P v x/\x.oneCell'=true) as bs->∀v∈bs,v.oneCell'=true
 |[],[],_,v,hv=>by simp at hv
 |_::_,b::bs,h,v,hv=>by
  rcases ez.1 hv with rfl|hv
  .exact h.1.2
  .exact vT h.2 v hv
 |[],_::_,h,_,_=>h.elim
 |_::_,[],h,_,_=>h.elim
theorem OY {dst:Option Nat} {t:TypeId} {p x:Operand} {ty:TypeId} {pos:String} {after:Array Edge} {g:Option (Nat×Bool)} (h:Conc C B F0 w0 F loc st a w):
 RS C B F0 w0 st a w ⟨dst,.store t p x,ty,pos,after,g⟩ (xp C ⟨dst,.store t p x,ty,pos,after,g⟩ (ev st) st.objs):=by
 simp only[xp,YV];have hp:=(xb h p).1;have hx:=(xb h x).1;have al:=(xb h x).2;have a6:∀w',(U0 t (a.eval p) (a.eval x)).run C.P w= .ok () w'->(execOp a.eval ⟨dst,.store t p x,ty,pos,after,g⟩).run C.P w= .ok .skip w':=λw' hy=>by simp[execOp,hy]
 split
 .trivial
 .rename_i z hz;split
  .rename_i k b7 hv;rw[hv]at hp;split
   .rename_i a3 hk;obtain⟨b,c,hl,b0⟩:=hp _ hk rfl;have ad:=h.objs k;rw[hk]at ad;obtain⟨b',c',cs,t',a5,an,a1,ag,a7⟩:=ad;rw[hl]at a5;simp only[k5,k6]at a5;obtain⟨rfl,rfl⟩:=a5;have hlen:a3.length=cs.size:=by simpa using ag.length
    rw[b0]at a6;split
    .split
     .rename_i ds b5;rw[b5]at hx;obtain⟨vs,b2,a0⟩:=hx;split
      .rename_i hc;simp only[Hy,decide_eq_true_eq]at hc;have b9:=a0.length;rw[b2]at a6;refine⟨_,_,_,a6 _ (zY hz a1 (by simp only[Value.cells];omega) (by omega) ?_),.inr ⟨rfl,rfl⟩,F,loc,?_⟩
       .intro v hv;have:∀(ds:List D) (vs:List Value),All2 (CD w F) ds vs->∀v∈vs,v.oneCell'=true:=by
         intro ds
         induction ds with
         |nil=>intro vs a0 v hv;cases vs with|nil=>simp at hv|cons _ _=>exact a0.elim
         |cons d ds ih=>
          intro vs a0 v hv;cases vs with
          |nil=>exact a0.elim
          |cons y vs=>
           rcases ez.1 hv with rfl|hv
           .exact a0.1.one
           .exact ih vs a0.2 v hv
        exact this ds _ a0 v hv
       .rw[Gb];refine Qz h hk hl an ag a7 ?_ (λv hv=>by obtain⟨_,_,rfl⟩:=gv.1 hv;trivial);show All2 _ (ds.map V.c) vs.toList;have:∀(ds:List D) (vs:List Value),All2 (CD w F) ds vs->All2 (λv x=>CV loc st.objs w F v x/\x.oneCell'=true) (ds.map V.c) vs:=by
         intro ds
         induction ds with
         |nil=>intro vs a0;cases vs with|nil=>trivial|cons _ _=>exact a0.elim
         |cons d ds ih=>intro vs a0;cases vs with|nil=>exact a0.elim|cons y vs=>exact⟨⟨a0.1,a0.1.one⟩,ih vs a0.2⟩
        exact this ds _ a0
      .trivial
     .rename_i ds b5;rw[b5]at hx al;obtain⟨vs,b2,a0⟩:=hx;split
      .rename_i hc;simp only[Hy,decide_eq_true_eq]at hc;have b9:=a0.length;rw[b2]at a6;have a4:∀(ds:List VC) (vs:List Value),(∀c∈ds,Ref st.objs c.v)->All2 (CVC loc st.objs w F) ds vs->All2 (λv x=>CV loc st.objs w F v x/\x.oneCell'=true) (ds.map VC.v) vs:=by
        intro ds
        induction ds with
        |nil=>intro vs _ a0;cases vs with|nil=>trivial|cons _ _=>exact a0.elim
        |cons d ds ih=>
         intro vs hr a0;cases vs with
         |nil=>exact a0.elim
         |cons y vs=>exact⟨⟨a0.1.v,a0.1.one⟩,ih vs (λc hc=>hr c (by simp[hc])) a0.2⟩
       have a4:=a4 ds vs.toList (λc hc=>Ref.cell al hc) a0;refine⟨_,_,_,a6 _ (zY hz a1 (by simp only[Value.cells];omega) (by omega) ?_),.inr ⟨rfl,rfl⟩,F,loc,?_⟩
       .intro v hv;exact vT a4 v hv
       .rw[W4];exact Qz h hk hl an ag a7 a4 (λv hv=>by obtain⟨c,hc,rfl⟩:=gv.1 hv;exact Ref.cell al hc)
      .trivial
     .trivial
    .have b6:∀(v:V),ev st x=v->(a.eval x).oneCell'=true->(decide (b7<a3.length)&&decide (z.length=1))=true->
      Does C B F0 w0 ⟨dst,.store t p x,ty,pos,after,g⟩ a w (st.put dst .any [(k,.box (upd a3 b7 v))]):=by
      intro v hve a2 hc;simp only[Hy,decide_eq_true_eq]at hc;have h1:=yF a2;refine⟨_,_,_,a6 _ (zY hz a1 (by rw[h1];simp;omega) (by omega) (by rw[h1];simpa using a2)),.inr ⟨rfl,rfl⟩,F,loc,?_⟩;rw[h1,upd1];subst hve;exact Qz h hk hl an ag a7 ⟨⟨hx,a2⟩,trivial⟩ (λu hu=>by simp at hu;subst hu;exact al)
     split
     .rename_i d hd;split
      .rename_i hc;exact b6 _ hd (by rw[hd]at hx;exact Lm hx) hc
      .trivial
     .rename_i hd;split
      .rename_i hc;exact b6 _ hd (by rw[hd]at hx;rw[show a.eval x= .slice none 0 0 from hx];rfl) hc
      .trivial
     .rename_i j hd;split
      .rename_i s' b3 b4 hj;split
       .rename_i hc;refine b6 _ hd ?_ hc;rw[hd]at hx;rcases hx s' b3 b4 hj with⟨b1,c1,_,h2⟩|⟨_,_,h2⟩
        .rw[h2];rfl
        .rw[h2];rfl
       .trivial
      .trivial
     .trivial
   .rename_i a3 hk;obtain⟨b,c,hl,b0⟩:=hp _ hk rfl;have ad:=h.objs k;rw[hk]at ad;obtain⟨b',c',cs,t',a5,an,a1,hsz,b8,_⟩:=ad;rw[hl]at a5;simp only[k5,k6]at a5;obtain⟨rfl,rfl⟩:=a5;rw[b0]at a6;split
    .rename_i j hd;split
     .rename_i s' b3 b4 hj;split
      .rename_i hc;simp only[Hy,decide_eq_true_eq]at hc;rw[hd]at hx al;have a2:(a.eval x).oneCell'=true:=by
        rcases hx s' b3 b4 hj with⟨b1,c1,_,h2⟩|⟨_,_,h2⟩
        .rw[h2];rfl
        .rw[h2];rfl
       have h1:=yF a2;refine⟨_,_,_,a6 _ (zY hz a1 (by rw[h1];simp;omega) (by omega) (by rw[h1];simpa using a2)),.inr ⟨rfl,rfl⟩,F,loc,?_⟩;rw[h1];exact Ka h hk hl a1 hx a2 al
      .trivial
     .trivial
    .trivial
   .trivial
  .rename_i k i b7 hv;rw[hv]at hp;split
   .rename_i s es hk;obtain⟨b,c,hl,hi,b0⟩:=hp s es false hk;have ad:=h.objs k;rw[hk]at ad;obtain⟨_,hs0,hs,ad⟩:=ad;rcases ad with⟨a5,_⟩|⟨b',c',cs,t',a5,an,a1,hsz,b8,hcs⟩
    .rw[hl]at a5;simp at a5
    rw[hl]at a5;simp only[k5,k6]at a5;obtain⟨rfl,rfl⟩:=a5;rw[b0]at a6;have hmul:=W5 (s:=s) (m:=s-1) hi (by omega);have hcap:es.length*s<=c*s:=hH s b8.1;split
    .rename_i d hd;split
     .rename_i hc;simp only[Hy,decide_eq_true_eq]at hc;intro ap;rw[hd]at hx;have h1:=yF (Lm hx);refine⟨_,_,_,a6 _ (zY hz a1 (by rw[h1];simp;omega) (by omega) (by rw[h1];simpa using Lm hx)),.inr ⟨rfl,rfl⟩,F,loc,?_⟩;rw[h1];exact yG (ds:=[d]) h hk hl hi a1 ⟨hx,trivial⟩ (by simp;omega)
     .trivial
    .rename_i ds hd;split
     .rename_i hc;simp only[Hy,decide_eq_true_eq]at hc;intro ap;rw[hd]at hx;obtain⟨vs,b2,a0⟩:=hx;have b9:=a0.length;rw[b2]at a6;refine⟨_,_,_,a6 _ (zY hz a1 (by simp only[Value.cells];omega) (by omega) ?_),.inr ⟨rfl,rfl⟩,F,loc,?_⟩
      .intro v hv;have:∀(ds:List D) (vs:List Value),All2 (CD w F) ds vs->∀v∈vs,v.oneCell'=true:=by
        intro ds
        induction ds with
        |nil=>intro vs a0 v hv;cases vs with|nil=>simp at hv|cons _ _=>exact a0.elim
        |cons d ds ih=>
         intro vs a0 v hv;cases vs with
         |nil=>exact a0.elim
         |cons y vs=>
          rcases ez.1 hv with rfl|hv
          .exact a0.1.one
          .exact ih vs a0.2 v hv
       exact this ds _ a0 v hv
      .rw[JV];exact yG (ds:=ds) h hk hl hi a1 a0 ap
     .trivial
    .trivial
   .trivial
  .trivial
end
end Eng
end
section
namespace Eng
open Go Go.RowKit
variable [Env]
section
variable {C:Cx} {B:Bd} {F0:Nat->Prop} {w0:World} {F:Nat->Prop} {loc:Where} {st:St} {a:Act} {w:World}
variable {dst:Option Nat} {ty:TypeId} {pos:String} {after:Array Edge} {g:Option (Nat×Bool)}
theorem VT {x:Operand} (h:Conc C B F0 w0 F loc st a w):RS C B F0 w0 st a w ⟨dst,.nilCheck x,ty,pos,after,g⟩ (xp C ⟨dst,.nilCheck x,ty,pos,after,g⟩ (ev st) st.objs):=by
 simp only[xp];have hx:=xb h x;split
 .rename_i k off hv;rw[hv]at hx;split
  .rename_i a0 hk;obtain⟨b,c,_,hp⟩:=hx.1 _ hk rfl;refine qJ h hx.1 hx.2 ?_;simp[execOp,hp]
  .trivial
 .trivial
theorem VU {op:BinOp} {t:TypeId} {x y:Operand} {p q:Bool} {u v:Value} (hp:CD w F (.ifc p) u) (hq:CD w F (.ifc q) v) (hxy:vO x=true\/vO y=true):(eqGuard op t x y u v).run C.P w= .ok () w:=by
 cases hp with
 |nilI=>cases hq with
  |nilI=>
   rcases hxy with hxy|hxy
   .cases x<;>simp[vO]at hxy;cases op<;>rfl
   .cases y<;>simp[vO]at hxy;cases op<;>cases x<;>rfl
  |someI=>cases op<;>rfl
 |someI=>cases hq<;>cases op<;>rfl
theorem OZ {op:BinOp} {t t2:TypeId} {x y:Operand} (h:Conc C B F0 w0 F loc st a w):RS C B F0 w0 st a w ⟨dst,.binOp op t x y t2,ty,pos,after,g⟩ (xp C ⟨dst,.binOp op t x y t2,ty,pos,after,g⟩ (ev st) st.objs):=by
 simp only[xp];have hx:=(xb h x).1;have hy:=(xb h y).1;have hvs:=Cu (P:=C.P) (op:=op) (t:=t) (xo:=x) (yo:=y) hx hy;by_cases hr0:Cj C.P op t x y (ev st x) (ev st y)= .fail
 .rw[hr0];trivial
 have hg:(eqGuard op t x y (a.eval x) (a.eval y)).run C.P w= .ok () w:=by
  generalize hu:ev st x=u at *;generalize hv:ev st y=v at *;unfold Cj at hr0;split at hr0
  .rename_i ms hms;split at hr0
   .rename_i p q;split at hr0
    .rename_i hc;have hxy:vO x=true\/vO y=true:=by
      cases hx0:vO x<;>cases hy0:vO y<;>simp[hx0,hy0]at hc ⊢
     exact VU hx hy hxy
    .exact absurd rfl hr0
   .exact absurd rfl hr0
  .split at hr0
   .have a1:CD w F _ _:=hx;refine Jl a1.one λe=>?_
    rw[e]at a1;cases a1
   .exact absurd rfl hr0
  .by_cases a0:∃fs,C.P.underlying t=some (.struct fs)
   .obtain⟨fs,a0⟩:=a0;unfold eqV at hr0;rw[a0]at hr0;exact HY a0 hx hy hr0
   have hg:(a.eval x).oneCell'=true/\a.eval x≠ .nilIface:=by
    have h0:∃d,u= .c d/\((∃k n,d= .int k n)\/(∃b,d= .bool b)\/∃s,d= .str s):=by
     unfold eqV at hr0;split at hr0
     .split at hr0
      .exact⟨_,rfl,.inr (.inl ⟨_,rfl⟩)⟩
      .exact absurd rfl hr0
     .rename_i fs hfs;exact absurd ⟨fs,hfs⟩ a0
     .unfold An at hr0;split at hr0
      .exact⟨_,rfl,.inl ⟨_,_,rfl⟩⟩
      .exact⟨_,rfl,.inr (.inr ⟨_,rfl⟩)⟩
      .exact absurd rfl hr0
    obtain⟨d,h1,h2⟩:=h0;rw[h1]at hx;rcases h2 with⟨k,n,rfl⟩|⟨b,rfl⟩|⟨s,rfl⟩
    .rw[kM hx];exact⟨rfl,by simp⟩
    .rw[Ga hx];exact⟨rfl,by simp⟩
    .rw[XC hx];exact⟨rfl,by simp⟩
   exact Jl hg.1 hg.2
 refine yC h hvs (λv hv=>?_);simp[execOp,hg,hv]
theorem gD {x y:Operand} {ts:Array TypeId} (h:Conc C B F0 w0 F loc st a w):RS C B F0 w0 st a w ⟨dst,.call ⟨.builtin .max, #[x,y],ts⟩,ty,pos,after,g⟩ (mxV true (ev st x) (ev st y)):=by
 refine yC h (Cv (P:=C.P) (ts:=ts) (ty:=ty) (xb h x).1 (xb h y).1) (λv hv=>?_);simp[execOp,resolve,invoke,builtin,hv]
theorem gE {x y:Operand} {ts:Array TypeId} (h:Conc C B F0 w0 F loc st a w):RS C B F0 w0 st a w ⟨dst,.call ⟨.builtin .min, #[x,y],ts⟩,ty,pos,after,g⟩ (mxV false (ev st x) (ev st y)):=by
 refine yC h (Cw (P:=C.P) (ts:=ts) (ty:=ty) (xb h x).1 (xb h y).1) (λv hv=>?_);simp[execOp,resolve,invoke,builtin,hv]
theorem C2 {op:UnOp} {t:TypeId} {x:Operand} (h:Conc C B F0 w0 F loc st a w):RS C B F0 w0 st a w ⟨dst,.unOp op t x,ty,pos,after,g⟩ (xp C ⟨dst,.unOp op t x,ty,pos,after,g⟩ (ev st) st.objs):=by
 simp only[xp];refine yC h (AZ (P:=C.P) (op:=op) (xb h x).1) (λv hv=>?_);simp[execOp,hv]
omit [Env] in
theorem ZV (l:List UInt8):(y8 l).flatten=l.map λc=>D.int .u8 c.toNat:=by
 induction l with
 |nil=>rfl
 |cons c l ih=>simp only[y8,g4,fg]at ih ⊢;rw[ih];rfl
theorem Ub {s t:TypeId} {x:Operand} {l:List UInt8} (h:Conc C B F0 w0 F loc st a w) (hb:Tp C.P s t=true) (hx:ev st x= .c (.str l)):
 Does C B F0 w0 ⟨dst,.convert s t x,ty,pos,after,g⟩ a w (st.put dst (.c (.sl (y8 l))) []):=by
 obtain⟨e,hs,hd,he⟩:∃e,C.P.underlying s=some .string/\C.P.underlying t=some (.slice e)/\C.P.underlying e=some (.int .u8):=by
  unfold Tp at hb;split at hb
  .rename_i e h1 h2;split at hb
   .rename_i h3;exact⟨e,h1,h2,h3⟩
   .simp at hb
  .simp at hb
 have a4:=(xb h x).1;rw[hx]at a4;have a4:=XC a4;have a0:=run_bytes_of_string (P:=C.P) w s t e ⟨⟨l⟩⟩ hs hd he;have hsz:(⟨⟨l⟩⟩:ByteArray).size=l.length:=rfl;rw[hsz]at a0;generalize hcap:grownCap w l.length 0 e=cap at a0;generalize hob:Go.Obj.cells (bytesRow ⟨⟨l⟩⟩ cap) e ((bytesRow ⟨⟨l⟩⟩ cap).size,(bytesRow ⟨⟨l⟩⟩ cap).size+1)=ob at a0;have a7:(w.drew.alloc ob).heap.size=w.heap.size+1:=World.size_alloc ..;have a1:∀b,b<w.heap.size->(w.drew.alloc ob).heap[b]? =w.heap[b]? :=λb hb=>Below.heap_alloc w.drew ob b hb
 refine⟨.value (.slice (some ⟨w.heap.size,0,none⟩) l.length cap),_,w.drew.alloc ob,by simp[execOp,a4,a0],.inl rfl,λb=>F b\/b=w.heap.size,loc,?_⟩;refine h.step (up:=[]) (λb h=> .inl h) (λb hb=>a1 b (h.bound b hb)) (Le.refl _ _) ((BelowX.drew h.below).alloc h.hB _) (by have:=h.hB;omega) (λk=>?_) h.inj (λk b c hl=>⟨(h.fresh k b c hl).1,by have:=h.fresh k b c hl;omega⟩) (λb hb=>?_) (λb hb=>?_) ?_ trivial
 .refine CO.le (λb h=> .inl h) (λb hb=>a1 b (h.bound b hb)) (Le.refl _ _) rfl rfl (λb c hl=>?_) (h.objs k);have hf:=(h.fresh _ _ _ hl).2;exact⟨a1 b hf,λhn a3=>by rcases a3 with a3|a3;exact hn a3;omega⟩
 .rcases hb with hb|hb
  .have:=h.bound b hb;omega
  .omega
 .rcases hb with hb|hb
  .exact h.fsub b hb
  .have:=h.hB;exact .inr (.inl (by omega))
 .show CD _ _ (.sl (y8 l)) _;have a5:(y8 l).length=l.length:=by simp[y8]
  have hfl:=ZV l;have a6:Row (w.drew.alloc ob) (λb=>F b\/b=w.heap.size) (y8 l) w.heap.size 0 1:=by
   refine⟨λe he=>?_,.inr rfl,λj hj=>?_⟩
   .simp only[y8,gv]at he;obtain⟨c,_,rfl⟩:=he;rfl
   .rw[a5,ib]at hj;refine⟨.int .u8 (l[j]).toNat,?_,?_⟩
    .have a2:(w.drew.alloc ob).heap[w.heap.size]? =some ob:=by show(w.heap.push ob)[w.heap.size]? =_;simp
     rw[<-hob]at a2 ⊢;unfold World.cell?;rw[a2];simp only[hL];unfold bytesRow;rw[Dd (by simpa using hj)];simp[hj]
    .rw[hfl,qm _ (by simpa using hj)];simp only[gy];exact .int _ _
  have:=a6.CD (c:=cap) (by
   rw[a5,<-hcap];exact grownCap_ge w l.length 0 e)
  rw[a5]at this;exact this
theorem Uc {s t:TypeId} {x:Operand} (h:Conc C B F0 w0 F loc st a w):RS C B F0 w0 st a w ⟨dst,.convert s t x,ty,pos,after,g⟩ (xp C ⟨dst,.convert s t x,ty,pos,after,g⟩ (ev st) st.objs):=by
 simp only[xp];split
 .rename_i hb;split
  .rename_i str hx;exact λ_=>Ub h hb hx
  .trivial
 .split
  .rename_i ds hs;refine yC h (OV (P:=C.P) (src:=s) (dst:=t) hs (xb h x).1) (λv hv=>?_);simp[execOp,hv]
  .trivial
omit [Env] in
theorem Jn {P:Program} {t f off:Nat} {ft:TypeId} (h:X1 P t f=some (off,ft)):∃fs fd,P.underlying t=some (.struct fs)/\fs[f]? =some fd/\fd.offset=off/\fd.type=ft:=by
 unfold X1 at h;split at h
 .rename_i fs hu;split at h
  .rename_i fd hf;simp only[k5,k6]at h;exact⟨fs,fd,hu,hf,h.1,h.2⟩
  .simp at h
 .simp at h
omit [Env] in
theorem zj {P:Program} {t:TypeId} (h:P.cellsOf t≠0):∃i,P.info? t=some i/\i.size=P.cellsOf t:=by
 unfold Program.cellsOf at h ⊢;cases hi:P.info? t with
 |none=>simp[hi]at h
 |some i=>exact⟨i,rfl,by simp⟩
omit [Env] in
theorem kN {P:Program} {t f off b o:Nat} {ft:TypeId} (h:X1 P t f=some (off,ft)) (h0:P.cellsOf ft≠0) (w:World):
 (V1 t (.pointer (some ⟨b,o,none⟩)) f).run P w= .ok (.pointer (some ⟨b,o+off,none⟩)) w:=by
 obtain⟨fs,fd,hu,hf,rfl,rfl⟩:=Jn h;obtain⟨i,hi,hs⟩:=zj h0;have hsz:i.size≠0:=by rw[hs];exact h0
 simp[V1,qO hu,hf,Tk,fieldPlace,Ls,typeInfo,hi,hsz,xq]
theorem W7 {t:TypeId} {x:Operand} {f:Nat} (h:Conc C B F0 w0 F loc st a w):RS C B F0 w0 st a w ⟨dst,.fieldAddr t x f,ty,pos,after,g⟩ (xp C ⟨dst,.fieldAddr t x f,ty,pos,after,g⟩ (ev st) st.objs):=by
 simp only[xp];have hx:=xb h x;split
 .rename_i a2 ft hf;split
  .trivial
  .rename_i h0;have h0:C.P.cellsOf ft≠0:=by simpa using h0
   split
   .rename_i k o hv;rw[hv]at hx;split
    .rename_i a3 hk;obtain⟨b,c,hl,hp⟩:=hx.1 _ hk rfl;refine qJ h (x:= .pointer (some ⟨b,o+a2,none⟩)) (λcells' hc _=>⟨b,c,hl,rfl⟩) hx.2 ?_;simp[execOp,hp,kN hf h0]
    .trivial
   .rename_i k i o hv;rw[hv]at hx;split
    .rename_i s es fz hk;obtain⟨b,c,hl,hi,hp⟩:=hx.1 s es fz hk;refine qJ h (x:= .pointer (some ⟨b,i*s+o+a2,none⟩)) (λs' es' fz' hc=>?_) hx.2 ?_
     .rw[hk]at hc;simp only[Lr]at hc;obtain⟨rfl,rfl,rfl⟩:=hc;exact⟨b,c,hl,hi,by rw[j2]⟩
     .simp[execOp,hp,kN hf h0]
    .trivial
   .rename_i es i o hv;rw[hv]at hx;obtain⟨b,p,a0,hp,hi,a1⟩:=hx.1;refine qJ h (x:= .pointer (some ⟨b,p+i*a0+o+a2,none⟩)) ⟨b,p,a0,by rw[j2],hi,a1⟩ trivial ?_;simp[execOp,hp,kN hf h0]
   .trivial
 .trivial
theorem Pa {t:TypeId} {x:Operand} {f:Nat} (h:Conc C B F0 w0 F loc st a w):RS C B F0 w0 st a w ⟨dst,.field t x f,ty,pos,after,g⟩ (xp C ⟨dst,.field t x f,ty,pos,after,g⟩ (ev st) st.objs):=by
 simp only[xp];have hx:=xb h x;split
 .rename_i off ft cs hf hv;rw[hv]at hx;obtain⟨vs,a4,a1⟩:=hx.1;have hl:cs.length=vs.size:=by simpa using a1.length
  split
  .rename_i z hz;obtain⟨fs,fd,hu,a2,ho,ht⟩:=Jn hf;subst ho ht;have h1:=vn hz w;have h2:=xf hz w;split
   .rename_i a3;have a3:fd.offset+z.length<=cs.length:=by simpa using a3
    split
    .rename_i ha;rw[ha]at h1;refine qJ h (x:= .agg (vs.extract fd.offset (fd.offset+z.length))) ⟨_,rfl,?_⟩ trivial ?_
     .have:(vs.extract fd.offset (fd.offset+z.length)).toList=JX (λj=>nth undef vs.toList j) fd.offset z.length:=by
       rw[<-zX];apply List.ext_getElem?;intro j;simp only[Hv,g2,hS,gn];by_cases hj:j<z.length
       .have hsz:fd.offset+j<vs.size:=by omega
        simp[hj,qu,hsz]
       .simp[hj];omega
      rw[this,Jm];exact yE _ _ λj hj=>a1.nth .undef undef _ _ _ (by omega)
     .simp[execOp,W0,qO hu,a2,part,a4,asAgg,h1,h2]
    .rename_i ha;rw[ha]at h1;split
     .rename_i a0;have a0:0<z.length:=by simpa using a0
      have hlt:fd.offset<vs.size:=by omega
      refine qJ h (x:=nth undef vs.toList fd.offset) (show CD w F _ _ from a1.nth .undef undef _ _ fd.offset (by omega)) trivial ?_;simp[execOp,W0,qO hu,a2,part,a4,asAgg,h1,hlt,qu]
     .trivial
   .trivial
  .trivial
 .trivial
theorem Ud {x:Operand} {i:Nat} (h:Conc C B F0 w0 F loc st a w):RS C B F0 w0 st a w ⟨dst,.extract x i,ty,pos,after,g⟩ (xp C ⟨dst,.extract x i,ty,pos,after,g⟩ (ev st) st.objs):=by
 simp only[xp];have hx:=xb h x;split
 .rename_i as hv;rw[hv]at hx;obtain⟨vs,a2,a4⟩:=hx.1;have hl:as.length=vs.size:=by simpa using a4.length
  split
  .rename_i a1;have a1:i<as.length:=by simpa using a1
   have h1:=a4.nth (A.c .undef) undef as vs.toList i a1;have a0:(execOp a.eval ⟨dst,.extract x i,ty,pos,after,g⟩).run C.P w= .ok (.value (nth undef vs.toList i)) w:=by simp[execOp,U3,a2,qu,show i<vs.size by omega]
   split
   .rename_i d hd;rw[hd]at h1;exact qJ h h1 trivial a0
   .rename_i cs hd;rw[hd]at h1;exact qJ h h1 trivial a0
  .trivial
 .rename_i k as hv;rw[hv]at hx;obtain⟨⟨y,ys,a2,hy,a5⟩,a3⟩:=hx;have hl:as.length=ys.length:=by simpa using a5.length
  split
  .have a0:(execOp a.eval ⟨dst,.extract x 0,ty,pos,after,g⟩).run C.P w= .ok (.value y) w:=by simp[execOp,U3,a2]
   refine qJ h (x:=y) (λs es fz hc=>?_) a3 a0;obtain⟨b,c,h1,h2⟩:=hy s es fz hc;exact .inl ⟨b,c,h1,h2⟩
  .rename_i j;split
   .rename_i a1;have a1:j<as.length:=by simpa using a1
    have h1:=a5.nth (A.c .undef) undef as ys j a1;have a0:(execOp a.eval ⟨dst,.extract x (j+1),ty,pos,after,g⟩).run C.P w= .ok (.value (nth undef ys j)) w:=by simp[execOp,U3,a2,qu,show j<ys.length by omega]
    split
    .rename_i d hd;rw[hd]at h1;exact qJ h h1 trivial a0
    .rename_i cs hd;rw[hd]at h1;exact qJ h h1 trivial a0
   .trivial
 .trivial
theorem Pb {t:TypeId} {x i:Operand} (h:Conc C B F0 w0 F loc st a w):RS C B F0 w0 st a w ⟨dst,.index t x i,ty,pos,after,g⟩ (xp C ⟨dst,.index t x i,ty,pos,after,g⟩ (ev st) st.objs):=by
 simp only[xp];have hx:=(xb h x).1;have hi:=(xb h i).1;split
 .rename_i s k n hu hvx hvi;rw[hvx]at hx;rw[hvi]at hi;rintro⟨h0,h1⟩;refine xa h (x:= .int .u8 ((nth 0 s n.toNat).toNat:Int)) ?_ (J3 _ _) trivial;have hs:=XC hx;have hn:=kM hi;have a0:n.toNat<s.length:=by omega
  have hg:(⟨⟨s⟩⟩:ByteArray)[n.toNat]? =some (nth 0 s n.toNat):=by rw[qm _ a0];have:n.toNat<(⟨⟨s⟩⟩:ByteArray).size:=a0;rw[getElem?_pos (⟨⟨s⟩⟩:ByteArray) n.toNat this];rfl
  simp[execOp,Instr.index,hs,hn,asIntOf,qO hu,h0,hg]
 .trivial
omit [Env] in
theorem XG (s:Nat):∀(n:Nat) (cs:List D),(kF s n cs).length=n
 |0,_=>rfl
 |n+1,cs=>by simp only[kF,ep];rw[XG s n]
omit [Env] in
theorem QN (s:Nat):∀(n:Nat) (cs:List D),cs.length=n*s->(kF s n cs).flatten=cs/\∀e∈kF s n cs,e.length=s
 |0,cs,h=>by have:cs=[]:=eL (by omega);subst this;exact⟨rfl,λe he=>by simp[kF]at he⟩
 |n+1,cs,h=>by
  rw[hQ,ka]at h;obtain⟨h1,h2⟩:=QN s n (cs.drop s) (by rw[gp];omega);refine⟨?_,λe he=>?_⟩
  .simp only[kF,fg];rw[h1,fx]
  .simp only[kF,ez]at he;rcases he with rfl|he
   .rw[fk];omega
   .exact h2 e he
theorem Gc (h:Conc C B F0 w0 F loc st a w) {g len:Nat} {e:TypeId} {es:List (List D)} (hg:OI C g len e=some es):Row w F es g 0 (C.P.cellsOf e)/\es.length=len/\0<C.P.cellsOf e:=by
 unfold OI at hg;split at hg
 .rename_i cs hG;split at hg
  .rename_i hc;simp only[Hy,decide_eq_true_eq]at hc;simp only[k5]at hg;subst hg;obtain⟨hF,vs,t,fr,a1,a0⟩:=h.inv g cs hG;obtain⟨h1,h2⟩:=QN _ _ _ hc.2;have hl:=XG (C.P.cellsOf e) len cs;refine⟨⟨h2,hF,λj hj=>?_⟩,hl,hc.1⟩;rw[hl]at hj;have a2:=a0.length;refine⟨nth undef vs.toList j,?_,?_⟩
   .have a3:j<vs.size:=by simp at a2;omega
    have:w.cell? ⟨g,0+j,none⟩=vs[0+j]? :=by simp[World.cell?,a1]
    rw[this,hL,qm _ (by simpa using a3)];simp[a3]
   .rw[h1];exact a0.nth .undef undef _ _ j (by omega)
  .simp at hg
 .simp at hg
theorem W8 {t:TypeId} {x i:Operand} (h:Conc C B F0 w0 F loc st a w):RS C B F0 w0 st a w ⟨dst,.indexAddr t x i,ty,pos,after,g⟩ (xp C ⟨dst,.indexAddr t x i,ty,pos,after,g⟩ (ev st) st.objs):=by
 simp only[xp,vj];have hx:=(xb h x);have hi:=(xb h i).1;split
 .rename_i k n hvi;rw[hvi]at hi;have hn:=kM hi;split
  .rename_i e hu;have ag:∀s,C.P.cellsOf e=s->s≠0->(Ls e).run C.P w= .ok s w:=λs hs h0=>by obtain⟨an,h1,h2⟩:=zj (P:=C.P) (t:=e) (by rw[hs];exact h0);simp[Ls,typeInfo,h1,h2,hs]
   split
   .rename_i es a1;rw[a1]at hx;split
    .rename_i al;have al:0<C.P.cellsOf e:=by simpa using al
     rintro⟨h0,h1,h2⟩;obtain⟨ad,c,a2,_,a0⟩:=J4 hx.1;rcases a0 with rfl|⟨b,o,a3,rfl,a0⟩
     .simp at h1;omega
     have a5:n.toNat<es.length:=by omega
     have a7:a3=C.P.cellsOf e:=by rw[<-h2,qm _ a5];exact(a0.hs _ (gx a5)).symm
     subst a7;refine xa h (x:= .pointer (some ⟨b,o+n.toNat*C.P.cellsOf e,none⟩)) ?_ ⟨b,o,_,by simp,a5,a0⟩ trivial;simp[execOp,Sz,a2,hn,asIntOf,qO hu,h0,h1,ag _ rfl (by omega),xq]
    .trivial
   .rename_i k' a1;rw[a1]at hx;split
    .rename_i s es fz hk;split
     .rename_i hs;have hs:s=C.P.cellsOf e:=by simpa using hs
      rintro⟨h0,h1⟩;have a4:=h.objs k';rw[hk]at a4;obtain⟨_,hs0,_,a4⟩:=a4;rcases hx.1 s es fz hk with⟨b,c,hl,a2⟩|⟨_,rfl,_⟩
      .have a5:n.toNat<es.length:=by omega
       refine xa h (x:= .pointer (some ⟨b,n.toNat*s,none⟩)) ?_ (λs' es' fz' hc=>?_) hx.2
       .simp[execOp,Sz,a2,hn,asIntOf,qO hu,h0,h1,ag _ hs.symm (by omega),xq]
       .rw[hk]at hc;simp only[Lr]at hc;obtain⟨rfl,rfl,rfl⟩:=hc;exact⟨b,c,hl,a5,by simp⟩
      .simp at h1;omega
     .trivial
    .trivial
   .rename_i k' o l a1;rw[a1]at hx;split
    .rename_i s es fz hk;split
     .rename_i hs;have hs:s=C.P.cellsOf e:=by simpa using hs
      rintro⟨h0,h1⟩;have a4:=h.objs k';rw[hk]at a4;obtain⟨_,hs0,_,a4⟩:=a4;obtain⟨b,c,hl,hol,a2⟩:=(hx.1 s es fz hk).resolve_right (by rintro(⟨_,_,_,_,h4,_⟩|⟨_,_,_,h4,_⟩)<;>omega);refine xa h (x:= .pointer (some ⟨b,o*s+n.toNat*s,none⟩)) ?_ (λs' es' fz' hc=>?_) hx.2
      .simp[execOp,Sz,a2,hn,asIntOf,qO hu,h0,h1,ag _ hs.symm (by omega),xq]
      .rw[hk]at hc;simp only[Lr]at hc;obtain⟨rfl,rfl,rfl⟩:=hc;exact⟨b,c,hl,by omega,by rw[hQ];simp⟩
     .trivial
    .trivial
   .rename_i k' l a1;rw[a1]at hx;split
    .rename_i a6 hk;split
     .rename_i hs;have hs:C.P.cellsOf e=1:=by simpa using hs
      rintro⟨h0,h1⟩;obtain⟨b,c,hl,a2⟩:=hx.1 _ hk rfl;refine xa h (x:= .pointer (some ⟨b,n.toNat,none⟩)) ?_ (λo ho hb=>⟨b,c,hl,rfl⟩) hx.2;simp[execOp,Sz,a2,hn,asIntOf,qO hu,h0,h1,ag _ hs (by omega),xq]
     .trivial
    .trivial
   .trivial
  .rename_i len e hu;split
   .rename_i k' ap a1;rw[a1]at hx;split
    .rename_i a6 hk;split
     .rename_i m;split
      .rename_i hm;simp only[Hy,decide_eq_true_eq]at hm;obtain⟨b,c,hl,a2⟩:=hx.1 _ hk rfl;obtain⟨an,h1,h2⟩:=zj (P:=C.P) (t:=e) (by omega);refine qJ h (x:= .pointer (some ⟨b,ap+m*C.P.cellsOf e,none⟩)) (λcells' hc _=>⟨b,c,hl,rfl⟩) hx.2 ?_;simp[execOp,Sz,a2,hn,asIntOf,qO hu,hm.1,Tk,Ls,typeInfo,h1,h2,xq]
      .trivial
     .trivial
    .trivial
   .rename_i g' a1;rw[a1]at hx;split
    .rename_i es hes;obtain⟨a0,hlen,al⟩:=Gc h hes;rintro⟨h0,h1⟩;have a2:a.eval x= .pointer (some ⟨g',0,none⟩):=hx.1;have a5:n.toNat<es.length:=by omega
     obtain⟨an,q1,q2⟩:=zj (P:=C.P) (t:=e) (by omega);refine xa h (x:= .pointer (some ⟨g',0+n.toNat*C.P.cellsOf e,none⟩)) ?_ ⟨g',0,_,by simp,a5,a0⟩ trivial;have h3:n.toNat<len:=by omega
     simp[execOp,Sz,a2,hn,asIntOf,qO hu,h0,h1,Tk,Ls,typeInfo,q1,q2,xq]
    .trivial
   .rename_i es j ap a1;rw[a1]at hx;split
    .rename_i m;split
     .rename_i hm;simp only[Hy,decide_eq_true_eq]at hm;obtain⟨b,p,a3,hp,hi2,a0⟩:=hx.1;obtain⟨an,h1,h2⟩:=zj (P:=C.P) (t:=e) (by omega);refine qJ h (x:= .pointer (some ⟨b,p+j*a3+ap+m*C.P.cellsOf e,none⟩)) ⟨b,p,a3,by rw[j2],hi2,a0⟩ trivial ?_;simp[execOp,Sz,hp,hn,asIntOf,qO hu,hm.1,Tk,Ls,typeInfo,h1,h2,xq]
     .trivial
    .trivial
   .trivial
  .trivial
 .trivial
end
end Eng
end
section
namespace Eng
open Go Go.RowKit
variable [Env]
section
variable {C:Cx} {B:Bd} {F0:Nat->Prop} {w0:World} {F:Nat->Prop} {loc:Where} {st:St} {a:Act} {w:World}
variable {dst:Option Nat} {ty:TypeId} {pos:String} {after:Array Edge} {g:Option (Nat×Bool)}
theorem CO.heap {objs:List Obj} {w':World} {k:Nat} {o:Obj} (hh:w'.heap=w.heap) (h:CO loc objs w F k o):CO loc objs w' F k o:=
 CO.le (λ_ h=>h) (λ_ _=>by rw[hh]) (Le.refl _ _) rfl rfl (λ_ _ _=>⟨by rw[hh],λh=>h⟩) h
theorem Conc.drew (h:Conc C B F0 w0 F loc st a w):Conc C B F0 w0 F loc st a w.drew:=
 ⟨h.prog,h.below.drew,h.hB,h.defers,All2.mono (R:=CV loc st.objs w F) (λ_ _ hv=>CV.mem (w:=w) (w':=w.drew) (λ_ h=>h) (λ_ _=>rfl) hv) h.tmps,h.refs,λk=>CO.heap (w:=w) (w':=w.drew) rfl (h.objs k),h.inj,h.fresh,h.bound,h.fsub,h.fsup,h.inv.mono (λ_ h=>h) λ_ _=>rfl⟩
def kd (loc:Where) (k:Nat):Where:=⟨loc.P,λj=>if j=k then none else loc j,loc.ty⟩
omit [Env] in
theorem T5 {objs:List Obj} {k:Nat} (hk:nth .none objs k≠ .none):Le objs (upd objs k .dead) loc (kd loc k):=by
 have a0:k<objs.length:=by
  rcases hK k objs.length with h1|h1
  .exact h1
  .rw[qF _ h1]at hk;simp at hk
 refine⟨rfl,λ_ _=>rfl,λj hj=>?_,λj o' hj hc hbx=>?_,λj s' es' fz' hj hc=>?_⟩
 .by_cases hkj:k=j
  .subst hkj;rw[qb _ _ _ a0];simp
  .rw[qa _ _ _ hkj];exact hj
 .by_cases hkj:k=j
  .subst hkj;rw[qb _ _ _ a0]at hc;rw[<-hc]at hbx;simp[xZ]at hbx
  .rw[qa _ _ _ hkj]at hc;exact⟨by rw[hc];exact hbx,by simp[kd,k2 hkj]⟩
 .by_cases hkj:k=j
  .subst hkj;rw[qb _ _ _ a0]at hc;simp at hc
  .rw[qa _ _ _ hkj]at hc;exact⟨⟨_,_,hc,rfl⟩,by simp[kd,k2 hkj]⟩
theorem Conc.killO {k:Nat} (h:Conc C B F0 w0 F loc st a w) (hk:nth .none st.objs k≠ .none) (dt:List Nat):
 Conc C B F0 w0 F (kd loc k) ⟨st.tmps,upd st.objs k .dead,dt⟩ a w:=by
 have hlt:k<st.objs.length:=by
  rcases hK k st.objs.length with h1|h1
  .exact h1
  .rw[qF _ h1]at hk;simp at hk
 have a0:Le st.objs (upd st.objs k .dead) loc (kd loc k):=T5 hk;have:=h.step (dst:=none) (v:= .any) (x:=undef) (up:=[(k,.dead)]) (loc':=kd loc k) (F':=F) (λ_ h=>h) (λ_ _=>rfl) a0 h.below h.hB (λj=>?_) ?_ ?_ h.bound h.fsub trivial trivial
 .exact this.redirty
 .show CO _ (upd st.objs k .dead) _ _ _ (nth .none (upd st.objs k .dead) j);by_cases hkj:k=j
  .subst hkj;rw[qb _ _ _ hlt];simp[CO,kd]
  .rw[qa _ _ _ hkj];exact CO.le (λ_ h=>h) (λ_ _=>rfl) a0 (by simp[kd,k2 hkj]) rfl (λb c hb=>⟨rfl,λh=>h⟩) (h.objs j)
 .intro j j' b c c' h1 h2;simp only[kd]at h1 h2;split at h1
  .simp at h1
  .split at h2
   .simp at h2
   .exact h.inj _ _ _ _ _ h1 h2
 .intro j b c h1;simp only[kd]at h1;split at h1
  .simp at h1
  .exact h.fresh _ _ _ h1
theorem Conc.kill {k s:Nat} {es:List (List D)} {fz:Bool} (h:Conc C B F0 w0 F loc st a w) (hk:nth .none st.objs k= .arr s es fz) (dt:List Nat):
 Conc C B F0 w0 F (kd loc k) ⟨st.tmps,upd st.objs k .dead,dt⟩ a w:=h.killO (by rw[hk];simp) dt
theorem Conc.adopt {d b cap tt:Nat} {ob:Obj} {v:V} {x:Value} {cs:Array Value} {t:TypeId} (h:Conc C B F0 w0 F loc st a w) (hd:qy st.objs d=true)
 (hb:Own B b/\b<w.heap.size) (hnF:¬F b) (hno:∀k c,loc k≠some (b,c))
 (hob:CO (at_ loc d (b,cap) tt) (upd st.objs d ob) (setBlk w b (.cells cs t (0,0))) F d ob)
 (hv:CV (at_ loc d (b,cap) tt) (upd st.objs d ob) (setBlk w b (.cells cs t (0,0))) F v x) (hr:Ref (upd st.objs d ob) v):
 Conc C B F0 w0 F (at_ loc d (b,cap) tt) (st.put dst v [(d,ob)]) (a.put dst x) (setBlk w b (.cells cs t (0,0))):=by
 obtain⟨a0,hlt⟩:=qH hd;have hw:∀b',F b'->(setBlk w b (.cells cs t (0,0))).heap[b']? =w.heap[b']? :=λb' hb'=>ze (λe=>hnF (e▸hb'))
 have a1:Le st.objs (upd st.objs d ob) loc (at_ loc d (b,cap) tt):=by
  refine⟨rfl,λk hk=>by
   have:k≠d:=λe=>by subst e;exact absurd a0 hk
   simp[at_,this],λk hk=>?_,λk o' hk hc hbx=>?_,λk s es' fz' hk hc=>?_⟩
  .by_cases hkd:d=k
   .subst hkd;exact absurd a0 hk
   .rw[qa _ _ _ hkd];exact hk
  .by_cases hkd:d=k
   .subst hkd;exact absurd a0 hk
   .rw[qa _ _ _ hkd]at hc;exact⟨by rw[hc];exact hbx,by simp[at_,k2 hkd]⟩
  .by_cases hkd:d=k
   .subst hkd;exact absurd a0 hk
   .rw[qa _ _ _ hkd]at hc;exact⟨⟨_,_,hc,rfl⟩,by simp[at_,k2 hkd]⟩
 refine h.step (up:=[(d,ob)]) (λ_ h=>h) hw a1 (BelowX.setBlk h.below hb.1) (by rw[zW];exact h.hB) (λk=>?_) ?_ ?_ (λb' hb'=>by rw[zW];exact h.bound b' hb') h.fsub hv hr
 .show CO _ (upd st.objs d ob) _ _ _ (nth .none (upd st.objs d ob) k);by_cases hk:d=k
  .subst hk;rw[qb _ _ _ hlt];exact hob
  .rw[qa _ _ _ hk];refine CO.le (λ_ h=>h) hw a1 (by simp[at_,k2 hk]) (by simp[at_,k2 hk]) (λb' c hb'=>⟨ze (λe=>?_),λh=>h⟩) (h.objs k);subst e;exact hno _ _ hb'
 .intro k k' b' c c' h1 h2;simp only[at_]at h1 h2;split at h1<;>split at h2
  .rw[‹k=d›,‹k'=d›]
  .simp only[k5,k6]at h1;rw[<-h1.1]at h2;exact absurd h2 (hno _ _)
  .simp only[k5,k6]at h2;rw[<-h2.1]at h1;exact absurd h1 (hno _ _)
  .exact h.inj _ _ _ _ _ h1 h2
 .intro k b' c h1;simp only[at_]at h1;rw[zW];split at h1
  .simp only[k5,k6]at h1;obtain⟨rfl,_⟩:=h1;exact hb
  .exact h.fresh _ _ _ h1
theorem Ic {x:Operand} {ts:Array TypeId} (h:Conc C B F0 w0 F loc st a w):RS C B F0 w0 st a w ⟨dst,.call ⟨.builtin .len, #[x],ts⟩,ty,pos,after,g⟩ (AV C.P st.objs ts (ev st x)):=by
 unfold AV;have hx:=(xb h x).1;split
 .rename_i t hts;have a1:∀n:Int,(M1 ts ty #[a.eval x]).run C.P w= .ok (.int .i64 n) w->(execOp a.eval ⟨dst,.call ⟨.builtin .len, #[x],ts⟩,ty,pos,after,g⟩).run C.P w= .ok (.value (.int .i64 n)) w:=λn hn=>by simp[execOp,resolve,invoke,builtin,hn]
  have a3:ts[0]? =some t:=by
   have:ts= #[t]:=by apply Aw;simpa using hts
   rw[this];rfl
  split
  .rename_i hu;split
   .rename_i s hv;rw[hv]at hx;refine qJ h (J3 _ _) trivial (a1 _ ?_);simp[M1,a3,qO hu,XC hx,goInt];rfl
   .trivial
  .rename_i e hu;have a2:∀ad n c,a.eval x= .slice ad n c->(M1 ts ty #[a.eval x]).run C.P w= .ok (.int .i64 n) w:=λad n c a0=>by simp[M1,a3,qO hu,a0,goInt]
   split
   .rename_i es hv;rw[hv]at hx;obtain⟨ad,c,a0,_⟩:=J4 hx;exact qJ h (J3 _ _) trivial (a1 _ (a2 _ _ _ a0))
   .rename_i hv;rw[hv]at hx;exact qJ h (J3 _ _) trivial (a1 _ (a2 none 0 0 hx))
   .rename_i k hv;rw[hv]at hx;split
    .rename_i s es fz hk;rcases hx s es fz hk with⟨b,c,_,a0⟩|⟨_,rfl,a0⟩
     .exact qJ h (J3 _ _) trivial (a1 _ (a2 _ _ _ a0))
     .exact qJ h (J3 _ _) trivial (a1 _ (a2 _ _ _ a0))
    .trivial
   .rename_i k o l hv;rw[hv]at hx;split
    .rename_i s es fz hk;rcases hx s es fz hk with⟨b,c,_,_,a0⟩|⟨_,_,_,_,rfl,a0⟩|⟨_,_,_,rfl,_,_,a0⟩
     .exact qJ h (J3 _ _) trivial (a1 _ (a2 _ _ _ a0))
     .exact qJ h (J3 _ _) trivial (a1 _ (a2 _ _ _ a0))
     .exact qJ h (J3 _ _) trivial (a1 _ (a2 _ _ _ a0))
    .trivial
   .rename_i k n hv;rw[hv]at hx;split
    .rename_i a4 hk;obtain⟨b,c,_,a0⟩:=hx _ hk rfl;exact qJ h (J3 _ _) trivial (a1 _ (a2 _ _ _ a0))
    .trivial
   .trivial
  .trivial
 .trivial
theorem jk {d:Int} {x:Option Operand} {n:Int} (h:Conc C B F0 w0 F loc st a w) (hb:kl d (za (ev st) x)=some n):(x=none/\n=d)\/∃y k,x=some y/\a.eval y= .int k n:=by
 cases x with
 |none=>simp only[za,kl,k5]at hb;exact .inl ⟨rfl,hb.symm⟩
 |some y=>
  simp only[za]at hb;have hy:=(xb h y).1;generalize ev st y=v at hb hy;unfold kl at hb;split at hb
  .rename_i a0;simp at a0
  .rename_i k m a0;simp only[k5]at a0 hb;subst a0 hb;exact .inr ⟨y,k,rfl,kM hy⟩
  .simp at hb
omit [Env] in
theorem zZ {P:Program} {sl:Bool} {len cap:Nat} {lo hi:Option Operand} {l r:Int} (hl:(lo=none/\l=0)\/∃y k,lo=some y/\a.eval y= .int k l) (hr:(hi=none/\r=len)\/∃y k,hi=some y/\a.eval y= .int k r)
 (h0:0<=l) (h1:l<=r) (h2:r<=len) (h3:len<=cap):(M3 sl len cap (lo.map a.eval) (hi.map a.eval) none).run P w= .ok (l.toNat,r.toNat,cap) w:=by
 have a0:0<=r:=by omega
 have a1:r<=(cap:Int):=by omega
 have hlr:l<=(r.toNat:Int):=by omega
 rcases hl with⟨rfl,rfl⟩|⟨y,k,rfl,hy⟩<;>rcases hr with⟨rfl,rfl⟩|⟨y',k',rfl,a2⟩
 .simp[M3]
 .simp[M3,a2,run_sliceBound _ _ _ _ _ a0 a1]
 .have:l<=(len:Int):=h1;simp[M3,hy,run_sliceBound _ _ _ _ _ h0 this]
 .simp[M3,hy,a2,run_sliceBound _ _ _ _ _ a0 a1,run_sliceBound _ _ _ _ _ h0 hlr]
omit [Env] in
theorem VV {P:Program} {sl:Bool} {len cap:Nat} {lo hi mx:Option Operand} {l r m:Int} (hl:(lo=none/\l=0)\/∃y k,lo=some y/\a.eval y= .int k l) (hr:∃y k,hi=some y/\a.eval y= .int k r)
 (hm:∃y k,mx=some y/\a.eval y= .int k m) (h0:0<=l) (h1:l<=r) (h2:r<=m) (h3:m<=cap):(M3 sl len cap (lo.map a.eval) (hi.map a.eval) (mx.map a.eval)).run P w= .ok (l.toNat,r.toNat,m.toNat) w:=by
 have a1:0<=m:=by omega
 have a2:0<=r:=by omega
 have a3:r<=(m.toNat:Int):=by omega
 have hlr:l<=(r.toNat:Int):=by omega
 obtain⟨y',k',rfl,a4⟩:=hr;obtain⟨y'',k'',rfl,a0⟩:=hm;rcases hl with⟨rfl,rfl⟩|⟨y,k,rfl,hy⟩
 .simp[M3,a4,a0,run_sliceBound _ _ _ _ _ a1 h3,run_sliceBound _ _ _ _ _ a2 a3]
 .simp[M3,hy,a4,a0,run_sliceBound _ _ _ _ _ a1 h3,run_sliceBound _ _ _ _ _ a2 a3,run_sliceBound _ _ _ _ _ h0 hlr]
theorem Row.part {es:List (List D)} {b o size l r:Nat} (h:Row w F es b o size) (h1:l<=r) (h2:r<=es.length):Row w F ((es.take r).drop l) b (o+l*size) size:=by
 refine⟨λe he=>h.hs e (ey (fe he)),h.hF,λj hj=>?_⟩;have a0:((es.take r).drop l).length=r-l:=by simp;omega
 rw[a0]at hj;obtain⟨q,hq⟩:∃q,q=j/size:=⟨_,rfl⟩;have hs0:0<size:=by
  rcases k0 size with h0|h0
  .subst h0;omega
  .exact h0
 have hqr:q<r-l:=by rw[hq];exact ia (by rw[hR];exact hj)
 have hjq:j=q*size+j%size:=by rw[hq,hR];exact(im j size).symm
 have a1:=kk j hs0;obtain⟨v,q1,q2⟩:=h.hc ((l+q)*size+j%size) (W5 (by omega) a1);refine⟨v,by rw[<-q1];congr 2;rw[hQ];omega,?_⟩;rw[xS h.hs _ _ (by omega) a1]at q2;rw[hjq,xS (λe he=>h.hs e (ey (fe he))) _ _ (by omega) a1];have:nth [] (List.drop l (List.take r es)) q=nth [] es (l+q):=by simp only[qu,List.getElem?_drop];rw[gd,if_pos (by omega)]
 rw[this];exact q2
theorem Pc {es:List (List D)} {x:Value} {z:List Value} {e:TypeId} {l r m:Nat} (hx:CD w F (.sl es) x) (_hz:zQ C.P e=some z) (hlens:lens z.length es) (h1:l<=r) (h2:r<=es.length) (h3:r<=m):
 ∃ad c,x= .slice ad es.length c/\es.length<=c/\(m<=c->CD w F (.sl ((es.take r).drop l)) (.slice (if m=l then ad else ad.map (·.add (l*z.length))) (r-l) (m-l))):=by
 obtain⟨ad,c,hxe,hlc,a0⟩:=hx.slice_inv;refine⟨ad,c,hxe,hlc,λ_=>?_⟩;have a1:((es.take r).drop l).length=r-l:=by simp;omega
 rcases Nat.eq_or_lt_of_le h1 with rfl|hlt
 .have:(es.take l).drop l=[]:=eL (by rw[a1];omega);rw[this,j4];exact .nil _ _
 .rcases a0 with rfl|⟨b,o,a2,rfl,a0⟩
  .simp at h2;omega
  .have hne:es≠[]:=by intro h0;subst h0;simp at h2;omega
   obtain⟨e0,es0,rfl⟩:=g1 hne;have hsz:a2=z.length:=by rw[<-hlens e0 (by simp)];exact(a0.hs e0 (by simp)).symm
   subst hsz;rw[if_neg (by omega)];have:=(a0.part h1 h2).CD (c:=m-l) (by rw[a1];omega);rw[a1]at this
   simpa [xq]using this
theorem T6 {t:TypeId} {x:Operand} {lo hi mx:Option Operand} (h:Conc C B F0 w0 F loc st a w):RS C B F0 w0 st a w ⟨dst,.slice t x lo hi mx,ty,pos,after,g⟩ (Wt C.P t st.objs (ev st x) (za (ev st) lo) (za (ev st) hi) (za (ev st) mx)):=by
 simp only[Wt];have hx:=(xb h x).1;split
 .rename_i hu;split
  .rename_i s hv;rw[hv]at hx;have hs:=XC hx;split
   .rename_i l r hl hr;have a5:=jk h hl;have a2:=jk h hr;split
    .rename_i hm;have a4:mx=none:=by cases mx with|none=>rfl|some y=>simp[za]at hm
     subst a4;rintro⟨h0,h1,h2⟩;have hb:=zZ (P:=C.P) (w:=w) (sl:=false) (len:=s.length) (cap:=s.length) a5 a2 h0 h1 h2 (hP _);refine xa h (x:= .string ⟨⟨(s.take r.toNat).drop l.toNat⟩⟩) ?_ (CD.str _) trivial;have hsz:(⟨⟨s⟩⟩:ByteArray).size=s.length:=rfl;have a7:(⟨⟨s⟩⟩:ByteArray).extract l.toNat r.toNat=⟨⟨(s.take r.toNat).drop l.toNat⟩⟩:=by apply ByteArray.ext;apply Aw;simp only[ByteArray.data_extract,Hv,g2];rw[List.drop_take]
     simp[execOp,No,qO hu,Pl,hs,hsz,hb,a7]
    .trivial
   .trivial
  .trivial
 .rename_i e hu;split
  .rename_i z es us hz hel;obtain⟨hfz,hcd⟩:=OT h hel hx;have b0:∀(l r m:Int) (c0:∀(F':Nat->Prop) ad c,CD w F' (.sl es) (a.eval x)->a.eval x= .slice ad es.length c->es.length<=c->∃mm:Nat,mm<=c/\r.toNat<=mm/\(M3 true es.length c (lo.map a.eval) (hi.map a.eval) (mx.map a.eval)).run C.P w= .ok (l.toNat,r.toNat,mm) w),
    0<=l->l<=r->r<=es.length->lens z.length es->Does C B F0 w0 ⟨dst,.slice t x lo hi mx,ty,pos,after,g⟩ a w (st.put dst (.c (.sl ((es.take r.toNat).drop l.toNat))) us):=by
    intro l r m c0 h0 h1 h2 a3;obtain⟨F',hc',hF',hb'⟩:=h.freezes hfz st.dirty;have a0:=hcd F' hF' hb';obtain⟨ad,c,an,a6,_⟩:=a0.slice_inv;obtain⟨mm,hm1,hm2,al⟩:=c0 F' ad c a0 an a6;obtain⟨ad',c',a1,_,ag⟩:=Pc (C:=C) (l:=l.toNat) (r:=r.toNat) (m:=mm) a0 hz a3 (by omega) (by omega) hm2;rw[an]at a1;simp only[Value.slice.injEq]at a1;obtain⟨rfl,_,rfl⟩:=a1;refine⟨_,_,w,?_,.inl rfl,F',loc,(hc'.pure (dst:=dst) (v:= .c (.sl ((es.take r.toNat).drop l.toNat))) (ag hm1) trivial).redirty⟩;have h3:=xf hz w;simp[execOp,No,qO hu,Pl,an,al,h3]
   split
   .rename_i l r hl hr;have a5:=jk h hl;have a2:=jk h hr;split
    .rename_i hm;have a4:mx=none:=by cases mx with|none=>rfl|some y=>simp[za]at hm
     subst a4;rintro⟨h0,h1,h2,h3⟩;exact b0 l r 0 (λF' ad c _ _ a6=>⟨c,hP _,by omega,zZ (P:=C.P) a5 a2 h0 h1 h2 a6⟩) h0 h1 h2 h3
    .rename_i mv hm;split
     .rename_i m _ ap hh;rw[<-hm]at ap;rcases jk h ap with⟨a4,_⟩|hm'
      .subst a4;simp[za]at hm
      rcases a2 with⟨hhi,_⟩|a2
      .subst hhi;simp[za]at hh
      .rintro⟨h0,h1,h2,h3,h4⟩;exact b0 l r m (λF' ad c _ _ a6=>⟨m.toNat,by omega,by omega,VV (P:=C.P) a5 a2 hm' h0 h1 h2 (by omega)⟩) h0 h1 (by omega) h4
     .trivial
   .trivial
  .trivial
 .trivial
theorem T7 {t:TypeId} {x:Operand} {lo hi mx:Option Operand} (h:Conc C B F0 w0 F loc st a w):RS C B F0 w0 st a w ⟨dst,.slice t x lo hi mx,ty,pos,after,g⟩ (Wu C.P t st.objs (ev st x) (za (ev st) lo) (za (ev st) hi) (za (ev st) mx)):=by
 unfold Wu;split
 .exact T6 h
 .rename_i a0;have hv:ev st x= .nilS:=by
   cases hq:ev st x<;>rw[hq]at a0<;>simp[nilB]at a0 ⊢
  split
  .rename_i e hu hm;split
   .rename_i z l r hz hl hr;have hmx:mx=none:=by cases mx with|none=>rfl|some y=>simp[za]at hm
    subst hmx;rintro⟨h0,h1,h2⟩;have hx:=(xb h x).1;rw[hv]at hx;have hx:a.eval x= .slice none 0 0:=hx;have hl':=jk h hl;have hr':=jk h hr;have hb:=zZ (P:=C.P) (w:=w) (sl:=true) (len:=0) (cap:=0) hl' hr' h0 h1 h2 (hP _);refine xa h (x:= .slice none 0 0) ?_ rfl trivial;have h3:=xf hz w;have e1:l.toNat=0:=by omega
    have e2:r.toNat=0:=by omega
    rw[e1,e2]at hb;simp[execOp,No,qO hu,Pl,hx,hb,h3]
   .trivial
  .trivial
theorem C3 {t:TypeId} {x:Operand} {lo hi mx:Option Operand} (h:Conc C B F0 w0 F loc st a w):RS C B F0 w0 st a w ⟨dst,.slice t x lo hi mx,ty,pos,after,g⟩ (VJ C.P t st.objs (ev st x) (za (ev st) lo) (za (ev st) hi) (za (ev st) mx)):=by
 unfold VJ;have hx:=xb h x;split
 .rename_i e hu;split
  .rename_i z k hz hv;rw[hv]at hx;split
   .rename_i s es fz hk;split
    .rename_i an a6;have an:lo=none:=by cases lo with|none=>rfl|some y=>simp[za]at an
     have a6:mx=none:=by cases mx with|none=>rfl|some y=>simp[za]at a6
     subst an a6;split
     .rename_i r hs hr;have hs:s=z.length:=hM hs;have a7:=jk h hr;have a4:(0<=r/\r<=es.length)->True->Does C B F0 w0 ⟨dst,.slice t x none hi none,ty,pos,after,g⟩ a w (st.put dst (.sub k 0 r.toNat) []):=by
       rintro⟨h0,h2⟩ _;have a2:=h.objs k;rw[hk]at a2;rcases hx.1 s es fz hk with⟨b,c,a1,a3⟩|⟨a1,rfl,a3⟩
       .obtain⟨_,_,_,a2⟩:=a2;rcases a2 with⟨h5,_⟩|⟨b',c',cs,t',h5,_,_,_,al,_⟩
        .rw[h5]at a1;simp at a1
        rw[h5]at a1;simp only[k5,k6]at a1;obtain⟨rfl,rfl⟩:=a1;have a0:=zZ (P:=C.P) (w:=w) (sl:=true) (len:=es.length) (cap:=c') (lo:=none) (l:=0) (.inl ⟨rfl,rfl⟩) a7 (by omega) (by omega) h2 al.1;simp only[k4]at a0;have ad:=xf hz w;refine xa h (x:= .slice (some ⟨b',0,none⟩) r.toNat c') ?_ (λs' es' fz' hc=>?_) hx.2
        .by_cases hne:c'=0
         .rw[hne]at a3 a0 ⊢;simp[execOp,No,qO hu,Pl,a3,a0,ad]
         .simp[execOp,No,qO hu,Pl,a3,a0,ad,hne,xq]
        .rw[hk]at hc;simp only[Lr]at hc;obtain⟨rfl,rfl,rfl⟩:=hc;exact .inl ⟨b',c',h5,by omega,by simp⟩
       .have ag:r.toNat=0:=by simp at h2;omega
        have a0:=zZ (P:=C.P) (w:=w) (sl:=true) (len:=0) (cap:=0) (lo:=none) (l:=0) (.inl ⟨rfl,rfl⟩) a7 (by omega) (by omega) (by simpa using h2) (hP _);simp only[k4]at a0;have ad:=xf hz w;refine xa h (x:= .slice none 0 0) ?_ (λs' es' fz' hc=>?_) hx.2
        .rw[ag]at a0;simp[execOp,No,qO hu,Pl,a3,a0,ad]
        .rw[hk]at hc;simp only[Lr]at hc;obtain⟨rfl,rfl,rfl⟩:=hc;exact .inr (.inl ⟨by have:=a2.2.1;omega,a1,rfl,rfl,ag,rfl⟩)
      exact λhc=>a4 hc trivial
     .trivial
    split
    .rename_i l r hs hl hr hm;have hs:s=z.length:=hM hs;have a6:mx=none:=by cases mx with|none=>rfl|some y=>simp[za]at hm
     subst a6;have ap:=jk h hl;have a7:=jk h hr;have a4:(0<=l/\l<=r/\r<=es.length)->True->Does C B F0 w0 ⟨dst,.slice t x lo hi none,ty,pos,after,g⟩ a w (st.put dst (.sub k l.toNat (r.toNat-l.toNat)) []):=by
      rintro⟨h0,h1,h2⟩ _;have a2:=h.objs k;rw[hk]at a2;rcases hx.1 s es fz hk with⟨b,c,a1,a3⟩|⟨a1,rfl,a3⟩
      .obtain⟨_,hs0,_,a2⟩:=a2;rcases a2 with⟨h5,_⟩|⟨b',c',cs,t',h5,_,_,_,al,_⟩
       .rw[h5]at a1;simp at a1
       rw[h5]at a1;simp only[k5,k6]at a1;obtain⟨rfl,rfl⟩:=a1;have a0:=zZ (P:=C.P) (w:=w) (sl:=true) (len:=es.length) (cap:=c') ap a7 h0 (by omega) h2 al.1;have h3:=xf hz w;by_cases hne:c'=l.toNat
       .have b0:r.toNat-l.toNat=0:=by omega
        refine xa h (x:= .slice (some ⟨b',0,none⟩) (r.toNat-l.toNat) (c'-l.toNat)) ?_ (λs' es' fz' hc=>?_) hx.2
        .rw[hne]at a3 a0 ⊢;simp[execOp,No,qO hu,Pl,a3,a0,h3]
        .rw[hk]at hc;simp only[Lr]at hc;obtain⟨rfl,rfl,rfl⟩:=hc;rcases k0 l.toNat with a5|a5
         .exact .inl ⟨b',c',h5,by omega,by rw[a5,hT]⟩
         .exact .inr (.inr ⟨by omega,a5,by omega,b0,_,_,by rw[b0]⟩)
       .refine xa h (x:= .slice (some ⟨b',l.toNat*s,none⟩) (r.toNat-l.toNat) (c'-l.toNat)) ?_ (λs' es' fz' hc=>?_) hx.2
        .simp[execOp,No,qO hu,Pl,a3,a0,h3,hs,hne,xq]
        .rw[hk]at hc;simp only[Lr]at hc;obtain⟨rfl,rfl,rfl⟩:=hc;exact .inl ⟨b',c',h5,by omega,rfl⟩
      .have ag:r.toNat=0:=by simp at h2;omega
       have a5:l.toNat=0:=by omega
       have a0:=zZ (P:=C.P) (w:=w) (sl:=true) (len:=0) (cap:=0) ap a7 h0 (by omega) (by simpa using h2) (hP _);have h3:=xf hz w;refine xa h (x:= .slice none 0 0) ?_ (λs' es' fz' hc=>?_) hx.2
       .rw[ag,a5]at a0;simp[execOp,No,qO hu,Pl,a3,a0,h3]
       .rw[hk]at hc;simp only[Lr]at hc;obtain⟨rfl,rfl,rfl⟩:=hc;exact .inr (.inl ⟨by have:=a2.2.1;omega,a1,rfl,a5,by omega,rfl⟩)
     exact λhc=>a4 hc trivial
    .trivial
   .trivial
  .trivial
 .trivial
theorem Pd {t:TypeId} {x:Operand} {lo hi mx:Option Operand} (h:Conc C B F0 w0 F loc st a w):RS C B F0 w0 st a w ⟨dst,.slice t x lo hi mx,ty,pos,after,g⟩ (xp C ⟨dst,.slice t x lo hi mx,ty,pos,after,g⟩ (ev st) st.objs):=by
 simp only[xp];split
 .rename_i g' hg;have hv:ev st x= .gl g' 0:=by
   unfold SR at hg;split at hg
   .rename_i hv;simp only[k5]at hg;rw[hv,hg]
   .simp at hg
  have hx:=(xb h x).1;rw[hv]at hx;have hx:a.eval x= .pointer (some ⟨g',0,none⟩):=hx;unfold Tq;split
  .rename_i len e hu a2 a0 a3;have a2:lo=none:=by cases lo with|none=>rfl|some y=>simp[za]at a2
   have a0:hi=none:=by cases hi with|none=>rfl|some y=>simp[za]at a0
   have a3:mx=none:=by cases mx with|none=>rfl|some y=>simp[za]at a3
   subst a2 a0 a3;split
   .rename_i es hes;obtain⟨a4,a1,hp0⟩:=Gc h hes;obtain⟨inf,q1,q2⟩:=zj (P:=C.P) (t:=e) (by omega);refine qJ h (x:= .slice (some ⟨g',0,none⟩) es.length es.length) (a4.CD (hP _)) trivial ?_;simp[execOp,No,qO hu,Pl,hx,a1,Ls,typeInfo,q1,Tk,M3,xq]
   .trivial
  .trivial
 .split
  .exact T7 h
  .exact C3 h
end
end Eng
end
section
namespace Eng
open Go Go.RowKit
variable [Env]
section
variable {C:Cx} {B:Bd} {F0:Nat->Prop} {w0:World} {F:Nat->Prop} {loc:Where} {st:St} {a:Act} {w:World}
variable {dst:Option Nat} {ty:TypeId} {pos:String} {after:Array Edge} {g:Option (Nat×Bool)}
omit [Env] in
theorem XH {off:Nat}:∀(l:List Value) (k:Nat) (cells:Array Value),(l.zipIdx k).foldl (λcs (x:Value×Nat)=>cs.setIfInBounds (off+x.2) x.1) cells=(qK cells.toList (off+k) l).toArray
 |[],_,cells=>by simp[qK]
 |v::l,k,cells=>by rw[List.zipIdx_cons,List.foldl_cons,XH l (k+1)];simp only[qK,Array.toList_setIfInBounds,<-xn];rw[show off+(k+1)=off+k+1 by omega]
omit [Env] in
theorem XI {v:Value} {off:Nat} {cells:Array Value}:v.cells.zipIdx.foldl (λcs (x:Value×Nat)=>cs.setIfInBounds (off+x.2) x.1) cells=(qK cells.toList off v.cells.toList).toArray:=by
 have:=XH (off:=off) v.cells.toList 0 cells;rw[hW]at this;rw[<-this,<-Array.foldl_toList,Array.toList_zipIdx]
theorem Xl:∀{ps:List (Nat×Operand)} {qs:List (Nat×List D)} {us:List (Nat×Obj)} (_:Conc C B F0 w0 F loc st a w) (_:zb st.objs (ev st) ps=some (qs,us)),
 Frz st.objs us/\∀F':Nat->Prop,(∀b,F b->F' b)->(∀p∈us,∀b c,loc p.1=some (b,c)->F' b)->All2 (λq (p:Nat×Value)=>q.1=p.1/\All2 (CD w F') q.2 p.2.cells.toList) qs (ps.map λx=>(x.1,a.eval x.2))
 |[],qs,us,h,hp=>by simp only[zb,k5,k6]at hp;obtain⟨rfl,rfl⟩:=hp;exact⟨Frz.nil _,λ_ _ _=>trivial⟩
 |(i,x)::ps,qs,us,h,hp=>by
  simp only[zb]at hp;split at hp
  .rename_i ds u qs' us' h1 h2;simp only[k5,k6]at hp;obtain⟨rfl,rfl⟩:=hp;obtain⟨q1,q2⟩:=HU h h1 (xb h x).1;obtain⟨r1,r2⟩:=Xl h h2;exact⟨q1.append r1,λF' hF hb=>⟨⟨rfl,q2 F' hF λp hp=>hb p (by simp[hp])⟩,r2 F' hF λp hp=>hb p (by simp[hp])⟩⟩
  .simp at hp
theorem XJ {F':Nat->Prop} {pl:List (Nat×Nat)} {place:Nat->Option (Nat×Nat)} (hpl:∀i p,pl[i]? =some p->place i=some p):
 ∀(qs:List (Nat×List D)) (ps:List (Nat×Value)) (cs cs':List D) (vs:Array Value),All2 (λq (p:Nat×Value)=>q.1=p.1/\All2 (CD w F') q.2 p.2.cells.toList) qs ps->Wv pl qs cs=some cs'->All2 (CD w F') cs vs.toList->
  ∃vs':Array Value,P1 place vs ps=some vs'/\All2 (CD w F') cs' vs'.toList
 |[],[],cs,cs',vs,_,hb,hv=>by simp only[Wv,k5]at hb;subst hb;exact⟨vs,rfl,hv⟩
 |(i,ds)::qs,(i',x)::ps,cs,cs',vs,hq,hb,hv=>by
  obtain⟨⟨rfl,h1⟩,h2⟩:=hq;simp only[Wv]at hb;split at hb
  .rename_i off size hf;split at hb
   .rename_i hc;simp only[Hy,decide_eq_true_eq]at hc;have hlen:=h1.length;have hvl:cs.length=vs.size:=by simpa using hv.length
    simp at hlen;obtain⟨vs',q1,q2⟩:=XJ hpl qs ps _ cs' (qK vs.toList off x.cells.toList).toArray h2 hb (by
     rw[JV];exact All2.upds _ _ _ _ _ h1 hv)
    refine⟨vs',?_,q2⟩;simp only[P1,hpl _ _ hf];rw[if_neg (by simp;omega)];have:=XI (v:=x) (off:=off) (cells:=vs);rw[this];exact q1
   .simp at hb
  .simp at hb
 |[],_::_,_,_,_,hq,_,_=>hq.elim
 |_::_,[],_,_,_,hq,_,_=>hq.elim
theorem XK {F':Nat->Prop}:∀{z:List Value},(∀x∈z,x.oneCell'=true)->All2 (CD w F') (z.map xH) z
 |[],_=>trivial
 |x::z,h=>⟨yA _ _ x (h x (by simp)),XK λy hy=>h y (by simp[hy])⟩
theorem T8 (w:World) (F:Nat->Prop) (v:Value) (h:v.oneCell'=true):CVC loc st.objs w F (X0 v) v:=by
 unfold X0;split
 .rfl
 .exact yA w F v h
theorem XL:∀{z:List Value},(∀x∈z,x.oneCell'=true)->All2 (CVC loc st.objs w F) (z.map X0) z
 |[],_=>trivial
 |x::z,h=>⟨T8 _ _ x (h x (by simp)),XL λy hy=>h y (by simp[hy])⟩
omit [Env] in
theorem Kb:∀(vs:List D) (cs:List VC) (off:Nat),OF cs off vs=qK cs off (vs.map VC.d)
 |[],cs,off=>rfl
 |v::vs,cs,off=>by simp[qK,OF,Kb vs]
theorem SZ {loc':Where} {objs':List Obj} {F':Nat->Prop}:∀{ds:List D} {xs:List Value},All2 (CD w F') ds xs->All2 (CVC loc' objs' w F') (ds.map VC.d) xs
 |[],[],_=>trivial
 |_::_,_::_,h=>⟨h.1,SZ h.2⟩
 |[],_::_,h=>h.elim
 |_::_,[],h=>h.elim
omit [Env] in
theorem XN {pl:List (Nat×Nat)}:∀(qs:List (Nat×List D)) (cs cs':List VC),QK pl qs cs=some cs'->jG cs=[]->jG cs'=[]
 |[],cs,cs',h,hk=>by simp only[QK,k5]at h;subst h;exact hk
 |(i,ds)::qs,cs,cs',h,hk=>by
  simp only[QK]at h;split at h
  .split at h
   .refine XN qs _ cs' h ?_;rw[Kb];rw[List.eq_nil_iff_forall_not_mem]at hk ⊢;intro k hk';have:=xC.1 hk';have hm:∀(l:List VC) (cs:List VC) (off:Nat) (v:VC),v∈qK cs off l->v∈cs\/v∈l:=by
     intro l
     induction l with
     |nil=>intro cs off v hv;exact .inl hv
     |cons d l ih=>
      intro cs off v hv;rcases ih _ _ _ hv with hv|hv
      .rcases xL hv with hv|rfl
       .exact .inl hv
       .exact .inr (by simp)
      .exact .inr (by simp[hv])
    rcases hm _ _ _ _ this with h1|h1
    .exact hk k (xC.2 h1)
    .obtain⟨_,_,e⟩:=gv.1 h1;cases e
   .simp at h
  .simp at h
omit [Env] in
theorem kQ:∀(z:List Value),jG (z.map X0)=[]
 |[]=>rfl
 |v::z=>by
  simp only[g4];unfold X0;split
  .exact kQ z
  .exact kQ z
theorem XO {loc':Where} {objs':List Obj} {F':Nat->Prop} {pl:List (Nat×Nat)} {place:Nat->Option (Nat×Nat)} (hpl:∀i p,pl[i]? =some p->place i=some p):
 ∀(qs:List (Nat×List D)) (ps:List (Nat×Value)) (cs cs':List VC) (vs:Array Value),All2 (λq (p:Nat×Value)=>q.1=p.1/\All2 (CD w F') q.2 p.2.cells.toList) qs ps->QK pl qs cs=some cs'->All2 (CVC loc' objs' w F') cs vs.toList->
  ∃vs':Array Value,P1 place vs ps=some vs'/\All2 (CVC loc' objs' w F') cs' vs'.toList
 |[],[],cs,cs',vs,_,hb,hv=>by simp only[QK,k5]at hb;subst hb;exact⟨vs,rfl,hv⟩
 |(i,ds)::qs,(i',x)::ps,cs,cs',vs,hq,hb,hv=>by
  obtain⟨⟨rfl,h1⟩,h2⟩:=hq;simp only[QK]at hb;split at hb
  .rename_i off size hf;split at hb
   .rename_i hc;simp only[Hy,decide_eq_true_eq]at hc;have hlen:=h1.length;have hvl:cs.length=vs.size:=by simpa using hv.length
    simp at hlen;obtain⟨vs',q1,q2⟩:=XO hpl qs ps _ cs' (qK vs.toList off x.cells.toList).toArray h2 hb (by
     rw[Kb];exact All2.upds _ _ _ _ _ (SZ h1) hv)
    refine⟨vs',?_,q2⟩;simp only[P1,hpl _ _ hf];rw[if_neg (by simp;omega)];have:=XI (v:=x) (off:=off) (cells:=vs);rw[this];exact q1
   .simp at hb
  .simp at hb
 |[],_::_,_,_,_,hq,_,_=>hq.elim
 |_::_,[],_,_,_,hq,_,_=>hq.elim
theorem Pe {t:TypeId} {parts:Array (Nat×Operand)} (h:Conc C B F0 w0 F loc st a w):RS C B F0 w0 st a w ⟨dst,.build t parts,ty,pos,after,g⟩ (xp C ⟨dst,.build t parts,ty,pos,after,g⟩ (ev st) st.objs):=by
 simp only[xp];split
 .rename_i z pl hz a1;split
  .rename_i qs us hp;split
   .split
    .rename_i cs hb;obtain⟨inf,zv,hi,a7,b0,hsz,a5,_⟩:=xJ hz;obtain⟨an,a3⟩:=Xl h hp;obtain⟨F',al,ad,ag⟩:=h.freezes an st.dirty;have hq:=a3 F' ad ag;have a6:All2 (CD w F') (z.map xH) zv.cells.toList:=by rw[b0];exact XK a5
     have a2:∃a0:Array Value,C.P.built t ((parts.map λ(i,x)=>(i,a.eval x)).toList)=some a0/\All2 (CD w F') cs a0.toList:=by
      have a4:(parts.map λ(i,x)=>(i,a.eval x)).toList=parts.toList.map λx=>(x.1,a.eval x.2):=by simp
      rw[a4];unfold JT at a1;split at a1
      .rename_i fs hu;obtain⟨a0,q1,q2⟩:=XJ (w:=w) (F':=F') (pl:=pl) (place:=(pl.toArray[·]?)) (λi p hp=>by simpa using hp) qs _ _ cs zv.cells hq hb a6;exact⟨a0,by simp only[bF,hi,hu,a7,a1];exact q1,q2⟩
      .rename_i n e hu;split at a1
       .rename_i ie ap;simp only[k5]at a1;subst a1;obtain⟨a0,q1,q2⟩:=XJ (w:=w) (F':=F') (place:=λk=>some (k*ie.size,ie.size)) (λi p hp=>by
         simp only[gn,k3]at hp;obtain⟨k,hk,rfl⟩:=hp;have:k=i:=by
          have:=gr (n:=n) (i:=i);rcases hK i n with h1|h1
          .simp[h1]at hk;exact hk.symm
          .simp[h1]at hk
         subst this;rfl) qs _ _ cs zv.cells hq hb a6
        exact⟨a0,by simp only[bF,hi,hu,a7,ap];exact q1,q2⟩
       .simp at a1
      .simp at a1
     obtain⟨a0,q1,q2⟩:=a2;refine⟨_,_,w,?_,.inl rfl,F',loc,(al.pure (dst:=dst) (v:= .ag cs) (x:= .agg a0) ⟨a0,rfl,q2⟩ trivial).redirty⟩;have hr:=run_build (P:=C.P) w t (parts.map λ(i,x)=>(i,a.eval x)) a0 q1;simp only[execOp,cH,hr,cF];rfl
    .trivial
   .split
    .rename_i cs hb;obtain⟨inf,zv,hi,a7,b0,hsz,a5,_⟩:=xJ hz;obtain⟨an,a3⟩:=Xl h hp;obtain⟨F',al,ad,ag⟩:=h.freezes an st.dirty;have hq:=a3 F' ad ag;have a6:All2 (CVC loc (upds st.objs us) w F') (z.map X0) zv.cells.toList:=by rw[b0];exact XL (st:=⟨st.tmps,upds st.objs us,st.dirty⟩) a5
     have a2:∃a0:Array Value,C.P.built t ((parts.map λ(i,x)=>(i,a.eval x)).toList)=some a0/\All2 (CVC loc (upds st.objs us) w F') cs a0.toList:=by
      have a4:(parts.map λ(i,x)=>(i,a.eval x)).toList=parts.toList.map λx=>(x.1,a.eval x.2):=by simp
      rw[a4];unfold JT at a1;split at a1
      .rename_i fs hu;obtain⟨a0,q1,q2⟩:=XO (loc':=loc) (objs':=upds st.objs us) (w:=w) (F':=F') (pl:=pl) (place:=(pl.toArray[·]?)) (λi p hp=>by simpa using hp) qs _ _ cs zv.cells hq hb a6;exact⟨a0,by simp only[bF,hi,hu,a7,a1];exact q1,q2⟩
      .rename_i n e hu;split at a1
       .rename_i ie ap;simp only[k5]at a1;subst a1;obtain⟨a0,q1,q2⟩:=XO (loc':=loc) (objs':=upds st.objs us) (w:=w) (F':=F') (place:=λk=>some (k*ie.size,ie.size)) (λi p hp=>by
         simp only[gn,k3]at hp;obtain⟨k,hk,rfl⟩:=hp;have:k=i:=by
          have:=gr (n:=n) (i:=i);rcases hK i n with h1|h1
          .simp[h1]at hk;exact hk.symm
          .simp[h1]at hk
         subst this;rfl) qs _ _ cs zv.cells hq hb a6
        exact⟨a0,by simp only[bF,hi,hu,a7,ap];exact q1,q2⟩
       .simp at a1
      .simp at a1
     obtain⟨a0,q1,q2⟩:=a2;refine⟨_,_,w,?_,.inl rfl,F',loc,(al.pure (dst:=dst) (v:= .agv cs) (x:= .agg a0) ⟨a0,rfl,q2⟩ (λk hk=>by rw[XN _ _ _ hb (kQ z)]at hk;simp at hk)).redirty⟩;have hr:=run_build (P:=C.P) w t (parts.map λ(i,x)=>(i,a.eval x)) a0 q1;simp only[execOp,cH,hr,cF];rfl
    .trivial
  .trivial
 .trivial
end
end Eng
end
section
namespace Eng
open Go Go.RowKit
variable [Env]
section
variable {C:Cx} {B:Bd} {F0:Nat->Prop} {w0:World} {F:Nat->Prop} {loc:Where} {st:St} {a:Act} {w:World}
variable {dst:Option Nat} {ty:TypeId} {pos:String} {after:Array Edge} {g:Option (Nat×Bool)}
omit [Env] in
theorem ja {α β:Type} {R:α->β->Prop} (d:α) (e:β):∀{as:List α} {bs:List β},as.length=bs.length->(∀i,i<as.length->R (nth d as i) (nth e bs i))->All2 R as bs
 |[],[],_,_=>trivial
 |a::as,b::bs,hl,h=>⟨h 0 (by simp),ja d e (by simpa using hl) λi hi=>h (i+1) (by simpa using hi)⟩
 |[],_::_,hl,_=>by simp at hl
 |_::_,[],hl,_=>by simp at hl
omit [Env] in
theorem Jo {α:Type}:∀(ds l p:List α),l.length=ds.length->qK (p++l) p.length ds=p++ds
 |[],l,p,h=>by have:l=[]:=eL h;subst this;simp[qK]
 |d::ds,[],p,h=>by simp at h
 |d::ds,x::l,p,h=>by
  simp only[qK];have h1:upd (p++x::l) p.length d=(p++[d])++l:=by rw[xn,gq _ _ (hP _)];simp
  rw[h1];have:=Jo ds l (p++[d]) (by simpa using h);rw[el]at this;simp only[ep,eU,hL]at this;rw[this];simp
omit [Env] in
theorem qn {size:Nat}:∀{es:List (List D)},(∀e∈es,e.length=size)->es.flatten.length=es.length*size
 |[],_=>by simp
 |e::es,h=>by rw[fg,el,h e (by simp),qn λe he=>h e (by simp[he]),ep,hU];omega
theorem Jp {F':Nat->Prop} {size:Nat}:
 ∀(qs:List (Nat×List D)) (ps:List (Nat×Value)) (es es':List (List D)) (vs:Array Value),All2 (λq (p:Nat×Value)=>q.1=p.1/\All2 (CD w F') q.2 p.2.cells.toList) qs ps->X3 size qs es=some es'->
  (∀e∈es,e.length=size)->All2 (CD w F') es.flatten vs.toList->
  ∃vs':Array Value,P1 (λi=>some (i*size,size)) vs ps=some vs'/\All2 (CD w F') es'.flatten vs'.toList/\(∀e∈es',e.length=size)/\es'.length=es.length
 |[],[],es,es',vs,_,hb,hs,hv=>by simp only[X3,k5]at hb;subst hb;exact⟨vs,rfl,hv,hs,rfl⟩
 |(i,ds)::qs,(i',x)::ps,es,es',vs,hq,hb,hs,hv=>by
  obtain⟨⟨rfl,h1⟩,h2⟩:=hq;simp only[X3]at hb;split at hb
  .rename_i hc;simp only[Hy,decide_eq_true_eq]at hc;obtain⟨hc1,hc2⟩:=hc;have hlen:=h1.length;simp at hlen;have hvl:=hv.length;rw[qn hs]at hvl;simp at hvl;have hfl:=yh es hs i 0 ds hc2 (by omega);have hfull:qK (nth [] es i) 0 ds=ds:=by
    have:=Jo ds (nth [] es i) [] (by rw[qm _ hc2,hs _ (gx hc2),hc1])
    simpa using this
   rw[hfull,hW]at hfl;obtain⟨vs',q1,q2,q3,q4⟩:=Jp (F':=F') (size:=size) qs ps (upd es i ds) es' (qK vs.toList (i*size) x.cells.toList).toArray h2 hb (by
    intro e he;rcases xL he with he|rfl
    .exact hs e he
    .exact hc1) (by rw[hfl];exact All2.upds _ _ _ _ _ h1 hv)
   refine⟨vs',?_,q2,q3,by rw[q4,qi]⟩;have hle:=W5 (s:=size) (m:=size-1) hc2;simp only[P1];rw[if_neg (by
    have h5:(i+1)*size<=es.length*size:=hH _ hc2;rw[hU]at h5;simp;omega)]
   have:=XI (v:=x) (off:=i*size) (cells:=vs);rw[this];exact q1
  .simp at hb
 |[],_::_,_,_,_,hq,_,_,_=>hq.elim
 |_::_,[],_,_,_,hq,_,_,_=>hq.elim
theorem VW {F':Nat->Prop} {z:Array Value} {n:Nat} (h0:0<z.size) (hone:∀x∈z.toList,x.oneCell'=true):
 All2 (CD w F') (en n (z.toList.map xH)).flatten ((Gv (n*z.size)).map (z[· %z.size]!)).toList:=by
 have hs:∀e∈en n (z.toList.map xH),e.length=z.size:=λe he=>by rw[eH he];simp
 refine ja .undef undef ?_ λj hj=>?_
 .rw[qn hs];simp
 .rw[qn hs,gk]at hj;have hm:=kk j h0;have hq:j/z.size<n:=ia (by rw[hR];exact hj);have hjq:j=j/z.size*z.size+j%z.size:=by rw[hR];exact(im j z.size).symm
  have h1:nth .undef (en n (z.toList.map xH)).flatten j=xH z[j%z.size]:=by
   conv=>lhs;rw[hjq]
   have hE:nth [] (en n (z.toList.map xH)) (j/z.size)=z.toList.map xH:=by rw[qm _ (by simpa using hq)];simp
   rw[xS hs _ _ (by simpa using hq) hm,hE,qm _ (by simpa using hm)];simp
  have h2:nth undef ((Gv (n*z.size)).map (z[· %z.size]!)).toList j=z[j%z.size]:=by rw[qm _ (by simpa using hj)];simp[hm]
  rw[h1,h2];exact yA _ _ _ (hone _ (by simp))
theorem Kc {d s:Nat} {es:List (List D)} {cs:Array Value} {e:TypeId} {cap:Nat} (h:Conc C B F0 w0 F loc st a w) (hd:qy st.objs d=true) (hroom:roomS s es.length) (hs0:0<s) (hs:∀x∈es,x.length=s)
 (hcap:es.length<=cap/\cap<=9223372036854775807) (hsz:cs.size=cap*s) (hcs:∀j,j<es.length*s->∃v,cs[j]? =some v/\CD w F (nth .undef es.flatten j) v) (hty:C.P.cellsOf e=s):
 Conc C B F0 w0 F (at_ loc d (w.heap.size,cap) e) (st.put dst (.arr d) [(d,.arr s es false)]) (a.put dst (.slice (some ⟨w.heap.size,0,none⟩) es.length cap)) (w.alloc (.cells cs e)):=by
 obtain⟨_,a0⟩:=qH hd;refine h.new hd ⟨hroom,hs0,hs,.inr ⟨w.heap.size,cap,cs,e,by simp[at_],?_,by show(w.heap.push _)[w.heap.size]? =_;simp,hsz,hcap,λj hj=>?_,(by show loc.P.cellsOf e=s;rw[h.prog];exact hty),by simp[at_]⟩⟩ ?_ ?_
 .show ¬F w.heap.size;intro hF;have:=h.bound _ hF;omega
 .obtain⟨v,h1,h2⟩:=hcs j hj;exact⟨v,h1,h2.mono (λ_ h=>h) λb hb=>Below.heap_alloc _ _ _ (h.bound b hb)⟩
 .intro s' es' fz' hc;rw[qb _ _ _ a0]at hc;simp only[Lr]at hc;obtain⟨rfl,rfl,rfl⟩:=hc;exact .inl ⟨w.heap.size,cap,by simp[at_],rfl⟩
 .show nth .none (upd st.objs d (.arr s es false)) d≠ .none;rw[qb _ _ _ a0];simp
theorem Kd {d:Nat} {cells:List V} {cs:Array Value} {e:TypeId} {cap:Nat} (h:Conc C B F0 w0 F loc st a w) (hd:qy st.objs d=true) (hroom:room cells.length)
 (hcap:cells.length<=cap/\cap<=9223372036854775807) (hsz:cs.size=cap) (hcs:∀j,j<cells.length->∃x,cs[j]? =some x/\CV loc st.objs w F (nth .any cells j) x/\x.oneCell'=true) (hrefs:∀v∈cells,Ref st.objs v) (hty:C.P.cellsOf e=1):
 Conc C B F0 w0 F (at_ loc d (w.heap.size,cap) e) (st.put dst (.vec d cells.length) [(d,.vec cells)]) (a.put dst (.slice (some ⟨w.heap.size,0,none⟩) cells.length cap)) (w.alloc (.cells cs e)):=by
 obtain⟨_,hlt⟩:=qH hd;have a0:Le st.objs (upd st.objs d (.vec cells)) loc (at_ loc d (w.heap.size,cap) e):=Cr hd;refine h.new hd ⟨w.heap.size,cap,cs,e,by simp[at_],?_,by show(w.heap.push _)[w.heap.size]? =_;simp,hsz,hcap,λj hj=>?_,λv hv=>(hrefs v hv).le a0,(by show loc.P.cellsOf e=1;rw[h.prog];exact hty),hroom⟩ ?_ ?_
 .intro hF;have:=h.bound _ hF;omega
 .obtain⟨v,h1,h2,h3⟩:=hcs j hj;exact⟨v,h1,CV.le (λ_ h=>h) (λb hb=>Below.heap_alloc _ _ _ (h.bound b hb)) a0 (hrefs _ (kc hj)) h2,h3⟩
 .intro o ho hb;exact⟨w.heap.size,cap,by simp[at_],rfl⟩
 .show nth .none (upd st.objs d (.vec cells)) d≠ .none;rw[qb _ _ _ hlt];simp
omit [Env] in
theorem jX {P:Program} {t e:TypeId} (h:Wq P t=some e):P.underlying t=some (.slice e):=by
 unfold Wq at h;split at h
 .rename_i e' hu;simp only[k5]at h;subst h;exact hu
 .simp at h
omit [Env] in
theorem z6 {d:Nat}:∀{us:List (Nat×Obj)} {objs:List Obj},Frz objs us->qy objs d=true->qy (upds objs us) d=true
 |[],_,_,h=>h
 |(k,o)::us,objs,hf,h=>by
  obtain⟨s,es,fz,h1,h2⟩:=hf (k,o) (by simp);simp only at h1 h2;subst h2;refine z6 (us:=us) (objs:=upd objs k (.arr s es true)) (Frz.step h1 λp hp=>hf p (by simp[hp])) ?_;obtain⟨q1,q2⟩:=qH h;have hkd:k≠d:=by rintro rfl;rw[h1]at q1;simp at q1
  unfold qy;rw[qa _ _ _ hkd,qm _ q2];rw[qm _ q2]at q1;rw[q1]
omit [Env] in
theorem xF:∀(us us':List (Nat×Obj)) (objs:List Obj),upds objs (us++us')=upds (upds objs us) us'
 |[],_,_=>rfl
 |(k,o)::us,us',objs=>xF us us' (upd objs k o)
omit [Env] in
theorem Ke {ρ:Operand->V} {ps:List (Nat×Operand)} {v:V} (h:JU ρ ps=v) (hv:v≠ .any):∃x,ps=[(0,x)]/\ρ x=v:=by
 unfold JU at h;split at h
 .exact⟨_,rfl,h⟩
 .exact absurd h.symm hv
theorem Kf {t:TypeId} {len:Nat} {parts:Array (Nat×Operand)} (h:Conc C B F0 w0 F loc st a w):RS C B F0 w0 st a w ⟨dst,.buildSlice t len parts,ty,pos,after,g⟩ (xp C ⟨dst,.buildSlice t len parts,ty,pos,after,g⟩ (ev st) st.objs):=by
 simp only[xp];split
 .rename_i d;split
  .rename_i e hd he;split
   .unfold X6;split
    .rename_i j hpv;split
     .rename_i s' es' fz' hj;split
      .rename_i b3 hz;obtain rfl:=hM b3;obtain⟨x,ad,hvx⟩:=Ke hpv (by simp);have hx:=xb h x;rw[hvx]at hx;have a5:(a.eval x).oneCell'=true:=by
        rcases hx.1 s' es' fz' hj with⟨b1,c1,_,h2⟩|⟨_,_,h2⟩
        .rw[h2];rfl
        .rw[h2];rfl
       have h1:=yF a5;have h1s:(a.eval x).cells= #[a.eval x]:=by apply Aw;simpa using h1
       obtain⟨inf,zv,hi,b8,ap,hsz,an,_⟩:=xJ hz;have b7:zv.cells.size=1:=by
        have:zv.cells.toList.length=1:=by rw[ap];rfl
        simpa using this
       have a3:=xf hz w;have a2:(parts.map λ(i,x)=>(i,a.eval x)).toList=[(0,a.eval x)]:=by simp[ad]
       have ag:(execOp a.eval ⟨some d,.buildSlice t 1 parts,ty,pos,after,g⟩).run C.P w= .ok (.value (.slice (some ⟨w.heap.size,0,none⟩) 1 1)) (w.alloc (.cells #[a.eval x] e)):=by
        have b6:(zeroValue e).run C.P w= .ok zv w:=by simp[zeroValue,typeInfo,hi,b8]
        have a0:P1 (λi=>some (i*1,1)) ((Gv (1*1)).map (zv.cells[· %zv.cells.size]!)) [(0,a.eval x)]=some #[a.eval x]:=by
         have e1:((Gv (1*1)).map (zv.cells[· %zv.cells.size]!)).size=1:=by simp
         have e2:∀(A:Array Value) (v:Value),A.size=1->A.setIfInBounds 0 v= #[v]:=λA v h=>by
          apply Array.ext
          .simpa using h
          .intro k hk1 hk2;have:k=0:=by simpa using hk2
           subst this;simp
         simp only[P1,h1s];rw[if_neg (by simp)];have e3:∀A:Array Value,Array.foldl (λ(cs:Array Value) (x:Value×Nat)=>cs.setIfInBounds (0*1+x.2) x.1) A (#[a.eval x]:Array Value).zipIdx=A.setIfInBounds 0 (a.eval x):=λA=>by simp[Array.zipIdx]
         have:=(e3 _).trans (e2 _ (a.eval x) e1);exact congrArg some this
        simp only[execOp,Ts,cH,qO (jX he),cF,a3,ep,eU,a2];simp only[cH,b6,cF,cL,a0,hL,ka,if_neg (show ¬(1>2^24)by decide),if_neg (show ¬(1=0)by decide)];simp[newRow]
       have a1:=Kd (dst:=some d) (d:=d) (cells:=[.arr j]) (cs:= #[a.eval x]) (e:=e) (cap:=1) h hd (by unfold room;simp) ⟨hP _,by omega⟩ rfl (λk hk=>by
        have:k=0:=by simpa using hk
        subst this;exact⟨_,rfl,hx.1,a5⟩) (λv hv=>by rw[gm.1 hv];exact hx.2) (zV hz)
       exact⟨_,_,_,ag,.inl rfl,F,_,a1⟩
      .trivial
     .trivial
    .trivial
   split
   .rename_i z qs us hz hp;split
    .rename_i es hb;split
     .rename_i hc;simp only[Hy,decide_eq_true_eq]at hc;obtain⟨hc1,b2⟩:=hc;obtain⟨inf,zv,hi,b8,ap,hsz,an,_⟩:=xJ hz;obtain⟨b9,b0⟩:=Xl h hp;obtain⟨F',hc',hF',hb'⟩:=h.freezes b9 st.dirty;have hq:=b0 F' hF' hb';have b7:zv.cells.size=z.length:=by rw[<-ap];simp
      have a4:=VW (w:=w) (F':=F') (z:=zv.cells) (n:=len) (by omega) (by rw[ap];exact an);rw[ap,b7]at a4;obtain⟨al,q1,q2,q3,q4⟩:=Jp (F':=F') (size:=z.length) qs _ (en len (z.map xH)) es _ hq hb (λe he=>by rw[eH he];simp) a4;rw[gk]at q4;have a2:(parts.map λ(i,x)=>(i,a.eval x)).toList=parts.toList.map λx=>(x.1,a.eval x.2):=by simp
      have a7:¬(len*z.length>2^24):=by omega
      have a3:=xf hz w;have a0:P1 (λi=>some (i*z.length,z.length)) ((Gv (len*z.length)).map (zv.cells[· %zv.cells.size]!)) ((parts.map λ(i,x)=>(i,a.eval x)).toList)=some al:=by rw[a2,b7];exact q1
      have ag:(execOp a.eval ⟨some d,.buildSlice t len parts,ty,pos,after,g⟩).run C.P w= .ok (.value (.slice (some ⟨w.heap.size,0,none⟩) es.length es.length)) (w.alloc (.cells al e)):=by
       rw[q4];by_cases h0:len*z.length=0
       .have hr0:((Gv (len*z.length)).map (zv.cells[· %zv.cells.size]!))= #[]:=by rw[h0];simp
        rw[hr0]at a0;have hl0:len=0:=by
         rcases Nat.mul_eq_zero.1 h0 with h1|h1
         .exact h1
         .omega
        subst hl0;have a6:P1 (λi=>some (i*z.length,z.length)) #[] (parts.toList.map λx=>(x.1,a.eval x.2))=some al:=by rw[a2]at a0;exact a0
        simp[execOp,Ts,qO (jX he),a3,Array.range_zero',a6,newRow]
       .simp only[execOp,Ts,cH,qO (jX he),cF,a3,if_neg a7,if_neg h0];have b6:(zeroValue e).run C.P w= .ok zv w:=by simp[zeroValue,typeInfo,hi,b8]
        simp only[cH,b6,cF,cL,a0];simp[newRow]
      have b5:=q2.length;rw[qn q3]at b5;simp at b5;have a1:=Kc (dst:=some d) (st:=⟨st.tmps,upds st.objs us,st.dirty⟩) (d:=d) (s:=z.length) (es:=es) (cs:=al) (e:=e) (cap:=es.length) hc' (z6 (objs:=st.objs) b9 hd) (by refine .inl ?_;rw[q4];have:len*1<=len*z.length:=kb _ b2;omega) b2 q3 ⟨hP _,by rw[q4];have:len*1<=len*z.length:=kb _ b2;omega⟩ b5.symm (λj hj=>by
       refine⟨nth undef al.toList j,?_,q2.nth .undef undef _ _ j (by rw[qn q3];exact hj)⟩;rw[qm _ (by simp;omega)];simp[show j<al.size by omega])
      refine⟨_,_,_,ag,.inl rfl,F',at_ loc d (w.heap.size,es.length) e,?_⟩;have b4:(⟨st.tmps,upds st.objs us,st.dirty⟩:St).put (some d) (.arr d) [(d,.arr z.length es false)]=⟨(st.put (some d) (.arr d) (us++[(d,.arr z.length es false)])).tmps,(st.put (some d) (.arr d) (us++[(d,.arr z.length es false)])).objs,d::st.dirty⟩:=by simp only[St.put,xF];rfl
      rw[b4]at a1;exact(a1 (zV hz)).redirty
     .trivial
    .trivial
   .trivial
  .trivial
 .trivial
theorem W9 {t:TypeId} {x y:Operand} (h:Conc C B F0 w0 F loc st a w):RS C B F0 w0 st a w ⟨dst,.makeSlice t x y,ty,pos,after,g⟩ (xp C ⟨dst,.makeSlice t x y,ty,pos,after,g⟩ (ev st) st.objs):=by
 simp only[xp];have hx:=(xb h x).1;have hy:=(xb h y).1;split
 .rename_i d;split
  .rename_i e hd he;split
   .rename_i z l c hz hvx hvy;rw[hvx]at hx;rw[hvy]at hy;split
    .rename_i hc;simp only[Hy,decide_eq_true_eq]at hc;obtain⟨hc1,ap⟩:=hc;split
     case h_2=>
      split
      .rintro⟨h0,h1,h2⟩;subst h1;obtain⟨a0,zv,hi,an,a6,a7,a5,_⟩:=xJ hz;unfold room at h2;have hby:C.P.bytesOf e=a0.bytes:=by simp[W2,hi]
       have ag:(a0.bytes:Int)*l<=4096*1073741824:=by
        have h3:(a0.bytes:Int)<=4096:=by omega
        have h4:l<=1073741824:=by omega
        exact Int.mul_le_mul h3 h4 (by omega) (by omega)
       have hr:=run_make (P:=C.P) w t e a0 zv (jX he) hi an .i64 .i64 l l h0 (Int.le_refl _) (by omega) (by omega);have a4:(execOp a.eval ⟨some d,.makeSlice t x y,ty,pos,after,g⟩).run C.P w= .ok (.value (.slice (some ⟨w.heap.size,0,none⟩) l.toNat l.toNat)) (w.alloc (.cells (madeCells zv.cells (l.toNat*a0.size)) e)):=by simp[execOp,kM hx,kM hy,hr]
       have b0:a0.size=1:=a7;have hz2:zv.cells= #[.slice none 0 0]:=by apply Aw;exact a6
       have a2:(en l.toNat V.nilS).length=l.toNat:=by simp
       have a1:=Kd (dst:=some d) (d:=d) (cells:=en l.toNat .nilS) (cs:=madeCells zv.cells (l.toNat*a0.size)) (e:=e) (cap:=l.toNat) h hd (by unfold room;rw[a2];omega) (by rw[a2];omega)
        (by rw[size_madeCells,b0,ib]) (λj hj=>by
         rw[a2]at hj;refine⟨.slice none 0 0,?_,?_,rfl⟩
         .unfold madeCells;rw[b0,hz2,ib,Array.getElem?_map,Array.getElem?_range,if_pos hj];simp[Nat.mod_one]
         .rw[qm _ (by simpa using hj)];simp;rfl) (λv hv=>by rw[eH hv];trivial) (zV hz)
       rw[a2]at a1;exact⟨_,_,_,a4,.inl rfl,F,_,a1⟩
      .trivial
     rintro⟨h0,h1,h2⟩;obtain⟨a0,zv,hi,an,a6,a7,a5,_⟩:=xJ hz;unfold room at h2;have hby:C.P.bytesOf e=a0.bytes:=by simp[W2,hi]
     have ag:(a0.bytes:Int)*c<=4096*1073741824:=by
      have h3:(a0.bytes:Int)<=4096:=by omega
      have h4:c<=1073741824:=by omega
      exact Int.mul_le_mul h3 h4 (by omega) (by omega)
     have hr:=run_make (P:=C.P) w t e a0 zv (jX he) hi an .i64 .i64 l c h0 h1 (by omega) (by omega);have a4:(execOp a.eval ⟨some d,.makeSlice t x y,ty,pos,after,g⟩).run C.P w= .ok (.value (.slice (some ⟨w.heap.size,0,none⟩) l.toNat c.toNat)) (w.alloc (.cells (madeCells zv.cells (c.toNat*a0.size)) e)):=by simp[execOp,kM hx,kM hy,hr]
     have hzs:zv.cells.size=z.length:=by rw[<-a6];simp
     have a3:=VW (w:=w) (F':=F) (z:=zv.cells) (n:=c.toNat) (by omega) (by rw[a6];exact a5);rw[a6]at a3;have a2:(en l.toNat (z.map xH)).length=l.toNat:=by simp
     have al:∀n,∀e∈en n (z.map xH),e.length=z.length:=λn e he=>by rw[eH he];simp
     have a1:=Kc (dst:=some d) (d:=d) (s:=z.length) (es:=en l.toNat (z.map xH)) (cs:=madeCells zv.cells (c.toNat*a0.size)) (e:=e) (cap:=c.toNat) h hd (by refine .inl ?_;rw[a2];omega) ap (al _) (by rw[a2];omega)
      (by rw[size_madeCells,a7]) (λj hj=>by
       rw[a2]at hj;have ad:j<c.toNat*z.length:=ks hj (hH _ (by omega));have h5:=a3.nth .undef undef _ _ j (by rw[qn (al _),gk];exact ad);refine⟨nth undef ((Gv (c.toNat*zv.cells.size)).map (zv.cells[· %zv.cells.size]!)).toList j,?_,?_⟩
       .unfold madeCells;rw[a7,hzs,qm _ (by simpa using ad)];simp[ad]
       .have hm:=kk j ap;have hjq:j=j/z.length*z.length+j%z.length:=by rw[hR];exact(im j z.length).symm
        have hq1:j/z.length<l.toNat:=ia (by rw[hR];exact hj);have hq2:j/z.length<c.toNat:=by omega
        have hE:∀n,j/z.length<n->nth .undef (en n (z.map xH)).flatten j=nth .undef (z.map xH) (j%z.length):=λn hn=>by
         have hE1:nth [] (en n (z.map xH)) (j/z.length)=z.map xH:=by rw[qm _ (by simpa using hn)];simp
         conv=>lhs;rw[hjq]
         rw[xS (al _) _ _ (by simpa using hn) hm,hE1]
        have:nth .undef (en l.toNat (z.map xH)).flatten j=nth .undef (en c.toNat (z.map xH)).flatten j:=by rw[hE _ hq1,hE _ hq2]
        rw[this];exact h5)
     rw[a2]at a1;exact⟨_,_,_,a4,.inl rfl,F,_,a1 (zV hz)⟩
    .trivial
   .trivial
  .trivial
 .trivial
end
end Eng
end
section
namespace Eng
open Go Go.RowKit
variable [Env]
section
variable {C:Cx} {B:Bd} {F0:Nat->Prop} {w0:World} {F:Nat->Prop} {loc:Where} {st:St} {a:Act} {w:World}
variable {dst:Option Nat} {ty:TypeId} {pos:String} {after:Array Edge} {g:Option (Nat×Bool)}
theorem Gd {d s:Nat} (h:Conc C B F0 w0 F loc st a w) (hd:qy st.objs d=true) (hs0:0<s):
 Conc C B F0 w0 F loc (st.put dst (.arr d) [(d,.arr s [] false)]) (a.put dst (.slice none 0 0)) w:=by
 obtain⟨a0,a2⟩:=qH hd;have a1:loc d=none:=by have:=h.objs d;rw[a0]at this;exact this
 have a3:Le st.objs (upd st.objs d (.arr s [] false)) loc loc:=by
  refine⟨rfl,λ_ _=>rfl,λk hk=>?_,λk o' hk hc hbx=>?_,λk s' es' fz' hk hc=>?_⟩
  .by_cases hkd:d=k
   .subst hkd;exact absurd a0 hk
   .rw[qa _ _ _ hkd];exact hk
  .by_cases hkd:d=k
   .subst hkd;exact absurd a0 hk
   .rw[qa _ _ _ hkd]at hc;exact⟨by rw[hc];exact hbx,rfl⟩
  .by_cases hkd:d=k
   .subst hkd;exact absurd a0 hk
   .rw[qa _ _ _ hkd]at hc;exact⟨⟨_,_,hc,rfl⟩,rfl⟩
 refine h.step (up:=[(d,.arr s [] false)]) (loc':=loc) (λ_ h=>h) (λ_ _=>rfl) a3 h.below h.hB (λk=>?_) h.inj h.fresh h.bound h.fsub ?_ ?_
 .show CO _ (upd st.objs d (.arr s [] false)) _ _ _ (nth .none (upd st.objs d (.arr s [] false)) k);by_cases hk:d=k
  .subst hk;rw[qb _ _ _ a2];exact⟨by simp[roomS],hs0,by simp,.inl ⟨a1,rfl⟩⟩
  .rw[qa _ _ _ hk];exact CO.le (λ_ h=>h) (λ_ _=>rfl) a3 rfl rfl (λb c hb=>⟨rfl,λh=>h⟩) (h.objs k)
 .intro s' es' fz' hc;show _\/_;rw[show upds st.objs [(d,.arr s [] false)]=upd st.objs d (.arr s [] false)from rfl,qb _ _ _ a2]at hc;simp only[Lr]at hc;obtain⟨rfl,rfl,rfl⟩:=hc;exact .inr ⟨a1,rfl,rfl⟩
 .show nth .none (upd st.objs d (.arr s [] false)) d≠ .none;rw[qb _ _ _ a2];simp
theorem Id {v:V} {x:Value} {ys:List (List D)} {us:List (Nat×Obj)} (h:Conc C B F0 w0 F loc st a w) (hc:yb st.objs v=some (ys,us)) (hv:CV loc st.objs w F v x):
 ∃ad c,x= .slice ad ys.length c/\(ys=[]\/∃b o size,ad=some ⟨b,o,none⟩/\(∀e∈ys,e.length=size)/\∀j,j<ys.length*size->∃u,w.cell? ⟨b,o+j,none⟩=some u/\CD w F (nth .undef ys.flatten j) u):=by
 unfold yb at hc;split at hc
 .simp only[k5,k6]at hc;obtain⟨rfl,rfl⟩:=hc;obtain⟨ad,c,h1,_,h2⟩:=J4 (hv:CD w F _ _);refine⟨ad,c,h1,?_⟩;rcases h2 with h2|⟨b,o,size,h2,h3⟩
  .exact .inl h2
  .exact .inr ⟨b,o,size,h2,h3.hs,h3.hc⟩
 .simp only[k5,k6]at hc;obtain⟨rfl,rfl⟩:=hc;exact⟨none,0,hv,.inl rfl⟩
 .rename_i k;split at hc
  .rename_i s es' fz hk;simp only[k5,k6]at hc;obtain⟨rfl,rfl⟩:=hc;have h0:=h.objs k;rw[hk]at h0;obtain⟨_,_,hs,h4⟩:=h0;rcases hv s es' fz hk with⟨b,c,q1,rfl⟩|⟨q1,rfl,rfl⟩
   .rcases h4 with⟨h4,rfl⟩|⟨b',c',cs,t,h4,h5,h6,h7,h8,h9⟩
    .exact⟨_,c,rfl,.inl rfl⟩
    .rw[h4]at q1;simp only[k5,k6]at q1;obtain⟨rfl,rfl⟩:=q1;refine⟨_,c',rfl,.inr ⟨b',0,s,rfl,hs,λj hj=>?_⟩⟩;obtain⟨u,r1,r2⟩:=h9.1 j hj;exact⟨u,by rw[xR h6,hL];exact r1,r2⟩
   .exact⟨none,0,rfl,.inl rfl⟩
  .simp at hc
 .simp at hc
omit [Env] in
theorem Ge {es:List (List D)} {s o l j:Nat} (hs:∀e∈es,e.length=s) (hol:o+l<=es.length) (hj:j<l*s):nth .undef ((es.drop o).take l).flatten j=nth .undef es.flatten (o*s+j):=by
 have e1:es.flatten=(es.take o).flatten++(((es.drop o).take l).flatten++((es.drop o).drop l).flatten):=by rw[<-fS,<-fS,fx,fx]
 have l1:(es.take o).flatten.length=o*s:=by rw[qn (λe he=>hs e (ey he)),fk,hX (by omega)]
 have l2:((es.drop o).take l).flatten.length=l*s:=by rw[qn (λe he=>hs e (fe (ey he))),fk,gp,hX (by omega)]
 rw[e1,qu,qu,fy (by omega),l1,hS,fR (by omega)]
theorem C4 {v:V} {x:Value} {ys:List (List D)} (h:Conc C B F0 w0 F loc st a w) (hc:vM st.objs v=some ys) (hv:CV loc st.objs w F v x):
 ∃ad c,x= .slice ad ys.length c/\(ys=[]\/∃b o size,ad=some ⟨b,o,none⟩/\(∀e∈ys,e.length=size)/\∀j,j<ys.length*size->∃u,w.cell? ⟨b,o+j,none⟩=some u/\CD w F (nth .undef ys.flatten j) u):=by
 have a1:∀us,yb st.objs v=some (ys,us)->_:=λus hh=>Id h hh hv
 unfold vM at hc;split at hc
 .rename_i k o l;clear a1;split at hc
  .rename_i s a0 fz hk;simp only[k5]at hc;subst hc;have h0:=h.objs k;rw[hk]at h0;obtain⟨_,_,hs,h4⟩:=h0;rcases hv s a0 fz hk with⟨b,c,q1,q2,rfl⟩|⟨_,q1,rfl,rfl,rfl,rfl⟩|⟨_,q1,q2,rfl,ad,c,rfl⟩
   .rcases h4 with⟨h4,rfl⟩|⟨b',c',cs,t,h4,h5,h6,h7,h8,h9⟩
    .rw[h4]at q1;simp at q1
    .rw[h4]at q1;simp only[k5,k6]at q1;obtain⟨rfl,rfl⟩:=q1;have hl:((a0.drop o).take l).length=l:=by rw[fk,gp];omega
     refine⟨some ⟨b',o*s,none⟩,c'-o,by rw[hl],.inr ⟨b',o*s,s,rfl,λe he=>hs e (fe (ey he)),λj hj=>?_⟩⟩;rw[hl]at hj;have hj2:o*s+j<a0.length*s:=by have:=hH s q2;rw[hQ]at this;omega
     obtain⟨u,r1,r2⟩:=h9.1 _ hj2;rw[Ge hs q2 hj];exact⟨u,by rw[xR h6];exact r1,r2⟩
   .exact⟨none,0,by simp,.inl (by simp)⟩
   .exact⟨ad,c,by simp,.inl (by simp)⟩
  .simp at hc
 .split at hc
  .rename_i es us hh;simp only[k5]at hc;subst hc;exact a1 us hh
  .simp at hc
omit [Env] in
theorem jv {P:Program} {t e ty:TypeId} {z:List Value} (ht:P.underlying t=some (.slice e)) (hz:zQ P e=some z) (base:Option Addr) (sLen sCap:Nat) (hle:sLen<=sCap) (ad:Option Addr) (c:Nat) (w:World):
 (M0 #[t,t] ty #[.slice base sLen sCap,.slice ad 0 c]).run P w= .ok (.slice base sLen sCap) w:=by
 have h2:=xf hz w;have h3:∀x:Addr,(loadCells x 0).run P w= .ok #[] w:=λx=>rfl
 cases base<;>cases ad<;>simp[M0,qO ht,h2,M2,Builtin.firstCells,hle,storeCells,h3]
omit [Env] in
theorem vU {P:Program} {t e ty t':TypeId} {inf:TypeInfo} (ht:P.underlying t=some (.slice e)) (hi:P.info? e=some inf) {b sLen sCap:Nat} {cur:Array Value} (hg:w.heap[b]? =some (.cells cur t' (0,0)))
 (ad:Addr) (m c:Nat) (news:List Value) (hl:news.length=m*inf.size) (hnews:∀j u,news[j]? =some u->w.cell? (ad.add j)=some u) (h1:∀u∈news,u.oneCell'=true)
 (hroom:sLen+m<=sCap) (hfit:sLen*inf.size+news.length<=cur.size):
 (M0 #[t,t] ty #[.slice (some ⟨b,0,none⟩) sLen sCap,.slice (some ad) m c]).run P w=
  .ok (.slice (some ⟨b,0,none⟩) (sLen+m) sCap) (setBlk w b (.cells (qK cur.toList (sLen*inf.size) news).toArray t' (0,0))):=by
 have hf:=run_firstCells_some (P:=P) w inf.size m ad m c news hl hnews;have a0:=xX (P:=P) (o:=sLen*inf.size) news 0 w cur hg (by omega) h1;simp only[hW]at a0;simp[M0,qO ht,Ls,typeInfo,hi,M2,hroom,hf,xq,a0]
omit [Env] in
theorem Kg {objs:List Obj} {v:V} {cells:List V} {up:List (Nat×Obj)} (h:Ck objs v=some (cells,up)):(v= .nilS/\cells=[]/\up=[])\/∃k,v= .vec k cells.length/\nth .none objs k= .vec cells/\up=[(k,.dead)]:=by
 unfold Ck at h;split at h
 .simp only[k5,k6]at h;exact .inl ⟨rfl,h.1.symm,h.2.symm⟩
 .split at h
  .rename_i k n _ cs hk;split at h
   .rename_i hn;simp only[k5,k6]at h;obtain⟨rfl,rfl⟩:=h;exact .inr ⟨k,by rw[hM hn],hk,rfl⟩
   .simp at h
  .simp at h
 .simp at h
theorem Ue {d:Nat} {x y:Operand} {t e:TypeId} (h:Conc C B F0 w0 F loc st a w) (hd:qy st.objs d=true) (he:Wq C.P t=some e):
 RS C B F0 w0 st a w ⟨some d,.call ⟨.builtin .append, #[x,y], #[t,t]⟩,ty,pos,after,g⟩ (yc C.P d st.objs e (ev st x) (ev st y)):=by
 unfold yc;have hx:=(xb h x).1;have hy:=(xb h y).1;have hu:=jX he;split
 .rename_i xs up v u2 hxs hys hz;split
  .rename_i hc;simp only[Hy,decide_eq_true_eq,gz,I0]at hc;obtain⟨hc1,hcd⟩:=hc;intro a2;obtain⟨b3,zv,hi,c3,hzc,hsz,hone,_⟩:=xJ hz;have b1:b3.size=1:=hsz;have hby:C.P.bytesOf e=b3.bytes:=by simp[W2,hi]
   obtain⟨ky,hvy,bx,_⟩:=(Kg hys).resolve_left (by rintro⟨_,h1,_⟩;simp at h1);rw[hvy]at hy;obtain⟨b2,c2,hl2,bv⟩:=hy _ bx rfl;have b7:=h.objs ky;rw[bx]at b7;obtain⟨b',c',csy,t',ap,_,b6,_,_,b4,b0,_⟩:=b7;rw[hl2]at ap;simp only[k5,k6]at ap;obtain⟨rfl,rfl⟩:=ap;obtain⟨x0,hx0,bc,bl⟩:=b4 0 (by simp);have bc:CV loc st.objs w F v x0:=bc;have bb:Ref st.objs v:=b0 v (by simp);have bv:a.eval y= .slice (some ⟨b2,0,none⟩) 1 c2:=bv;have bh:∀j u,[x0][j]? =some u->w.cell? ((⟨b2,0,none⟩:Addr).add j)=some u:=λj u hj=>by
    cases j with
    |zero=>rw[xq,xR b6];simpa using hx0.trans (by simpa using hj)
    |succ j=>simp at hj
   have b8:∀r w',(M0 #[t,t] ty #[a.eval x,.slice (some ⟨b2,0,none⟩) 1 c2]).run C.P w= .ok r w'->(execOp a.eval ⟨some d,.call ⟨.builtin .append, #[x,y], #[t,t]⟩,ty,pos,after,g⟩).run C.P w= .ok (.value r) w':=λr w' hr=>by rw[<-bv]at hr;simp[execOp,resolve,invoke,builtin,hr]
   have hrm:xs.length+1<=1073741824:=a2;have c0:((xs.length+1)+(xs.length+1)/4+192)*b3.bytes<=281474976710656:=by have:((xs.length+1)+(xs.length+1)/4+192)*b3.bytes<=1342177472*4096:=k1 (by omega) (by omega);omega
   have a7:∀(a3:Where) (an:St) (a4:List Value) (al:Nat),Conc C B F0 w0 F a3 an a w->qy an.objs d=true->a4.length=xs.length->(∀j,j<xs.length->∃u,a4[j]? =some u/\CV a3 an.objs w F (nth .any xs j) u/\u.oneCell'=true)->
    (∀u∈xs,Ref an.objs u)->CV a3 an.objs w F v x0->Ref an.objs v->
    Conc C B F0 w0 F (at_ a3 d (w.heap.size,grownCap w (xs.length+1) al e) e) (an.put (some d) (.vec d (xs.length+1)) [(d,.vec (xs++[v]))]) (a.put (some d) (.slice (some ⟨w.heap.size,0,none⟩) (xs.length+1) (grownCap w (xs.length+1) al e)))
     (w.drew.alloc (.cells (a4.toArray++[x0].toArray++Lv zv.cells (grownCap w (xs.length+1) al e-(xs.length+1))) e)):=by
    intro a3 an a4 al hC b9 hol bt hrx hv' hr';have hge:=grownCap_ge w (xs.length+1) al e;have hzs:zv.cells.size=1:=by
     have:zv.cells.toList.length=1:=by rw[hzc];rfl
     simpa using this
    have:=Kd (dst:=some d) (d:=d) (cells:=xs++[v]) (cs:=a4.toArray++[x0].toArray++Lv zv.cells (grownCap w (xs.length+1) al e-(xs.length+1))) (e:=e) (cap:=grownCap w (xs.length+1) al e) hC.drew b9 (by rw[el];exact a2)
     (by rw[el];exact⟨hge,hV (grownCap_le_maxLen w _ al e (by simp only[maxLen];omega)) (by simp[maxLen])⟩)
     (by simp only[Hx,hD,size_zeroCells,hzs,ep,eU];omega)
     (λj hj=>by
      rw[el]at hj;simp only[ep,eU]at hj;rcases hK j xs.length with h1|h1
      .obtain⟨u,q1,q2,q3⟩:=bt j h1;refine⟨u,?_,?_,q3⟩
       .rw[Dd (by simp;omega),Dd (by simp;omega)];simpa using q1
       .rw[qu,fR h1,<-qu];exact CV.mem (w:=w) (w':=w.drew) (λ_ h=>h) (λ_ _=>rfl) q2
      .have:j=xs.length:=by omega
       subst this;refine⟨x0,?_,?_,bl⟩
       .rw[Dd (by simp;omega),Array.getElem?_append_right (by simp;omega)];simp[hol]
       .rw[qu,fy (hP _),j4];exact CV.mem (w:=w) (w':=w.drew) (λ_ h=>h) (λ_ _=>rfl) hv')
     (λu hu=>by rcases gb.1 hu with hu|hu;exact hrx u hu;rw[gm.1 hu];exact hr') (zV hz)
    rw[el]at this;exact this
   rcases Kg hxs with⟨bm,rfl,rfl⟩|⟨k,bm,hk,rfl⟩
   .rw[bm]at hx;have bs:a.eval x= .slice none 0 0:=hx;rw[bs]at b8;have hr:=run_append_nil (P:=C.P) w t ty e b3 zv hu hi c3 ⟨b2,0,none⟩ 1 c2 [x0] (by simp[b1]) bh (by omega) (by omega) (hV (hH _ (by omega)) c0);have:=a7 loc st [] 0 h hd rfl (by simp) (by simp) bc bb;simp only[eU,hL,g0,Hu]at this;exact⟨_,_,_,b8 _ _ hr,.inl rfl,F,_,this⟩
   .rw[bm]at hx;obtain⟨b,cap,hl,bs⟩:=hx _ hk rfl;have hkd:¬k=d:=λe=>by have:=hcd _ (gm.2 rfl);rw[e]at this;simp at this
    have b7:=h.objs k;rw[hk]at b7;obtain⟨b',cap',cs,t',ap,bg,b5,be,hlc,bd,a1,h9⟩:=b7;rw[hl]at ap;simp only[k5,k6]at ap;obtain⟨rfl,rfl⟩:=ap;rw[bs]at b8;have hf:=h.fresh _ _ _ hl;have bw:nth .none st.objs k≠ .none:=by rw[hk];simp
    have ag:=T5 (loc:=loc) bw;have ad:=h.killO bw (k::st.dirty);have a0:qy (upd st.objs k .dead) d=true:=by obtain⟨q1,q2⟩:=qH hd;unfold qy;rw[qa _ _ _ hkd,qm _ q2];rw[qm _ q2]at q1;rw[q1]
    have ba:∀o',(⟨st.tmps,upd st.objs k .dead,k::st.dirty⟩:St).put (some d) (.vec d (xs.length+1)) [(d,o')]=⟨(st.put (some d) (.vec d (xs.length+1)) [(k,.dead),(d,o')]).tmps,(st.put (some d) (.vec d (xs.length+1)) [(k,.dead),(d,o')]).objs,d::k::st.dirty⟩:=λo'=>rfl
    have hno:∀j c',kd loc k j≠some (b,c'):=by
     intro j c' hj;simp only[kd]at hj;split at hj
     .simp at hj
     .rename_i hjk;exact hjk (h.inj _ _ _ _ _ hj hl)
    have a6:∀j,j<xs.length->∃u,cs[j]? =some u/\CV (kd loc k) (upd st.objs k .dead) w F (nth .any xs j) u/\u.oneCell'=true:=λj hj=>by obtain⟨u,q1,q2,q3⟩:=bd j hj;exact⟨u,q1,CV.le (λ_ h=>h) (λ_ _=>rfl) ag (a1 _ (kc hj)) q2,q3⟩
    have c1:CV (kd loc k) (upd st.objs k .dead) w F v x0:=CV.le (λ_ h=>h) (λ_ _=>rfl) ag bb bc;by_cases hfit:xs.length+1<=cap
    .have hr:=vU (P:=C.P) (ty:=ty) hu hi b5 ⟨b2,0,none⟩ 1 c2 [x0] (by simp[b1]) bh (by simpa using bl) hfit (by rw[b1];simp;omega);rw[b1,ib]at hr;have hlt:d<(upd st.objs k .dead).length:=(qH a0).2;have a5:Le (upd st.objs k .dead) (upd (upd st.objs k .dead) d (.vec (xs++[v]))) (kd loc k) (at_ (kd loc k) d (b,cap) t'):=Cr a0;have hw:∀b',F b'->(setBlk w b (.cells (qK cs.toList xs.length [x0]).toArray t' (0,0))).heap[b']? =w.heap[b']? :=λb' hb=>ze (λe=>bg (e▸hb))
     have:=ad.adopt (tt:=t') (dst:=some d) (d:=d) (b:=b) (cap:=cap) (ob:= .vec (xs++[v])) (v:= .vec d (xs.length+1)) (x:= .slice (some ⟨b,0,none⟩) (xs.length+1) cap) (cs:=(qK cs.toList xs.length [x0]).toArray) (t:=t') a0 hf bg hno
      ⟨b,cap,_,t',by simp[at_],bg,jJ hf.2,by simp[qK,qi,be],by rw[el];exact⟨hfit,hlc.2⟩,λj hj=>by
       rw[el]at hj;simp only[ep,eU]at hj;rcases hK j xs.length with h1|h1
       .obtain⟨u,q1,q2,q3⟩:=a6 j h1;refine⟨u,?_,?_,q3⟩
        .simp only[qK,xn];simp[show ¬xs.length=j by omega,q1]
        .rw[qu,fR h1,<-qu];exact CV.le (λ_ h=>h) hw a5 ((a1 _ (kc h1)).le ag) q2
       .have:j=xs.length:=by omega
        subst this;refine⟨x0,?_,?_,bl⟩
        .simp only[qK,xn];simp[show xs.length<cs.size by omega]
        .rw[qu,fy (hP _),j4];exact CV.le (λ_ h=>h) hw a5 (bb.le ag) c1,
       λu hu=>by
        rcases gb.1 hu with hu|hu
        .exact((a1 u hu).le ag).le a5
        .rw[gm.1 hu];exact(bb.le ag).le a5,by show loc.P.cellsOf t'=1;exact h9.1,by rw[el];exact a2⟩
      (λo ho hb=>⟨b,cap,by simp[at_],rfl⟩)
      (by show nth .none (upd (upd st.objs k .dead) d (.vec (xs++[v]))) d≠ .none;rw[qb _ _ _ hlt];simp)
     rw[ba]at this;exact⟨_,_,_,b8 _ _ hr,.inl rfl,F,_,this.redirty⟩
    .have hxl:xs.length<=cs.size:=by omega
     have hr:=run_append_grow (P:=C.P) w t ty e b3 zv hu hi c3 ⟨b,0,none⟩ xs.length cap (cs.toList.take xs.length) (by rw[b1];simp;omega) (λj u hj=>by
      rw[xq,xR b5,hL];rw[gd]at hj;split at hj
      .simpa using hj
      .simp at hj) ⟨b2,0,none⟩ 1 c2 [x0] (by simp[b1]) bh (by omega) (by omega) (growslice_fits_wide (by omega) c0)
     have:=a7 _ _ (cs.toList.take xs.length) cap ad a0 (by simp;omega) (λj hj=>by
      obtain⟨u,q1,q2,q3⟩:=a6 j hj;exact⟨u,by rw[gd,if_pos hj];simpa using q1,q2,q3⟩) (λu hu=>(a1 u hu).le ag) c1 (bb.le ag)
     rw[ba]at this;exact⟨_,_,_,b8 _ _ hr,.inl rfl,F,_,this.redirty⟩
  .trivial
 .trivial
theorem T9 {x y:Operand} {ts:Array TypeId} (h:Conc C B F0 w0 F loc st a w):RS C B F0 w0 st a w ⟨dst,.call ⟨.builtin .append, #[x,y],ts⟩,ty,pos,after,g⟩ (X4 C dst st.objs ts (ev st x) (ev st y)):=by
 unfold X4;have hx:=(xb h x).1;have hy:=(xb h y).1;split
 .trivial
 rename_i d;split
 .trivial
 rename_i hd;split
 .rename_i t t2 hts;split
  .rename_i e he dd;have dd:t2=t:=by simpa using dd
   subst dd;have dl:ts= #[t2,t2]:=by apply Aw;simpa using hts
   subst dl;have hu:=jX he;split
   .exact Ue h (by simpa using hd) he
   split
   .rename_i ys z hel hz
    .split
     .rename_i hc;simp only[Hy,decide_eq_true_eq]at hc;obtain⟨hc1,cl⟩:=hc;obtain⟨al,zv,hi,dr,hzc,cb,hone,_⟩:=xJ hz;have hzs:zv.cells.size=z.length:=by rw[<-hzc];simp
      have hby:C.P.bytesOf e=al.bytes:=by simp[W2,hi]
      obtain⟨ad,c,hye,cg⟩:=C4 h hel hy;have b3:∀v w',(M0 #[t2,t2] ty #[a.eval x,.slice ad ys.length c]).run C.P w= .ok v w'->(execOp a.eval ⟨some d,.call ⟨.builtin .append, #[x,y], #[t2,t2]⟩,ty,pos,after,g⟩).run C.P w= .ok (.value v) w':=λv w' hr=>by rw[<-hye]at hr;simp[execOp,resolve,invoke,builtin,hr]
      --the cells that are appended
      have b0:lens z.length ys->ys≠[]->∃b o,ad=some ⟨b,o,none⟩/\∃a0:List Value,a0.length=ys.length*al.size/\(∀j u,a0[j]? =some u->w.cell? ((⟨b,o,none⟩:Addr).add j)=some u)/\All2 (CD w F) ys.flatten a0:=by
       intro hl a7;rcases cg with hys|⟨b,o,dt,had,hs,be⟩
       .exact absurd hys a7
       .obtain⟨y0,bl,rfl⟩:=g1 a7;have c5:dt=z.length:=by rw[<-hl y0 (by simp),hs y0 (by simp)]
        subst c5;refine⟨b,o,had,?_⟩;have e4:∀j,∃u,j<(y0::bl).length*z.length->w.cell? ⟨b,o+j,none⟩=some u/\CD w F (nth .undef (y0::bl).flatten j) u:=λj=>by
         by_cases hj:j<(y0::bl).length*z.length
         .obtain⟨u,hu⟩:=be j hj;exact⟨u,λ_=>hu⟩
         .exact⟨undef,λhh=>absurd hh hj⟩
        let f:Nat->Value:=λj=>I3 (e4 j)
        have hf:∀j,j<(y0::bl).length*z.length->w.cell? ⟨b,o+j,none⟩=some (f j)/\CD w F (nth .undef (y0::bl).flatten j) (f j):=λj hj=>I2 (e4 j) hj
        refine⟨(gu ((y0::bl).length*z.length)).map f,by simp[cb],λj u hj=>?_,?_⟩
        .rw[xq];simp only[gn,k3]at hj;obtain⟨k,hk,rfl⟩:=hj;rcases hK j ((y0::bl).length*z.length)with h1|h1
         .rw[gr h1]at hk;simp only[k5]at hk;subst hk;exact(hf _ h1).1
         .rw[List.getElem?_eq_none (by simpa using h1)]at hk;simp at hk
        .refine ja .undef undef (by rw[qn hl];simp) λj hj=>?_
         rw[qn hl]at hj;rw[qm undef (by simpa using hj)];simp only[gy,hA];exact(hf j hj).2
      --a new array out of all that there is
      have ap:∀(bh:Where) (co:St) (es:List (List D)) (ag a0:List Value) (bc:Nat),Conc C B F0 w0 F bh co a w->qy co.objs d=true->roomS z.length (es.length+ys.length)->(∀q∈es,q.length=z.length)->(∀q∈ys,q.length=z.length)->
       All2 (CD w F) es.flatten ag->All2 (CD w F) ys.flatten a0->
       Conc C B F0 w0 F (at_ bh d (w.heap.size,grownCap w (es.length+ys.length) bc e) e) (co.put (some d) (.arr d) [(d,.arr z.length (es++ys) false)]) (a.put (some d) (.slice (some ⟨w.heap.size,0,none⟩) (es.length+ys.length) (grownCap w (es.length+ys.length) bc e)))
        (w.drew.alloc (.cells (ag.toArray++a0.toArray++Lv zv.cells (grownCap w (es.length+ys.length) bc e-(es.length+ys.length))) e)):=by
       intro bh co es ag a0 bc hC c0 a1 cw cx ho hn;have hge:=grownCap_ge w (es.length+ys.length) bc e;have e5:=ho.length;have e6:=hn.length;rw[qn cw]at e5;rw[qn cx]at e6;have cy:∀q∈es++ys,q.length=z.length:=λq hq=>by rcases gb.1 hq with hq|hq;exact cw q hq;exact cx q hq
       have:=Kc (dst:=some d) (d:=d) (s:=z.length) (es:=es++ys) (cs:=ag.toArray++a0.toArray++Lv zv.cells (grownCap w (es.length+ys.length) bc e-(es.length+ys.length))) (e:=e) (cap:=grownCap w (es.length+ys.length) bc e) hC.drew c0 (by rw[el];exact a1) cl cy (by rw[el];exact⟨hge,hV (grownCap_le_maxLen w _ bc e (by simp only[maxLen];have:=a1.max;omega)) (by simp[maxLen])⟩)
        (by
         simp only[Hx,hD,size_zeroCells,hzs,<-e5,<-e6,<-hQ];congr 1;omega)
        (λj hj=>by
         rw[el,hQ]at hj;have cp:=All2.append ho hn;have:=cp.nth .undef undef _ _ j (by rw[el,qn cw,qn cx];exact hj);refine⟨nth undef (ag++a0) j,?_,?_⟩
         .rw[qm _ (by rw[el];omega)];rw[Dd (by simp;omega)];simp[show j<ag.length+a0.length by omega]
         .rw[fS];exact this.mono (λ_ h=>h) λ_ _=>rfl)
       rw[el]at this;exact this (zV hz)
      have bb:∀n,Xd (iz (C.P.bytesOf e) 56&&iz z.length 4) n->roomS z.length n/\(n+n/4+192)*al.bytes<=281474976710656:=λn hn=>by
       cases hb:(iz (C.P.bytesOf e) 56&&iz z.length 4)with
       |false=>rw[hb]at hn;have hn:n<=1073741824:=hn;have:(n+n/4+192)*al.bytes<=1342177472*4096:=k1 (by omega) (by omega);exact⟨.inl hn,by omega⟩
       |true=>
        rw[hb]at hn;have hn:n<=4000000000000:=hn;rw[Hy]at hb;have h56:=hM hb.1;have h4:=hM hb.2;have hib:al.bytes=56:=by rw[<-h56];simp[W2,hi]
        refine⟨.inr ⟨h4,hn⟩,?_⟩;rw[hib];omega
      have bv:∀(k n:Nat) (es E:List (List D)),nth .none st.objs k= .arr z.length es false->E=es.take n->¬k=d->
       ((∃b cap,loc k=some (b,cap)/\n<=es.length/\a.eval x= .slice (some ⟨b,0,none⟩) n cap)\/(loc k=none/\E=[]/\a.eval x= .slice none 0 0))->
       Xd (iz (C.P.bytesOf e) 56&&iz z.length 4) (E.length+ys.length)->lens z.length ys->Does C B F0 w0 ⟨some d,.call ⟨.builtin .append, #[x,y], #[t2,t2]⟩,ty,pos,after,g⟩ a w (st.put (some d) (.arr d) [(k,.dead),(d,.arr z.length (E++ys) false)]):=by
       intro k n es E hk hE c1 bx a4 a2;obtain⟨a1,c4⟩:=bb _ a4;have a5:=h.kill hk (k::st.dirty);have a3:qy (upd st.objs k .dead) d=true:=by obtain⟨q1,q2⟩:=qH hd;unfold qy;rw[qa _ _ _ c1,qm _ q2];rw[qm _ q2]at q1;rw[q1]
       have b5:∀o',(⟨st.tmps,upd st.objs k .dead,k::st.dirty⟩:St).put (some d) (.arr d) [(d,o')]=⟨(st.put (some d) (.arr d) [(k,.dead),(d,o')]).tmps,(st.put (some d) (.arr d) [(k,.dead),(d,o')]).objs,d::k::st.dirty⟩:=λo'=>rfl
       have cm:=h.objs k;rw[hk]at cm;obtain⟨cv,_,eb,cm⟩:=cm;have hs:∀e∈E,e.length=z.length:=λe he=>by rw[hE]at he;exact eb e (ey he)
       have b1:=a1.max;rcases bx with⟨b,cap,hl,ea,a6⟩|⟨hl,hE0,a6⟩
       .rcases cm with⟨bs,_⟩|⟨b',cap',cs,t',bs,c2,bd,b4,hlc,e0⟩
        .rw[hl]at bs;simp at bs
        rw[hl]at bs;simp only[k5,k6]at bs;obtain⟨rfl,rfl⟩:=bs;have c2:¬F b:=c2;have dv:E.length=n:=by rw[hE,fk];omega
        have cq:∀j,j<E.length*z.length->∃v,cs[j]? =some v/\CD w F (nth .undef E.flatten j) v:=λj hj=>by rw[dv]at hj;have hj2:j<es.length*z.length:=ks hj (hH _ ea);obtain⟨v,r1,r2⟩:=e0.1 j hj2;refine⟨v,r1,?_⟩;have:=Ge (o:=0) eb (by omega) hj;rw[List.drop_zero,hT,hL]at this;rw[hE,this];exact r2
        have ct:E.length<=cap:=by omega
        rw[<-dv]at a6;rw[a6]at b3;have hf:=h.fresh _ _ _ hl;have hno:∀j c',kd loc k j≠some (b,c'):=by
         intro j c' hj;simp only[kd]at hj;split at hj
         .simp at hj
         .rename_i hjk;exact hjk (h.inj _ _ _ _ _ hj hl)
        --the array stands where it stood,with ec bw
        have ba:∀(an:List (List D)) (bm:Array Value),roomS z.length an.length->(∀q∈an,q.length=z.length)->bm.size=cap*z.length->an.length<=cap->(∀j,j<an.length*z.length->∃v,bm[j]? =some v/\CD w F (nth .undef an.flatten j) v)->
         Conc C B F0 w0 F (at_ (kd loc k) d (b,cap) t') (st.put (some d) (.arr d) [(k,.dead),(d,.arr z.length an false)]) (a.put (some d) (.slice (some ⟨b,0,none⟩) an.length cap)) (setBlk w b (.cells bm t' (0,0))):=by
         intro an bm r1 r2 r3 r4 r5;have e7:d<(upd st.objs k .dead).length:=(qH a3).2;have:=a5.adopt (tt:=t') (dst:=some d) (d:=d) (b:=b) (cap:=cap) (ob:= .arr z.length an false) (v:= .arr d) (x:= .slice (some ⟨b,0,none⟩) an.length cap) (cs:=bm) (t:=t') a3 hf c2 hno
          ⟨r1,cl,r2,.inr ⟨b,cap,bm,t',by simp[at_],c2,jJ hf.2,r3,⟨r4,hlc.2⟩,λj hj=>by
           obtain⟨v,p1,p2⟩:=r5 j hj;exact⟨v,p1,p2.mono (λ_ h=>h) λb' hb'=>ze (λe=>c2 (e▸hb'))⟩,e0.2.1,by simp[at_]⟩⟩
          (λs' es'' fz' hc=>by
           rw[qb _ _ _ e7]at hc;simp only[Lr]at hc;obtain⟨rfl,rfl,rfl⟩:=hc;exact .inl ⟨b,cap,by simp[at_],rfl⟩)
          (by show nth .none (upd (upd st.objs k .dead) d (.arr z.length an false)) d≠ .none;rw[qb _ _ _ e7];simp)
         rw[b5]at this;exact this.redirty
        by_cases a7:ys=[]
        .subst a7;have:=ba E cs (a1.le (by omega)) hs b4 ct cq;rw[XE bd]at this;rw[List.append_nil];exact⟨_,_,w,b3 _ _ (jv hu hz _ _ _ ct ad c w),.inl rfl,F,_,this⟩
        .obtain⟨b2,o2,rfl,a0,b7,bt,b8⟩:=b0 a2 a7;have hn1':a0.length=ys.length*z.length:=by rw[<-cb];exact b7
         have b9:All2 (CD w F) E.flatten (cs.toList.take (E.length*z.length)):=by
          have hle:E.length*z.length<=cs.size:=by rw[b4];exact hH _ ct
          refine ja .undef undef (by rw[qn hs];simp;omega) λj hj=>?_
          rw[qn hs]at hj;obtain⟨v,p1,p2⟩:=cq j hj;have:nth undef (cs.toList.take (E.length*z.length)) j=v:=by rw[qu,gd,if_pos hj];simp[p1]
          rw[this];exact p2
         have c3:∀u∈a0,u.oneCell'=true:=by
          have:∀(ds:List D) (vs:List Value),All2 (CD w F) ds vs->∀v∈vs,v.oneCell'=true:=by
           intro ds
           induction ds with
           |nil=>intro vs cc v hv;cases vs with|nil=>simp at hv|cons _ _=>exact cc.elim
           |cons d ds ih=>
            intro vs cc v hv;cases vs with
            |nil=>exact cc.elim
            |cons y vs=>
             rcases ez.1 hv with rfl|hv
             .exact cc.1.one
             .exact ih vs cc.2 v hv
          exact this _ _ b8
         by_cases hfit:E.length+ys.length<=cap
         .have b6:E.length*al.size+a0.length<=cs.size:=by rw[b7,b4,cb,<-hQ];exact hH _ hfit
          have hr:=vU (P:=C.P) (ty:=ty) hu hi bd ⟨b2,o2,none⟩ ys.length c a0 b7 bt c3 hfit b6;have cy:∀q∈E++ys,q.length=z.length:=λq hq=>by rcases gb.1 hq with hq|hq;exact hs q hq;exact a2 q hq
          have:=ba (E++ys) (qK cs.toList (E.length*al.size) a0).toArray (by rw[el];exact a1) cy (by simp[xP,b4]) (by rw[el];exact hfit) (λj hj=>by
           rw[el,hQ]at hj;rw[fS];have hl3:=b8.length;rw[qn a2]at hl3;have dc:(qK cs.toList (E.length*al.size) a0).length=cs.size:=by simp[xP]
           rw[cb]at b6 dc ⊢;refine⟨nth undef (qK cs.toList (E.length*z.length) a0) j,?_,?_⟩
           .rw[qm _ (by omega)];simp[show j<(qK cs.toList (E.length*z.length) a0).length by omega]
           .rcases hK j (E.length*z.length)with h6|h6
            .rw[zd _ _ _ _ _ h6];obtain⟨v,p1,p2⟩:=cq j h6;have e1:nth undef cs.toList j=v:=by rw[qu];simp[p1]
             have e2:nth .undef (E.flatten++ys.flatten) j=nth .undef E.flatten j:=by rw[qu,qu,fR (by rw[qn hs];exact h6)]
             rw[e1,e2];exact p2
            .obtain⟨i,rfl⟩:∃i,j=E.length*z.length+i:=⟨j-E.length*z.length,by omega⟩;rw[z5 _ _ _ _ _ (by omega) (by simp;omega)];have e2:nth .undef (E.flatten++ys.flatten) (E.length*z.length+i)=nth .undef ys.flatten i:=by rw[qu,qu,fy (by rw[qn hs];omega),qn hs,hS]
             rw[e2];exact b8.nth .undef undef _ _ i (by rw[qn a2];omega))
          rw[el]at this;exact⟨_,_,_,b3 _ _ hr,.inl rfl,F,_,this⟩
         .have ho1:(cs.toList.take (E.length*z.length)).length=E.length*al.size:=by have:=b9.length;rw[qn hs]at this;rw[cb];exact this.symm
          have hr:=run_append_grow (P:=C.P) w t2 ty e al zv hu hi dr ⟨b,0,none⟩ E.length cap (cs.toList.take (E.length*z.length)) ho1 (λj v hj=>by
           rw[xq,xR bd,hL];rw[gd]at hj;split at hj
           .simpa using hj
           .simp at hj) ⟨b2,o2,none⟩ ys.length c a0 b7 bt (by omega) (by omega) (growslice_fits_wide (by omega) c4)
          have:=ap _ _ E _ a0 cap a5 a3 a1 hs a2 b9 b8;rw[b5]at this;exact⟨_,_,_,b3 _ _ hr,.inl rfl,F,_,this.redirty⟩
       .rw[a6]at b3;subst hE0;by_cases a7:ys=[]
        .subst a7;have:=Gd (dst:=some d) a5 a3 cl;rw[b5]at this;exact⟨_,_,w,b3 _ _ (jv hu hz none 0 0 (hP _) ad c w),.inl rfl,F,_,this.redirty⟩
        .obtain⟨b,o,rfl,a0,b7,bt,b8⟩:=b0 a2 a7;have bg:0<ys.length:=g6.2 a7;simp only[eU,hL]at b1 c4;have hr:=run_append_nil (P:=C.P) w t2 ty e al zv hu hi dr ⟨b,o,none⟩ ys.length c a0 b7 bt bg (by omega) (hV (hH _ (by omega)) c4);have:=ap _ _ [] [] a0 0 a5 a3 a1 (by simp) a2 trivial b8;simp only[eU,hL,g0,Hu]at this;rw[b5]at this;exact⟨_,_,_,b3 _ _ hr,.inl rfl,F,_,this.redirty⟩
      split
      .rename_i cd;rw[cd]at hx;have a6:a.eval x= .slice none 0 0:=hx;rw[a6]at b3;rintro⟨a4,a2⟩;obtain⟨a1,c4⟩:=bb _ a4;have b1:=a1.max;by_cases a7:ys=[]
       .subst a7;exact⟨_,_,w,b3 _ _ (jv hu hz none 0 0 (hP _) ad c w),.inl rfl,F,loc,Gd h hd cl⟩
       .obtain⟨b,o,rfl,a0,b7,bt,b8⟩:=b0 a2 a7;have bg:0<ys.length:=g6.2 a7;have hr:=run_append_nil (P:=C.P) w t2 ty e al zv hu hi dr ⟨b,o,none⟩ ys.length c a0 b7 bt bg (by omega) (hV (hH _ (by omega)) c4);have:=ap loc st [] [] a0 0 h hd (by simpa using a1) (by simp) a2 trivial b8;simp only[eU,hL,g0,Hu]at this;exact⟨_,_,_,b3 _ _ hr,.inl rfl,F,_,this⟩
      .rename_i k cd;rw[cd]at hx;split
       .rename_i s es hk;split
        .rename_i c6;simp only[Hy,decide_eq_true_eq,I0,decide_eq_false_iff_not]at c6;obtain⟨rfl,c1⟩:=c6;rintro⟨a1,a2⟩;refine bv k es.length es es hk (by simp) c1 ?_ a1 a2;rcases hx _ es false hk with⟨b,cap,hl,a6⟩|⟨hl,h0,a6⟩
         .exact .inl ⟨b,cap,hl,hP _,a6⟩
         .exact .inr ⟨hl,h0,a6⟩
        .trivial
       .trivial
      .rename_i k o n cd;rw[cd]at hx;split
       .rename_i s es ho hk;obtain rfl:=hM ho;split
        .rename_i c6;simp only[Hy,decide_eq_true_eq,I0,decide_eq_false_iff_not]at c6;obtain⟨rfl,c1⟩:=c6;rintro⟨a1,a2⟩;refine bv k n es (es.take n) hk rfl c1 ?_ a1 a2;rcases hx _ es false hk with⟨b,cap,hl,ea,a6⟩|⟨_,hl,h0,_,_,a6⟩|⟨_,h0,_⟩
         .exact .inl ⟨b,cap,hl,by omega,by rw[a6,hT,Nat.sub_zero]⟩
         .exact .inr ⟨hl,by rw[h0];simp,a6⟩
         .omega
        .trivial
       .trivial
      .trivial
     .trivial
   .trivial
  .trivial
 .trivial
omit [Env] in
theorem Jq {α β:Type} {R:α->β->Prop}:∀{as:List α} {bs:List β},All2 R as bs->∀b∈bs,∃a,R a b
 |[],[],_,b,hb=>by simp at hb
 |a::as,c::bs,h,b,hb=>by
  rcases ez.1 hb with rfl|hb
  .exact⟨a,h.1⟩
  .exact Jq h.2 b hb
 |[],_::_,h,_,_=>h.elim
 |_::_,[],h,_,_=>h.elim
theorem Pf {x:Operand} {ts:Array TypeId} (h:Conc C B F0 w0 F loc st a w):RS C B F0 w0 st a w ⟨dst,.call ⟨.builtin .clear, #[x],ts⟩,ty,pos,after,g⟩ (X5 C st.objs ts (ev st x)):=by
 unfold X5;have hx:=(xb h x).1;split
 .rename_i t hts;have ad:ts= #[t]:=by apply Aw;simpa using hts
  subst ad;split
  .rename_i e he;split
   .rename_i z k o l hz hv;rw[hv]at hx;split
    .rename_i s es hk;split
     .rename_i hsz;obtain rfl:=hM hsz;intro hl0;obtain⟨b,c,hl,hol,hxe⟩:=(hx _ es false hk).resolve_right (by rintro(⟨_,_,_,_,h4,_⟩|⟨_,_,_,h4,_⟩)<;>omega);have a4:=h.objs k;rw[hk]at a4;obtain⟨an,hs0,hs,a4⟩:=a4;rcases a4 with⟨a2,_⟩|⟨b',c',cs,t',a2,hnF,a3,a5,hlc,hcs⟩
      .rw[hl]at a2;simp at a2
      rw[hl]at a2;simp only[k5,k6]at a2;obtain⟨rfl,rfl⟩:=a2;have hf:=h.fresh _ _ _ hl;obtain⟨inf,zv,hi,hzv,ag,hszz,a7,_⟩:=xJ hz;have hzs:zv.cells.size=z.length:=by rw[<-ag];simp
      have a0:=VW (w:=w) (F':=F) (z:=zv.cells) (n:=l) (by omega) (by rw[ag];exact a7);rw[ag]at a0;have hin:(o+l)*z.length<=es.length*z.length:=hH _ hol;have hinc:es.length*z.length<=c*z.length:=hH _ hlc.1;have hml:=a0.length;have al:=qn (es:=en l (z.map xH)) (size:=z.length) (λe he=>by rw[eH he];simp);rw[gk]at al;have hadd:(o+l)*z.length=o*z.length+l*z.length:=hQ ..;have a6:(Lv zv.cells l).toList.length=l*z.length:=by simp[Lv,hzs]
      have ap:=xX (P:=C.P) (b:=b) (o:=o*z.length) (Lv zv.cells l).toList 0 w cs a3 (by rw[a6,a5];omega) (λv hv=>?_)
      .refine⟨_,.tuple #[],setBlk w b (.cells (qK cs.toList (o*z.length) (Lv zv.cells l).toList).toArray t' (0,0)),?_,.inl rfl,?_⟩
       .have hzr:∀w,(zeroValue e).run C.P w= .ok zv w:=λw=>by simp[zeroValue,typeInfo,hi,hzv]
        have hll:∃m,l=m+1:=⟨l-1,by omega⟩;obtain⟨m,rfl⟩:=hll;rw[hW]at ap;simp[execOp,resolve,invoke,builtin,Builtin.clear_,hxe,qO (jX he),hzr,ap]
       .have h5:=ZU (.tuple #[]) (dst:=dst) (k:=k) (p:=o*z.length) (es':=es.take o++(en l (z.map xH)++es.drop (o+l))) h hk hl a3 a0 (by simp;omega) (λe' a1=>?_) ?_ (by omega)
        .exact⟨F,loc,h5⟩
        .rcases gb.1 a1 with a1|a1
         .exact hs _ (ey a1)
         .rcases gb.1 a1 with a1|a1
          .rw[eH a1];simp
          .exact hs _ (fe a1)
        .have e1:es=es.take o++((es.drop o).take l++es.drop (o+l)):=by rw[<-List.drop_drop,fx,fx]
         conv=>rhs;rw[e1]
         simp only[fS];have hta:(es.take o).flatten.length=o*z.length:=by rw[qn (λe he=>hs e (ey he)),fk,hX (by omega)]
         rw[<-hta,W6];rw[al,qn (size:=z.length) (λe he=>hs e (fe (ey he))),fk,gp,hX (by omega)]
      .obtain⟨d,hd⟩:=Jq a0 v hv;exact hd.one
     .trivial
    .trivial
   .trivial
  .trivial
 .trivial
end
end Eng
end
section
namespace Eng
open Go Go.RowKit
variable [Env]
section
variable {C:Cx} {B:Bd} {F0:Nat->Prop} {w0:World} {F:Nat->Prop} {loc:Where} {st:St} {a:Act} {w:World}
variable {dst:Option Nat} {ty:TypeId} {pos:String} {after:Array Edge} {g:Option (Nat×Bool)}
theorem VX {w w':World} {F F':Nat->Prop} {d:D} {v:Value} (h:CD w F d v) (hf:Xe d=true):CD w' F' d v:=by
 cases h with
 |tok p i v h=>refine .tok p i v ?_;rcases Env.fl p i hf with⟨b,e⟩|⟨k,n,e⟩<;>(rw[e]at h ⊢;cases h;constructor)
 |_=>first|(simp[Xe]at hf;done)|(constructor;done)|(constructor;assumption)
theorem XP {w w':World} {F F':Nat->Prop} {d:A} {v:Value} (h:CA w F d v) (hf:ZT d=true):CA w' F' d v:=by
 cases d with
 |c d=>exact VX h hf
 |ag cs=>obtain⟨vs,rfl,h⟩:=h;exact⟨vs,rfl,h.mono_mem λd hd v hv=>VX hv (gz.1 hf d hd)⟩
theorem TA {w w':World} {F F':Nat->Prop} {rs:List A} {v:Value} (h:Qv w F rs v) (hf:∀r∈rs,ZT r=true):Qv w' F' rs v:=by
 unfold Qv at h ⊢;split
 .rename_i r;exact XP h (hf r (by simp))
 .rename_i hne;split at h
  .exact absurd rfl (hne _)
  .obtain⟨vs,rfl,h⟩:=h;exact⟨vs,rfl,h.mono_mem λr hr v hv=>XP hv (hf r hr)⟩
theorem WA {objs:List Obj} {rs:List A} {v:Value} (h:Qv w F rs v):CV loc objs w F (JR rs) v/\Ref objs (JR rs):=by
 unfold JR;split
 .exact⟨h,trivial⟩
 .exact⟨h,trivial⟩
 .rename_i h1 h2;unfold Qv at h;split at h
  .rename_i r;cases r with
   |c d=>exact absurd rfl (h1 d)
   |ag cs=>exact absurd rfl (h2 cs)
  .exact⟨h,trivial⟩
theorem Conc.behind {v:V} {x:Value} {w':World} (h:Conc C B F0 w0 F loc st a w) (hb:Below w.heap.size w w') (hv:CV loc st.objs w' (λb=>F b\/(w.heap.size<=b/\b<w'.heap.size)) v x) (hr:Ref st.objs v):
 Conc C B F0 w0 (λb=>F b\/(w.heap.size<=b/\b<w'.heap.size)) loc (st.put dst v []) (a.put dst x) w':=by
 have hw:∀b,F b->w'.heap[b]? =w.heap[b]? :=λb hF=>hb.block b (h.bound b hF)
 have hsz:=hb.size;refine h.step (up:=[]) (λb hF=> .inl hF) hw (Le.refl _ _) (h.below.trans (.of hb h.hB)) (by have:=h.hB;omega) (λk=>?_) h.inj (λk b c hl=>?_) ?_ ?_ hv hr
 .refine CO.le (λb hF=> .inl hF) hw (Le.refl _ _) rfl rfl (λb c hl=>?_) (h.objs k);have hf:=(h.fresh _ _ _ hl).2;exact⟨hb.block b hf,λhn a0=>by rcases a0 with a0|a0;exact hn a0;omega⟩
 .have:=h.fresh _ _ _ hl;exact⟨this.1,by omega⟩
 .intro b hF;rcases hF with hF|hF
  .have:=h.bound b hF;omega
  .exact hF.2
 .intro b hF;rcases hF with hF|hF
  .exact h.fsub b hF
  .have:=h.hB;exact .inr (.inl (by omega))
theorem jK (h:Conc C B F0 w0 F loc st a w):∀(xs:List Operand),All2 (CV loc st.objs w F) (xs.map (ev st)) (xs.map a.eval)
 |[]=>trivial
 |x::xs=>⟨(xb h x).1,jK h xs⟩
theorem Gf {f:Nat} {o:Oper} {vs:List V} {xs:List Value} (h:Conc C B F0 w0 F loc st a w) (hvs:All2 (CV loc st.objs w F) vs xs)
 (hrun:∀fn,C.P.funcs[f]? =some fn->fn.body≠none->fn.name≠ "runtime.NumGoroutine" ->(execOp a.eval o).run C.P w= .ok (.enter f xs.toArray) w):RS C B F0 w0 st a w o (kE C st.objs f vs):=by
 unfold kE;split
 .trivial
 .rename_i fn hfn;split
  .trivial
  .rename_i ag;simp only[Hy,I0]at ag;obtain⟨a2,a5⟩:=ag;have hrun:=hrun fn hfn (by intro hb;simp[hb]at a2) (by simpa using a5);split
   .rename_i as us sh hto hsh;obtain⟨hfz,a6⟩:=kK h hto hvs;obtain⟨F',a7,hF',hb'⟩:=h.freezes hfz st.dirty;have a1:=a6 F' hF' hb';have al:∀(up:List (Nat×Obj)) (rs:List A),Gives C f as rs->(∀v w',Below w.heap.size w w'->Qv w' (λb=>F' b\/(w.heap.size<=b/\b<w'.heap.size)) rs v->St.has C B F0 w0 (st.put o.dst (JR rs) up) (a.put o.dst v) w')->
     ∀(next:Act->World->Prop) (Q:Exit->Act->World->Prop),(∀a' w',St.has C B F0 w0 (st.put o.dst (JR rs) up) a' w'->next a' w')->Oper.wp C.P o a w next Q:=by
     intro up rs hg ad next Q hn
     unfold Oper.wp;rw[hrun,Oper.upon_enter];refine(hg w F' xs a7.bound a7.inv a1).mono λe w' he=>?_
     obtain⟨a0,v,rfl,hr⟩:=he;exact hn _ _ (ad v w' a0 hr)
    split
    .intro rs hg _ next Q hn
     refine al us rs hg (λv w' a0 hr=>?_) next Q hn
     have a3:=WA (loc:=loc) (objs:=upds st.objs us) hr;exact⟨_,loc,(a7.behind (dst:=o.dst) a0 a3.1 a3.2).redirty⟩
    .rename_i hns;intro rs hg a4 next Q hn
     refine al [] rs hg (λv w' a0 hr=>?_) next Q hn
     have hr':Qv w' (λb=>F b\/(w.heap.size<=b/\b<w'.heap.size)) rs v:=TA hr (a4 hns);have a3:=WA (loc:=loc) (objs:=st.objs) hr';exact⟨_,loc,h.behind (dst:=o.dst) a0 a3.1 a3.2⟩
   .trivial
theorem VY {f:Nat} {cal:Operand} {args:Array Operand} {ts:Array TypeId} (h:Conc C B F0 w0 F loc st a w) (hcal:a.eval cal= .func (.func f) #[] #[]):RS C B F0 w0 st a w ⟨dst,.call ⟨.value cal,args,ts⟩,ty,pos,after,g⟩ (kE C st.objs f (args.toList.map (ev st))):=by
 refine Gf h (jK h args.toList) λfn hfn hb2 hne=>?_
 have a0:(args.toList.map a.eval).toArray=args.map a.eval:=by apply Aw;simp
 rw[a0];simp[execOp,resolve,hcal,Deferred.ofValue,invoke,callFunc,hfn,hne,hb2]
omit [Env] in
theorem Jr {R:D->Value->Prop}:∀(ps:List D) (vs:Nat->Value) (i:Nat),(∀j,j<ps.length->R (nth .undef ps j) (vs (i+j)))->All2 R ps ((List.range' i ps.length).map vs)
 |[],_,_,_=>trivial
 |p::ps,vs,i,h=>by
  rw[ep,List.range'_succ,g4];refine⟨by have:=h 0 (by simp);simpa [nth]using this,Jr ps vs (i+1) λj hj=>?_⟩;have:=h (j+1) (by simp;omega);rw[show i+1+j=i+(j+1)by omega]
  simpa [nth]using this
theorem WB:∀{ps:List D} {xs:List Value},All2 (CD w F) ps xs->All2 (CV loc st.objs w F) (ps.map V.c) xs
 |[],[],_=>trivial
 |_::_,_::_,h=>⟨h.1,WB h.2⟩
 |[],_::_,h=>h.elim
 |_::_,[],h=>h.elim
omit [Env] in
theorem WC {α β:Type} {R:α->β->Prop}:∀{as as':List α} {bs bs':List β},All2 R as bs->All2 R as' bs'->All2 R (as++as') (bs++bs')
 |[],_,[],_,_,h'=>h'
 |_::_,_,_::_,_,h,h'=>⟨h.1,WC h.2 h'⟩
 |[],_,_::_,_,h,_=>h.elim
 |_::_,_,[],_,h,_=>h.elim
theorem Ie {f:Nat} {ps:List D} {cal:Operand} {args:Array Operand} {ts:Array TypeId} (h:Conc C B F0 w0 F loc st a w) (hcal:CD w F (.clo f ps) (a.eval cal)):
 RS C B F0 w0 st a w ⟨dst,.call ⟨.value cal,args,ts⟩,ty,pos,after,g⟩ (kE C st.objs f (args.toList.map (ev st)++ps.map V.c)):=by
 generalize hc:a.eval cal=y at hcal;cases hcal with
 |clo f ps vs hd=>
  have h2:All2 (CD w F) ps ((gu ps.length).map vs):=by rw[List.range_eq_range'];exact Jr ps vs 0 λj hj=>by rw[hL];exact hd j hj
  refine Gf h (WC (jK h args.toList) (WB h2)) λfn hfn hb2 hne=>?_
  have a0:(args.toList.map a.eval++(gu ps.length).map vs).toArray=args.map a.eval++((gu ps.length).map vs).toArray:=by apply Aw;simp
  rw[a0];simp[execOp,resolve,hc,Deferred.ofValue,invoke,callFunc,hfn,hne,hb2]
theorem VZ (h:Conc C B F0 w0 F loc st a w):∀{vs:List V} {xs:List Value} {ps:List D} {us:List (Nat×Obj)},VK st.objs vs=some (ps,us)->All2 (CV loc st.objs w F) vs xs->
 (∀p∈us,p.2= .dead/\(∃v∈vs,p.1∈qk v)/\∃cells,nth .none st.objs p.1= .box cells)/\∀F':Nat->Prop,(∀b,F b->F' b)->(∀p∈us,∀b c,loc p.1=some (b,c)->F' b)->All2 (CD w F') ps xs
 |[],[],ps,us,hc,_=>by simp only[VK,k5,k6]at hc;obtain⟨rfl,rfl⟩:=hc;exact⟨λp hp=>by simp at hp,λ_ _ _=>trivial⟩
 |v::vs,x::xs,ps,us,hc,hv=>by
  unfold VK at hc;split at hc
  .rename_i k;split at hc
   .rename_i cells hk;split at hc
    .rename_i ds ps' us' hds hr;simp only[k5,k6]at hc;obtain⟨rfl,rfl⟩:=hc;obtain⟨h1,h2⟩:=VZ h hr hv.2;refine⟨λp hp=>?_,λF' hF hb=>⟨?_,h2 F' hF λp hp=>hb p (by simp[hp])⟩⟩
     .rcases ez.1 hp with rfl|hp
      .exact⟨rfl,⟨_,g7 ..,by simp[qk]⟩,_,hk⟩
      .obtain⟨q1,⟨u,q2,q3⟩,q4⟩:=h1 p hp;exact⟨q1,⟨u,g5 _ q2,q3⟩,q4⟩
     .obtain⟨b,c,hl,hx⟩:=hv.1 _ hk rfl;have hco:=h.objs k;rw[hk]at hco;obtain⟨b',c',cs,t',hl',hnF,hblk,hall,hrefs⟩:=hco;rw[hl]at hl';simp only[k5,k6]at hl';obtain⟨rfl,rfl⟩:=hl';have hcd:All2 (CD w F) ds cs.toList:=zf (loc:=loc) (objs:=st.objs) hds (hall.mono λ_ _ h=>h.1);have hlen:=hcd.length;rw[hx];refine CD.ptr ds b 0 (λj=>nth undef cs.toList j) (hb _ (g7 ..) _ _ hl) (λj hj=>?_) (λj hj=>?_)
      .rw[hL,xR hblk,qm _ (by omega)];simp at hlen;simp[show j<cs.size by omega]
      .exact(hcd.nth .undef undef _ _ j hj).mono hF λ_ _=>rfl
    .simp at hc
   .simp at hc
  .rename_i ds;split at hc
   .rename_i ps' us' hr;simp only[k5,k6]at hc;obtain⟨rfl,rfl⟩:=hc;obtain⟨h1,h2⟩:=VZ h hr hv.2;obtain⟨b,o,size,hx,_,hrow⟩:=hv.1;have hsz:ds.length=size:=hrow.hs ds (by simp);have hcell:∀j,j<ds.length->∃v,w.cell? ⟨b,o+j,none⟩=some v/\CD w F (nth .undef ds j) v:=λj hj=>by
     have:=hrow.hc j (by simp only[List.length_singleton,ka];omega)
     simpa using this
    open Classical in
    have hptr:CD w F (.ptr ds) x:=by
     rw[hx];simp only[hT,hW];refine CD.ptr ds b o (λj=>if h:j<ds.length then I3 (hcell j h)else undef) hrow.hF (λj hj=>?_) (λj hj=>?_)
     .rw[dif_pos hj];exact(I2 (hcell j hj)).1
     .rw[dif_pos hj];exact(I2 (hcell j hj)).2
    refine⟨λp hp=>?_,λF' hF hb=>⟨CD.mono hptr hF λ_ _=>rfl,h2 F' hF hb⟩⟩;obtain⟨q1,⟨u,q2,q3⟩,q4⟩:=h1 p hp;exact⟨q1,⟨u,g5 _ q2,q3⟩,q4⟩
   .simp at hc
  .simp at hc
 |[],_::_,_,_,_,h=>h.elim
 |_::_,[],_,_,_,h=>h.elim
omit [Env] in
theorem zG:∀(us:List (Nat×Obj)) (objs:List Obj) (k:Nat),(∀p∈us,p.2= .dead/\p.1<objs.length)->nth .none (upds objs us) k=if(∃p∈us,p.1=k)then .dead else nth .none objs k
 |[],objs,k,_=>by simp[upds]
 |(j,o)::us,objs,k,h=>by
  obtain⟨h1,h2⟩:=h (j,o) (by simp);simp only at h1 h2;subst h1;simp only[upds];rw[zG us _ k λp hp=>⟨(h p (by simp[hp])).1,by rw[qi];exact(h p (by simp[hp])).2⟩];by_cases hk:∃p∈us,p.1=k
  .rw[if_pos hk,if_pos];obtain⟨p,hp,e⟩:=hk;exact⟨p,by simp[hp],e⟩
  .rw[if_neg hk];by_cases hj:j=k
   .subst hj;rw[qb _ _ _ h2,if_pos ⟨(j,.dead),by simp,rfl⟩]
   .rw[qa _ _ _ hj,if_neg];rintro⟨p,hp,e⟩;rcases ez.1 hp with rfl|hp
    .exact hj e
    .exact hk ⟨p,hp,e⟩
theorem Conc.capture {us:List (Nat×Obj)} {v:V} {x:Value} (h:Conc C B F0 w0 F loc st a w) (hu:∀p∈us,p.2= .dead/\∃cells,nth .none st.objs p.1= .box cells)
 (hv:CD w (λb=>F b\/∃p∈us,∃c,loc p.1=some (b,c)) (match v with| .c d=>d|_=> .undef) x) (hvc:∃d,v= .c d):St.has C B F0 w0 (st.put dst v us) (a.put dst x) w:=by
 have hlt:∀p∈us,p.2= .dead/\p.1<st.objs.length:=λp hp=>by
  obtain⟨h1,cells,h2⟩:=hu p hp;refine⟨h1,?_⟩;rcases hK p.1 st.objs.length with h3|h3
  .exact h3
  .rw[qF _ h3]at h2;simp at h2
 have hn:=λk=>zG us st.objs k hlt
 open Classical in
 let loc':Where:=⟨loc.P,λk=>if(∃p∈us,p.1=k)then none else loc k,loc.ty⟩
 have a2:Le st.objs (upds st.objs us) loc loc':=by
  refine⟨rfl,λ_ _=>rfl,λj hj=>?_,λj o' hj hc hbx=>?_,λj s' es' fz' hj hc=>?_⟩
  .rw[hn];split
   .simp
   .exact hj
  .rw[hn]at hc;split at hc
   .rw[<-hc]at hbx;simp[xZ]at hbx
   .rename_i e;exact⟨by rw[hc];exact hbx,by simp only[loc'];rw[if_neg e]⟩
  .rw[hn]at hc;split at hc
   .simp at hc
   .rename_i e;exact⟨⟨_,_,hc,rfl⟩,by simp only[loc'];rw[if_neg e]⟩
 have a0:∀k b c,loc' k=some (b,c)->loc k=some (b,c)/\¬∃p∈us,p.1=k:=λk b c hl=>by
  simp only[loc']at hl;split at hl
  .simp at hl
  .rename_i e;exact⟨hl,e⟩
 refine⟨λb=>F b\/∃p∈us,∃c,loc p.1=some (b,c),loc',h.step (λb hb=> .inl hb) (λ_ _=>rfl) a2 h.below h.hB (λk=>?_) ?_ ?_ ?_ ?_ ?_ ?_⟩
 .rw[hn];by_cases hk:∃p∈us,p.1=k
  .rw[if_pos hk];show loc' k=none;simp only[loc'];rw[if_pos hk]
  .rw[if_neg hk];refine CO.le (λb hb=> .inl hb) (λ_ _=>rfl) a2 (by simp only[loc'];rw[if_neg hk]) rfl (λb c hl=>⟨rfl,λhnF a1=>?_⟩) (h.objs k);rcases a1 with a1|⟨p,hp,c',a1⟩
   .exact hnF a1
   .exact hk ⟨p,hp,h.inj _ _ _ _ _ a1 hl⟩
 .intro k k' b c c' h1 h2;exact h.inj _ _ _ _ _ (a0 _ _ _ h1).1 (a0 _ _ _ h2).1
 .intro k b c h1;exact h.fresh _ _ _ (a0 _ _ _ h1).1
 .intro b hb;rcases hb with hb|⟨p,hp,c,hb⟩
  .exact h.bound b hb
  .exact(h.fresh _ _ _ hb).2
 .intro b hb;rcases hb with hb|⟨p,hp,c,hb⟩
  .exact h.fsub b hb
  .exact .inr (h.fresh _ _ _ hb).1
 .obtain⟨d,rfl⟩:=hvc;exact hv
 .obtain⟨d,rfl⟩:=hvc;trivial
theorem Ya {fn:Fn} {first captured:Array Operand} (h:Conc C B F0 w0 F loc st a w):RS C B F0 w0 st a w ⟨dst,.makeFunc fn first captured,ty,pos,after,g⟩ (xp C ⟨dst,.makeFunc fn first captured,ty,pos,after,g⟩ (ev st) st.objs):=by
 simp only[xp];split
 .rename_i f hf;have a0:first= #[]:=by apply Aw;simpa using hf
  subst a0;split
  .rename_i ps us a1;obtain⟨h1,h2⟩:=VZ h a1 (jK h captured.toList);have h3:=h2 (λb=>F b\/∃p∈us,∃c,loc p.1=some (b,c)) (λb hb=> .inl hb) (λp hp b c hl=> .inr ⟨p,hp,c,hl⟩);refine⟨_,.func (.func f) #[] (captured.map a.eval),w,by simp[execOp,Instr.makeFunc],.inl rfl,?_⟩;refine h.capture (λp hp=>⟨(h1 p hp).1,(h1 p hp).2.2⟩) ?_ (by cases ps<;>exact⟨_,rfl⟩);have hl:=h3.length;cases ps with
   |nil=>
    have:captured.map a.eval= #[]:=by
     apply Aw;have:captured.toList.length=0:=by simpa using hl.symm
     simp[eL this]
    rw[this];exact CD.fn f
   |cons p ps=>
    have e:captured.map a.eval=((gu (p::ps).length).map λj=>nth undef (captured.toList.map a.eval) j).toArray:=by
     apply Aw;rw[Array.toList_map];apply List.ext_getElem
     .simp at hl ⊢;omega
     .intro i hi1 hi2;simp only[gy,hA];rw[qm _ (by simpa using hi1)];simp
    rw[e];exact CD.clo f (p::ps) _ λj hj=>h3.nth .undef undef _ _ j hj
  .trivial
 .trivial
def RSW (C:Cx) (B:Bd) (F0:Nat->Prop) (w0:World) (st:St) (a:Act) (w:World) (o:Oper):R->Prop
 | .fail=>True
 | .ok v up=>∀(next:Act->World->Prop) (Q:Exit->Act->World->Prop),(∀a' w',St.has C B F0 w0 (st.put o.dst v up) a' w'->next a' w')->o.wp C.P a w next Q
 | .cond (dc:=_) c v up=>c->∀(next:Act->World->Prop) (Q:Exit->Act->World->Prop),(∀a' w',St.has C B F0 w0 (st.put o.dst v up) a' w'->next a' w')->o.wp C.P a w next Q
 | .look z row off ag=>∀ds,cut row off z.length ds->∀(next:Act->World->Prop) (Q:Exit->Act->World->Prop),(∀a' w',St.has C B F0 w0 (st.put o.dst (match ag with|true=> .ag ds|false=> .c (nth .undef ds 0)) []) a' w'->next a' w')->o.wp C.P a w next Q
 | .call f as sh up=>∀rs,Gives C f as rs->(zi sh=false->∀r∈rs,ZT r=true)->∀(next:Act->World->Prop) (Q:Exit->Act->World->Prop),
  (∀a' w',St.has C B F0 w0 (st.put o.dst (JR rs) up) a' w'->next a' w')->o.wp C.P a w next Q
theorem rsw {o:Oper} {r:R} (h:RS C B F0 w0 st a w o r):RSW C B F0 w0 st a w o r:=by
 cases r with
 |fail=>trivial
 |ok v up=>exact λnext Q hn=>Does.wp h hn
 |cond c v up=>exact λhc next Q hn=>Does.wp (h hc) hn
 |look z row off ag=>exact λds hc next Q hn=>Does.wp (h ds hc) hn
 |call f as sh up=>exact h
def qW:Obj->List V
 | .box cells=>cells
 | .vec cells=>cells
 | .bld _ q=>[q]
 |_=>[]
def VOk (ob:List Obj) (up:List (Nat×Obj)) (v:V):Prop:=∀k∈qk v,nth .none ob k≠ .none\/(qy ob k=true/\∃x,(k,x)∈up)
def Aq (wd:Bool) (dst:Option Nat) (k:Nat):Prop:=dst=some k\/(wd=true/\∃d,dst=some d/\k=d+1)
def gF (wd:Bool) (dst:Option Nat) (keys:List Nat) (ob:List Obj):R->Prop
 | .fail=>True
 | .ok v up| .cond (dc:=_) _ v up=>(∀p∈up,((Aq wd dst p.1/\qy ob p.1=true)\/(p.1∈keys/\nth .none ob p.1≠ .none))/\p.2≠ .none/\∀u∈qW p.2,VOk ob up u)/\VOk ob up v
 | .look .. =>False
 | .call .. =>False
class EffOk (C:Cx):Prop where
 rs:∀{f:Nat} {e:Option Nat->List V->List Obj->R},C.eff f=some e->∀{B:Bd} {F0:Nat->Prop} {w0:World} {F:Nat->Prop} {loc:Where} {st:St} {a:Act} {w:World} {dst:Option Nat} {args:Array Operand} {ts:Array TypeId} {ty:TypeId} {pos:String} {after:Array Edge} {g:Option (Nat×Bool)},
  Conc C B F0 w0 F loc st a w->RSW C B F0 w0 st a w ⟨dst,.call ⟨.value (.func f),args,ts⟩,ty,pos,after,g⟩ (e dst (args.toList.map (ev st)) st.objs)
 ag:∀{f:Nat} {e:Option Nat->List V->List Obj->R},C.eff f=some e->∀(dst:Option Nat) (vs:List V) (ob ob':List Obj),(∀k∈wA ob (vs.flatMap qk),nth .none ob k=nth .none ob' k)->(∀d,Aq (C.wd f) dst d->qy ob d=qy ob' d)->e dst vs ob=e dst vs ob'
 good:∀{f:Nat} {e:Option Nat->List V->List Obj->R},C.eff f=some e->∀(dst:Option Nat) (vs:List V) (ob:List Obj),(∀v∈vs,∀k∈qk v,nth .none ob k≠ .none)->(∀k,∀u∈qW (nth .none ob k),∀j∈qk u,nth .none ob j≠ .none)->gF (C.wd f) dst (wA ob (vs.flatMap qk)) ob (e dst vs ob)
theorem gG [EffOk C] {o:Oper} (h:Conc C B F0 w0 F loc st a w):RSW C B F0 w0 st a w o (xp C o (ev st) st.objs):=by
 obtain⟨dst,op,ty,pos,a3,g⟩:=o;cases op with
 |move x=>exact rsw (Cy h)
 |assign x=>exact rsw (Tz h)
 |pick c x y=>exact rsw (Cz h)
 |alloc t=>exact rsw (OX h)
 |box t x=>exact rsw (Ia h)
 |build t parts=>exact rsw (Pe h)
 |buildSlice t len parts=>exact rsw (Kf h)
 |load t x=>exact rsw (C1 h)
 |store t p x=>exact rsw (OY h)
 |nilCheck x=>exact rsw (VT h)
 |binOp op t x y t2=>exact rsw (OZ h)
 |unOp op t x=>exact rsw (C2 h)
 |convert s t x=>exact rsw (Uc h)
 |makeSlice t x y=>exact rsw (W9 h)
 |slice t x lo hi mx=>exact rsw (Pd h)
 |fieldAddr t x f=>exact rsw (W7 h)
 |field t x f=>exact rsw (Pa h)
 |indexAddr t x i=>exact rsw (W8 h)
 |index t x i=>exact rsw (Pb h)
 |extract x i=>exact rsw (Ud h)
 |makeFunc fn first captured=>exact rsw (Ya h)
 |call c=>
  obtain⟨a2,a0,ts⟩:=c;simp only[xp];split
  .split
   .rename_i e he;exact EffOk.rs he h
   .exact rsw (VY h rfl)
  .split
   .rename_i t _ f hx;have a1:=(xb h (.tmp t)).1;rw[hx]at a1;split
    .trivial
    refine rsw (VY h ((λ(y:Value) (hy:CD w F (.fn f) y)=>(by cases hy;rfl:y= .func (.func f) #[] #[])) _ a1))
   .rename_i t _ f ps hx;have a1:=(xb h (.tmp t)).1;rw[hx]at a1;split
    .trivial
    exact rsw (Ie h a1)
   .trivial
  .split
   .rename_i x hx;have:a0= #[x]:=by apply Aw;simpa using hx
    subst this;exact rsw (Ic h)
   .trivial
  .split
   .rename_i x y hx;have:a0= #[x,y]:=by apply Aw;simpa using hx
    subst this;exact rsw (T9 h)
   .trivial
  .split
   .rename_i x hx;have:a0= #[x]:=by apply Aw;simpa using hx
    subst this;exact rsw (Pf h)
   .trivial
  .split
   .rename_i x y hx;have:a0= #[x,y]:=by apply Aw;simpa using hx
    subst this;exact rsw (gD h)
   .trivial
  .split
   .rename_i x y hx;have:a0= #[x,y]:=by apply Aw;simpa using hx
    subst this;exact rsw (gE h)
   .trivial
  .trivial
 |_=>trivial
omit [Env] in
theorem TB {z r:List Value} (h:Ox z=some r):∃b o n c b' o' n' c',z= .bool b:: .slice o n c:: .bool b':: .slice o' n' c'::r:=by
 unfold Ox at h;split at h
 .rename_i b o n c b' o' n' c' q;simp only[k5]at h;subst h;exact⟨b,o,n,c,b',o',n',c',rfl⟩
 .simp at h
omit [Env] in
theorem Gg {z r:List Value} (h:Ox z=some r):jH z=true/\z.length=r.length+4:=by
 obtain⟨b,o,n,c,b',o',n',c',rfl⟩:=TB h;simp[jH,dY]
omit [Env] in
theorem yH:∀{k:Nat} {z r:List Value},wG k z=some r->z.length=r.length+4*k/\(0<k->jH z=true)
 |0,z,r,h=>by simp only[wG,k5]at h;subst h;simp
 |k+1,z,r,h=>by
  simp only[wG]at h;split at h
  .rename_i q hq;have h1:=Gg hq;have h2:=yH h;exact⟨by omega,λ_=>h1.1⟩
  .simp at h
omit [Env] in
theorem TC {z r:List Value} (h:HP z=some r):z.length=r.length+66/\jH z=true:=by
 unfold HP at h;split at h
 .rename_i b q;split at h
  .rename_i b' q' hq;have h1:=yH hq;have h2:=yH h;simp only[ep]at h1 ⊢;exact⟨by omega,by simp[jH,h1.2]⟩
  .simp at h
 .simp at h
omit [Env] in
theorem R4.len (x:R4) (t:List D):(rk x t).length=t.length+4:=rfl
omit [Env] in
theorem P20.len (x:P20) (t:List D):(pk x t).length=t.length+20:=rfl
omit [Env] in
theorem C66.len (x:C66) (t:List D):(ck x t).length=t.length+66:=rfl
omit [Env] in
theorem yI:∀{g:Bool} {n:Nat} {z:List Value} {K:List D->Prop},exG g n z K->∃ds,K ds/\(jH z=false->∀d∈ds,Xe d=true)/\ds.length=z.length
 |_,0,_,_,h=>h.elim
 |_,_+1,[],K,h=>⟨[],h,λ_ d hd=>absurd hd (by simp),rfl⟩
 |g,n+1,z::r,K,h=>by
  simp only[exG]at h;split at h
  .rename_i q hq;obtain⟨x,h⟩:=h;obtain⟨ds,h1,_,h3⟩:=yI h;have h4:=TC hq;exact⟨_,h1,λhz=>(by rw[h4.2]at hz;simp at hz),by rw[C66.len,h3,h4.1]⟩
  split at h
  .rename_i q hq;obtain⟨x,h⟩:=h;obtain⟨ds,h1,_,h3⟩:=yI h;have h4:=yH hq;exact⟨_,h1,λhz=>(by rw[h4.2 (by omega)]at hz;simp at hz),by rw[P20.len,h3,h4.1]⟩
  split at h
  .rename_i q hq;obtain⟨x,h⟩:=h;obtain⟨ds,h1,_,h3⟩:=yI h;have hq:Ox (z::r)=some q:=by
    split at hq
    .exact hq
    .simp at hq
   have h4:=Gg hq;exact⟨_,h1,λhz=>(by rw[h4.1]at hz;simp at hz),by rw[R4.len,h3,h4.2]⟩
  have key:∀(d:D),(exG g n r λds=>K (d::ds))->(dY z=false->Xe d=true)->∃ds,K ds/\(jH (z::r)=false->∀d∈ds,Xe d=true)/\ds.length=(z::r).length:=by
   intro d hd a0;obtain⟨ds,h1,h2,h3⟩:=yI hd;refine⟨d::ds,h1,λhz e he=>?_,by simp[h3]⟩;simp only[jH,I1]at hz;rcases ez.1 he with rfl|he
   .exact a0 hz.1
   .exact h2 hz.2 e he
  cases z<;>obtain⟨x,h⟩:=h<;>refine key _ h ?_<;>simp[Xe,dY]
omit [Env] in
theorem wL {z:List Value} {K:List D->Prop} (h:JQ z K):∃ds,K ds/\(jH z=false->∀d∈ds,Xe d=true)/\ds.length=z.length:=yI h
omit [Env] in
theorem Q0:∀{sh:List (Bool×List Value)} {K:List A->Prop},HQ sh K->∃rs,K rs/\(zi sh=false->∀r∈rs,ZT r=true)
 |[],K,h=>⟨[],h,λ_ d hd=>absurd hd (by simp)⟩
 |(true,z)::r,K,h=>by
  simp only[HQ]at h;obtain⟨ds,h1,h2,h5⟩:=wL h;obtain⟨rs,h3,h4⟩:=Q0 h1;refine⟨_,h3,λhs=>?_⟩;cases z with
  |nil=>simp[zi]at hs
  |cons z0 z=>
   simp only[zi,I1]at hs;intro q hq;rcases ez.1 hq with rfl|hq
   .exact gz.2 (h2 hs.1)
   .exact h4 hs.2 q hq
 |(false,z)::r,K,h=>by
  simp only[HQ]at h;obtain⟨ds,h1,h2,h5⟩:=wL h;obtain⟨rs,h3,h4⟩:=Q0 h1;refine⟨_,h3,λhs=>?_⟩;cases z with
  |nil=>simp[zi]at hs
  |cons z0 z=>
   simp only[zi,I1]at hs;intro q hq;rcases ez.1 hq with rfl|hq
   .cases ds with
    |nil=>simp at h5
    |cons d ds=>exact h2 hs.1 d (by simp)
   .exact h4 hs.2 q hq
end
end Eng
end
