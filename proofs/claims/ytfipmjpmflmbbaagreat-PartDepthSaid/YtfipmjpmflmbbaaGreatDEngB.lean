/- The engine, part 9: stores; places; the rest of what reads. -/
import Derived.Test.YtfipmjpmflmbbaaGreatDEngA
import Derived.Laws.IdiomStrings
import Derived.Deep.DeepAppendWide
open Array renaming ext'→Aw, getElem?_append_left→Dd, range→F2, empty_append→Gv, toList_extract→Hu, size_append→Hv
open Bool renaming and_eq_true→Hx, not_eq_true'→Hy, or_eq_false_iff→I0
open Classical renaming choose_spec→I1, choose→I2
open Eng.CD renaming int→I3, slice_inv→J3, one→J4
open Eng.Obj.arr renaming injEq→J7
open Go renaming sizeOf→J8
open Go.Builtin renaming zeroCells→J9, append_→Lm, len_→Lr, lenOf→Ls
open Go.Instr renaming sliceBounds→Lv, sliceAt→M0, slice→M1, fill→M2, indexAt→M3, sureAddr→No, buildSlice→Pl, storeAt→P1, extract→Ts, fieldAt→T1, field→U0
open Go.Obj.cells renaming injEq→U3
open Go.Program renaming bytesOf→V1, built→W0
open Go.Result renaming andThen_ok→W1
open Go.Sem renaming run_bind→W2, run_pure→cH
open List renaming length_append→cL, replicate→er, length_cons→ey, mem_of_mem_take→ez, mem_cons→eH, eq_of_mem_replicate→fg, eq_nil_of_length_eq_zero→fl, length_nil→fw, mem_of_mem_drop→fx, flatten_cons→fR, length_take→fS, take_append_drop→ga, getElem?_append_right→gb, getElem?_append_left→gm, flatten_append→gp, mem_append→gq, getElem?_take→gr, length_replicate→gz, mem_singleton→g0, getElem?_map→g3, length_drop→g4, set_append_right→g5, getElem?_range→g7, range→g8, mem_map→hA, getElem_mem→hD, getElem_map→hH, all_eq_true→hK, nil_append→hL, exists_cons_of_ne_nil→hM, extract_eq_take_drop→hP, map_cons→hQ, mem_cons_of_mem→hR, length_pos_iff→hS, mem_cons_self→hT, getElem_range→hU, size_toArray→hV
open Nat renaming mul_le_mul_right→hW, lt_or_ge→hX, zero_add→hY, eq_of_beq_eq_true→ia, le_refl→ib, add_mul→ic, mul_comm→ik, add_sub_cancel_left→im, zero_mul→ix, succ_mul→iy, le_trans→iz, add_zero→j0, min_eq_left→j1, div_lt_of_lt_mul→j2, mul_one→j3, div_add_mod→j4, beq→j5, add_assoc→kk, sub_self→ks, one_mul→k0, mul_le_mul_left→k1, mod_lt→k2, lt_of_lt_of_le→k3, eq_zero_or_pos→k4, mul_le_mul→k5
open Ne renaming symm→k6
open Option renaming map_eq_some_iff→k7, map_none→k8
open Option.some renaming injEq→k9
open Prod.mk renaming injEq→lg
section
namespace Eng
open Go Go.RowKit
section
variable {C:Cx} {B:Bd} {F0:Nat→Prop} {w0:World} {F:Nat→Prop} {loc:Where} {st:St} {a:Act} {w:World}
theorem QR {x:Value} (h:x.oneCell'=true):x.cells.toList=[x]:=by
 cases x<;>first|rfl|simp[Value.oneCell']at h
theorem j7 {P:Program} {t t':TypeId} {z:List Value} {b o:Nat} {cs:Array Value} {x:Value} (hz:jt P t=some z) (hb:w.heap[b]? =some (.cells cs t' (0,0))) (hlen:x.cells.toList.length=z.length)
 (hle:o+z.length≤cs.size) (hone:∀v∈x.cells.toList,v.oneCell'=true):
 (P1 t (.pointer (some ⟨b,o,none⟩)) x).run P w= .ok () (setBlk w b (.cells (qP cs.toList o x.cells.toList).toArray t' (0,0))):=by
 have h2:=xi hz w;have h3:=zq (P:=P) (o:=o) x.cells.toList 0 w cs hb (by omega) hone;have h4:¬x.cells.size≠z.length:=by rw[←hlen];simp
 simp only[P1,No,storeVar,W2,cH,W1,h2,if_neg h4]
 simpa using h3
theorem Ig {objs:List Obj} {k:Nat} {cells cells':List V} (hk:nth .none objs k= .box cells):Le objs (upd objs k (.box cells')) loc loc:=by
 have a3:k<objs.length:=by
  rcases hX k objs.length with h1|h1
  ·exact h1
  ·rw[qJ _ h1]at hk;simp at hk
 refine⟨rfl,fun _ _=>rfl,fun j hj=>?_,fun j o' hj hc hbx=>?_,fun j s' es' fz' hj hc=>?_⟩
 ·by_cases hkj:k=j
  ·subst hkj;rw[qg _ _ _ a3];simp
  ·rw[qe _ _ _ hkj];exact hj
 ·by_cases hkj:k=j
  ·subst hkj;exact⟨by rw[hk];rfl,rfl⟩
  ·rw[qe _ _ _ hkj]at hc;exact⟨by rw[hc];exact hbx,rfl⟩
 ·by_cases hkj:k=j
  ·subst hkj;rw[qg _ _ _ a3]at hc;simp at hc
  ·rw[qe _ _ _ hkj]at hc;exact⟨⟨_,_,hc,rfl⟩,rfl⟩
theorem ii {objs:List Obj} {k:Nat} {cells cells':List V} (hk:nth .none objs k= .vec cells):Le objs (upd objs k (.vec cells')) loc loc:=by
 have a3:k<objs.length:=by
  rcases hX k objs.length with h1|h1
  ·exact h1
  ·rw[qJ _ h1]at hk;simp at hk
 refine⟨rfl,fun _ _=>rfl,fun j hj=>?_,fun j o' hj hc hbx=>?_,fun j s' es' fz' hj hc=>?_⟩
 ·by_cases hkj:k=j
  ·subst hkj;rw[qg _ _ _ a3];simp
  ·rw[qe _ _ _ hkj];exact hj
 ·by_cases hkj:k=j
  ·subst hkj;exact⟨by rw[hk];rfl,rfl⟩
  ·rw[qe _ _ _ hkj]at hc;exact⟨by rw[hc];exact hbx,rfl⟩
 ·by_cases hkj:k=j
  ·subst hkj;rw[qg _ _ _ a3]at hc;simp at hc
  ·rw[qe _ _ _ hkj]at hc;exact⟨⟨_,_,hc,rfl⟩,rfl⟩
theorem RO {objs:List Obj} {k s:Nat} {es es':List (List D)} {fz fz':Bool} (hk:nth .none objs k= .arr s es fz) (hlen:es'.length=es.length):Le objs (upd objs k (.arr s es' fz')) loc loc:=by
 have a3:k<objs.length:=by
  rcases hX k objs.length with h1|h1
  ·exact h1
  ·rw[qJ _ h1]at hk;simp at hk
 refine⟨rfl,fun _ _=>rfl,fun j hj=>?_,fun j o' hj hc hbx=>?_,fun j s' es'' fz'' hj hc=>?_⟩
 ·by_cases hkj:k=j
  ·subst hkj;rw[qg _ _ _ a3];simp
  ·rw[qe _ _ _ hkj];exact hj
 ·by_cases hkj:k=j
  ·subst hkj;rw[qg _ _ _ a3]at hc;rw[←hc]at hbx;simp[zx]at hbx
  ·rw[qe _ _ _ hkj]at hc;exact⟨by rw[hc];exact hbx,rfl⟩
 ·by_cases hkj:k=j
  ·subst hkj;rw[qg _ _ _ a3]at hc;simp only[J7]at hc;obtain⟨rfl,rfl,rfl⟩:=hc;exact⟨⟨_,_,hk,hlen⟩,rfl⟩
  ·rw[qe _ _ _ hkj]at hc;exact⟨⟨_,_,hc,rfl⟩,rfl⟩
theorem XT {dst:Option Nat} {k off b c:Nat} {cells vs:List V} {cs:Array Value} {t':TypeId} {xs:List Value} (h:Conc C B F0 w0 F loc st a w) (hk:nth .none st.objs k= .box cells) (hl:loc k=some (b,c))
 (hnF:¬F b) (hall:All2 (fun v x=>CV loc st.objs w F v x∧x.oneCell'=true) cells cs.toList) (hrefs:∀v∈cells,Ref st.objs v)
 (hvs:All2 (fun v x=>CV loc st.objs w F v x∧x.oneCell'=true) vs xs) (hvr:∀v∈vs,Ref st.objs v):
 Conc C B F0 w0 F loc (st.put dst .any [(k,.box (qP cells off vs))]) (a.put dst undef) (setBlk w b (.cells (qP cs.toList off xs).toArray t' (0,0))):=by
 have hlt:k<st.objs.length:=by
  rcases hX k st.objs.length with h1|h1
  ·exact h1
  ·rw[qJ _ h1]at hk;simp at hk
 have a4:Le st.objs (upd st.objs k (.box (qP cells off vs))) loc loc:=Ig hk;have hf:=h.fresh _ _ _ hl;have hw:∀b',F b'→(setBlk w b (.cells (qP cs.toList off xs).toArray t' (0,0))).heap[b']? =w.heap[b']? :=fun b' hb=>z6 (fun e=>hnF (e▸hb))
 have a3:∀(vs:List V) (cells:List V) (off:Nat) (v:V),v∈qP cells off vs→v∈cells∨v∈vs:=by
  intro vs
  induction vs with
  |nil=>intro cells off v hv;exact .inl hv
  |cons u vs ih=>
   intro cells off v hv;rcases ih _ _ _ hv with hv|hv
   ·rcases xU hv with hv|rfl
    ·exact .inl hv
    ·exact .inr (by simp)
   ·exact .inr (by simp[hv])
 refine h.write hlt hl hnF ?_ a4;have a5:∀v x,(CV loc st.objs w F v x∧x.oneCell'=true)→Ref st.objs v→(CV loc (upd st.objs k (.box (qP cells off vs))) (setBlk w b (.cells (qP cs.toList off xs).toArray t' (0,0))) F v x∧x.oneCell'=true):=fun v x hx hr=>⟨CV.le (fun _ h=>h) hw a4 hr hx.1,hx.2⟩
 refine⟨b,c,_,t',hl,hnF,kr hf.2,?_,?_⟩
 ·exact All2.upds vs xs cells cs.toList off (hvs.mono_mem fun v hv x hx=>a5 v x hx (hvr v hv)) (hall.mono_mem fun v hv x hx=>a5 v x hx (hrefs v hv))
 ·intro v hv;rcases a3 _ _ _ _ hv with hv|hv
  ·exact(hrefs v hv).le a4
  ·exact(hvr v hv).le a4
theorem Ye {dst:Option Nat} {k off b c:Nat} {cells:List V} {cs:Array Value} {t':TypeId} {v:V} {x:Value} (h:Conc C B F0 w0 F loc st a w) (hk:nth .none st.objs k= .vec cells) (hl:loc k=some (b,c))
 (hblk:w.heap[b]? =some (.cells cs t' (0,0))) (hv:CV loc st.objs w F v x) (h1:x.oneCell'=true) (hr:Ref st.objs v):
 Conc C B F0 w0 F loc (st.put dst .any [(k,.vec (upd cells off v))]) (a.put dst undef) (setBlk w b (.cells (qP cs.toList off [x]).toArray t' (0,0))):=by
 have hlt:k<st.objs.length:=by
  rcases hX k st.objs.length with h1|h1
  ·exact h1
  ·rw[qJ _ h1]at hk;simp at hk
 have a5:Le st.objs (upd st.objs k (.vec (upd cells off v))) loc loc:=ii hk;have hf:=h.fresh _ _ _ hl;have ad:=h.objs k;rw[hk]at ad;obtain⟨b',c',cs',t'',a7,a8,a3,hsz,hlc,a6,a4,h9⟩:=ad;rw[hl]at a7;simp only[k9,lg]at a7;obtain⟨rfl,rfl⟩:=a7;rw[hblk]at a3;simp only[k9,U3,and_true]at a3;obtain⟨rfl,rfl⟩:=a3;have hw:∀b',F b'→(setBlk w b (.cells (qP cs.toList off [x]).toArray t' (0,0))).heap[b']? =w.heap[b']? :=fun b' hb=>z6 (fun e=>a8 (e▸hb))
 refine h.write hlt hl a8 ⟨b,c,_,t',hl,a8,kr hf.2,by simp[qP,qk,hsz],by rw[qk];exact hlc,fun j hj=>?_,fun u hu=>?_,by rw[qk];exact h9⟩ a5
 ·rw[qk]at hj;obtain⟨y,q1,q2,q3⟩:=a6 j hj;have hjs:j<cs.size:=by omega
  by_cases e:off=j
  ·subst e;refine⟨x,?_,?_,h1⟩
   ·simp only[qP,xr];simp[hjs]
   ·rw[qg _ _ _ hj];exact CV.le (fun _ h=>h) hw a5 hr hv
  ·refine⟨y,?_,?_,q3⟩
   ·simp only[qP,xr];simp[e,q1]
   ·rw[qe _ _ _ e];exact CV.le (fun _ h=>h) hw a5 (a4 _ (wv hj)) q2
 ·rcases xU hu with hu|rfl
  ·exact(a4 u hu).le a5
  ·exact hr.le a5
theorem upd1 {α:Type} (l:List α) (i:Nat) (y:α):upd l i y=qP l i [y]:=rfl
theorem Qy {size:Nat}:∀(es:List (List D)) (_:∀e∈es,e.length=size) (i off:Nat) (ds:List D),i<es.length→off+ds.length≤size→(upd es i (qP (nth [] es i) off ds)).flatten=qP es.flatten (i*size+off) ds
 |[],_,_,_,_,hi,_=>absurd hi (by simp)
 |e::es,hs,0,off,ds,_,hd=>by
  have he:=hs e (by simp);simp only[upd,nth,fR,ix,hY];have:∀(ds:List D) (e r:List D) (off:Nat),off+ds.length≤e.length→qP e off ds++r=qP (e++r) off ds:=by
   intro ds
   induction ds with
   |nil=>intro _ _ _ _;rfl
   |cons d ds ih=>intro e r off h;simp only[ey]at h;simp only[qP];rw[ih _ _ _ (by rw[qk];omega)];congr 1;rw[xr,xr,List.set_append_left _ _ (by omega)]
  exact this ds e es.flatten off (by omega)
 |e::es,hs,i+1,off,ds,hi,hd=>by
  have he:=hs e (by simp);have ih:=Qy (size:=size) es (fun e he=>hs e (by simp[he])) i off ds (by simpa using hi) hd;simp only[upd,nth,fR,ih];have:∀(ds:List D) (e r:List D) (off:Nat),e++qP r off ds=qP (e++r) (e.length+off) ds:=by
   intro ds
   induction ds with
   |nil=>intro _ _ _;rfl
   |cons d ds ih=>intro e r off;simp only[qP];rw[ih e (upd r off d) (off+1)];congr 1;rw[xr,xr,g5 _ _ (by omega)];congr 2;omega
  rw[this ds e es.flatten (i*size+off)];congr 1;rw[he,iy];omega
theorem QS {dst:Option Nat} {k i off b c s:Nat} {es:List (List D)} {cs:Array Value} {t':TypeId} {ds:List D} {xs:List Value} (h:Conc C B F0 w0 F loc st a w) (hk:nth .none st.objs k= .arr s es false) (hl:loc k=some (b,c))
 (hi:i<es.length) (hblk:w.heap[b]? =some (.cells cs t' (0,0))) (hxs:All2 (CD w F) ds xs) (hle':off+ds.length≤s):
 Conc C B F0 w0 F loc (st.put dst .any [(k,.arr s (upd es i (qP (nth [] es i) off ds)) false)]) (a.put dst undef) (setBlk w b (.cells (qP cs.toList (i*s+off) xs).toArray t' (0,0))):=by
 have hlt:k<st.objs.length:=by
  rcases hX k st.objs.length with h1|h1
  ·exact h1
  ·rw[qJ _ h1]at hk;simp at hk
 have al:Le st.objs (upd st.objs k (.arr s (upd es i (qP (nth [] es i) off ds)) false)) loc loc:=RO hk (by rw[qk]);have hf:=h.fresh _ _ _ hl;have a7:=h.objs k;rw[hk]at a7;obtain⟨a4,hs0,hs,a7⟩:=a7;rcases a7 with⟨a5,_⟩|⟨b',c',cs',t'',a5,a6,a3,hsz,ag,a8⟩
 ·rw[hl]at a5;simp at a5
 rw[hl]at a5;simp only[k9,lg]at a5;obtain⟨rfl,rfl⟩:=a5;rw[hblk]at a3;simp only[k9,U3,and_true]at a3;obtain⟨rfl,rfl⟩:=a3;have a6:¬F b:=a6;have hw:∀b',F b'→(setBlk w b (.cells (qP cs.toList (i*s+off) xs).toArray t' (0,0))).heap[b']? =w.heap[b']? :=fun b' hb=>z6 (fun e=>a6 (e▸hb))
 refine h.write hlt hl a6 ⟨by rw[qk];exact a4,hs0,?_,.inr ⟨b,c,_,t',hl,a6,kr hf.2,?_,by rw[qk];exact ag,?_,a8.2⟩⟩ al
 ·intro e he;rcases xU he with he|rfl
  ·exact hs e he
  ·rw[zb,qo _ hi];exact hs _ (hD hi)
 ·simp[zb,hsz]
 ·rw[qk];intro j hj;rw[Qy es hs i off ds hi hle'];obtain⟨v0,h1,h2⟩:=a8.1 j hj;have hxl:=hxs.length;have hjs:j<cs.size:=by
   rcases hX j cs.size with h3|h3
   ·exact h3
   ·simp[h3]at h1
  have hfl:es.flatten.length=es.length*s:=by
   clear a8 hj h1 h2 ag hi hk a4 al h
   induction es with
   |nil=>simp
   |cons e es ih=>rw[fR,cL,hs e (by simp),ih (fun e he=>hs e (by simp[he])),ey,iy];omega
  have ad:∀(l:List Value),l.length=cs.size→∃v,l.toArray[j]? =some v∧nth undef l j=v:=fun l hl=>⟨nth undef l j,by rw[qo _ (by omega)];simp[show j<l.length by omega],rfl⟩
  obtain⟨v,q1,q2⟩:=ad (qP cs.toList (i*s+off) xs) (by simp[zb]);refine⟨v,q1,?_⟩;rw[←q2];by_cases hin:i*s+off≤j∧j<i*s+off+ds.length
  ·obtain⟨m,rfl⟩:∃m,j=i*s+off+m:=⟨j-(i*s+off),by omega⟩;rw[zV _ _ _ _ _ (by omega) (by rw[hfl];omega),zV _ _ _ _ _ (by omega) (by simpa using hjs)];exact(hxs.nth .undef undef ds xs m (by omega)).mono (fun _ h=>h) hw
  ·have h3:nth undef cs.toList j=v0:=by rw[qI];simp[h1]
   rcases hX j (i*s+off)with h4|h4
   ·rw[z5 _ _ _ _ _ h4,z5 _ _ _ _ _ h4,h3];exact h2.mono (fun _ h=>h) hw
   ·rw[jL _ _ _ _ _ (by omega),jL _ _ _ _ _ (by omega),h3];exact h2.mono (fun _ h=>h) hw
theorem W8 (x:Value) {dst:Option Nat} {k p b c s:Nat} {es es':List (List D)} {cs:Array Value} {t':TypeId} {ds:List D} {xs:List Value} (h:Conc C B F0 w0 F loc st a w) (hk:nth .none st.objs k= .arr s es false) (hl:loc k=some (b,c))
 (hblk:w.heap[b]? =some (.cells cs t' (0,0))) (hxs:All2 (CD w F) ds xs) (hlen:es'.length=es.length) (hs':∀e∈es',e.length=s) (hfe:es'.flatten=qP es.flatten p ds) (_hp:p+ds.length≤es.length*s):
 Conc C B F0 w0 F loc (st.put dst .any [(k,.arr s es' false)]) (a.put dst x) (setBlk w b (.cells (qP cs.toList p xs).toArray t' (0,0))):=by
 have hlt:k<st.objs.length:=by
  rcases hX k st.objs.length with h1|h1
  ·exact h1
  ·rw[qJ _ h1]at hk;simp at hk
 have al:Le st.objs (upd st.objs k (.arr s es' false)) loc loc:=RO hk hlen;have hf:=h.fresh _ _ _ hl;have a7:=h.objs k;rw[hk]at a7;obtain⟨a4,hs0,hs,a7⟩:=a7;rcases a7 with⟨a5,_⟩|⟨b',c',cs',t'',a5,a6,a3,hsz,ag,a8⟩
 ·rw[hl]at a5;simp at a5
 rw[hl]at a5;simp only[k9,lg]at a5;obtain⟨rfl,rfl⟩:=a5;rw[hblk]at a3;simp only[k9,U3,and_true]at a3;obtain⟨rfl,rfl⟩:=a3;have a6:¬F b:=a6;have hw:∀b',F b'→(setBlk w b (.cells (qP cs.toList p xs).toArray t' (0,0))).heap[b']? =w.heap[b']? :=fun b' hb=>z6 (fun e=>a6 (e▸hb))
 refine h.writeX x hlt hl a6 ⟨by rw[hlen];exact a4,hs0,hs',.inr ⟨b,c,_,t',hl,a6,kr hf.2,?_,by rw[hlen];exact ag,?_,a8.2⟩⟩ al
 ·simp[zb,hsz]
 ·rw[hlen];intro j hj;rw[hfe];obtain⟨v0,h1,h2⟩:=a8.1 j hj;have hxl:=hxs.length;have hjs:j<cs.size:=by
   rcases hX j cs.size with h3|h3
   ·exact h3
   ·simp[h3]at h1
  have hfl:es.flatten.length=es.length*s:=by
   clear a8 hj h1 h2 ag hk a4 al h hlen hfe _hp
   induction es with
   |nil=>simp
   |cons e es ih=>rw[fR,cL,hs e (by simp),ih (fun e he=>hs e (by simp[he])),ey,iy];omega
  have ad:∀(l:List Value),l.length=cs.size→∃v,l.toArray[j]? =some v∧nth undef l j=v:=fun l hl=>⟨nth undef l j,by rw[qo _ (by omega)];simp[show j<l.length by omega],rfl⟩
  obtain⟨v,q1,q2⟩:=ad (qP cs.toList p xs) (by simp[zb]);refine⟨v,q1,?_⟩;rw[←q2];by_cases hin:p≤j∧j<p+ds.length
  ·obtain⟨m,rfl⟩:∃m,j=p+m:=⟨j-p,by omega⟩;rw[zV _ _ _ _ _ (by omega) (by rw[hfl];omega),zV _ _ _ _ _ (by omega) (by simpa using hjs)];exact(hxs.nth .undef undef ds xs m (by omega)).mono (fun _ h=>h) hw
  ·have h3:nth undef cs.toList j=v0:=by rw[qI];simp[h1]
   rcases hX j p with h4|h4
   ·rw[z5 _ _ _ _ _ h4,z5 _ _ _ _ _ h4,h3];exact h2.mono (fun _ h=>h) hw
   ·rw[jL _ _ _ _ _ (by omega),jL _ _ _ _ _ (by omega),h3];exact h2.mono (fun _ h=>h) hw
theorem GV {α:Type}:∀(R M:List α) (A Bx:List α),R.length=M.length→qP (A++(M++Bx)) A.length R=A++(R++Bx)
 |[],M,A,Bx,h=>by have:M=[]:=fl (by simpa using h.symm);subst this;rfl
 |r::R,[],A,Bx,h=>by simp at h
 |r::R,m::M,A,Bx,h=>by
  simp only[qP];have e1:upd (A++(m::M++Bx)) A.length r=(A++[r])++(M++Bx):=by rw[xr,g5 _ _ (by omega)];simp
  have e2:A.length+1=(A++[r]).length:=by simp
  rw[e1,e2,GV R M (A++[r]) Bx (by simpa using h)];simp
theorem Qi {P:V→Value→Prop}:∀{as:List V} {bs:List Value},All2 (fun v x=>P v x∧x.oneCell'=true) as bs→∀v∈bs,v.oneCell'=true
 |[],[],_,v,hv=>by simp at hv
 |_::_,b::bs,h,v,hv=>by
  rcases eH.1 hv with rfl|hv
  ·exact h.1.2
  ·exact Qi h.2 v hv
 |[],_::_,h,_,_=>h.elim
 |_::_,[],h,_,_=>h.elim
theorem Eu {dst:Option Nat} {t:TypeId} {p x:Operand} {ty:TypeId} {pos:String} {after:Array Edge} {g:Option (Nat×Bool)} (h:Conc C B F0 w0 F loc st a w):
 RS C B F0 w0 st a w ⟨dst,.store t p x,ty,pos,after,g⟩ (xw C ⟨dst,.store t p x,ty,pos,after,g⟩ (ev st) st.objs):=by
 simp only[xw,MB];have hp:=(qZ h p).1;have hx:=(qZ h x).1;have ap:=(qZ h x).2;have ad:∀w',(P1 t (a.eval p) (a.eval x)).run C.P w= .ok () w'→(execOp a.eval ⟨dst,.store t p x,ty,pos,after,g⟩).run C.P w= .ok .skip w':=fun w' hy=>by simp[execOp,hy]
 split
 ·trivial
 ·rename_i z hz;split
  ·rename_i k ba hv;rw[hv]at hp;split
   ·rename_i a6 hk;obtain⟨b,c,hl,b4⟩:=hp _ hk rfl;have al:=h.objs k;rw[hk]at al;obtain⟨b',c',cs,t',a8,b2,a4,an,ag⟩:=al;rw[hl]at a8;simp only[k9,lg]at a8;obtain⟨rfl,rfl⟩:=a8;have hlen:a6.length=cs.size:=by simpa using an.length
    rw[b4]at ad;split
    ·split
     ·rename_i ds b8;rw[b8]at hx;obtain⟨vs,b5,a3⟩:=hx;split
      ·rename_i hc;simp only[Hx,decide_eq_true_eq]at hc;have bc:=a3.length;rw[b5]at ad;refine⟨_,_,_,ad _ (j7 hz a4 (by simp only[Value.cells];omega) (by omega) ?_),.inr ⟨rfl,rfl⟩,F,loc,?_⟩
       ·intro v hv;have:∀(ds:List D) (vs:List Value),All2 (CD w F) ds vs→∀v∈vs,v.oneCell'=true:=by
         intro ds
         induction ds with
         |nil=>intro vs a3 v hv;cases vs with|nil=>simp at hv|cons _ _=>exact a3.elim
         |cons d ds ih=>
          intro vs a3 v hv;cases vs with
          |nil=>exact a3.elim
          |cons y vs=>
           rcases eH.1 hv with rfl|hv
           ·exact a3.1.one
           ·exact ih vs a3.2 v hv
        exact this ds _ a3 v hv
       ·rw[MI];refine XT h hk hl b2 an ag ?_ (fun v hv=>by obtain⟨_,_,rfl⟩:=hA.1 hv;trivial);show All2 _ (ds.map V.c) vs.toList;have:∀(ds:List D) (vs:List Value),All2 (CD w F) ds vs→All2 (fun v x=>CV loc st.objs w F v x∧x.oneCell'=true) (ds.map V.c) vs:=by
         intro ds
         induction ds with
         |nil=>intro vs a3;cases vs with|nil=>trivial|cons _ _=>exact a3.elim
         |cons d ds ih=>intro vs a3;cases vs with|nil=>exact a3.elim|cons y vs=>exact⟨⟨a3.1,a3.1.one⟩,ih vs a3.2⟩
        exact this ds _ a3
      ·trivial
     ·rename_i ds b8;rw[b8]at hx ap;obtain⟨vs,b5,a3⟩:=hx;split
      ·rename_i hc;simp only[Hx,decide_eq_true_eq]at hc;have bc:=a3.length;rw[b5]at ad;have a7:∀(ds:List VC) (vs:List Value),(∀c∈ds,Ref st.objs c.v)→All2 (CVC loc st.objs w F) ds vs→All2 (fun v x=>CV loc st.objs w F v x∧x.oneCell'=true) (ds.map VC.v) vs:=by
        intro ds
        induction ds with
        |nil=>intro vs _ a3;cases vs with|nil=>trivial|cons _ _=>exact a3.elim
        |cons d ds ih=>
         intro vs hr a3;cases vs with
         |nil=>exact a3.elim
         |cons y vs=>exact⟨⟨a3.1.v,a3.1.one⟩,ih vs (fun c hc=>hr c (by simp[hc])) a3.2⟩
       have a7:=a7 ds vs.toList (fun c hc=>Ref.cell ap hc) a3;refine⟨_,_,_,ad _ (j7 hz a4 (by simp only[Value.cells];omega) (by omega) ?_),.inr ⟨rfl,rfl⟩,F,loc,?_⟩
       ·intro v hv;exact Qi a7 v hv
       ·rw[GT];exact XT h hk hl b2 an ag a7 (fun v hv=>by obtain⟨c,hc,rfl⟩:=hA.1 hv;exact Ref.cell ap hc)
      ·trivial
     ·trivial
    ·have b9:∀(v:V),ev st x=v→(a.eval x).oneCell'=true→(decide (ba<a6.length)&&decide (z.length=1))=true→
      Does C B F0 w0 ⟨dst,.store t p x,ty,pos,after,g⟩ a w (st.put dst .any [(k,.box (upd a6 ba v))]):=by
      intro v hve a5 hc;simp only[Hx,decide_eq_true_eq]at hc;have h1:=QR a5;refine⟨_,_,_,ad _ (j7 hz a4 (by rw[h1];simp;omega) (by omega) (by rw[h1];simpa using a5)),.inr ⟨rfl,rfl⟩,F,loc,?_⟩;rw[h1,upd1];subst hve;exact XT h hk hl b2 an ag ⟨⟨hx,a5⟩,trivial⟩ (fun u hu=>by simp at hu;subst hu;exact ap)
     split
     ·rename_i d hd;split
      ·rename_i hc;exact b9 _ hd (by rw[hd]at hx;exact J4 hx) hc
      ·trivial
     ·rename_i hd;split
      ·rename_i hc;exact b9 _ hd (by rw[hd]at hx;rw[show a.eval x= .slice none 0 0 from hx];rfl) hc
      ·trivial
     ·rename_i j hd;split
      ·rename_i s' b6 b7 hj;split
       ·rename_i hc;refine b9 _ hd ?_ hc;rw[hd]at hx;rcases hx s' b6 b7 hj with⟨b1,c1,_,h2⟩|⟨_,_,h2⟩
        ·rw[h2];rfl
        ·rw[h2];rfl
       ·trivial
      ·trivial
     ·trivial
   ·rename_i a6 hk;obtain⟨b,c,hl,b4⟩:=hp _ hk rfl;have al:=h.objs k;rw[hk]at al;obtain⟨b',c',cs,t',a8,b2,a4,hsz,bb,_⟩:=al;rw[hl]at a8;simp only[k9,lg]at a8;obtain⟨rfl,rfl⟩:=a8;rw[b4]at ad;split
    ·rename_i j hd;split
     ·rename_i s' b6 b7 hj;split
      ·rename_i hc;simp only[Hx,decide_eq_true_eq]at hc;rw[hd]at hx ap;have a5:(a.eval x).oneCell'=true:=by
        rcases hx s' b6 b7 hj with⟨b1,c1,_,h2⟩|⟨_,_,h2⟩
        ·rw[h2];rfl
        ·rw[h2];rfl
       have h1:=QR a5;refine⟨_,_,_,ad _ (j7 hz a4 (by rw[h1];simp;omega) (by omega) (by rw[h1];simpa using a5)),.inr ⟨rfl,rfl⟩,F,loc,?_⟩;rw[h1];exact Ye h hk hl a4 hx a5 ap
      ·trivial
     ·trivial
    ·trivial
   ·trivial
  ·rename_i k i ba hv;rw[hv]at hp;split
   ·rename_i s es hk;obtain⟨b,c,hl,hi,b4⟩:=hp s es false hk;have al:=h.objs k;rw[hk]at al;obtain⟨_,hs0,hs,al⟩:=al;rcases al with⟨a8,_⟩|⟨b',c',cs,t',a8,b2,a4,hsz,bb,hcs⟩
    ·rw[hl]at a8;simp at a8
    rw[hl]at a8;simp only[k9,lg]at a8;obtain⟨rfl,rfl⟩:=a8;rw[b4]at ad;have hmul:=GU (s:=s) (m:=s-1) hi (by omega);have hcap:es.length*s≤c*s:=hW s bb.1;split
    ·rename_i d hd;split
     ·rename_i hc;simp only[Hx,decide_eq_true_eq]at hc;intro b3;rw[hd]at hx;have h1:=QR (J4 hx);refine⟨_,_,_,ad _ (j7 hz a4 (by rw[h1];simp;omega) (by omega) (by rw[h1];simpa using J4 hx)),.inr ⟨rfl,rfl⟩,F,loc,?_⟩;rw[h1];exact QS (ds:=[d]) h hk hl hi a4 ⟨hx,trivial⟩ (by simp;omega)
     ·trivial
    ·rename_i ds hd;split
     ·rename_i hc;simp only[Hx,decide_eq_true_eq]at hc;intro b3;rw[hd]at hx;obtain⟨vs,b5,a3⟩:=hx;have bc:=a3.length;rw[b5]at ad;refine⟨_,_,_,ad _ (j7 hz a4 (by simp only[Value.cells];omega) (by omega) ?_),.inr ⟨rfl,rfl⟩,F,loc,?_⟩
      ·intro v hv;have:∀(ds:List D) (vs:List Value),All2 (CD w F) ds vs→∀v∈vs,v.oneCell'=true:=by
        intro ds
        induction ds with
        |nil=>intro vs a3 v hv;cases vs with|nil=>simp at hv|cons _ _=>exact a3.elim
        |cons d ds ih=>
         intro vs a3 v hv;cases vs with
         |nil=>exact a3.elim
         |cons y vs=>
          rcases eH.1 hv with rfl|hv
          ·exact a3.1.one
          ·exact ih vs a3.2 v hv
       exact this ds _ a3 v hv
      ·rw[Ya];exact QS (ds:=ds) h hk hl hi a4 a3 b3
     ·trivial
    ·trivial
   ·trivial
  ·trivial
end
end Eng
end
section
namespace Eng
open Go Go.RowKit
section
variable {C:Cx} {B:Bd} {F0:Nat→Prop} {w0:World} {F:Nat→Prop} {loc:Where} {st:St} {a:Act} {w:World}
variable {dst:Option Nat} {ty:TypeId} {pos:String} {after:Array Edge} {g:Option (Nat×Bool)}
theorem T8 {x:Operand} (h:Conc C B F0 w0 F loc st a w):RS C B F0 w0 st a w ⟨dst,.nilCheck x,ty,pos,after,g⟩ (xw C ⟨dst,.nilCheck x,ty,pos,after,g⟩ (ev st) st.objs):=by
 simp only[xw];have hx:=qZ h x;split
 ·rename_i k off hv;rw[hv]at hx;split
  ·rename_i a3 hk;obtain⟨b,c,_,hp⟩:=hx.1 _ hk rfl;refine qO h hx.1 hx.2 ?_;simp[execOp,hp]
  ·trivial
 ·trivial
theorem T9 {op:BinOp} {t:TypeId} {x y:Operand} {p q:Bool} {u v:Value} (hp:CD w F (.ifc p) u) (hq:CD w F (.ifc q) v) (hxy:Qf x=true∨Qf y=true):(eqGuard op t x y u v).run C.P w= .ok () w:=by
 cases hp with
 |nilI=>cases hq with
  |nilI=>
   rcases hxy with hxy|hxy
   ·cases x<;>simp[Qf]at hxy;cases op<;>rfl
   ·cases y<;>simp[Qf]at hxy;cases op<;>cases x<;>rfl
  |someI=>cases op<;>rfl
 |someI=>cases hq<;>cases op<;>rfl
theorem Ev {op:BinOp} {t t2:TypeId} {x y:Operand} (h:Conc C B F0 w0 F loc st a w):RS C B F0 w0 st a w ⟨dst,.binOp op t x y t2,ty,pos,after,g⟩ (xw C ⟨dst,.binOp op t x y t2,ty,pos,after,g⟩ (ev st) st.objs):=by
 simp only[xw];have hx:=(qZ h x).1;have hy:=(qZ h y).1;have hvs:=aE (P:=C.P) (op:=op) (t:=t) (xo:=x) (yo:=y) hx hy;by_cases hr0:au C.P op t x y (ev st x) (ev st y)= .fail
 ·rw[hr0];trivial
 have hg:(eqGuard op t x y (a.eval x) (a.eval y)).run C.P w= .ok () w:=by
  generalize hu:ev st x=u at *;generalize hv:ev st y=v at *;unfold au at hr0;split at hr0
  ·rename_i ms hms;split at hr0
   ·rename_i p q;split at hr0
    ·rename_i hc;have hxy:Qf x=true∨Qf y=true:=by
      cases hx0:Qf x<;>cases hy0:Qf y<;>simp[hx0,hy0]at hc ⊢
     exact T9 hx hy hxy
    ·exact absurd rfl hr0
   ·exact absurd rfl hr0
  ·split at hr0
   ·have a4:CD w F _ _:=hx;refine WS a4.one fun e=>?_
    rw[e]at a4;cases a4
   ·exact absurd rfl hr0
  ·by_cases a3:∃fs,C.P.underlying t=some (.struct fs)
   ·obtain⟨fs,a3⟩:=a3;unfold eqV at hr0;rw[a3]at hr0;exact Pa a3 hx hy hr0
   have hg:(a.eval x).oneCell'=true∧a.eval x≠ .nilIface:=by
    have h0:∃d,u= .c d∧((∃k n,d= .int k n)∨(∃b,d= .bool b)∨∃s,d= .str s):=by
     unfold eqV at hr0;split at hr0
     ·split at hr0
      ·exact⟨_,rfl,.inr (.inl ⟨_,rfl⟩)⟩
      ·exact absurd rfl hr0
     ·rename_i fs hfs;exact absurd ⟨fs,hfs⟩ a3
     ·unfold eJ at hr0;split at hr0
      ·exact⟨_,rfl,.inl ⟨_,_,rfl⟩⟩
      ·exact⟨_,rfl,.inr (.inr ⟨_,rfl⟩)⟩
      ·exact absurd rfl hr0
    obtain⟨d,h1,h2⟩:=h0;rw[h1]at hx;rcases h2 with⟨k,n,rfl⟩|⟨b,rfl⟩|⟨s,rfl⟩
    ·rw[vo hx];exact⟨rfl,by simp⟩
    ·rw[MH hx];exact⟨rfl,by simp⟩
    ·rw[JL hx];exact⟨rfl,by simp⟩
   exact WS hg.1 hg.2
 refine QO h hvs (fun v hv=>?_);simp[execOp,hg,hv]
theorem tk {x y:Operand} {ts:Array TypeId} (h:Conc C B F0 w0 F loc st a w):RS C B F0 w0 st a w ⟨dst,.call ⟨.builtin .max, #[x,y],ts⟩,ty,pos,after,g⟩ (mxV true (ev st x) (ev st y)):=by
 refine QO h (aF (P:=C.P) (ts:=ts) (ty:=ty) (qZ h x).1 (qZ h y).1) (fun v hv=>?_);simp[execOp,resolve,invoke,builtin,hv]
theorem tl {x y:Operand} {ts:Array TypeId} (h:Conc C B F0 w0 F loc st a w):RS C B F0 w0 st a w ⟨dst,.call ⟨.builtin .min, #[x,y],ts⟩,ty,pos,after,g⟩ (mxV false (ev st x) (ev st y)):=by
 refine QO h (aG (P:=C.P) (ts:=ts) (ty:=ty) (qZ h x).1 (qZ h y).1) (fun v hv=>?_);simp[execOp,resolve,invoke,builtin,hv]
theorem aM {op:UnOp} {t:TypeId} {x:Operand} (h:Conc C B F0 w0 F loc st a w):RS C B F0 w0 st a w ⟨dst,.unOp op t x,ty,pos,after,g⟩ (xw C ⟨dst,.unOp op t x,ty,pos,after,g⟩ (ev st) st.objs):=by
 simp only[xw];refine QO h (hZ (P:=C.P) (op:=op) (qZ h x).1) (fun v hv=>?_);simp[execOp,hv]
theorem W9 (l:List UInt8):(QL l).flatten=l.map fun c=>D.int .u8 c.toNat:=by
 induction l with
 |nil=>rfl
 |cons c l ih=>simp only[QL,hQ,fR]at ih ⊢;rw[ih];rfl
theorem Pd {s t:TypeId} {x:Operand} {l:List UInt8} (h:Conc C B F0 w0 F loc st a w) (hb:RF C.P s t=true) (hx:ev st x= .c (.str l)):
 Does C B F0 w0 ⟨dst,.convert s t x,ty,pos,after,g⟩ a w (st.put dst (.c (.sl (QL l))) []):=by
 obtain⟨e,hs,hd,he⟩:∃e,C.P.underlying s=some .string∧C.P.underlying t=some (.slice e)∧C.P.underlying e=some (.int .u8):=by
  unfold RF at hb;split at hb
  ·rename_i e h1 h2;split at hb
   ·rename_i h3;exact⟨e,h1,h2,h3⟩
   ·simp at hb
  ·simp at hb
 have a7:=(qZ h x).1;rw[hx]at a7;have a7:=JL a7;have a3:=run_bytes_of_string (P:=C.P) w s t e ⟨⟨l⟩⟩ hs hd he;have hsz:(⟨⟨l⟩⟩:ByteArray).size=l.length:=rfl;rw[hsz]at a3;generalize hcap:grownCap w l.length 0 e=cap at a3;generalize hob:Go.Obj.cells (bytesRow ⟨⟨l⟩⟩ cap) e ((bytesRow ⟨⟨l⟩⟩ cap).size,(bytesRow ⟨⟨l⟩⟩ cap).size+1)=ob at a3;have ag:(w.drew.alloc ob).heap.size=w.heap.size+1:=World.size_alloc ..;have a4:∀b,b<w.heap.size→(w.drew.alloc ob).heap[b]? =w.heap[b]? :=fun b hb=>Below.heap_alloc w.drew ob b hb
 refine⟨.value (.slice (some ⟨w.heap.size,0,none⟩) l.length cap),_,w.drew.alloc ob,by simp[execOp,a7,a3],.inl rfl,fun b=>F b∨b=w.heap.size,loc,?_⟩;refine h.step (up:=[]) (fun b h=> .inl h) (fun b hb=>a4 b (h.bound b hb)) (Le.refl _ _) ((BelowX.drew h.below).alloc h.hB _) (by have:=h.hB;omega) (fun k=>?_) h.inj (fun k b c hl=>⟨(h.fresh k b c hl).1,by have:=h.fresh k b c hl;omega⟩) (fun b hb=>?_) (fun b hb=>?_) ?_ trivial
 ·refine CO.le (fun b h=> .inl h) (fun b hb=>a4 b (h.bound b hb)) (Le.refl _ _) rfl rfl (fun b c hl=>?_) (h.objs k);have hf:=(h.fresh _ _ _ hl).2;exact⟨a4 b hf,fun hn a6=>by rcases a6 with a6|a6;exact hn a6;omega⟩
 ·rcases hb with hb|hb
  ·have:=h.bound b hb;omega
  ·omega
 ·rcases hb with hb|hb
  ·exact h.fsub b hb
  ·have:=h.hB;exact .inr (.inl (by omega))
 ·show CD _ _ (.sl (QL l)) _;have a8:(QL l).length=l.length:=by simp[QL]
  have hfl:=W9 l;have ad:Row (w.drew.alloc ob) (fun b=>F b∨b=w.heap.size) (QL l) w.heap.size 0 1:=by
   refine⟨fun e he=>?_,.inr rfl,fun j hj=>?_⟩
   ·simp only[QL,hA]at he;obtain⟨c,_,rfl⟩:=he;rfl
   ·rw[a8,j3]at hj;refine⟨.int .u8 (l[j]).toNat,?_,?_⟩
    ·have a5:(w.drew.alloc ob).heap[w.heap.size]? =some ob:=by show(w.heap.push ob)[w.heap.size]? =_;simp
     rw[←hob]at a5 ⊢;unfold World.cell?;rw[a5];simp only[hY];unfold bytesRow;rw[Dd (by simpa using hj)];simp[hj]
    ·rw[hfl,qo _ (by simpa using hj)];simp only[hH];exact .int _ _
  have:=ad.CD (c:=cap) (by
   rw[a8,←hcap];exact grownCap_ge w l.length 0 e)
  rw[a8]at this;exact this
theorem Pe {s t:TypeId} {x:Operand} (h:Conc C B F0 w0 F loc st a w):RS C B F0 w0 st a w ⟨dst,.convert s t x,ty,pos,after,g⟩ (xw C ⟨dst,.convert s t x,ty,pos,after,g⟩ (ev st) st.objs):=by
 simp only[xw];split
 ·rename_i hb;split
  ·rename_i str hx;exact fun _=>Pd h hb hx
  ·trivial
 ·split
  ·rename_i ds hs;refine QO h (Er (P:=C.P) (src:=s) (dst:=t) hs (qZ h x).1) (fun v hv=>?_);simp[execOp,hv]
  ·trivial
theorem WU {P:Program} {t f off:Nat} {ft:TypeId} (h:JA P t f=some (off,ft)):∃fs fd,P.underlying t=some (.struct fs)∧fs[f]? =some fd∧fd.offset=off∧fd.type=ft:=by
 unfold JA at h;split at h
 ·rename_i fs hu;split at h
  ·rename_i fd hf;simp only[k9,lg]at h;exact⟨fs,fd,hu,hf,h.1,h.2⟩
  ·simp at h
 ·simp at h
theorem zF {P:Program} {t:TypeId} (h:P.cellsOf t≠0):∃i,P.info? t=some i∧i.size=P.cellsOf t:=by
 unfold Program.cellsOf at h ⊢;cases hi:P.info? t with
 |none=>simp[hi]at h
 |some i=>exact⟨i,rfl,by simp⟩
theorem vp {P:Program} {t f off b o:Nat} {ft:TypeId} (h:JA P t f=some (off,ft)) (h0:P.cellsOf ft≠0) (w:World):
 (T1 t (.pointer (some ⟨b,o,none⟩)) f).run P w= .ok (.pointer (some ⟨b,o+off,none⟩)) w:=by
 obtain⟨fs,fd,hu,hf,rfl,rfl⟩:=WU h;obtain⟨i,hi,hs⟩:=zF h0;have hsz:i.size≠0:=by rw[hs];exact h0
 simp[T1,qR hu,hf,No,fieldPlace,J8,typeInfo,hi,hsz,xx]
theorem GW {t:TypeId} {x:Operand} {f:Nat} (h:Conc C B F0 w0 F loc st a w):RS C B F0 w0 st a w ⟨dst,.fieldAddr t x f,ty,pos,after,g⟩ (xw C ⟨dst,.fieldAddr t x f,ty,pos,after,g⟩ (ev st) st.objs):=by
 simp only[xw];have hx:=qZ h x;split
 ·rename_i a5 ft hf;split
  ·trivial
  ·rename_i h0;have h0:C.P.cellsOf ft≠0:=by simpa using h0
   split
   ·rename_i k o hv;rw[hv]at hx;split
    ·rename_i a6 hk;obtain⟨b,c,hl,hp⟩:=hx.1 _ hk rfl;refine qO h (x:= .pointer (some ⟨b,o+a5,none⟩)) (fun cells' hc _=>⟨b,c,hl,rfl⟩) hx.2 ?_;simp[execOp,hp,vp hf h0]
    ·trivial
   ·rename_i k i o hv;rw[hv]at hx;split
    ·rename_i s es fz hk;obtain⟨b,c,hl,hi,hp⟩:=hx.1 s es fz hk;refine qO h (x:= .pointer (some ⟨b,i*s+o+a5,none⟩)) (fun s' es' fz' hc=>?_) hx.2 ?_
     ·rw[hk]at hc;simp only[J7]at hc;obtain⟨rfl,rfl,rfl⟩:=hc;exact⟨b,c,hl,hi,by rw[kk]⟩
     ·simp[execOp,hp,vp hf h0]
    ·trivial
   ·rename_i es i o hv;rw[hv]at hx;obtain⟨b,p,a3,hp,hi,a4⟩:=hx.1;refine qO h (x:= .pointer (some ⟨b,p+i*a3+o+a5,none⟩)) ⟨b,p,a3,by rw[kk],hi,a4⟩ trivial ?_;simp[execOp,hp,vp hf h0]
   ·trivial
 ·trivial
theorem Ew {t:TypeId} {x:Operand} {f:Nat} (h:Conc C B F0 w0 F loc st a w):RS C B F0 w0 st a w ⟨dst,.field t x f,ty,pos,after,g⟩ (xw C ⟨dst,.field t x f,ty,pos,after,g⟩ (ev st) st.objs):=by
 simp only[xw];have hx:=qZ h x;split
 ·rename_i off ft cs hf hv;rw[hv]at hx;obtain⟨vs,a7,a4⟩:=hx.1;have hl:cs.length=vs.size:=by simpa using a4.length
  split
  ·rename_i z hz;obtain⟨fs,fd,hu,a5,ho,ht⟩:=WU hf;subst ho ht;have h1:=yL hz w;have h2:=xi hz w;split
   ·rename_i a6;have a6:fd.offset+z.length≤cs.length:=by simpa using a6
    split
    ·rename_i ha;rw[ha]at h1;refine qO h (x:= .agg (vs.extract fd.offset (fd.offset+z.length))) ⟨_,rfl,?_⟩ trivial ?_
     ·have:(vs.extract fd.offset (fd.offset+z.length)).toList=Yc (fun j=>nth undef vs.toList j) fd.offset z.length:=by
       rw[←j6];apply List.ext_getElem?;intro j;simp only[Hu,hP,im,g3];by_cases hj:j<z.length
       ·have hsz:fd.offset+j<vs.size:=by omega
        simp[hj,qI,hsz]
       ·simp[hj];omega
      rw[this,WT];exact QQ _ _ fun j hj=>a4.nth .undef undef _ _ _ (by omega)
     ·simp[execOp,U0,qR hu,a5,part,a7,asAgg,h1,h2]
    ·rename_i ha;rw[ha]at h1;split
     ·rename_i a3;have a3:0<z.length:=by simpa using a3
      have hlt:fd.offset<vs.size:=by omega
      refine qO h (x:=nth undef vs.toList fd.offset) (show CD w F _ _ from a4.nth .undef undef _ _ fd.offset (by omega)) trivial ?_;simp[execOp,U0,qR hu,a5,part,a7,asAgg,h1,hlt,qI]
     ·trivial
   ·trivial
  ·trivial
 ·trivial
theorem Pf {x:Operand} {i:Nat} (h:Conc C B F0 w0 F loc st a w):RS C B F0 w0 st a w ⟨dst,.extract x i,ty,pos,after,g⟩ (xw C ⟨dst,.extract x i,ty,pos,after,g⟩ (ev st) st.objs):=by
 simp only[xw];have hx:=qZ h x;split
 ·rename_i as hv;rw[hv]at hx;obtain⟨vs,a5,a7⟩:=hx.1;have hl:as.length=vs.size:=by simpa using a7.length
  split
  ·rename_i a4;have a4:i<as.length:=by simpa using a4
   have h1:=a7.nth (A.c .undef) undef as vs.toList i a4;have a3:(execOp a.eval ⟨dst,.extract x i,ty,pos,after,g⟩).run C.P w= .ok (.value (nth undef vs.toList i)) w:=by simp[execOp,Ts,a5,qI,show i<vs.size by omega]
   split
   ·rename_i d hd;rw[hd]at h1;exact qO h h1 trivial a3
   ·rename_i cs hd;rw[hd]at h1;exact qO h h1 trivial a3
  ·trivial
 ·rename_i k as hv;rw[hv]at hx;obtain⟨⟨y,ys,a5,hy,a8⟩,a6⟩:=hx;have hl:as.length=ys.length:=by simpa using a8.length
  split
  ·have a3:(execOp a.eval ⟨dst,.extract x 0,ty,pos,after,g⟩).run C.P w= .ok (.value y) w:=by simp[execOp,Ts,a5]
   refine qO h (x:=y) (fun s es fz hc=>?_) a6 a3;obtain⟨b,c,h1,h2⟩:=hy s es fz hc;exact .inl ⟨b,c,h1,h2⟩
  ·rename_i j;split
   ·rename_i a4;have a4:j<as.length:=by simpa using a4
    have h1:=a8.nth (A.c .undef) undef as ys j a4;have a3:(execOp a.eval ⟨dst,.extract x (j+1),ty,pos,after,g⟩).run C.P w= .ok (.value (nth undef ys j)) w:=by simp[execOp,Ts,a5,qI,show j<ys.length by omega]
    split
    ·rename_i d hd;rw[hd]at h1;exact qO h h1 trivial a3
    ·rename_i cs hd;rw[hd]at h1;exact qO h h1 trivial a3
   ·trivial
 ·trivial
theorem Ex {t:TypeId} {x i:Operand} (h:Conc C B F0 w0 F loc st a w):RS C B F0 w0 st a w ⟨dst,.index t x i,ty,pos,after,g⟩ (xw C ⟨dst,.index t x i,ty,pos,after,g⟩ (ev st) st.objs):=by
 simp only[xw];have hx:=(qZ h x).1;have hi:=(qZ h i).1;split
 ·rename_i s k n hu hvx hvi;rw[hvx]at hx;rw[hvi]at hi;rintro⟨h0,h1⟩;refine qY h (x:= .int .u8 ((nth 0 s n.toNat).toNat:Int)) ?_ (I3 _ _) trivial;have hs:=JL hx;have hn:=vo hi;have a3:n.toNat<s.length:=by omega
  have hg:(⟨⟨s⟩⟩:ByteArray)[n.toNat]? =some (nth 0 s n.toNat):=by rw[qo _ a3];have:n.toNat<(⟨⟨s⟩⟩:ByteArray).size:=a3;rw[getElem?_pos (⟨⟨s⟩⟩:ByteArray) n.toNat this];rfl
  simp[execOp,Instr.index,hs,hn,asIntOf,qR hu,h0,hg]
 ·trivial
theorem JP (s:Nat):∀(n:Nat) (cs:List D),(vg s n cs).length=n
 |0,_=>rfl
 |n+1,cs=>by simp only[vg,ey];rw[JP s n]
theorem ZC (s:Nat):∀(n:Nat) (cs:List D),cs.length=n*s→(vg s n cs).flatten=cs∧∀e∈vg s n cs,e.length=s
 |0,cs,h=>by have:cs=[]:=fl (by omega);subst this;exact⟨rfl,fun e he=>by simp[vg]at he⟩
 |n+1,cs,h=>by
  rw[ic,k0]at h;obtain⟨h1,h2⟩:=ZC s n (cs.drop s) (by rw[g4];omega);refine⟨?_,fun e he=>?_⟩
  ·simp only[vg,fR];rw[h1,ga]
  ·simp only[vg,eH]at he;rcases he with rfl|he
   ·rw[fS];omega
   ·exact h2 e he
theorem MJ (h:Conc C B F0 w0 F loc st a w) {g len:Nat} {e:TypeId} {es:List (List D)} (hg:Ed C g len e=some es):Row w F es g 0 (C.P.cellsOf e)∧es.length=len∧0<C.P.cellsOf e:=by
 unfold Ed at hg;split at hg
 ·rename_i cs hG;split at hg
  ·rename_i hc;simp only[Hx,decide_eq_true_eq]at hc;simp only[k9]at hg;subst hg;obtain⟨hF,vs,t,fr,a4,a3⟩:=h.inv g cs hG;obtain⟨h1,h2⟩:=ZC _ _ _ hc.2;have hl:=JP (C.P.cellsOf e) len cs;refine⟨⟨h2,hF,fun j hj=>?_⟩,hl,hc.1⟩;rw[hl]at hj;have a5:=a3.length;refine⟨nth undef vs.toList j,?_,?_⟩
   ·have a6:j<vs.size:=by simp at a5;omega
    have:w.cell? ⟨g,0+j,none⟩=vs[0+j]? :=by simp[World.cell?,a4]
    rw[this,hY,qo _ (by simpa using a6)];simp[a6]
   ·rw[h1];exact a3.nth .undef undef _ _ j (by omega)
  ·simp at hg
 ·simp at hg
theorem GX {t:TypeId} {x i:Operand} (h:Conc C B F0 w0 F loc st a w):RS C B F0 w0 st a w ⟨dst,.indexAddr t x i,ty,pos,after,g⟩ (xw C ⟨dst,.indexAddr t x i,ty,pos,after,g⟩ (ev st) st.objs):=by
 simp only[xw,yI];have hx:=(qZ h x);have hi:=(qZ h i).1;split
 ·rename_i k n hvi;rw[hvi]at hi;have hn:=vo hi;split
  ·rename_i e hu;have an:∀s,C.P.cellsOf e=s→s≠0→(J8 e).run C.P w= .ok s w:=fun s hs h0=>by obtain⟨b1,h1,h2⟩:=zF (P:=C.P) (t:=e) (by rw[hs];exact h0);simp[J8,typeInfo,h1,h2,hs]
   split
   ·rename_i es a4;rw[a4]at hx;split
    ·rename_i ap;have ap:0<C.P.cellsOf e:=by simpa using ap
     rintro⟨h0,h1,h2⟩;obtain⟨ad,c,a5,_,a3⟩:=J3 hx.1;rcases a3 with rfl|⟨b,o,a6,rfl,a3⟩
     ·simp at h1;omega
     have a8:n.toNat<es.length:=by omega
     have al:a6=C.P.cellsOf e:=by rw[←h2,qo _ a8];exact(a3.hs _ (hD a8)).symm
     subst al;refine qY h (x:= .pointer (some ⟨b,o+n.toNat*C.P.cellsOf e,none⟩)) ?_ ⟨b,o,_,by simp,a8,a3⟩ trivial;simp[execOp,M3,a5,hn,asIntOf,qR hu,h0,h1,an _ rfl (by omega),xx]
    ·trivial
   ·rename_i k' a4;rw[a4]at hx;split
    ·rename_i s es fz hk;split
     ·rename_i hs;have hs:s=C.P.cellsOf e:=by simpa using hs
      rintro⟨h0,h1⟩;have a7:=h.objs k';rw[hk]at a7;obtain⟨_,hs0,_,a7⟩:=a7;rcases hx.1 s es fz hk with⟨b,c,hl,a5⟩|⟨_,rfl,_⟩
      ·have a8:n.toNat<es.length:=by omega
       refine qY h (x:= .pointer (some ⟨b,n.toNat*s,none⟩)) ?_ (fun s' es' fz' hc=>?_) hx.2
       ·simp[execOp,M3,a5,hn,asIntOf,qR hu,h0,h1,an _ hs.symm (by omega),xx]
       ·rw[hk]at hc;simp only[J7]at hc;obtain⟨rfl,rfl,rfl⟩:=hc;exact⟨b,c,hl,a8,by simp⟩
      ·simp at h1;omega
     ·trivial
    ·trivial
   ·rename_i k' o l a4;rw[a4]at hx;split
    ·rename_i s es fz hk;split
     ·rename_i hs;have hs:s=C.P.cellsOf e:=by simpa using hs
      rintro⟨h0,h1⟩;have a7:=h.objs k';rw[hk]at a7;obtain⟨_,hs0,_,a7⟩:=a7;obtain⟨b,c,hl,hol,a5⟩:=(hx.1 s es fz hk).resolve_right (by rintro(⟨_,_,_,_,h4,_⟩|⟨_,_,_,h4,_⟩)<;>omega);refine qY h (x:= .pointer (some ⟨b,o*s+n.toNat*s,none⟩)) ?_ (fun s' es' fz' hc=>?_) hx.2
      ·simp[execOp,M3,a5,hn,asIntOf,qR hu,h0,h1,an _ hs.symm (by omega),xx]
      ·rw[hk]at hc;simp only[J7]at hc;obtain⟨rfl,rfl,rfl⟩:=hc;exact⟨b,c,hl,by omega,by rw[ic];simp⟩
     ·trivial
    ·trivial
   ·rename_i k' l a4;rw[a4]at hx;split
    ·rename_i ag hk;split
     ·rename_i hs;have hs:C.P.cellsOf e=1:=by simpa using hs
      rintro⟨h0,h1⟩;obtain⟨b,c,hl,a5⟩:=hx.1 _ hk rfl;refine qY h (x:= .pointer (some ⟨b,n.toNat,none⟩)) ?_ (fun o ho hb=>⟨b,c,hl,rfl⟩) hx.2;simp[execOp,M3,a5,hn,asIntOf,qR hu,h0,h1,an _ hs (by omega),xx]
     ·trivial
    ·trivial
   ·trivial
  ·rename_i len e hu;split
   ·rename_i k' b2 a4;rw[a4]at hx;split
    ·rename_i ag hk;split
     ·rename_i m;split
      ·rename_i hm;simp only[Hx,decide_eq_true_eq]at hm;obtain⟨b,c,hl,a5⟩:=hx.1 _ hk rfl;obtain⟨b1,h1,h2⟩:=zF (P:=C.P) (t:=e) (by omega);refine qO h (x:= .pointer (some ⟨b,b2+m*C.P.cellsOf e,none⟩)) (fun cells' hc _=>⟨b,c,hl,rfl⟩) hx.2 ?_;simp[execOp,M3,a5,hn,asIntOf,qR hu,hm.1,No,J8,typeInfo,h1,h2,xx]
      ·trivial
     ·trivial
    ·trivial
   ·rename_i g' a4;rw[a4]at hx;split
    ·rename_i es hes;obtain⟨a3,hlen,ap⟩:=MJ h hes;rintro⟨h0,h1⟩;have a5:a.eval x= .pointer (some ⟨g',0,none⟩):=hx.1;have a8:n.toNat<es.length:=by omega
     obtain⟨b1,q1,q2⟩:=zF (P:=C.P) (t:=e) (by omega);refine qY h (x:= .pointer (some ⟨g',0+n.toNat*C.P.cellsOf e,none⟩)) ?_ ⟨g',0,_,by simp,a8,a3⟩ trivial;have h3:n.toNat<len:=by omega
     simp[execOp,M3,a5,hn,asIntOf,qR hu,h0,h1,No,J8,typeInfo,q1,q2,xx]
    ·trivial
   ·rename_i es j b2 a4;rw[a4]at hx;split
    ·rename_i m;split
     ·rename_i hm;simp only[Hx,decide_eq_true_eq]at hm;obtain⟨b,p,a6,hp,hi2,a3⟩:=hx.1;obtain⟨b1,h1,h2⟩:=zF (P:=C.P) (t:=e) (by omega);refine qO h (x:= .pointer (some ⟨b,p+j*a6+b2+m*C.P.cellsOf e,none⟩)) ⟨b,p,a6,by rw[kk],hi2,a3⟩ trivial ?_;simp[execOp,M3,hp,hn,asIntOf,qR hu,hm.1,No,J8,typeInfo,h1,h2,xx]
     ·trivial
    ·trivial
   ·trivial
  ·trivial
 ·trivial
end
end Eng
end
section
namespace Eng
open Go Go.RowKit
section
variable {C:Cx} {B:Bd} {F0:Nat→Prop} {w0:World} {F:Nat→Prop} {loc:Where} {st:St} {a:Act} {w:World}
variable {dst:Option Nat} {ty:TypeId} {pos:String} {after:Array Edge} {g:Option (Nat×Bool)}
theorem CO.heap {objs:List Obj} {w':World} {k:Nat} {o:Obj} (hh:w'.heap=w.heap) (h:CO loc objs w F k o):CO loc objs w' F k o:=
 CO.le (fun _ h=>h) (fun _ _=>by rw[hh]) (Le.refl _ _) rfl rfl (fun _ _ _=>⟨by rw[hh],fun h=>h⟩) h
theorem Conc.drew (h:Conc C B F0 w0 F loc st a w):Conc C B F0 w0 F loc st a w.drew:=
 ⟨h.prog,h.below.drew,h.hB,h.defers,All2.mono (R:=CV loc st.objs w F) (fun _ _ hv=>CV.mem (w:=w) (w':=w.drew) (fun _ h=>h) (fun _ _=>rfl) hv) h.tmps,h.refs,fun k=>CO.heap (w:=w) (w':=w.drew) rfl (h.objs k),h.inj,h.fresh,h.bound,h.fsub,h.fsup,h.inv.mono (fun _ h=>h) fun _ _=>rfl⟩
def wH (loc:Where) (k:Nat):Where:=⟨loc.P,fun j=>if j=k then none else loc j,loc.ty⟩
theorem RP {objs:List Obj} {k:Nat} (hk:nth .none objs k≠ .none):Le objs (upd objs k .dead) loc (wH loc k):=by
 have a3:k<objs.length:=by
  rcases hX k objs.length with h1|h1
  ·exact h1
  ·rw[qJ _ h1]at hk;simp at hk
 refine⟨rfl,fun _ _=>rfl,fun j hj=>?_,fun j o' hj hc hbx=>?_,fun j s' es' fz' hj hc=>?_⟩
 ·by_cases hkj:k=j
  ·subst hkj;rw[qg _ _ _ a3];simp
  ·rw[qe _ _ _ hkj];exact hj
 ·by_cases hkj:k=j
  ·subst hkj;rw[qg _ _ _ a3]at hc;rw[←hc]at hbx;simp[zx]at hbx
  ·rw[qe _ _ _ hkj]at hc;exact⟨by rw[hc];exact hbx,by simp[wH,k6 hkj]⟩
 ·by_cases hkj:k=j
  ·subst hkj;rw[qg _ _ _ a3]at hc;simp at hc
  ·rw[qe _ _ _ hkj]at hc;exact⟨⟨_,_,hc,rfl⟩,by simp[wH,k6 hkj]⟩
theorem Conc.killO {k:Nat} (h:Conc C B F0 w0 F loc st a w) (hk:nth .none st.objs k≠ .none) (dt:List Nat):
 Conc C B F0 w0 F (wH loc k) ⟨st.tmps,upd st.objs k .dead,dt⟩ a w:=by
 have hlt:k<st.objs.length:=by
  rcases hX k st.objs.length with h1|h1
  ·exact h1
  ·rw[qJ _ h1]at hk;simp at hk
 have a3:Le st.objs (upd st.objs k .dead) loc (wH loc k):=RP hk;have:=h.step (dst:=none) (v:= .any) (x:=undef) (up:=[(k,.dead)]) (loc':=wH loc k) (F':=F) (fun _ h=>h) (fun _ _=>rfl) a3 h.below h.hB (fun j=>?_) ?_ ?_ h.bound h.fsub trivial trivial
 ·exact this.redirty
 ·show CO _ (upd st.objs k .dead) _ _ _ (nth .none (upd st.objs k .dead) j);by_cases hkj:k=j
  ·subst hkj;rw[qg _ _ _ hlt];simp[CO,wH]
  ·rw[qe _ _ _ hkj];exact CO.le (fun _ h=>h) (fun _ _=>rfl) a3 (by simp[wH,k6 hkj]) rfl (fun b c hb=>⟨rfl,fun h=>h⟩) (h.objs j)
 ·intro j j' b c c' h1 h2;simp only[wH]at h1 h2;split at h1
  ·simp at h1
  ·split at h2
   ·simp at h2
   ·exact h.inj _ _ _ _ _ h1 h2
 ·intro j b c h1;simp only[wH]at h1;split at h1
  ·simp at h1
  ·exact h.fresh _ _ _ h1
theorem Conc.kill {k s:Nat} {es:List (List D)} {fz:Bool} (h:Conc C B F0 w0 F loc st a w) (hk:nth .none st.objs k= .arr s es fz) (dt:List Nat):
 Conc C B F0 w0 F (wH loc k) ⟨st.tmps,upd st.objs k .dead,dt⟩ a w:=h.killO (by rw[hk];simp) dt
theorem Conc.adopt {d b cap tt:Nat} {ob:Obj} {v:V} {x:Value} {cs:Array Value} {t:TypeId} (h:Conc C B F0 w0 F loc st a w) (hd:qA st.objs d=true)
 (hb:Own B b∧b<w.heap.size) (hnF:¬F b) (hno:∀k c,loc k≠some (b,c))
 (hob:CO (at_ loc d (b,cap) tt) (upd st.objs d ob) (setBlk w b (.cells cs t (0,0))) F d ob)
 (hv:CV (at_ loc d (b,cap) tt) (upd st.objs d ob) (setBlk w b (.cells cs t (0,0))) F v x) (hr:Ref (upd st.objs d ob) v):
 Conc C B F0 w0 F (at_ loc d (b,cap) tt) (st.put dst v [(d,ob)]) (a.put dst x) (setBlk w b (.cells cs t (0,0))):=by
 obtain⟨a3,hlt⟩:=qN hd;have hw:∀b',F b'→(setBlk w b (.cells cs t (0,0))).heap[b']? =w.heap[b']? :=fun b' hb'=>z6 (fun e=>hnF (e▸hb'))
 have a4:Le st.objs (upd st.objs d ob) loc (at_ loc d (b,cap) tt):=by
  refine⟨rfl,fun k hk=>by
   have:k≠d:=fun e=>by subst e;exact absurd a3 hk
   simp[at_,this],fun k hk=>?_,fun k o' hk hc hbx=>?_,fun k s es' fz' hk hc=>?_⟩
  ·by_cases hkd:d=k
   ·subst hkd;exact absurd a3 hk
   ·rw[qe _ _ _ hkd];exact hk
  ·by_cases hkd:d=k
   ·subst hkd;exact absurd a3 hk
   ·rw[qe _ _ _ hkd]at hc;exact⟨by rw[hc];exact hbx,by simp[at_,k6 hkd]⟩
  ·by_cases hkd:d=k
   ·subst hkd;exact absurd a3 hk
   ·rw[qe _ _ _ hkd]at hc;exact⟨⟨_,_,hc,rfl⟩,by simp[at_,k6 hkd]⟩
 refine h.step (up:=[(d,ob)]) (fun _ h=>h) hw a4 (BelowX.setBlk h.below hb.1) (by rw[jz];exact h.hB) (fun k=>?_) ?_ ?_ (fun b' hb'=>by rw[jz];exact h.bound b' hb') h.fsub hv hr
 ·show CO _ (upd st.objs d ob) _ _ _ (nth .none (upd st.objs d ob) k);by_cases hk:d=k
  ·subst hk;rw[qg _ _ _ hlt];exact hob
  ·rw[qe _ _ _ hk];refine CO.le (fun _ h=>h) hw a4 (by simp[at_,k6 hk]) (by simp[at_,k6 hk]) (fun b' c hb'=>⟨z6 (fun e=>?_),fun h=>h⟩) (h.objs k);subst e;exact hno _ _ hb'
 ·intro k k' b' c c' h1 h2;simp only[at_]at h1 h2;split at h1<;>split at h2
  ·rw[‹k=d›,‹k'=d›]
  ·simp only[k9,lg]at h1;rw[←h1.1]at h2;exact absurd h2 (hno _ _)
  ·simp only[k9,lg]at h2;rw[←h2.1]at h1;exact absurd h1 (hno _ _)
  ·exact h.inj _ _ _ _ _ h1 h2
 ·intro k b' c h1;simp only[at_]at h1;rw[jz];split at h1
  ·simp only[k9,lg]at h1;obtain⟨rfl,_⟩:=h1;exact hb
  ·exact h.fresh _ _ _ h1
theorem ij {x:Operand} {ts:Array TypeId} (h:Conc C B F0 w0 F loc st a w):RS C B F0 w0 st a w ⟨dst,.call ⟨.builtin .len, #[x],ts⟩,ty,pos,after,g⟩ (gZ C.P st.objs ts (ev st x)):=by
 unfold gZ;have hx:=(qZ h x).1;split
 ·rename_i t hts;have a4:∀n:Int,(Lr ts ty #[a.eval x]).run C.P w= .ok (.int .i64 n) w→(execOp a.eval ⟨dst,.call ⟨.builtin .len, #[x],ts⟩,ty,pos,after,g⟩).run C.P w= .ok (.value (.int .i64 n)) w:=fun n hn=>by simp[execOp,resolve,invoke,builtin,hn]
  have a6:ts[0]? =some t:=by
   have:ts= #[t]:=by apply Aw;simpa using hts
   rw[this];rfl
  split
  ·rename_i hu;split
   ·rename_i s hv;rw[hv]at hx;refine qO h (I3 _ _) trivial (a4 _ ?_);simp[Lr,a6,qR hu,JL hx,goInt];rfl
   ·trivial
  ·rename_i e hu;have a5:∀ad n c,a.eval x= .slice ad n c→(Lr ts ty #[a.eval x]).run C.P w= .ok (.int .i64 n) w:=fun ad n c a3=>by simp[Lr,a6,qR hu,a3,goInt]
   split
   ·rename_i es hv;rw[hv]at hx;obtain⟨ad,c,a3,_⟩:=J3 hx;exact qO h (I3 _ _) trivial (a4 _ (a5 _ _ _ a3))
   ·rename_i hv;rw[hv]at hx;exact qO h (I3 _ _) trivial (a4 _ (a5 none 0 0 hx))
   ·rename_i k hv;rw[hv]at hx;split
    ·rename_i s es fz hk;rcases hx s es fz hk with⟨b,c,_,a3⟩|⟨_,rfl,a3⟩
     ·exact qO h (I3 _ _) trivial (a4 _ (a5 _ _ _ a3))
     ·exact qO h (I3 _ _) trivial (a4 _ (a5 _ _ _ a3))
    ·trivial
   ·rename_i k o l hv;rw[hv]at hx;split
    ·rename_i s es fz hk;rcases hx s es fz hk with⟨b,c,_,_,a3⟩|⟨_,_,_,_,rfl,a3⟩|⟨_,_,_,rfl,_,_,a3⟩
     ·exact qO h (I3 _ _) trivial (a4 _ (a5 _ _ _ a3))
     ·exact qO h (I3 _ _) trivial (a4 _ (a5 _ _ _ a3))
     ·exact qO h (I3 _ _) trivial (a4 _ (a5 _ _ _ a3))
    ·trivial
   ·rename_i k n hv;rw[hv]at hx;split
    ·rename_i a7 hk;obtain⟨b,c,_,a3⟩:=hx _ hk rfl;exact qO h (I3 _ _) trivial (a4 _ (a5 _ _ _ a3))
    ·trivial
   ·trivial
  ·trivial
 ·trivial
theorem jG {d:Int} {x:Option Operand} {n:Int} (h:Conc C B F0 w0 F loc st a w) (hb:wD d (zy (ev st) x)=some n):(x=none∧n=d)∨∃y k,x=some y∧a.eval y= .int k n:=by
 cases x with
 |none=>simp only[zy,wD,k9]at hb;exact .inl ⟨rfl,hb.symm⟩
 |some y=>
  simp only[zy]at hb;have hy:=(qZ h y).1;generalize ev st y=v at hb hy;unfold wD at hb;split at hb
  ·rename_i a3;simp at a3
  ·rename_i k m a3;simp only[k9]at a3 hb;subst a3 hb;exact .inr ⟨y,k,rfl,vo hy⟩
  ·simp at hb
theorem j8 {P:Program} {sl:Bool} {len cap:Nat} {lo hi:Option Operand} {l r:Int} (hl:(lo=none∧l=0)∨∃y k,lo=some y∧a.eval y= .int k l) (hr:(hi=none∧r=len)∨∃y k,hi=some y∧a.eval y= .int k r)
 (h0:0≤l) (h1:l≤r) (h2:r≤len) (h3:len≤cap):(Lv sl len cap (lo.map a.eval) (hi.map a.eval) none).run P w= .ok (l.toNat,r.toNat,cap) w:=by
 have a3:0≤r:=by omega
 have a4:r≤(cap:Int):=by omega
 have hlr:l≤(r.toNat:Int):=by omega
 rcases hl with⟨rfl,rfl⟩|⟨y,k,rfl,hy⟩<;>rcases hr with⟨rfl,rfl⟩|⟨y',k',rfl,a5⟩
 ·simp[Lv]
 ·simp[Lv,a5,run_sliceBound _ _ _ _ _ a3 a4]
 ·have:l≤(len:Int):=h1;simp[Lv,hy,run_sliceBound _ _ _ _ _ h0 this]
 ·simp[Lv,hy,a5,run_sliceBound _ _ _ _ _ a3 a4,run_sliceBound _ _ _ _ _ h0 hlr]
theorem TA {P:Program} {sl:Bool} {len cap:Nat} {lo hi mx:Option Operand} {l r m:Int} (hl:(lo=none∧l=0)∨∃y k,lo=some y∧a.eval y= .int k l) (hr:∃y k,hi=some y∧a.eval y= .int k r)
 (hm:∃y k,mx=some y∧a.eval y= .int k m) (h0:0≤l) (h1:l≤r) (h2:r≤m) (h3:m≤cap):(Lv sl len cap (lo.map a.eval) (hi.map a.eval) (mx.map a.eval)).run P w= .ok (l.toNat,r.toNat,m.toNat) w:=by
 have a4:0≤m:=by omega
 have a5:0≤r:=by omega
 have a6:r≤(m.toNat:Int):=by omega
 have hlr:l≤(r.toNat:Int):=by omega
 obtain⟨y',k',rfl,a7⟩:=hr;obtain⟨y'',k'',rfl,a3⟩:=hm;rcases hl with⟨rfl,rfl⟩|⟨y,k,rfl,hy⟩
 ·simp[Lv,a7,a3,run_sliceBound _ _ _ _ _ a4 h3,run_sliceBound _ _ _ _ _ a5 a6]
 ·simp[Lv,hy,a7,a3,run_sliceBound _ _ _ _ _ a4 h3,run_sliceBound _ _ _ _ _ a5 a6,run_sliceBound _ _ _ _ _ h0 hlr]
theorem Row.part {es:List (List D)} {b o size l r:Nat} (h:Row w F es b o size) (h1:l≤r) (h2:r≤es.length):Row w F ((es.take r).drop l) b (o+l*size) size:=by
 refine⟨fun e he=>h.hs e (ez (fx he)),h.hF,fun j hj=>?_⟩;have a3:((es.take r).drop l).length=r-l:=by simp;omega
 rw[a3]at hj;obtain⟨q,hq⟩:∃q,q=j/size:=⟨_,rfl⟩;have hs0:0<size:=by
  rcases k4 size with h0|h0
  ·subst h0;omega
  ·exact h0
 have hqr:q<r-l:=by rw[hq];exact j2 (by rw[ik];exact hj)
 have hjq:j=q*size+j%size:=by rw[hq,ik];exact(j4 j size).symm
 have a4:=k2 j hs0;obtain⟨v,q1,q2⟩:=h.hc ((l+q)*size+j%size) (GU (by omega) a4);refine⟨v,by rw[←q1];congr 2;rw[ic];omega,?_⟩;rw[zd h.hs _ _ (by omega) a4]at q2;rw[hjq,zd (fun e he=>h.hs e (ez (fx he))) _ _ (by omega) a4];have:nth [] (List.drop l (List.take r es)) q=nth [] es (l+q):=by simp only[qI,List.getElem?_drop];rw[gr,if_pos (by omega)]
 rw[this];exact q2
theorem Ey {es:List (List D)} {x:Value} {z:List Value} {e:TypeId} {l r m:Nat} (hx:CD w F (.sl es) x) (_hz:jt C.P e=some z) (hlens:lens z.length es) (h1:l≤r) (h2:r≤es.length) (h3:r≤m):
 ∃ad c,x= .slice ad es.length c∧es.length≤c∧(m≤c→CD w F (.sl ((es.take r).drop l)) (.slice (if m=l then ad else ad.map (·.add (l*z.length))) (r-l) (m-l))):=by
 obtain⟨ad,c,hxe,hlc,a3⟩:=hx.slice_inv;refine⟨ad,c,hxe,hlc,fun _=>?_⟩;have a4:((es.take r).drop l).length=r-l:=by simp;omega
 rcases Nat.eq_or_lt_of_le h1 with rfl|hlt
 ·have:(es.take l).drop l=[]:=fl (by rw[a4];omega);rw[this,ks];exact .nil _ _
 ·rcases a3 with rfl|⟨b,o,a5,rfl,a3⟩
  ·simp at h2;omega
  ·have hne:es≠[]:=by intro h0;subst h0;simp at h2;omega
   obtain⟨e0,es0,rfl⟩:=hM hne;have hsz:a5=z.length:=by rw[←hlens e0 (by simp)];exact(a3.hs e0 (by simp)).symm
   subst hsz;rw[if_neg (by omega)];have:=(a3.part h1 h2).CD (c:=m-l) (by rw[a4];omega);rw[a4]at this
   simpa [xx]using this
theorem RQ {t:TypeId} {x:Operand} {lo hi mx:Option Operand} (h:Conc C B F0 w0 F loc st a w):RS C B F0 w0 st a w ⟨dst,.slice t x lo hi mx,ty,pos,after,g⟩ (GL C.P t st.objs (ev st x) (zy (ev st) lo) (zy (ev st) hi) (zy (ev st) mx)):=by
 simp only[GL];have hx:=(qZ h x).1;split
 ·rename_i hu;split
  ·rename_i s hv;rw[hv]at hx;have hs:=JL hx;split
   ·rename_i l r hl hr;have a8:=jG h hl;have a5:=jG h hr;split
    ·rename_i hm;have a7:mx=none:=by cases mx with|none=>rfl|some y=>simp[zy]at hm
     subst a7;rintro⟨h0,h1,h2⟩;have hb:=j8 (P:=C.P) (w:=w) (sl:=false) (len:=s.length) (cap:=s.length) a8 a5 h0 h1 h2 (ib _);refine qY h (x:= .string ⟨⟨(s.take r.toNat).drop l.toNat⟩⟩) ?_ (CD.str _) trivial;have hsz:(⟨⟨s⟩⟩:ByteArray).size=s.length:=rfl;have al:(⟨⟨s⟩⟩:ByteArray).extract l.toNat r.toNat=⟨⟨(s.take r.toNat).drop l.toNat⟩⟩:=by apply ByteArray.ext;apply Aw;simp only[ByteArray.data_extract,Hu,hP];rw[List.drop_take]
     simp[execOp,M0,qR hu,M1,hs,hsz,hb,al]
    ·trivial
   ·trivial
  ·trivial
 ·rename_i e hu;split
  ·rename_i z es us hz hel;obtain⟨hfz,hcd⟩:=Eo h hel hx;have b3:∀(l r m:Int) (c0:∀(F':Nat→Prop) ad c,CD w F' (.sl es) (a.eval x)→a.eval x= .slice ad es.length c→es.length≤c→∃mm:Nat,mm≤c∧r.toNat≤mm∧(Lv true es.length c (lo.map a.eval) (hi.map a.eval) (mx.map a.eval)).run C.P w= .ok (l.toNat,r.toNat,mm) w),
    0≤l→l≤r→r≤es.length→lens z.length es→Does C B F0 w0 ⟨dst,.slice t x lo hi mx,ty,pos,after,g⟩ a w (st.put dst (.c (.sl ((es.take r.toNat).drop l.toNat))) us):=by
    intro l r m c0 h0 h1 h2 a6;obtain⟨F',hc',hF',hb'⟩:=h.freezes hfz st.dirty;have a3:=hcd F' hF' hb';obtain⟨ad,c,b1,ag,_⟩:=a3.slice_inv;obtain⟨mm,hm1,hm2,ap⟩:=c0 F' ad c a3 b1 ag;obtain⟨ad',c',a4,_,an⟩:=Ey (C:=C) (l:=l.toNat) (r:=r.toNat) (m:=mm) a3 hz a6 (by omega) (by omega) hm2;rw[b1]at a4;simp only[Value.slice.injEq]at a4;obtain⟨rfl,_,rfl⟩:=a4;refine⟨_,_,w,?_,.inl rfl,F',loc,(hc'.pure (dst:=dst) (v:= .c (.sl ((es.take r.toNat).drop l.toNat))) (an hm1) trivial).redirty⟩;have h3:=xi hz w;simp[execOp,M0,qR hu,M1,b1,ap,h3]
   split
   ·rename_i l r hl hr;have a8:=jG h hl;have a5:=jG h hr;split
    ·rename_i hm;have a7:mx=none:=by cases mx with|none=>rfl|some y=>simp[zy]at hm
     subst a7;rintro⟨h0,h1,h2,h3⟩;exact b3 l r 0 (fun F' ad c _ _ ag=>⟨c,ib _,by omega,j8 (P:=C.P) a8 a5 h0 h1 h2 ag⟩) h0 h1 h2 h3
    ·rename_i mv hm;split
     ·rename_i m _ b2 hh;rw[←hm]at b2;rcases jG h b2 with⟨a7,_⟩|hm'
      ·subst a7;simp[zy]at hm
      rcases a5 with⟨hhi,_⟩|a5
      ·subst hhi;simp[zy]at hh
      ·rintro⟨h0,h1,h2,h3,h4⟩;exact b3 l r m (fun F' ad c _ _ ag=>⟨m.toNat,by omega,by omega,TA (P:=C.P) a8 a5 hm' h0 h1 h2 (by omega)⟩) h0 h1 (by omega) h4
     ·trivial
   ·trivial
  ·trivial
 ·trivial
theorem RR {t:TypeId} {x:Operand} {lo hi mx:Option Operand} (h:Conc C B F0 w0 F loc st a w):RS C B F0 w0 st a w ⟨dst,.slice t x lo hi mx,ty,pos,after,g⟩ (GM C.P t st.objs (ev st x) (zy (ev st) lo) (zy (ev st) hi) (zy (ev st) mx)):=by
 unfold GM;split
 ·exact RQ h
 ·rename_i a3;have hv:ev st x= .nilS:=by
   cases hq:ev st x<;>rw[hq]at a3<;>simp[nilB]at a3 ⊢
  split
  ·rename_i e hu hm;split
   ·rename_i z l r hz hl hr;have hmx:mx=none:=by cases mx with|none=>rfl|some y=>simp[zy]at hm
    subst hmx;rintro⟨h0,h1,h2⟩;have hx:=(qZ h x).1;rw[hv]at hx;have hx:a.eval x= .slice none 0 0:=hx;have hl':=jG h hl;have hr':=jG h hr;have hb:=j8 (P:=C.P) (w:=w) (sl:=true) (len:=0) (cap:=0) hl' hr' h0 h1 h2 (ib _);refine qY h (x:= .slice none 0 0) ?_ rfl trivial;have h3:=xi hz w;have e1:l.toNat=0:=by omega
    have e2:r.toNat=0:=by omega
    rw[e1,e2]at hb;simp[execOp,M0,qR hu,M1,hx,hb,h3]
   ·trivial
  ·trivial
theorem aN {t:TypeId} {x:Operand} {lo hi mx:Option Operand} (h:Conc C B F0 w0 F loc st a w):RS C B F0 w0 st a w ⟨dst,.slice t x lo hi mx,ty,pos,after,g⟩ (Tx C.P t st.objs (ev st x) (zy (ev st) lo) (zy (ev st) hi) (zy (ev st) mx)):=by
 unfold Tx;have hx:=qZ h x;split
 ·rename_i e hu;split
  ·rename_i z k hz hv;rw[hv]at hx;split
   ·rename_i s es fz hk;split
    ·rename_i b1 ad;have b1:lo=none:=by cases lo with|none=>rfl|some y=>simp[zy]at b1
     have ad:mx=none:=by cases mx with|none=>rfl|some y=>simp[zy]at ad
     subst b1 ad;split
     ·rename_i r hs hr;have hs:s=z.length:=ia hs;have ag:=jG h hr;have a7:(0≤r∧r≤es.length)→True→Does C B F0 w0 ⟨dst,.slice t x none hi none,ty,pos,after,g⟩ a w (st.put dst (.sub k 0 r.toNat) []):=by
       rintro⟨h0,h2⟩ _;have a5:=h.objs k;rw[hk]at a5;rcases hx.1 s es fz hk with⟨b,c,a4,a6⟩|⟨a4,rfl,a6⟩
       ·obtain⟨_,_,_,a5⟩:=a5;rcases a5 with⟨h5,_⟩|⟨b',c',cs,t',h5,_,_,_,ap,_⟩
        ·rw[h5]at a4;simp at a4
        rw[h5]at a4;simp only[k9,lg]at a4;obtain⟨rfl,rfl⟩:=a4;have a3:=j8 (P:=C.P) (w:=w) (sl:=true) (len:=es.length) (cap:=c') (lo:=none) (l:=0) (.inl ⟨rfl,rfl⟩) ag (by omega) (by omega) h2 ap.1;simp only[k8]at a3;have al:=xi hz w;refine qY h (x:= .slice (some ⟨b',0,none⟩) r.toNat c') ?_ (fun s' es' fz' hc=>?_) hx.2
        ·by_cases hne:c'=0
         ·rw[hne]at a6 a3 ⊢;simp[execOp,M0,qR hu,M1,a6,a3,al]
         ·simp[execOp,M0,qR hu,M1,a6,a3,al,hne,xx]
        ·rw[hk]at hc;simp only[J7]at hc;obtain⟨rfl,rfl,rfl⟩:=hc;exact .inl ⟨b',c',h5,by omega,by simp⟩
       ·have an:r.toNat=0:=by simp at h2;omega
        have a3:=j8 (P:=C.P) (w:=w) (sl:=true) (len:=0) (cap:=0) (lo:=none) (l:=0) (.inl ⟨rfl,rfl⟩) ag (by omega) (by omega) (by simpa using h2) (ib _);simp only[k8]at a3;have al:=xi hz w;refine qY h (x:= .slice none 0 0) ?_ (fun s' es' fz' hc=>?_) hx.2
        ·rw[an]at a3;simp[execOp,M0,qR hu,M1,a6,a3,al]
        ·rw[hk]at hc;simp only[J7]at hc;obtain⟨rfl,rfl,rfl⟩:=hc;exact .inr (.inl ⟨by have:=a5.2.1;omega,a4,rfl,rfl,an,rfl⟩)
      exact fun hc=>a7 hc trivial
     ·trivial
    split
    ·rename_i l r hs hl hr hm;have hs:s=z.length:=ia hs;have ad:mx=none:=by cases mx with|none=>rfl|some y=>simp[zy]at hm
     subst ad;have b2:=jG h hl;have ag:=jG h hr;have a7:(0≤l∧l≤r∧r≤es.length)→True→Does C B F0 w0 ⟨dst,.slice t x lo hi none,ty,pos,after,g⟩ a w (st.put dst (.sub k l.toNat (r.toNat-l.toNat)) []):=by
      rintro⟨h0,h1,h2⟩ _;have a5:=h.objs k;rw[hk]at a5;rcases hx.1 s es fz hk with⟨b,c,a4,a6⟩|⟨a4,rfl,a6⟩
      ·obtain⟨_,hs0,_,a5⟩:=a5;rcases a5 with⟨h5,_⟩|⟨b',c',cs,t',h5,_,_,_,ap,_⟩
       ·rw[h5]at a4;simp at a4
       rw[h5]at a4;simp only[k9,lg]at a4;obtain⟨rfl,rfl⟩:=a4;have a3:=j8 (P:=C.P) (w:=w) (sl:=true) (len:=es.length) (cap:=c') b2 ag h0 (by omega) h2 ap.1;have h3:=xi hz w;by_cases hne:c'=l.toNat
       ·have b3:r.toNat-l.toNat=0:=by omega
        refine qY h (x:= .slice (some ⟨b',0,none⟩) (r.toNat-l.toNat) (c'-l.toNat)) ?_ (fun s' es' fz' hc=>?_) hx.2
        ·rw[hne]at a6 a3 ⊢;simp[execOp,M0,qR hu,M1,a6,a3,h3]
        ·rw[hk]at hc;simp only[J7]at hc;obtain⟨rfl,rfl,rfl⟩:=hc;rcases k4 l.toNat with a8|a8
         ·exact .inl ⟨b',c',h5,by omega,by rw[a8,ix]⟩
         ·exact .inr (.inr ⟨by omega,a8,by omega,b3,_,_,by rw[b3]⟩)
       ·refine qY h (x:= .slice (some ⟨b',l.toNat*s,none⟩) (r.toNat-l.toNat) (c'-l.toNat)) ?_ (fun s' es' fz' hc=>?_) hx.2
        ·simp[execOp,M0,qR hu,M1,a6,a3,h3,hs,hne,xx]
        ·rw[hk]at hc;simp only[J7]at hc;obtain⟨rfl,rfl,rfl⟩:=hc;exact .inl ⟨b',c',h5,by omega,rfl⟩
      ·have an:r.toNat=0:=by simp at h2;omega
       have a8:l.toNat=0:=by omega
       have a3:=j8 (P:=C.P) (w:=w) (sl:=true) (len:=0) (cap:=0) b2 ag h0 (by omega) (by simpa using h2) (ib _);have h3:=xi hz w;refine qY h (x:= .slice none 0 0) ?_ (fun s' es' fz' hc=>?_) hx.2
       ·rw[an,a8]at a3;simp[execOp,M0,qR hu,M1,a6,a3,h3]
       ·rw[hk]at hc;simp only[J7]at hc;obtain⟨rfl,rfl,rfl⟩:=hc;exact .inr (.inl ⟨by have:=a5.2.1;omega,a4,rfl,a8,by omega,rfl⟩)
     exact fun hc=>a7 hc trivial
    ·trivial
   ·trivial
  ·trivial
 ·trivial
theorem Ez {t:TypeId} {x:Operand} {lo hi mx:Option Operand} (h:Conc C B F0 w0 F loc st a w):RS C B F0 w0 st a w ⟨dst,.slice t x lo hi mx,ty,pos,after,g⟩ (xw C ⟨dst,.slice t x lo hi mx,ty,pos,after,g⟩ (ev st) st.objs):=by
 simp only[xw];split
 ·rename_i g' hg;have hv:ev st x= .gl g' 0:=by
   unfold Ia at hg;split at hg
   ·rename_i hv;simp only[k9]at hg;rw[hv,hg]
   ·simp at hg
  have hx:=(qZ h x).1;rw[hv]at hx;have hx:a.eval x= .pointer (some ⟨g',0,none⟩):=hx;unfold RG;split
  ·rename_i len e hu a5 a3 a6;have a5:lo=none:=by cases lo with|none=>rfl|some y=>simp[zy]at a5
   have a3:hi=none:=by cases hi with|none=>rfl|some y=>simp[zy]at a3
   have a6:mx=none:=by cases mx with|none=>rfl|some y=>simp[zy]at a6
   subst a5 a3 a6;split
   ·rename_i es hes;obtain⟨a7,a4,hp0⟩:=MJ h hes;obtain⟨inf,q1,q2⟩:=zF (P:=C.P) (t:=e) (by omega);refine qO h (x:= .slice (some ⟨g',0,none⟩) es.length es.length) (a7.CD (ib _)) trivial ?_;simp[execOp,M0,qR hu,M1,hx,a4,J8,typeInfo,q1,No,Lv,xx]
   ·trivial
  ·trivial
 ·split
  ·exact RR h
  ·exact aN h
end
end Eng
end
section
namespace Eng
open Go Go.RowKit
section
variable {C:Cx} {B:Bd} {F0:Nat→Prop} {w0:World} {F:Nat→Prop} {loc:Where} {st:St} {a:Act} {w:World}
variable {dst:Option Nat} {ty:TypeId} {pos:String} {after:Array Edge} {g:Option (Nat×Bool)}
theorem JQ {off:Nat}:∀(l:List Value) (k:Nat) (cells:Array Value),(l.zipIdx k).foldl (fun cs (x:Value×Nat)=>cs.setIfInBounds (off+x.2) x.1) cells=(qP cells.toList (off+k) l).toArray
 |[],_,cells=>by simp[qP]
 |v::l,k,cells=>by rw[List.zipIdx_cons,List.foldl_cons,JQ l (k+1)];simp only[qP,Array.toList_setIfInBounds,←xr];rw[show off+(k+1)=off+k+1 by omega]
theorem JR {v:Value} {off:Nat} {cells:Array Value}:v.cells.zipIdx.foldl (fun cs (x:Value×Nat)=>cs.setIfInBounds (off+x.2) x.1) cells=(qP cells.toList off v.cells.toList).toArray:=by
 have:=JQ (off:=off) v.cells.toList 0 cells;rw[j0]at this;rw[←this,←Array.foldl_toList,Array.toList_zipIdx]
theorem Jf:∀{ps:List (Nat×Operand)} {qs:List (Nat×List D)} {us:List (Nat×Obj)} (_:Conc C B F0 w0 F loc st a w) (_:z3 st.objs (ev st) ps=some (qs,us)),
 Frz st.objs us∧∀F':Nat→Prop,(∀b,F b→F' b)→(∀p∈us,∀b c,loc p.1=some (b,c)→F' b)→All2 (fun q (p:Nat×Value)=>q.1=p.1∧All2 (CD w F') q.2 p.2.cells.toList) qs (ps.map fun x=>(x.1,a.eval x.2))
 |[],qs,us,h,hp=>by simp only[z3,k9,lg]at hp;obtain⟨rfl,rfl⟩:=hp;exact⟨Frz.nil _,fun _ _ _=>trivial⟩
 |(i,x)::ps,qs,us,h,hp=>by
  simp only[z3]at hp;split at hp
  ·rename_i ds u qs' us' h1 h2;simp only[k9,lg]at hp;obtain⟨rfl,rfl⟩:=hp;obtain⟨q1,q2⟩:=OW h h1 (qZ h x).1;obtain⟨r1,r2⟩:=Jf h h2;exact⟨q1.append r1,fun F' hF hb=>⟨⟨rfl,q2 F' hF fun p hp=>hb p (by simp[hp])⟩,r2 F' hF fun p hp=>hb p (by simp[hp])⟩⟩
  ·simp at hp
theorem JS {F':Nat→Prop} {pl:List (Nat×Nat)} {place:Nat→Option (Nat×Nat)} (hpl:∀i p,pl[i]? =some p→place i=some p):
 ∀(qs:List (Nat×List D)) (ps:List (Nat×Value)) (cs cs':List D) (vs:Array Value),All2 (fun q (p:Nat×Value)=>q.1=p.1∧All2 (CD w F') q.2 p.2.cells.toList) qs ps→GN pl qs cs=some cs'→All2 (CD w F') cs vs.toList→
  ∃vs':Array Value,M2 place vs ps=some vs'∧All2 (CD w F') cs' vs'.toList
 |[],[],cs,cs',vs,_,hb,hv=>by simp only[GN,k9]at hb;subst hb;exact⟨vs,rfl,hv⟩
 |(i,ds)::qs,(i',x)::ps,cs,cs',vs,hq,hb,hv=>by
  obtain⟨⟨rfl,h1⟩,h2⟩:=hq;simp only[GN]at hb;split at hb
  ·rename_i off size hf;split at hb
   ·rename_i hc;simp only[Hx,decide_eq_true_eq]at hc;have hlen:=h1.length;have hvl:cs.length=vs.size:=by simpa using hv.length
    simp at hlen;obtain⟨vs',q1,q2⟩:=JS hpl qs ps _ cs' (qP vs.toList off x.cells.toList).toArray h2 hb (by
     rw[Ya];exact All2.upds _ _ _ _ _ h1 hv)
    refine⟨vs',?_,q2⟩;simp only[M2,hpl _ _ hf];rw[if_neg (by simp;omega)];have:=JR (v:=x) (off:=off) (cells:=vs);rw[this];exact q1
   ·simp at hb
  ·simp at hb
 |[],_::_,_,_,_,hq,_,_=>hq.elim
 |_::_,[],_,_,_,hq,_,_=>hq.elim
theorem JT {F':Nat→Prop}:∀{z:List Value},(∀x∈z,x.oneCell'=true)→All2 (CD w F') (z.map xR) z
 |[],_=>trivial
 |x::z,h=>⟨QN _ _ x (h x (by simp)),JT fun y hy=>h y (by simp[hy])⟩
theorem RT (w:World) (F:Nat→Prop) (v:Value) (h:v.oneCell'=true):CVC loc st.objs w F (J6 v) v:=by
 unfold J6;split
 ·rfl
 ·exact QN w F v h
theorem JU:∀{z:List Value},(∀x∈z,x.oneCell'=true)→All2 (CVC loc st.objs w F) (z.map J6) z
 |[],_=>trivial
 |x::z,h=>⟨RT _ _ x (h x (by simp)),JU fun y hy=>h y (by simp[hy])⟩
theorem Yf:∀(vs:List D) (cs:List VC) (off:Nat),DZ cs off vs=qP cs off (vs.map VC.d)
 |[],cs,off=>rfl
 |v::vs,cs,off=>by simp[qP,DZ,Yf vs]
theorem Ih {loc':Where} {objs':List Obj} {F':Nat→Prop}:∀{ds:List D} {xs:List Value},All2 (CD w F') ds xs→All2 (CVC loc' objs' w F') (ds.map VC.d) xs
 |[],[],_=>trivial
 |_::_,_::_,h=>⟨h.1,Ih h.2⟩
 |[],_::_,h=>h.elim
 |_::_,[],h=>h.elim
theorem JV {pl:List (Nat×Nat)}:∀(qs:List (Nat×List D)) (cs cs':List VC),Z9 pl qs cs=some cs'→kn cs=[]→kn cs'=[]
 |[],cs,cs',h,hk=>by simp only[Z9,k9]at h;subst h;exact hk
 |(i,ds)::qs,cs,cs',h,hk=>by
  simp only[Z9]at h;split at h
  ·split at h
   ·refine JV qs _ cs' h ?_;rw[Yf];rw[List.eq_nil_iff_forall_not_mem]at hk ⊢;intro k hk';have:=xL.1 hk';have hm:∀(l:List VC) (cs:List VC) (off:Nat) (v:VC),v∈qP cs off l→v∈cs∨v∈l:=by
     intro l
     induction l with
     |nil=>intro cs off v hv;exact .inl hv
     |cons d l ih=>
      intro cs off v hv;rcases ih _ _ _ hv with hv|hv
      ·rcases xU hv with hv|rfl
       ·exact .inl hv
       ·exact .inr (by simp)
      ·exact .inr (by simp[hv])
    rcases hm _ _ _ _ this with h1|h1
    ·exact hk k (xL.2 h1)
    ·obtain⟨_,_,e⟩:=hA.1 h1;cases e
   ·simp at h
  ·simp at h
theorem vu:∀(z:List Value),kn (z.map J6)=[]
 |[]=>rfl
 |v::z=>by
  simp only[hQ];unfold J6;split
  ·exact vu z
  ·exact vu z
theorem JW {loc':Where} {objs':List Obj} {F':Nat→Prop} {pl:List (Nat×Nat)} {place:Nat→Option (Nat×Nat)} (hpl:∀i p,pl[i]? =some p→place i=some p):
 ∀(qs:List (Nat×List D)) (ps:List (Nat×Value)) (cs cs':List VC) (vs:Array Value),All2 (fun q (p:Nat×Value)=>q.1=p.1∧All2 (CD w F') q.2 p.2.cells.toList) qs ps→Z9 pl qs cs=some cs'→All2 (CVC loc' objs' w F') cs vs.toList→
  ∃vs':Array Value,M2 place vs ps=some vs'∧All2 (CVC loc' objs' w F') cs' vs'.toList
 |[],[],cs,cs',vs,_,hb,hv=>by simp only[Z9,k9]at hb;subst hb;exact⟨vs,rfl,hv⟩
 |(i,ds)::qs,(i',x)::ps,cs,cs',vs,hq,hb,hv=>by
  obtain⟨⟨rfl,h1⟩,h2⟩:=hq;simp only[Z9]at hb;split at hb
  ·rename_i off size hf;split at hb
   ·rename_i hc;simp only[Hx,decide_eq_true_eq]at hc;have hlen:=h1.length;have hvl:cs.length=vs.size:=by simpa using hv.length
    simp at hlen;obtain⟨vs',q1,q2⟩:=JW hpl qs ps _ cs' (qP vs.toList off x.cells.toList).toArray h2 hb (by
     rw[Yf];exact All2.upds _ _ _ _ _ (Ih h1) hv)
    refine⟨vs',?_,q2⟩;simp only[M2,hpl _ _ hf];rw[if_neg (by simp;omega)];have:=JR (v:=x) (off:=off) (cells:=vs);rw[this];exact q1
   ·simp at hb
  ·simp at hb
 |[],_::_,_,_,_,hq,_,_=>hq.elim
 |_::_,[],_,_,_,hq,_,_=>hq.elim
theorem E0 {t:TypeId} {parts:Array (Nat×Operand)} (h:Conc C B F0 w0 F loc st a w):RS C B F0 w0 st a w ⟨dst,.build t parts,ty,pos,after,g⟩ (xw C ⟨dst,.build t parts,ty,pos,after,g⟩ (ev st) st.objs):=by
 simp only[xw];split
 ·rename_i z pl hz a4;split
  ·rename_i qs us hp;split
   ·split
    ·rename_i cs hb;obtain⟨inf,zv,hi,ag,b3,hsz,a8,_⟩:=xT hz;obtain⟨b1,a6⟩:=Jf h hp;obtain⟨F',ap,al,an⟩:=h.freezes b1 st.dirty;have hq:=a6 F' al an;have ad:All2 (CD w F') (z.map xR) zv.cells.toList:=by rw[b3];exact JT a8
     have a5:∃a3:Array Value,C.P.built t ((parts.map fun(i,x)=>(i,a.eval x)).toList)=some a3∧All2 (CD w F') cs a3.toList:=by
      have a7:(parts.map fun(i,x)=>(i,a.eval x)).toList=parts.toList.map fun x=>(x.1,a.eval x.2):=by simp
      rw[a7];unfold VY at a4;split at a4
      ·rename_i fs hu;obtain⟨a3,q1,q2⟩:=JS (w:=w) (F':=F') (pl:=pl) (place:=(pl.toArray[·]?)) (fun i p hp=>by simpa using hp) qs _ _ cs zv.cells hq hb ad;exact⟨a3,by simp only[W0,hi,hu,ag,a4];exact q1,q2⟩
      ·rename_i n e hu;split at a4
       ·rename_i ie b2;simp only[k9]at a4;subst a4;obtain⟨a3,q1,q2⟩:=JS (w:=w) (F':=F') (place:=fun k=>some (k*ie.size,ie.size)) (fun i p hp=>by
         simp only[g3,k7]at hp;obtain⟨k,hk,rfl⟩:=hp;have:k=i:=by
          have:=g7 (n:=n) (i:=i);rcases hX i n with h1|h1
          ·simp[h1]at hk;exact hk.symm
          ·simp[h1]at hk
         subst this;rfl) qs _ _ cs zv.cells hq hb ad
        exact⟨a3,by simp only[W0,hi,hu,ag,b2];exact q1,q2⟩
       ·simp at a4
      ·simp at a4
     obtain⟨a3,q1,q2⟩:=a5;refine⟨_,_,w,?_,.inl rfl,F',loc,(ap.pure (dst:=dst) (v:= .ag cs) (x:= .agg a3) ⟨a3,rfl,q2⟩ trivial).redirty⟩;have hr:=run_build (P:=C.P) w t (parts.map fun(i,x)=>(i,a.eval x)) a3 q1;simp only[execOp,W2,hr,W1];rfl
    ·trivial
   ·split
    ·rename_i cs hb;obtain⟨inf,zv,hi,ag,b3,hsz,a8,_⟩:=xT hz;obtain⟨b1,a6⟩:=Jf h hp;obtain⟨F',ap,al,an⟩:=h.freezes b1 st.dirty;have hq:=a6 F' al an;have ad:All2 (CVC loc (upds st.objs us) w F') (z.map J6) zv.cells.toList:=by rw[b3];exact JU (st:=⟨st.tmps,upds st.objs us,st.dirty⟩) a8
     have a5:∃a3:Array Value,C.P.built t ((parts.map fun(i,x)=>(i,a.eval x)).toList)=some a3∧All2 (CVC loc (upds st.objs us) w F') cs a3.toList:=by
      have a7:(parts.map fun(i,x)=>(i,a.eval x)).toList=parts.toList.map fun x=>(x.1,a.eval x.2):=by simp
      rw[a7];unfold VY at a4;split at a4
      ·rename_i fs hu;obtain⟨a3,q1,q2⟩:=JW (loc':=loc) (objs':=upds st.objs us) (w:=w) (F':=F') (pl:=pl) (place:=(pl.toArray[·]?)) (fun i p hp=>by simpa using hp) qs _ _ cs zv.cells hq hb ad;exact⟨a3,by simp only[W0,hi,hu,ag,a4];exact q1,q2⟩
      ·rename_i n e hu;split at a4
       ·rename_i ie b2;simp only[k9]at a4;subst a4;obtain⟨a3,q1,q2⟩:=JW (loc':=loc) (objs':=upds st.objs us) (w:=w) (F':=F') (place:=fun k=>some (k*ie.size,ie.size)) (fun i p hp=>by
         simp only[g3,k7]at hp;obtain⟨k,hk,rfl⟩:=hp;have:k=i:=by
          have:=g7 (n:=n) (i:=i);rcases hX i n with h1|h1
          ·simp[h1]at hk;exact hk.symm
          ·simp[h1]at hk
         subst this;rfl) qs _ _ cs zv.cells hq hb ad
        exact⟨a3,by simp only[W0,hi,hu,ag,b2];exact q1,q2⟩
       ·simp at a4
      ·simp at a4
     obtain⟨a3,q1,q2⟩:=a5;refine⟨_,_,w,?_,.inl rfl,F',loc,(ap.pure (dst:=dst) (v:= .agv cs) (x:= .agg a3) ⟨a3,rfl,q2⟩ (fun k hk=>by rw[JV _ _ _ hb (vu z)]at hk;simp at hk)).redirty⟩;have hr:=run_build (P:=C.P) w t (parts.map fun(i,x)=>(i,a.eval x)) a3 q1;simp only[execOp,W2,hr,W1];rfl
    ·trivial
  ·trivial
 ·trivial
end
end Eng
end
section
namespace Eng
open Go Go.RowKit
section
variable {C:Cx} {B:Bd} {F0:Nat→Prop} {w0:World} {F:Nat→Prop} {loc:Where} {st:St} {a:Act} {w:World}
variable {dst:Option Nat} {ty:TypeId} {pos:String} {after:Array Edge} {g:Option (Nat×Bool)}
theorem kt {α β:Type} {R:α→β→Prop} (d:α) (e:β):∀{as:List α} {bs:List β},as.length=bs.length→(∀i,i<as.length→R (nth d as i) (nth e bs i))→All2 R as bs
 |[],[],_,_=>trivial
 |a::as,b::bs,hl,h=>⟨h 0 (by simp),kt d e (by simpa using hl) fun i hi=>h (i+1) (by simpa using hi)⟩
 |[],_::_,hl,_=>by simp at hl
 |_::_,[],hl,_=>by simp at hl
theorem WV {α:Type}:∀(ds l p:List α),l.length=ds.length→qP (p++l) p.length ds=p++ds
 |[],l,p,h=>by have:l=[]:=fl h;subst this;simp[qP]
 |d::ds,[],p,h=>by simp at h
 |d::ds,x::l,p,h=>by
  simp only[qP];have h1:upd (p++x::l) p.length d=(p++[d])++l:=by rw[xr,g5 _ _ (ib _)];simp
  rw[h1];have:=WV ds l (p++[d]) (by simpa using h);rw[cL]at this;simp only[ey,fw,hY]at this;rw[this];simp
theorem qp {size:Nat}:∀{es:List (List D)},(∀e∈es,e.length=size)→es.flatten.length=es.length*size
 |[],_=>by simp
 |e::es,h=>by rw[fR,cL,h e (by simp),qp fun e he=>h e (by simp[he]),ey,iy];omega
theorem WW {F':Nat→Prop} {size:Nat}:
 ∀(qs:List (Nat×List D)) (ps:List (Nat×Value)) (es es':List (List D)) (vs:Array Value),All2 (fun q (p:Nat×Value)=>q.1=p.1∧All2 (CD w F') q.2 p.2.cells.toList) qs ps→JB size qs es=some es'→
  (∀e∈es,e.length=size)→All2 (CD w F') es.flatten vs.toList→
  ∃vs':Array Value,M2 (fun i=>some (i*size,size)) vs ps=some vs'∧All2 (CD w F') es'.flatten vs'.toList∧(∀e∈es',e.length=size)∧es'.length=es.length
 |[],[],es,es',vs,_,hb,hs,hv=>by simp only[JB,k9]at hb;subst hb;exact⟨vs,rfl,hv,hs,rfl⟩
 |(i,ds)::qs,(i',x)::ps,es,es',vs,hq,hb,hs,hv=>by
  obtain⟨⟨rfl,h1⟩,h2⟩:=hq;simp only[JB]at hb;split at hb
  ·rename_i hc;simp only[Hx,decide_eq_true_eq]at hc;obtain⟨hc1,hc2⟩:=hc;have hlen:=h1.length;simp at hlen;have hvl:=hv.length;rw[qp hs]at hvl;simp at hvl;have hfl:=Qy es hs i 0 ds hc2 (by omega);have hfull:qP (nth [] es i) 0 ds=ds:=by
    have:=WV ds (nth [] es i) [] (by rw[qo _ hc2,hs _ (hD hc2),hc1])
    simpa using this
   rw[hfull,j0]at hfl;obtain⟨vs',q1,q2,q3,q4⟩:=WW (F':=F') (size:=size) qs ps (upd es i ds) es' (qP vs.toList (i*size) x.cells.toList).toArray h2 hb (by
    intro e he;rcases xU he with he|rfl
    ·exact hs e he
    ·exact hc1) (by rw[hfl];exact All2.upds _ _ _ _ _ h1 hv)
   refine⟨vs',?_,q2,q3,by rw[q4,qk]⟩;have hle:=GU (s:=size) (m:=size-1) hc2;simp only[M2];rw[if_neg (by
    have h5:(i+1)*size≤es.length*size:=hW _ hc2;rw[iy]at h5;simp;omega)]
   have:=JR (v:=x) (off:=i*size) (cells:=vs);rw[this];exact q1
  ·simp at hb
 |[],_::_,_,_,_,hq,_,_,_=>hq.elim
 |_::_,[],_,_,_,hq,_,_,_=>hq.elim
theorem TB {F':Nat→Prop} {z:Array Value} {n:Nat} (h0:0<z.size) (hone:∀x∈z.toList,x.oneCell'=true):
 All2 (CD w F') (er n (z.toList.map xR)).flatten ((F2 (n*z.size)).map (z[· %z.size]!)).toList:=by
 have hs:∀e∈er n (z.toList.map xR),e.length=z.size:=fun e he=>by rw[fg he];simp
 refine kt .undef undef ?_ fun j hj=>?_
 ·rw[qp hs];simp
 ·rw[qp hs,gz]at hj;have hm:=k2 j h0;have hq:j/z.size<n:=j2 (by rw[ik];exact hj);have hjq:j=j/z.size*z.size+j%z.size:=by rw[ik];exact(j4 j z.size).symm
  have h1:nth .undef (er n (z.toList.map xR)).flatten j=xR z[j%z.size]:=by
   conv=>lhs;rw[hjq]
   have hE:nth [] (er n (z.toList.map xR)) (j/z.size)=z.toList.map xR:=by rw[qo _ (by simpa using hq)];simp
   rw[zd hs _ _ (by simpa using hq) hm,hE,qo _ (by simpa using hm)];simp
  have h2:nth undef ((F2 (n*z.size)).map (z[· %z.size]!)).toList j=z[j%z.size]:=by rw[qo _ (by simpa using hj)];simp[hm]
  rw[h1,h2];exact QN _ _ _ (hone _ (by simp))
theorem Yg {d s:Nat} {es:List (List D)} {cs:Array Value} {e:TypeId} {cap:Nat} (h:Conc C B F0 w0 F loc st a w) (hd:qA st.objs d=true) (hroom:roomS s es.length) (hs0:0<s) (hs:∀x∈es,x.length=s)
 (hcap:es.length≤cap∧cap≤9223372036854775807) (hsz:cs.size=cap*s) (hcs:∀j,j<es.length*s→∃v,cs[j]? =some v∧CD w F (nth .undef es.flatten j) v) (hty:C.P.cellsOf e=s):
 Conc C B F0 w0 F (at_ loc d (w.heap.size,cap) e) (st.put dst (.arr d) [(d,.arr s es false)]) (a.put dst (.slice (some ⟨w.heap.size,0,none⟩) es.length cap)) (w.alloc (.cells cs e)):=by
 obtain⟨_,a3⟩:=qN hd;refine h.new hd ⟨hroom,hs0,hs,.inr ⟨w.heap.size,cap,cs,e,by simp[at_],?_,by show(w.heap.push _)[w.heap.size]? =_;simp,hsz,hcap,fun j hj=>?_,(by show loc.P.cellsOf e=s;rw[h.prog];exact hty),by simp[at_]⟩⟩ ?_ ?_
 ·show ¬F w.heap.size;intro hF;have:=h.bound _ hF;omega
 ·obtain⟨v,h1,h2⟩:=hcs j hj;exact⟨v,h1,h2.mono (fun _ h=>h) fun b hb=>Below.heap_alloc _ _ _ (h.bound b hb)⟩
 ·intro s' es' fz' hc;rw[qg _ _ _ a3]at hc;simp only[J7]at hc;obtain⟨rfl,rfl,rfl⟩:=hc;exact .inl ⟨w.heap.size,cap,by simp[at_],rfl⟩
 ·show nth .none (upd st.objs d (.arr s es false)) d≠ .none;rw[qg _ _ _ a3];simp
theorem Yh {d:Nat} {cells:List V} {cs:Array Value} {e:TypeId} {cap:Nat} (h:Conc C B F0 w0 F loc st a w) (hd:qA st.objs d=true) (hroom:room cells.length)
 (hcap:cells.length≤cap∧cap≤9223372036854775807) (hsz:cs.size=cap) (hcs:∀j,j<cells.length→∃x,cs[j]? =some x∧CV loc st.objs w F (nth .any cells j) x∧x.oneCell'=true) (hrefs:∀v∈cells,Ref st.objs v) (hty:C.P.cellsOf e=1):
 Conc C B F0 w0 F (at_ loc d (w.heap.size,cap) e) (st.put dst (.vec d cells.length) [(d,.vec cells)]) (a.put dst (.slice (some ⟨w.heap.size,0,none⟩) cells.length cap)) (w.alloc (.cells cs e)):=by
 obtain⟨_,hlt⟩:=qN hd;have a3:Le st.objs (upd st.objs d (.vec cells)) loc (at_ loc d (w.heap.size,cap) e):=a9 hd;refine h.new hd ⟨w.heap.size,cap,cs,e,by simp[at_],?_,by show(w.heap.push _)[w.heap.size]? =_;simp,hsz,hcap,fun j hj=>?_,fun v hv=>(hrefs v hv).le a3,(by show loc.P.cellsOf e=1;rw[h.prog];exact hty),hroom⟩ ?_ ?_
 ·intro hF;have:=h.bound _ hF;omega
 ·obtain⟨v,h1,h2,h3⟩:=hcs j hj;exact⟨v,h1,CV.le (fun _ h=>h) (fun b hb=>Below.heap_alloc _ _ _ (h.bound b hb)) a3 (hrefs _ (wv hj)) h2,h3⟩
 ·intro o ho hb;exact⟨w.heap.size,cap,by simp[at_],rfl⟩
 ·show nth .none (upd st.objs d (.vec cells)) d≠ .none;rw[qg _ _ _ hlt];simp
theorem wi {P:Program} {t e:TypeId} (h:GH P t=some e):P.underlying t=some (.slice e):=by
 unfold GH at h;split at h
 ·rename_i e' hu;simp only[k9]at h;subst h;exact hu
 ·simp at h
theorem zW {d:Nat}:∀{us:List (Nat×Obj)} {objs:List Obj},Frz objs us→qA objs d=true→qA (upds objs us) d=true
 |[],_,_,h=>h
 |(k,o)::us,objs,hf,h=>by
  obtain⟨s,es,fz,h1,h2⟩:=hf (k,o) (by simp);simp only at h1 h2;subst h2;refine zW (us:=us) (objs:=upd objs k (.arr s es true)) (Frz.step h1 fun p hp=>hf p (by simp[hp])) ?_;obtain⟨q1,q2⟩:=qN h;have hkd:k≠d:=by rintro rfl;rw[h1]at q1;simp at q1
  unfold qA;rw[qe _ _ _ hkd,qo _ q2];rw[qo _ q2]at q1;rw[q1]
theorem xQ:∀(us us':List (Nat×Obj)) (objs:List Obj),upds objs (us++us')=upds (upds objs us) us'
 |[],_,_=>rfl
 |(k,o)::us,us',objs=>xQ us us' (upd objs k o)
theorem Yi {ρ:Operand→V} {ps:List (Nat×Operand)} {v:V} (h:VZ ρ ps=v) (hv:v≠ .any):∃x,ps=[(0,x)]∧ρ x=v:=by
 unfold VZ at h;split at h
 ·exact⟨_,rfl,h⟩
 ·exact absurd h.symm hv
theorem Yj {t:TypeId} {len:Nat} {parts:Array (Nat×Operand)} (h:Conc C B F0 w0 F loc st a w):RS C B F0 w0 st a w ⟨dst,.buildSlice t len parts,ty,pos,after,g⟩ (xw C ⟨dst,.buildSlice t len parts,ty,pos,after,g⟩ (ev st) st.objs):=by
 simp only[xw];split
 ·rename_i d;split
  ·rename_i e hd he;split
   ·unfold JE;split
    ·rename_i j hpv;split
     ·rename_i s' es' fz' hj;split
      ·rename_i b6 hz;obtain rfl:=ia b6;obtain⟨x,al,hvx⟩:=Yi hpv (by simp);have hx:=qZ h x;rw[hvx]at hx;have a8:(a.eval x).oneCell'=true:=by
        rcases hx.1 s' es' fz' hj with⟨b1,c1,_,h2⟩|⟨_,_,h2⟩
        ·rw[h2];rfl
        ·rw[h2];rfl
       have h1:=QR a8;have h1s:(a.eval x).cells= #[a.eval x]:=by apply Aw;simpa using h1
       obtain⟨inf,zv,hi,bb,b3,hsz,b2,_⟩:=xT hz;have ba:zv.cells.size=1:=by
        have:zv.cells.toList.length=1:=by rw[b3];rfl
        simpa using this
       have a6:=xi hz w;have a5:(parts.map fun(i,x)=>(i,a.eval x)).toList=[(0,a.eval x)]:=by simp[al]
       have an:(execOp a.eval ⟨some d,.buildSlice t 1 parts,ty,pos,after,g⟩).run C.P w= .ok (.value (.slice (some ⟨w.heap.size,0,none⟩) 1 1)) (w.alloc (.cells #[a.eval x] e)):=by
        have b9:(zeroValue e).run C.P w= .ok zv w:=by simp[zeroValue,typeInfo,hi,bb]
        have a3:M2 (fun i=>some (i*1,1)) ((F2 (1*1)).map (zv.cells[· %zv.cells.size]!)) [(0,a.eval x)]=some #[a.eval x]:=by
         have e1:((F2 (1*1)).map (zv.cells[· %zv.cells.size]!)).size=1:=by simp
         have e2:∀(A:Array Value) (v:Value),A.size=1→A.setIfInBounds 0 v= #[v]:=fun A v h=>by
          apply Array.ext
          ·simpa using h
          ·intro k hk1 hk2;have:k=0:=by simpa using hk2
           subst this;simp
         simp only[M2,h1s];rw[if_neg (by simp)];have e3:∀A:Array Value,Array.foldl (fun(cs:Array Value) (x:Value×Nat)=>cs.setIfInBounds (0*1+x.2) x.1) A (#[a.eval x]:Array Value).zipIdx=A.setIfInBounds 0 (a.eval x):=fun A=>by simp[Array.zipIdx]
         have:=(e3 _).trans (e2 _ (a.eval x) e1);exact congrArg some this
        simp only[execOp,Pl,W2,qR (wi he),W1,a6,ey,fw,a5];simp only[W2,b9,W1,cH,a3,hY,k0,if_neg (show ¬(1>2^24)by decide),if_neg (show ¬(1=0)by decide)];simp[newRow]
       have a4:=Yh (dst:=some d) (d:=d) (cells:=[.arr j]) (cs:= #[a.eval x]) (e:=e) (cap:=1) h hd (by unfold room;simp) ⟨ib _,by omega⟩ rfl (fun k hk=>by
        have:k=0:=by simpa using hk
        subst this;exact⟨_,rfl,hx.1,a8⟩) (fun v hv=>by rw[g0.1 hv];exact hx.2) (jy hz)
       exact⟨_,_,_,an,.inl rfl,F,_,a4⟩
      ·trivial
     ·trivial
    ·trivial
   split
   ·rename_i z qs us hz hp;split
    ·rename_i es hb;split
     ·rename_i hc;simp only[Hx,decide_eq_true_eq]at hc;obtain⟨hc1,b5⟩:=hc;obtain⟨inf,zv,hi,bb,b3,hsz,b2,_⟩:=xT hz;obtain⟨bc,b4⟩:=Jf h hp;obtain⟨F',hc',hF',hb'⟩:=h.freezes bc st.dirty;have hq:=b4 F' hF' hb';have ba:zv.cells.size=z.length:=by rw[←b3];simp
      have a7:=TB (w:=w) (F':=F') (z:=zv.cells) (n:=len) (by omega) (by rw[b3];exact b2);rw[b3,ba]at a7;obtain⟨ap,q1,q2,q3,q4⟩:=WW (F':=F') (size:=z.length) qs _ (er len (z.map xR)) es _ hq hb (fun e he=>by rw[fg he];simp) a7;rw[gz]at q4;have a5:(parts.map fun(i,x)=>(i,a.eval x)).toList=parts.toList.map fun x=>(x.1,a.eval x.2):=by simp
      have ag:¬(len*z.length>2^24):=by omega
      have a6:=xi hz w;have a3:M2 (fun i=>some (i*z.length,z.length)) ((F2 (len*z.length)).map (zv.cells[· %zv.cells.size]!)) ((parts.map fun(i,x)=>(i,a.eval x)).toList)=some ap:=by rw[a5,ba];exact q1
      have an:(execOp a.eval ⟨some d,.buildSlice t len parts,ty,pos,after,g⟩).run C.P w= .ok (.value (.slice (some ⟨w.heap.size,0,none⟩) es.length es.length)) (w.alloc (.cells ap e)):=by
       rw[q4];by_cases h0:len*z.length=0
       ·have hr0:((F2 (len*z.length)).map (zv.cells[· %zv.cells.size]!))= #[]:=by rw[h0];simp
        rw[hr0]at a3;have hl0:len=0:=by
         rcases Nat.mul_eq_zero.1 h0 with h1|h1
         ·exact h1
         ·omega
        subst hl0;have ad:M2 (fun i=>some (i*z.length,z.length)) #[] (parts.toList.map fun x=>(x.1,a.eval x.2))=some ap:=by rw[a5]at a3;exact a3
        simp[execOp,Pl,qR (wi he),a6,Array.range_zero',ad,newRow]
       ·simp only[execOp,Pl,W2,qR (wi he),W1,a6,if_neg ag,if_neg h0];have b9:(zeroValue e).run C.P w= .ok zv w:=by simp[zeroValue,typeInfo,hi,bb]
        simp only[W2,b9,W1,cH,a3];simp[newRow]
      have b8:=q2.length;rw[qp q3]at b8;simp at b8;have a4:=Yg (dst:=some d) (st:=⟨st.tmps,upds st.objs us,st.dirty⟩) (d:=d) (s:=z.length) (es:=es) (cs:=ap) (e:=e) (cap:=es.length) hc' (zW (objs:=st.objs) bc hd) (by refine .inl ?_;rw[q4];have:len*1≤len*z.length:=k1 _ b5;omega) b5 q3 ⟨ib _,by rw[q4];have:len*1≤len*z.length:=k1 _ b5;omega⟩ b8.symm (fun j hj=>by
       refine⟨nth undef ap.toList j,?_,q2.nth .undef undef _ _ j (by rw[qp q3];exact hj)⟩;rw[qo _ (by simp;omega)];simp[show j<ap.size by omega])
      refine⟨_,_,_,an,.inl rfl,F',at_ loc d (w.heap.size,es.length) e,?_⟩;have b7:(⟨st.tmps,upds st.objs us,st.dirty⟩:St).put (some d) (.arr d) [(d,.arr z.length es false)]=⟨(st.put (some d) (.arr d) (us++[(d,.arr z.length es false)])).tmps,(st.put (some d) (.arr d) (us++[(d,.arr z.length es false)])).objs,d::st.dirty⟩:=by simp only[St.put,xQ];rfl
      rw[b7]at a4;exact(a4 (jy hz)).redirty
     ·trivial
    ·trivial
   ·trivial
  ·trivial
 ·trivial
theorem GY {t:TypeId} {x y:Operand} (h:Conc C B F0 w0 F loc st a w):RS C B F0 w0 st a w ⟨dst,.makeSlice t x y,ty,pos,after,g⟩ (xw C ⟨dst,.makeSlice t x y,ty,pos,after,g⟩ (ev st) st.objs):=by
 simp only[xw];have hx:=(qZ h x).1;have hy:=(qZ h y).1;split
 ·rename_i d;split
  ·rename_i e hd he;split
   ·rename_i z l c hz hvx hvy;rw[hvx]at hx;rw[hvy]at hy;split
    ·rename_i hc;simp only[Hx,decide_eq_true_eq]at hc;obtain⟨hc1,b2⟩:=hc;split
     case h_2=>
      split
      ·rintro⟨h0,h1,h2⟩;subst h1;obtain⟨a3,zv,hi,b1,ad,ag,a8,_⟩:=xT hz;unfold room at h2;have hby:C.P.bytesOf e=a3.bytes:=by simp[V1,hi]
       have an:(a3.bytes:Int)*l≤4096*1073741824:=by
        have h3:(a3.bytes:Int)≤4096:=by omega
        have h4:l≤1073741824:=by omega
        exact Int.mul_le_mul h3 h4 (by omega) (by omega)
       have hr:=run_make (P:=C.P) w t e a3 zv (wi he) hi b1 .i64 .i64 l l h0 (Int.le_refl _) (by omega) (by omega);have a7:(execOp a.eval ⟨some d,.makeSlice t x y,ty,pos,after,g⟩).run C.P w= .ok (.value (.slice (some ⟨w.heap.size,0,none⟩) l.toNat l.toNat)) (w.alloc (.cells (madeCells zv.cells (l.toNat*a3.size)) e)):=by simp[execOp,vo hx,vo hy,hr]
       have b3:a3.size=1:=ag;have hz2:zv.cells= #[.slice none 0 0]:=by apply Aw;exact ad
       have a5:(er l.toNat V.nilS).length=l.toNat:=by simp
       have a4:=Yh (dst:=some d) (d:=d) (cells:=er l.toNat .nilS) (cs:=madeCells zv.cells (l.toNat*a3.size)) (e:=e) (cap:=l.toNat) h hd (by unfold room;rw[a5];omega) (by rw[a5];omega)
        (by rw[size_madeCells,b3,j3]) (fun j hj=>by
         rw[a5]at hj;refine⟨.slice none 0 0,?_,?_,rfl⟩
         ·unfold madeCells;rw[b3,hz2,j3,Array.getElem?_map,Array.getElem?_range,if_pos hj];simp[Nat.mod_one]
         ·rw[qo _ (by simpa using hj)];simp;rfl) (fun v hv=>by rw[fg hv];trivial) (jy hz)
       rw[a5]at a4;exact⟨_,_,_,a7,.inl rfl,F,_,a4⟩
      ·trivial
     rintro⟨h0,h1,h2⟩;obtain⟨a3,zv,hi,b1,ad,ag,a8,_⟩:=xT hz;unfold room at h2;have hby:C.P.bytesOf e=a3.bytes:=by simp[V1,hi]
     have an:(a3.bytes:Int)*c≤4096*1073741824:=by
      have h3:(a3.bytes:Int)≤4096:=by omega
      have h4:c≤1073741824:=by omega
      exact Int.mul_le_mul h3 h4 (by omega) (by omega)
     have hr:=run_make (P:=C.P) w t e a3 zv (wi he) hi b1 .i64 .i64 l c h0 h1 (by omega) (by omega);have a7:(execOp a.eval ⟨some d,.makeSlice t x y,ty,pos,after,g⟩).run C.P w= .ok (.value (.slice (some ⟨w.heap.size,0,none⟩) l.toNat c.toNat)) (w.alloc (.cells (madeCells zv.cells (c.toNat*a3.size)) e)):=by simp[execOp,vo hx,vo hy,hr]
     have hzs:zv.cells.size=z.length:=by rw[←ad];simp
     have a6:=TB (w:=w) (F':=F) (z:=zv.cells) (n:=c.toNat) (by omega) (by rw[ad];exact a8);rw[ad]at a6;have a5:(er l.toNat (z.map xR)).length=l.toNat:=by simp
     have ap:∀n,∀e∈er n (z.map xR),e.length=z.length:=fun n e he=>by rw[fg he];simp
     have a4:=Yg (dst:=some d) (d:=d) (s:=z.length) (es:=er l.toNat (z.map xR)) (cs:=madeCells zv.cells (c.toNat*a3.size)) (e:=e) (cap:=c.toNat) h hd (by refine .inl ?_;rw[a5];omega) b2 (ap _) (by rw[a5];omega)
      (by rw[size_madeCells,ag]) (fun j hj=>by
       rw[a5]at hj;have al:j<c.toNat*z.length:=k3 hj (hW _ (by omega));have h5:=a6.nth .undef undef _ _ j (by rw[qp (ap _),gz];exact al);refine⟨nth undef ((F2 (c.toNat*zv.cells.size)).map (zv.cells[· %zv.cells.size]!)).toList j,?_,?_⟩
       ·unfold madeCells;rw[ag,hzs,qo _ (by simpa using al)];simp[al]
       ·have hm:=k2 j b2;have hjq:j=j/z.length*z.length+j%z.length:=by rw[ik];exact(j4 j z.length).symm
        have hq1:j/z.length<l.toNat:=j2 (by rw[ik];exact hj);have hq2:j/z.length<c.toNat:=by omega
        have hE:∀n,j/z.length<n→nth .undef (er n (z.map xR)).flatten j=nth .undef (z.map xR) (j%z.length):=fun n hn=>by
         have hE1:nth [] (er n (z.map xR)) (j/z.length)=z.map xR:=by rw[qo _ (by simpa using hn)];simp
         conv=>lhs;rw[hjq]
         rw[zd (ap _) _ _ (by simpa using hn) hm,hE1]
        have:nth .undef (er l.toNat (z.map xR)).flatten j=nth .undef (er c.toNat (z.map xR)).flatten j:=by rw[hE _ hq1,hE _ hq2]
        rw[this];exact h5)
     rw[a5]at a4;exact⟨_,_,_,a7,.inl rfl,F,_,a4 (jy hz)⟩
    ·trivial
   ·trivial
  ·trivial
 ·trivial
end
end Eng
end
section
namespace Eng
open Go Go.RowKit
section
variable {C:Cx} {B:Bd} {F0:Nat→Prop} {w0:World} {F:Nat→Prop} {loc:Where} {st:St} {a:Act} {w:World}
variable {dst:Option Nat} {ty:TypeId} {pos:String} {after:Array Edge} {g:Option (Nat×Bool)}
theorem MK {d s:Nat} (h:Conc C B F0 w0 F loc st a w) (hd:qA st.objs d=true) (hs0:0<s):
 Conc C B F0 w0 F loc (st.put dst (.arr d) [(d,.arr s [] false)]) (a.put dst (.slice none 0 0)) w:=by
 obtain⟨a3,a5⟩:=qN hd;have a4:loc d=none:=by have:=h.objs d;rw[a3]at this;exact this
 have a6:Le st.objs (upd st.objs d (.arr s [] false)) loc loc:=by
  refine⟨rfl,fun _ _=>rfl,fun k hk=>?_,fun k o' hk hc hbx=>?_,fun k s' es' fz' hk hc=>?_⟩
  ·by_cases hkd:d=k
   ·subst hkd;exact absurd a3 hk
   ·rw[qe _ _ _ hkd];exact hk
  ·by_cases hkd:d=k
   ·subst hkd;exact absurd a3 hk
   ·rw[qe _ _ _ hkd]at hc;exact⟨by rw[hc];exact hbx,rfl⟩
  ·by_cases hkd:d=k
   ·subst hkd;exact absurd a3 hk
   ·rw[qe _ _ _ hkd]at hc;exact⟨⟨_,_,hc,rfl⟩,rfl⟩
 refine h.step (up:=[(d,.arr s [] false)]) (loc':=loc) (fun _ h=>h) (fun _ _=>rfl) a6 h.below h.hB (fun k=>?_) h.inj h.fresh h.bound h.fsub ?_ ?_
 ·show CO _ (upd st.objs d (.arr s [] false)) _ _ _ (nth .none (upd st.objs d (.arr s [] false)) k);by_cases hk:d=k
  ·subst hk;rw[qg _ _ _ a5];exact⟨by simp[roomS],hs0,by simp,.inl ⟨a4,rfl⟩⟩
  ·rw[qe _ _ _ hk];exact CO.le (fun _ h=>h) (fun _ _=>rfl) a6 rfl rfl (fun b c hb=>⟨rfl,fun h=>h⟩) (h.objs k)
 ·intro s' es' fz' hc;show _∨_;rw[show upds st.objs [(d,.arr s [] false)]=upd st.objs d (.arr s [] false)from rfl,qg _ _ _ a5]at hc;simp only[J7]at hc;obtain⟨rfl,rfl,rfl⟩:=hc;exact .inr ⟨a4,rfl,rfl⟩
 ·show nth .none (upd st.objs d (.arr s [] false)) d≠ .none;rw[qg _ _ _ a5];simp
theorem il {v:V} {x:Value} {ys:List (List D)} {us:List (Nat×Obj)} (h:Conc C B F0 w0 F loc st a w) (hc:Qt st.objs v=some (ys,us)) (hv:CV loc st.objs w F v x):
 ∃ad c,x= .slice ad ys.length c∧(ys=[]∨∃b o size,ad=some ⟨b,o,none⟩∧(∀e∈ys,e.length=size)∧∀j,j<ys.length*size→∃u,w.cell? ⟨b,o+j,none⟩=some u∧CD w F (nth .undef ys.flatten j) u):=by
 unfold Qt at hc;split at hc
 ·simp only[k9,lg]at hc;obtain⟨rfl,rfl⟩:=hc;obtain⟨ad,c,h1,_,h2⟩:=J3 (hv:CD w F _ _);refine⟨ad,c,h1,?_⟩;rcases h2 with h2|⟨b,o,size,h2,h3⟩
  ·exact .inl h2
  ·exact .inr ⟨b,o,size,h2,h3.hs,h3.hc⟩
 ·simp only[k9,lg]at hc;obtain⟨rfl,rfl⟩:=hc;exact⟨none,0,hv,.inl rfl⟩
 ·rename_i k;split at hc
  ·rename_i s es' fz hk;simp only[k9,lg]at hc;obtain⟨rfl,rfl⟩:=hc;have h0:=h.objs k;rw[hk]at h0;obtain⟨_,_,hs,h4⟩:=h0;rcases hv s es' fz hk with⟨b,c,q1,rfl⟩|⟨q1,rfl,rfl⟩
   ·rcases h4 with⟨h4,rfl⟩|⟨b',c',cs,t,h4,h5,h6,h7,h8,h9⟩
    ·exact⟨_,c,rfl,.inl rfl⟩
    ·rw[h4]at q1;simp only[k9,lg]at q1;obtain⟨rfl,rfl⟩:=q1;refine⟨_,c',rfl,.inr ⟨b',0,s,rfl,hs,fun j hj=>?_⟩⟩;obtain⟨u,r1,r2⟩:=h9.1 j hj;exact⟨u,by rw[zp h6,hY];exact r1,r2⟩
   ·exact⟨none,0,rfl,.inl rfl⟩
  ·simp at hc
 ·simp at hc
theorem ML {es:List (List D)} {s o l j:Nat} (hs:∀e∈es,e.length=s) (hol:o+l≤es.length) (hj:j<l*s):nth .undef ((es.drop o).take l).flatten j=nth .undef es.flatten (o*s+j):=by
 have e1:es.flatten=(es.take o).flatten++(((es.drop o).take l).flatten++((es.drop o).drop l).flatten):=by rw[←gp,←gp,ga,ga]
 have l1:(es.take o).flatten.length=o*s:=by rw[qp (fun e he=>hs e (ez he)),fS,j1 (by omega)]
 have l2:((es.drop o).take l).flatten.length=l*s:=by rw[qp (fun e he=>hs e (fx (ez he))),fS,g4,j1 (by omega)]
 rw[e1,qI,qI,gb (by omega),l1,im,gm (by omega)]
theorem aO {v:V} {x:Value} {ys:List (List D)} (h:Conc C B F0 w0 F loc st a w) (hc:Qd st.objs v=some ys) (hv:CV loc st.objs w F v x):
 ∃ad c,x= .slice ad ys.length c∧(ys=[]∨∃b o size,ad=some ⟨b,o,none⟩∧(∀e∈ys,e.length=size)∧∀j,j<ys.length*size→∃u,w.cell? ⟨b,o+j,none⟩=some u∧CD w F (nth .undef ys.flatten j) u):=by
 have a4:∀us,Qt st.objs v=some (ys,us)→_:=fun us hh=>il h hh hv
 unfold Qd at hc;split at hc
 ·rename_i k o l;clear a4;split at hc
  ·rename_i s a3 fz hk;simp only[k9]at hc;subst hc;have h0:=h.objs k;rw[hk]at h0;obtain⟨_,_,hs,h4⟩:=h0;rcases hv s a3 fz hk with⟨b,c,q1,q2,rfl⟩|⟨_,q1,rfl,rfl,rfl,rfl⟩|⟨_,q1,q2,rfl,ad,c,rfl⟩
   ·rcases h4 with⟨h4,rfl⟩|⟨b',c',cs,t,h4,h5,h6,h7,h8,h9⟩
    ·rw[h4]at q1;simp at q1
    ·rw[h4]at q1;simp only[k9,lg]at q1;obtain⟨rfl,rfl⟩:=q1;have hl:((a3.drop o).take l).length=l:=by rw[fS,g4];omega
     refine⟨some ⟨b',o*s,none⟩,c'-o,by rw[hl],.inr ⟨b',o*s,s,rfl,fun e he=>hs e (fx (ez he)),fun j hj=>?_⟩⟩;rw[hl]at hj;have hj2:o*s+j<a3.length*s:=by have:=hW s q2;rw[ic]at this;omega
     obtain⟨u,r1,r2⟩:=h9.1 _ hj2;rw[ML hs q2 hj];exact⟨u,by rw[zp h6];exact r1,r2⟩
   ·exact⟨none,0,by simp,.inl (by simp)⟩
   ·exact⟨ad,c,by simp,.inl (by simp)⟩
  ·simp at hc
 ·split at hc
  ·rename_i es us hh;simp only[k9]at hc;subst hc;exact a4 us hh
  ·simp at hc
theorem jU {P:Program} {t e ty:TypeId} {z:List Value} (ht:P.underlying t=some (.slice e)) (hz:jt P e=some z) (base:Option Addr) (sLen sCap:Nat) (hle:sLen≤sCap) (ad:Option Addr) (c:Nat) (w:World):
 (Lm #[t,t] ty #[.slice base sLen sCap,.slice ad 0 c]).run P w= .ok (.slice base sLen sCap) w:=by
 have h2:=xi hz w;have h3:∀x:Addr,(loadCells x 0).run P w= .ok #[] w:=fun x=>rfl
 cases base<;>cases ad<;>simp[Lm,qR ht,h2,Ls,Builtin.firstCells,hle,storeCells,h3]
theorem Qj {P:Program} {t e ty t':TypeId} {inf:TypeInfo} (ht:P.underlying t=some (.slice e)) (hi:P.info? e=some inf) {b sLen sCap:Nat} {cur:Array Value} (hg:w.heap[b]? =some (.cells cur t' (0,0)))
 (ad:Addr) (m c:Nat) (news:List Value) (hl:news.length=m*inf.size) (hnews:∀j u,news[j]? =some u→w.cell? (ad.add j)=some u) (h1:∀u∈news,u.oneCell'=true)
 (hroom:sLen+m≤sCap) (hfit:sLen*inf.size+news.length≤cur.size):
 (Lm #[t,t] ty #[.slice (some ⟨b,0,none⟩) sLen sCap,.slice (some ad) m c]).run P w=
  .ok (.slice (some ⟨b,0,none⟩) (sLen+m) sCap) (setBlk w b (.cells (qP cur.toList (sLen*inf.size) news).toArray t' (0,0))):=by
 have hf:=run_firstCells_some (P:=P) w inf.size m ad m c news hl hnews;have a3:=zq (P:=P) (o:=sLen*inf.size) news 0 w cur hg (by omega) h1;simp only[j0]at a3;simp[Lm,qR ht,J8,typeInfo,hi,Ls,hroom,hf,xx,a3]
theorem Yk {objs:List Obj} {v:V} {cells:List V} {up:List (Nat×Obj)} (h:av objs v=some (cells,up)):(v= .nilS∧cells=[]∧up=[])∨∃k,v= .vec k cells.length∧nth .none objs k= .vec cells∧up=[(k,.dead)]:=by
 unfold av at h;split at h
 ·simp only[k9,lg]at h;exact .inl ⟨rfl,h.1.symm,h.2.symm⟩
 ·split at h
  ·rename_i k n _ cs hk;split at h
   ·rename_i hn;simp only[k9,lg]at h;obtain⟨rfl,rfl⟩:=h;exact .inr ⟨k,by rw[ia hn],hk,rfl⟩
   ·simp at h
  ·simp at h
 ·simp at h
theorem Pg {d:Nat} {x y:Operand} {t e:TypeId} (h:Conc C B F0 w0 F loc st a w) (hd:qA st.objs d=true) (he:GH C.P t=some e):
 RS C B F0 w0 st a w ⟨some d,.call ⟨.builtin .append, #[x,y], #[t,t]⟩,ty,pos,after,g⟩ (Qu C.P d st.objs e (ev st x) (ev st y)):=by
 unfold Qu;have hx:=(qZ h x).1;have hy:=(qZ h y).1;have hu:=wi he;split
 ·rename_i xs up v u2 hxs hys hz;split
  ·rename_i hc;simp only[Hx,decide_eq_true_eq,hK,Hy]at hc;obtain⟨hc1,hcd⟩:=hc;intro a5;obtain⟨b6,zv,hi,cc,hzc,hsz,hone,_⟩:=xT hz;have b5:b6.size=1:=hsz;have hby:C.P.bytesOf e=b6.bytes:=by simp[V1,hi]
   obtain⟨ky,hvy,c3,_⟩:=(Yk hys).resolve_left (by rintro⟨_,h1,_⟩;simp at h1);rw[hvy]at hy;obtain⟨b2,c2,hl2,c0⟩:=hy _ c3 rfl;have ba:=h.objs ky;rw[c3]at ba;obtain⟨b',c',csy,t',b3,_,b9,_,_,b7,b4,_⟩:=ba;rw[hl2]at b3;simp only[k9,lg]at b3;obtain⟨rfl,rfl⟩:=b3;obtain⟨x0,hx0,bg,bt⟩:=b7 0 (by simp);have bg:CV loc st.objs w F v x0:=bg;have be:Ref st.objs v:=b4 v (by simp);have c0:a.eval y= .slice (some ⟨b2,0,none⟩) 1 c2:=c0;have bs:∀j u,[x0][j]? =some u→w.cell? ((⟨b2,0,none⟩:Addr).add j)=some u:=fun j u hj=>by
    cases j with
    |zero=>rw[xx,zp b9];simpa using hx0.trans (by simpa using hj)
    |succ j=>simp at hj
   have bb:∀r w',(Lm #[t,t] ty #[a.eval x,.slice (some ⟨b2,0,none⟩) 1 c2]).run C.P w= .ok r w'→(execOp a.eval ⟨some d,.call ⟨.builtin .append, #[x,y], #[t,t]⟩,ty,pos,after,g⟩).run C.P w= .ok (.value r) w':=fun r w' hr=>by rw[←c0]at hr;simp[execOp,resolve,invoke,builtin,hr]
   have hrm:xs.length+1≤1073741824:=a5;have ca:((xs.length+1)+(xs.length+1)/4+192)*b6.bytes≤281474976710656:=by have:((xs.length+1)+(xs.length+1)/4+192)*b6.bytes≤1342177472*4096:=k5 (by omega) (by omega);omega
   have ag:∀(a6:Where) (b1:St) (a7:List Value) (ap:Nat),Conc C B F0 w0 F a6 b1 a w→qA b1.objs d=true→a7.length=xs.length→(∀j,j<xs.length→∃u,a7[j]? =some u∧CV a6 b1.objs w F (nth .any xs j) u∧u.oneCell'=true)→
    (∀u∈xs,Ref b1.objs u)→CV a6 b1.objs w F v x0→Ref b1.objs v→
    Conc C B F0 w0 F (at_ a6 d (w.heap.size,grownCap w (xs.length+1) ap e) e) (b1.put (some d) (.vec d (xs.length+1)) [(d,.vec (xs++[v]))]) (a.put (some d) (.slice (some ⟨w.heap.size,0,none⟩) (xs.length+1) (grownCap w (xs.length+1) ap e)))
     (w.drew.alloc (.cells (a7.toArray++[x0].toArray++J9 zv.cells (grownCap w (xs.length+1) ap e-(xs.length+1))) e)):=by
    intro a6 b1 a7 ap hC bc hol bx hrx hv' hr';have hge:=grownCap_ge w (xs.length+1) ap e;have hzs:zv.cells.size=1:=by
     have:zv.cells.toList.length=1:=by rw[hzc];rfl
     simpa using this
    have:=Yh (dst:=some d) (d:=d) (cells:=xs++[v]) (cs:=a7.toArray++[x0].toArray++J9 zv.cells (grownCap w (xs.length+1) ap e-(xs.length+1))) (e:=e) (cap:=grownCap w (xs.length+1) ap e) hC.drew bc (by rw[cL];exact a5)
     (by rw[cL];exact⟨hge,iz (grownCap_le_maxLen w _ ap e (by simp only[maxLen];omega)) (by simp[maxLen])⟩)
     (by simp only[Hv,hV,size_zeroCells,hzs,ey,fw];omega)
     (fun j hj=>by
      rw[cL]at hj;simp only[ey,fw]at hj;rcases hX j xs.length with h1|h1
      ·obtain⟨u,q1,q2,q3⟩:=bx j h1;refine⟨u,?_,?_,q3⟩
       ·rw[Dd (by simp;omega),Dd (by simp;omega)];simpa using q1
       ·rw[qI,gm h1,←qI];exact CV.mem (w:=w) (w':=w.drew) (fun _ h=>h) (fun _ _=>rfl) q2
      ·have:j=xs.length:=by omega
       subst this;refine⟨x0,?_,?_,bt⟩
       ·rw[Dd (by simp;omega),Array.getElem?_append_right (by simp;omega)];simp[hol]
       ·rw[qI,gb (ib _),ks];exact CV.mem (w:=w) (w':=w.drew) (fun _ h=>h) (fun _ _=>rfl) hv')
     (fun u hu=>by rcases gq.1 hu with hu|hu;exact hrx u hu;rw[g0.1 hu];exact hr') (jy hz)
    rw[cL]at this;exact this
   rcases Yk hxs with⟨bv,rfl,rfl⟩|⟨k,bv,hk,rfl⟩
   ·rw[bv]at hx;have bw:a.eval x= .slice none 0 0:=hx;rw[bw]at bb;have hr:=run_append_nil (P:=C.P) w t ty e b6 zv hu hi cc ⟨b2,0,none⟩ 1 c2 [x0] (by simp[b5]) bs (by omega) (by omega) (iz (hW _ (by omega)) ca);have:=ag loc st [] 0 h hd rfl (by simp) (by simp) bg be;simp only[fw,hY,hL,Gv]at this;exact⟨_,_,_,bb _ _ hr,.inl rfl,F,_,this⟩
   ·rw[bv]at hx;obtain⟨b,cap,hl,bw⟩:=hx _ hk rfl;have hkd:¬k=d:=fun e=>by have:=hcd _ (g0.2 rfl);rw[e]at this;simp at this
    have ba:=h.objs k;rw[hk]at ba;obtain⟨b',cap',cs,t',b3,bm,b8,bl,hlc,bh,a4,h9⟩:=ba;rw[hl]at b3;simp only[k9,lg]at b3;obtain⟨rfl,rfl⟩:=b3;rw[bw]at bb;have hf:=h.fresh _ _ _ hl;have c1:nth .none st.objs k≠ .none:=by rw[hk];simp
    have an:=RP (loc:=loc) c1;have al:=h.killO c1 (k::st.dirty);have a3:qA (upd st.objs k .dead) d=true:=by obtain⟨q1,q2⟩:=qN hd;unfold qA;rw[qe _ _ _ hkd,qo _ q2];rw[qo _ q2]at q1;rw[q1]
    have bd:∀o',(⟨st.tmps,upd st.objs k .dead,k::st.dirty⟩:St).put (some d) (.vec d (xs.length+1)) [(d,o')]=⟨(st.put (some d) (.vec d (xs.length+1)) [(k,.dead),(d,o')]).tmps,(st.put (some d) (.vec d (xs.length+1)) [(k,.dead),(d,o')]).objs,d::k::st.dirty⟩:=fun o'=>rfl
    have hno:∀j c',wH loc k j≠some (b,c'):=by
     intro j c' hj;simp only[wH]at hj;split at hj
     ·simp at hj
     ·rename_i hjk;exact hjk (h.inj _ _ _ _ _ hj hl)
    have ad:∀j,j<xs.length→∃u,cs[j]? =some u∧CV (wH loc k) (upd st.objs k .dead) w F (nth .any xs j) u∧u.oneCell'=true:=fun j hj=>by obtain⟨u,q1,q2,q3⟩:=bh j hj;exact⟨u,q1,CV.le (fun _ h=>h) (fun _ _=>rfl) an (a4 _ (wv hj)) q2,q3⟩
    have cb:CV (wH loc k) (upd st.objs k .dead) w F v x0:=CV.le (fun _ h=>h) (fun _ _=>rfl) an be bg;by_cases hfit:xs.length+1≤cap
    ·have hr:=Qj (P:=C.P) (ty:=ty) hu hi b8 ⟨b2,0,none⟩ 1 c2 [x0] (by simp[b5]) bs (by simpa using bt) hfit (by rw[b5];simp;omega);rw[b5,j3]at hr;have hlt:d<(upd st.objs k .dead).length:=(qN a3).2;have a8:Le (upd st.objs k .dead) (upd (upd st.objs k .dead) d (.vec (xs++[v]))) (wH loc k) (at_ (wH loc k) d (b,cap) t'):=a9 a3;have hw:∀b',F b'→(setBlk w b (.cells (qP cs.toList xs.length [x0]).toArray t' (0,0))).heap[b']? =w.heap[b']? :=fun b' hb=>z6 (fun e=>bm (e▸hb))
     have:=al.adopt (tt:=t') (dst:=some d) (d:=d) (b:=b) (cap:=cap) (ob:= .vec (xs++[v])) (v:= .vec d (xs.length+1)) (x:= .slice (some ⟨b,0,none⟩) (xs.length+1) cap) (cs:=(qP cs.toList xs.length [x0]).toArray) (t:=t') a3 hf bm hno
      ⟨b,cap,_,t',by simp[at_],bm,kr hf.2,by simp[qP,qk,bl],by rw[cL];exact⟨hfit,hlc.2⟩,fun j hj=>by
       rw[cL]at hj;simp only[ey,fw]at hj;rcases hX j xs.length with h1|h1
       ·obtain⟨u,q1,q2,q3⟩:=ad j h1;refine⟨u,?_,?_,q3⟩
        ·simp only[qP,xr];simp[show ¬xs.length=j by omega,q1]
        ·rw[qI,gm h1,←qI];exact CV.le (fun _ h=>h) hw a8 ((a4 _ (wv h1)).le an) q2
       ·have:j=xs.length:=by omega
        subst this;refine⟨x0,?_,?_,bt⟩
        ·simp only[qP,xr];simp[show xs.length<cs.size by omega]
        ·rw[qI,gb (ib _),ks];exact CV.le (fun _ h=>h) hw a8 (be.le an) cb,
       fun u hu=>by
        rcases gq.1 hu with hu|hu
        ·exact((a4 u hu).le an).le a8
        ·rw[g0.1 hu];exact(be.le an).le a8,by show loc.P.cellsOf t'=1;exact h9.1,by rw[cL];exact a5⟩
      (fun o ho hb=>⟨b,cap,by simp[at_],rfl⟩)
      (by show nth .none (upd (upd st.objs k .dead) d (.vec (xs++[v]))) d≠ .none;rw[qg _ _ _ hlt];simp)
     rw[bd]at this;exact⟨_,_,_,bb _ _ hr,.inl rfl,F,_,this.redirty⟩
    ·have hxl:xs.length≤cs.size:=by omega
     have hr:=run_append_grow (P:=C.P) w t ty e b6 zv hu hi cc ⟨b,0,none⟩ xs.length cap (cs.toList.take xs.length) (by rw[b5];simp;omega) (fun j u hj=>by
      rw[xx,zp b8,hY];rw[gr]at hj;split at hj
      ·simpa using hj
      ·simp at hj) ⟨b2,0,none⟩ 1 c2 [x0] (by simp[b5]) bs (by omega) (by omega) (growslice_fits_wide (by omega) ca)
     have:=ag _ _ (cs.toList.take xs.length) cap al a3 (by simp;omega) (fun j hj=>by
      obtain⟨u,q1,q2,q3⟩:=ad j hj;exact⟨u,by rw[gr,if_pos hj];simpa using q1,q2,q3⟩) (fun u hu=>(a4 u hu).le an) cb (be.le an)
     rw[bd]at this;exact⟨_,_,_,bb _ _ hr,.inl rfl,F,_,this.redirty⟩
  ·trivial
 ·trivial
theorem RU {x y:Operand} {ts:Array TypeId} (h:Conc C B F0 w0 F loc st a w):RS C B F0 w0 st a w ⟨dst,.call ⟨.builtin .append, #[x,y],ts⟩,ty,pos,after,g⟩ (JC C dst st.objs ts (ev st x) (ev st y)):=by
 unfold JC;have hx:=(qZ h x).1;have hy:=(qZ h y).1;split
 ·trivial
 rename_i d;split
 ·trivial
 rename_i hd;split
 ·rename_i t t2 hts;split
  ·rename_i e he dv;have dv:t2=t:=by simpa using dv
   subst dv;have e0:ts= #[t2,t2]:=by apply Aw;simpa using hts
   subst e0;have hu:=wi he;split
   ·exact Pg h (by simpa using hd) he
   split
   ·rename_i ys z hel hz
    ·split
     ·rename_i hc;simp only[Hx,decide_eq_true_eq]at hc;obtain⟨hc1,ct⟩:=hc;obtain⟨ap,zv,hi,e3,hzc,cl,hone,_⟩:=xT hz;have hzs:zv.cells.size=z.length:=by rw[←hzc];simp
      have hby:C.P.bytesOf e=ap.bytes:=by simp[V1,hi]
      obtain⟨ad,c,hye,cr⟩:=aO h hel hy;have b6:∀v w',(Lm #[t2,t2] ty #[a.eval x,.slice ad ys.length c]).run C.P w= .ok v w'→(execOp a.eval ⟨some d,.call ⟨.builtin .append, #[x,y], #[t2,t2]⟩,ty,pos,after,g⟩).run C.P w= .ok (.value v) w':=fun v w' hr=>by rw[←hye]at hr;simp[execOp,resolve,invoke,builtin,hr]
      --the cells that are appended
      have b4:lens z.length ys→ys≠[]→∃b o,ad=some ⟨b,o,none⟩∧∃a3:List Value,a3.length=ys.length*ap.size∧(∀j u,a3[j]? =some u→w.cell? ((⟨b,o,none⟩:Addr).add j)=some u)∧All2 (CD w F) ys.flatten a3:=by
       intro hl al;rcases cr with hys|⟨b,o,e4,had,hs,bl⟩
       ·exact absurd hys al
       ·obtain⟨y0,bt,rfl⟩:=hM al;have cg:e4=z.length:=by rw[←hl y0 (by simp),hs y0 (by simp)]
        subst cg;refine⟨b,o,had,?_⟩;have e8:∀j,∃u,j<(y0::bt).length*z.length→w.cell? ⟨b,o+j,none⟩=some u∧CD w F (nth .undef (y0::bt).flatten j) u:=fun j=>by
         by_cases hj:j<(y0::bt).length*z.length
         ·obtain⟨u,hu⟩:=bl j hj;exact⟨u,fun _=>hu⟩
         ·exact⟨undef,fun hh=>absurd hh hj⟩
        let f:Nat→Value:=fun j=>I2 (e8 j)
        have hf:∀j,j<(y0::bt).length*z.length→w.cell? ⟨b,o+j,none⟩=some (f j)∧CD w F (nth .undef (y0::bt).flatten j) (f j):=fun j hj=>I1 (e8 j) hj
        refine⟨(g8 ((y0::bt).length*z.length)).map f,by simp[cl],fun j u hj=>?_,?_⟩
        ·rw[xx];simp only[g3,k7]at hj;obtain⟨k,hk,rfl⟩:=hj;rcases hX j ((y0::bt).length*z.length)with h1|h1
         ·rw[g7 h1]at hk;simp only[k9]at hk;subst hk;exact(hf _ h1).1
         ·rw[List.getElem?_eq_none (by simpa using h1)]at hk;simp at hk
        ·refine kt .undef undef (by rw[qp hl];simp) fun j hj=>?_
         rw[qp hl]at hj;rw[qo undef (by simpa using hj)];simp only[hH,hU];exact(hf j hj).2
      --a new array out of all that there is
      have b3:∀(bs:Where) (cw:St) (es:List (List D)) (an a3:List Value) (bg:Nat),Conc C B F0 w0 F bs cw a w→qA cw.objs d=true→roomS z.length (es.length+ys.length)→(∀q∈es,q.length=z.length)→(∀q∈ys,q.length=z.length)→
       All2 (CD w F) es.flatten an→All2 (CD w F) ys.flatten a3→
       Conc C B F0 w0 F (at_ bs d (w.heap.size,grownCap w (es.length+ys.length) bg e) e) (cw.put (some d) (.arr d) [(d,.arr z.length (es++ys) false)]) (a.put (some d) (.slice (some ⟨w.heap.size,0,none⟩) (es.length+ys.length) (grownCap w (es.length+ys.length) bg e)))
        (w.drew.alloc (.cells (an.toArray++a3.toArray++J9 zv.cells (grownCap w (es.length+ys.length) bg e-(es.length+ys.length))) e)):=by
       intro bs cw es an a3 bg hC c3 a4 dl dn ho hn;have hge:=grownCap_ge w (es.length+ys.length) bg e;have ea:=ho.length;have eb:=hn.length;rw[qp dl]at ea;rw[qp dn]at eb;have dp:∀q∈es++ys,q.length=z.length:=fun q hq=>by rcases gq.1 hq with hq|hq;exact dl q hq;exact dn q hq
       have:=Yg (dst:=some d) (d:=d) (s:=z.length) (es:=es++ys) (cs:=an.toArray++a3.toArray++J9 zv.cells (grownCap w (es.length+ys.length) bg e-(es.length+ys.length))) (e:=e) (cap:=grownCap w (es.length+ys.length) bg e) hC.drew c3 (by rw[cL];exact a4) ct dp (by rw[cL];exact⟨hge,iz (grownCap_le_maxLen w _ bg e (by simp only[maxLen];have:=a4.max;omega)) (by simp[maxLen])⟩)
        (by
         simp only[Hv,hV,size_zeroCells,hzs,←ea,←eb,←ic];congr 1;omega)
        (fun j hj=>by
         rw[cL,ic]at hj;have cx:=All2.append ho hn;have:=cx.nth .undef undef _ _ j (by rw[cL,qp dl,qp dn];exact hj);refine⟨nth undef (an++a3) j,?_,?_⟩
         ·rw[qo _ (by rw[cL];omega)];rw[Dd (by simp;omega)];simp[show j<an.length+a3.length by omega]
         ·rw[gp];exact this.mono (fun _ h=>h) fun _ _=>rfl)
       rw[cL]at this;exact this (jy hz)
      have be:∀n,OP (j5 (C.P.bytesOf e) 56&&j5 z.length 4) n→roomS z.length n∧(n+n/4+192)*ap.bytes≤281474976710656:=fun n hn=>by
       cases hb:(j5 (C.P.bytesOf e) 56&&j5 z.length 4)with
       |false=>rw[hb]at hn;have hn:n≤1073741824:=hn;have:(n+n/4+192)*ap.bytes≤1342177472*4096:=k5 (by omega) (by omega);exact⟨.inl hn,by omega⟩
       |true=>
        rw[hb]at hn;have hn:n≤4000000000000:=hn;rw[Hx]at hb;have h56:=ia hb.1;have h4:=ia hb.2;have hib:ap.bytes=56:=by rw[←h56];simp[V1,hi]
        refine⟨.inr ⟨h4,hn⟩,?_⟩;rw[hib];omega
      have c0:∀(k n:Nat) (es E:List (List D)),nth .none st.objs k= .arr z.length es false→E=es.take n→¬k=d→
       ((∃b cap,loc k=some (b,cap)∧n≤es.length∧a.eval x= .slice (some ⟨b,0,none⟩) n cap)∨(loc k=none∧E=[]∧a.eval x= .slice none 0 0))→
       OP (j5 (C.P.bytesOf e) 56&&j5 z.length 4) (E.length+ys.length)→lens z.length ys→Does C B F0 w0 ⟨some d,.call ⟨.builtin .append, #[x,y], #[t2,t2]⟩,ty,pos,after,g⟩ a w (st.put (some d) (.arr d) [(k,.dead),(d,.arr z.length (E++ys) false)]):=by
       intro k n es E hk hE ca c2 a7 a5;obtain⟨a4,cd⟩:=be _ a7;have a8:=h.kill hk (k::st.dirty);have a6:qA (upd st.objs k .dead) d=true:=by obtain⟨q1,q2⟩:=qN hd;unfold qA;rw[qe _ _ _ ca,qo _ q2];rw[qo _ q2]at q1;rw[q1]
       have b8:∀o',(⟨st.tmps,upd st.objs k .dead,k::st.dirty⟩:St).put (some d) (.arr d) [(d,o')]=⟨(st.put (some d) (.arr d) [(k,.dead),(d,o')]).tmps,(st.put (some d) (.arr d) [(k,.dead),(d,o')]).objs,d::k::st.dirty⟩:=fun o'=>rfl
       have cv:=h.objs k;rw[hk]at cv;obtain⟨dd,_,em,cv⟩:=cv;have hs:∀e∈E,e.length=z.length:=fun e he=>by rw[hE]at he;exact em e (ez he)
       have b5:=a4.max;rcases c2 with⟨b,cap,hl,el,ag⟩|⟨hl,hE0,ag⟩
       ·rcases cv with⟨bw,_⟩|⟨b',cap',cs,t',bw,cb,bh,b7,hlc,e7⟩
        ·rw[hl]at bw;simp at bw
        rw[hl]at bw;simp only[k9,lg]at bw;obtain⟨rfl,rfl⟩:=bw;have cb:¬F b:=cb;have e5:E.length=n:=by rw[hE,fS];omega
        have cy:∀j,j<E.length*z.length→∃v,cs[j]? =some v∧CD w F (nth .undef E.flatten j) v:=fun j hj=>by rw[e5]at hj;have hj2:j<es.length*z.length:=k3 hj (hW _ el);obtain⟨v,r1,r2⟩:=e7.1 j hj2;refine⟨v,r1,?_⟩;have:=ML (o:=0) em (by omega) hj;rw[List.drop_zero,ix,hY]at this;rw[hE,this];exact r2
        have dc:E.length≤cap:=by omega
        rw[←e5]at ag;rw[ag]at b6;have hf:=h.fresh _ _ _ hl;have hno:∀j c',wH loc k j≠some (b,c'):=by
         intro j c' hj;simp only[wH]at hj;split at hj
         ·simp at hj
         ·rename_i hjk;exact hjk (h.inj _ _ _ _ _ hj hl)
        --the array stands where it stood,with en c1
        have bd:∀(b1:List (List D)) (bv:Array Value),roomS z.length b1.length→(∀q∈b1,q.length=z.length)→bv.size=cap*z.length→b1.length≤cap→(∀j,j<b1.length*z.length→∃v,bv[j]? =some v∧CD w F (nth .undef b1.flatten j) v)→
         Conc C B F0 w0 F (at_ (wH loc k) d (b,cap) t') (st.put (some d) (.arr d) [(k,.dead),(d,.arr z.length b1 false)]) (a.put (some d) (.slice (some ⟨b,0,none⟩) b1.length cap)) (setBlk w b (.cells bv t' (0,0))):=by
         intro b1 bv r1 r2 r3 r4 r5;have ed:d<(upd st.objs k .dead).length:=(qN a6).2;have:=a8.adopt (tt:=t') (dst:=some d) (d:=d) (b:=b) (cap:=cap) (ob:= .arr z.length b1 false) (v:= .arr d) (x:= .slice (some ⟨b,0,none⟩) b1.length cap) (cs:=bv) (t:=t') a6 hf cb hno
          ⟨r1,ct,r2,.inr ⟨b,cap,bv,t',by simp[at_],cb,kr hf.2,r3,⟨r4,hlc.2⟩,fun j hj=>by
           obtain⟨v,p1,p2⟩:=r5 j hj;exact⟨v,p1,p2.mono (fun _ h=>h) fun b' hb'=>z6 (fun e=>cb (e▸hb'))⟩,e7.2.1,by simp[at_]⟩⟩
          (fun s' es'' fz' hc=>by
           rw[qg _ _ _ ed]at hc;simp only[J7]at hc;obtain⟨rfl,rfl,rfl⟩:=hc;exact .inl ⟨b,cap,by simp[at_],rfl⟩)
          (by show nth .none (upd (upd st.objs k .dead) d (.arr z.length b1 false)) d≠ .none;rw[qg _ _ _ ed];simp)
         rw[b8]at this;exact this.redirty
        by_cases al:ys=[]
        ·subst al;have:=bd E cs (a4.le (by omega)) hs b7 dc cy;rw[JN bh]at this;rw[List.append_nil];exact⟨_,_,w,b6 _ _ (jU hu hz _ _ _ dc ad c w),.inl rfl,F,_,this⟩
        ·obtain⟨b2,o2,rfl,a3,ba,bx,bb⟩:=b4 a5 al;have hn1':a3.length=ys.length*z.length:=by rw[←cl];exact ba
         have bc:All2 (CD w F) E.flatten (cs.toList.take (E.length*z.length)):=by
          have hle:E.length*z.length≤cs.size:=by rw[b7];exact hW _ dc
          refine kt .undef undef (by rw[qp hs];simp;omega) fun j hj=>?_
          rw[qp hs]at hj;obtain⟨v,p1,p2⟩:=cy j hj;have:nth undef (cs.toList.take (E.length*z.length)) j=v:=by rw[qI,gr,if_pos hj];simp[p1]
          rw[this];exact p2
         have cc:∀u∈a3,u.oneCell'=true:=by
          have:∀(ds:List D) (vs:List Value),All2 (CD w F) ds vs→∀v∈vs,v.oneCell'=true:=by
           intro ds
           induction ds with
           |nil=>intro vs cp v hv;cases vs with|nil=>simp at hv|cons _ _=>exact cp.elim
           |cons d ds ih=>
            intro vs cp v hv;cases vs with
            |nil=>exact cp.elim
            |cons y vs=>
             rcases eH.1 hv with rfl|hv
             ·exact cp.1.one
             ·exact ih vs cp.2 v hv
          exact this _ _ bb
         by_cases hfit:E.length+ys.length≤cap
         ·have b9:E.length*ap.size+a3.length≤cs.size:=by rw[ba,b7,cl,←ic];exact hW _ hfit
          have hr:=Qj (P:=C.P) (ty:=ty) hu hi bh ⟨b2,o2,none⟩ ys.length c a3 ba bx cc hfit b9;have dp:∀q∈E++ys,q.length=z.length:=fun q hq=>by rcases gq.1 hq with hq|hq;exact hs q hq;exact a5 q hq
          have:=bd (E++ys) (qP cs.toList (E.length*ap.size) a3).toArray (by rw[cL];exact a4) dp (by simp[zb,b7]) (by rw[cL];exact hfit) (fun j hj=>by
           rw[cL,ic]at hj;rw[gp];have hl3:=bb.length;rw[qp a5]at hl3;have dt:(qP cs.toList (E.length*ap.size) a3).length=cs.size:=by simp[zb]
           rw[cl]at b9 dt ⊢;refine⟨nth undef (qP cs.toList (E.length*z.length) a3) j,?_,?_⟩
           ·rw[qo _ (by omega)];simp[show j<(qP cs.toList (E.length*z.length) a3).length by omega]
           ·rcases hX j (E.length*z.length)with h6|h6
            ·rw[z5 _ _ _ _ _ h6];obtain⟨v,p1,p2⟩:=cy j h6;have e1:nth undef cs.toList j=v:=by rw[qI];simp[p1]
             have e2:nth .undef (E.flatten++ys.flatten) j=nth .undef E.flatten j:=by rw[qI,qI,gm (by rw[qp hs];exact h6)]
             rw[e1,e2];exact p2
            ·obtain⟨i,rfl⟩:∃i,j=E.length*z.length+i:=⟨j-E.length*z.length,by omega⟩;rw[zV _ _ _ _ _ (by omega) (by simp;omega)];have e2:nth .undef (E.flatten++ys.flatten) (E.length*z.length+i)=nth .undef ys.flatten i:=by rw[qI,qI,gb (by rw[qp hs];omega),qp hs,im]
             rw[e2];exact bb.nth .undef undef _ _ i (by rw[qp a5];omega))
          rw[cL]at this;exact⟨_,_,_,b6 _ _ hr,.inl rfl,F,_,this⟩
         ·have ho1:(cs.toList.take (E.length*z.length)).length=E.length*ap.size:=by have:=bc.length;rw[qp hs]at this;rw[cl];exact this.symm
          have hr:=run_append_grow (P:=C.P) w t2 ty e ap zv hu hi e3 ⟨b,0,none⟩ E.length cap (cs.toList.take (E.length*z.length)) ho1 (fun j v hj=>by
           rw[xx,zp bh,hY];rw[gr]at hj;split at hj
           ·simpa using hj
           ·simp at hj) ⟨b2,o2,none⟩ ys.length c a3 ba bx (by omega) (by omega) (growslice_fits_wide (by omega) cd)
          have:=b3 _ _ E _ a3 cap a8 a6 a4 hs a5 bc bb;rw[b8]at this;exact⟨_,_,_,b6 _ _ hr,.inl rfl,F,_,this.redirty⟩
       ·rw[ag]at b6;subst hE0;by_cases al:ys=[]
        ·subst al;have:=MK (dst:=some d) a8 a6 ct;rw[b8]at this;exact⟨_,_,w,b6 _ _ (jU hu hz none 0 0 (ib _) ad c w),.inl rfl,F,_,this.redirty⟩
        ·obtain⟨b,o,rfl,a3,ba,bx,bb⟩:=b4 a5 al;have bm:0<ys.length:=hS.2 al;simp only[fw,hY]at b5 cd;have hr:=run_append_nil (P:=C.P) w t2 ty e ap zv hu hi e3 ⟨b,o,none⟩ ys.length c a3 ba bx bm (by omega) (iz (hW _ (by omega)) cd);have:=b3 _ _ [] [] a3 0 a8 a6 a4 (by simp) a5 trivial bb;simp only[fw,hY,hL,Gv]at this;rw[b8]at this;exact⟨_,_,_,b6 _ _ hr,.inl rfl,F,_,this.redirty⟩
      split
      ·rename_i cq;rw[cq]at hx;have ag:a.eval x= .slice none 0 0:=hx;rw[ag]at b6;rintro⟨a7,a5⟩;obtain⟨a4,cd⟩:=be _ a7;have b5:=a4.max;by_cases al:ys=[]
       ·subst al;exact⟨_,_,w,b6 _ _ (jU hu hz none 0 0 (ib _) ad c w),.inl rfl,F,loc,MK h hd ct⟩
       ·obtain⟨b,o,rfl,a3,ba,bx,bb⟩:=b4 a5 al;have bm:0<ys.length:=hS.2 al;have hr:=run_append_nil (P:=C.P) w t2 ty e ap zv hu hi e3 ⟨b,o,none⟩ ys.length c a3 ba bx bm (by omega) (iz (hW _ (by omega)) cd);have:=b3 loc st [] [] a3 0 h hd (by simpa using a4) (by simp) a5 trivial bb;simp only[fw,hY,hL,Gv]at this;exact⟨_,_,_,b6 _ _ hr,.inl rfl,F,_,this⟩
      ·rename_i k cq;rw[cq]at hx;split
       ·rename_i s es hk;split
        ·rename_i ci;simp only[Hx,decide_eq_true_eq,Hy,decide_eq_false_iff_not]at ci;obtain⟨rfl,ca⟩:=ci;rintro⟨a4,a5⟩;refine c0 k es.length es es hk (by simp) ca ?_ a4 a5;rcases hx _ es false hk with⟨b,cap,hl,ag⟩|⟨hl,h0,ag⟩
         ·exact .inl ⟨b,cap,hl,ib _,ag⟩
         ·exact .inr ⟨hl,h0,ag⟩
        ·trivial
       ·trivial
      ·rename_i k o n cq;rw[cq]at hx;split
       ·rename_i s es ho hk;obtain rfl:=ia ho;split
        ·rename_i ci;simp only[Hx,decide_eq_true_eq,Hy,decide_eq_false_iff_not]at ci;obtain⟨rfl,ca⟩:=ci;rintro⟨a4,a5⟩;refine c0 k n es (es.take n) hk rfl ca ?_ a4 a5;rcases hx _ es false hk with⟨b,cap,hl,el,ag⟩|⟨_,hl,h0,_,_,ag⟩|⟨_,h0,_⟩
         ·exact .inl ⟨b,cap,hl,by omega,by rw[ag,ix,Nat.sub_zero]⟩
         ·exact .inr ⟨hl,by rw[h0];simp,ag⟩
         ·omega
        ·trivial
       ·trivial
      ·trivial
     ·trivial
   ·trivial
  ·trivial
 ·trivial
theorem WX {α β:Type} {R:α→β→Prop}:∀{as:List α} {bs:List β},All2 R as bs→∀b∈bs,∃a,R a b
 |[],[],_,b,hb=>by simp at hb
 |a::as,c::bs,h,b,hb=>by
  rcases eH.1 hb with rfl|hb
  ·exact⟨a,h.1⟩
  ·exact WX h.2 b hb
 |[],_::_,h,_,_=>h.elim
 |_::_,[],h,_,_=>h.elim
theorem E1 {x:Operand} {ts:Array TypeId} (h:Conc C B F0 w0 F loc st a w):RS C B F0 w0 st a w ⟨dst,.call ⟨.builtin .clear, #[x],ts⟩,ty,pos,after,g⟩ (JD C st.objs ts (ev st x)):=by
 unfold JD;have hx:=(qZ h x).1;split
 ·rename_i t hts;have al:ts= #[t]:=by apply Aw;simpa using hts
  subst al;split
  ·rename_i e he;split
   ·rename_i z k o l hz hv;rw[hv]at hx;split
    ·rename_i s es hk;split
     ·rename_i hsz;obtain rfl:=ia hsz;intro hl0;obtain⟨b,c,hl,hol,hxe⟩:=(hx _ es false hk).resolve_right (by rintro(⟨_,_,_,_,h4,_⟩|⟨_,_,_,h4,_⟩)<;>omega);have a7:=h.objs k;rw[hk]at a7;obtain⟨b1,hs0,hs,a7⟩:=a7;rcases a7 with⟨a5,_⟩|⟨b',c',cs,t',a5,hnF,a6,a8,hlc,hcs⟩
      ·rw[hl]at a5;simp at a5
      rw[hl]at a5;simp only[k9,lg]at a5;obtain⟨rfl,rfl⟩:=a5;have hf:=h.fresh _ _ _ hl;obtain⟨inf,zv,hi,hzv,an,hszz,ag,_⟩:=xT hz;have hzs:zv.cells.size=z.length:=by rw[←an];simp
      have a3:=TB (w:=w) (F':=F) (z:=zv.cells) (n:=l) (by omega) (by rw[an];exact ag);rw[an]at a3;have hin:(o+l)*z.length≤es.length*z.length:=hW _ hol;have hinc:es.length*z.length≤c*z.length:=hW _ hlc.1;have hml:=a3.length;have ap:=qp (es:=er l (z.map xR)) (size:=z.length) (fun e he=>by rw[fg he];simp);rw[gz]at ap;have hadd:(o+l)*z.length=o*z.length+l*z.length:=ic ..;have ad:(J9 zv.cells l).toList.length=l*z.length:=by simp[J9,hzs]
      have b2:=zq (P:=C.P) (b:=b) (o:=o*z.length) (J9 zv.cells l).toList 0 w cs a6 (by rw[ad,a8];omega) (fun v hv=>?_)
      ·refine⟨_,.tuple #[],setBlk w b (.cells (qP cs.toList (o*z.length) (J9 zv.cells l).toList).toArray t' (0,0)),?_,.inl rfl,?_⟩
       ·have hzr:∀w,(zeroValue e).run C.P w= .ok zv w:=fun w=>by simp[zeroValue,typeInfo,hi,hzv]
        have hll:∃m,l=m+1:=⟨l-1,by omega⟩;obtain⟨m,rfl⟩:=hll;rw[j0]at b2;simp[execOp,resolve,invoke,builtin,Builtin.clear_,hxe,qR (wi he),hzr,b2]
       ·have h5:=W8 (.tuple #[]) (dst:=dst) (k:=k) (p:=o*z.length) (es':=es.take o++(er l (z.map xR)++es.drop (o+l))) h hk hl a6 a3 (by simp;omega) (fun e' a4=>?_) ?_ (by omega)
        ·exact⟨F,loc,h5⟩
        ·rcases gq.1 a4 with a4|a4
         ·exact hs _ (ez a4)
         ·rcases gq.1 a4 with a4|a4
          ·rw[fg a4];simp
          ·exact hs _ (fx a4)
        ·have e1:es=es.take o++((es.drop o).take l++es.drop (o+l)):=by rw[←List.drop_drop,ga,ga]
         conv=>rhs;rw[e1]
         simp only[gp];have hta:(es.take o).flatten.length=o*z.length:=by rw[qp (fun e he=>hs e (ez he)),fS,j1 (by omega)]
         rw[←hta,GV];rw[ap,qp (size:=z.length) (fun e he=>hs e (fx (ez he))),fS,g4,j1 (by omega)]
      ·obtain⟨d,hd⟩:=WX a3 v hv;exact hd.one
     ·trivial
    ·trivial
   ·trivial
  ·trivial
 ·trivial
end
end Eng
end
section
namespace Eng
open Go Go.RowKit
section
variable {C:Cx} {B:Bd} {F0:Nat→Prop} {w0:World} {F:Nat→Prop} {loc:Where} {st:St} {a:Act} {w:World}
variable {dst:Option Nat} {ty:TypeId} {pos:String} {after:Array Edge} {g:Option (Nat×Bool)}
theorem TC {w w':World} {F F':Nat→Prop} {d:D} {v:Value} (h:CD w F d v) (hf:JK d=true):CD w' F' d v:=by
 cases h<;>first|(simp[JK]at hf;done)|(constructor;done)|(constructor;assumption)
theorem JX {w w':World} {F F':Nat→Prop} {d:A} {v:Value} (h:CA w F d v) (hf:W7 d=true):CA w' F' d v:=by
 cases d with
 |c d=>exact TC h hf
 |ag cs=>obtain⟨vs,rfl,h⟩:=h;exact⟨vs,rfl,h.mono_mem fun d hd v hv=>TC hv (hK.1 hf d hd)⟩
theorem RV {w w':World} {F F':Nat→Prop} {rs:List A} {v:Value} (h:Tg w F rs v) (hf:∀r∈rs,W7 r=true):Tg w' F' rs v:=by
 unfold Tg at h ⊢;split
 ·rename_i r;exact JX h (hf r (by simp))
 ·rename_i hne;split at h
  ·exact absurd rfl (hne _)
  ·obtain⟨vs,rfl,h⟩:=h;exact⟨vs,rfl,h.mono_mem fun r hr v hv=>JX hv (hf r hr)⟩
theorem GZ {objs:List Obj} {rs:List A} {v:Value} (h:Tg w F rs v):CV loc objs w F (VX rs) v∧Ref objs (VX rs):=by
 unfold VX;split
 ·exact⟨h,trivial⟩
 ·exact⟨h,trivial⟩
 ·rename_i h1 h2;unfold Tg at h;split at h
  ·rename_i r;cases r with
   |c d=>exact absurd rfl (h1 d)
   |ag cs=>exact absurd rfl (h2 cs)
  ·exact⟨h,trivial⟩
theorem Conc.behind {v:V} {x:Value} {w':World} (h:Conc C B F0 w0 F loc st a w) (hb:Below w.heap.size w w') (hv:CV loc st.objs w' (fun b=>F b∨(w.heap.size≤b∧b<w'.heap.size)) v x) (hr:Ref st.objs v):
 Conc C B F0 w0 (fun b=>F b∨(w.heap.size≤b∧b<w'.heap.size)) loc (st.put dst v []) (a.put dst x) w':=by
 have hw:∀b,F b→w'.heap[b]? =w.heap[b]? :=fun b hF=>hb.block b (h.bound b hF)
 have hsz:=hb.size;refine h.step (up:=[]) (fun b hF=> .inl hF) hw (Le.refl _ _) (h.below.trans (.of hb h.hB)) (by have:=h.hB;omega) (fun k=>?_) h.inj (fun k b c hl=>?_) ?_ ?_ hv hr
 ·refine CO.le (fun b hF=> .inl hF) hw (Le.refl _ _) rfl rfl (fun b c hl=>?_) (h.objs k);have hf:=(h.fresh _ _ _ hl).2;exact⟨hb.block b hf,fun hn a3=>by rcases a3 with a3|a3;exact hn a3;omega⟩
 ·have:=h.fresh _ _ _ hl;exact⟨this.1,by omega⟩
 ·intro b hF;rcases hF with hF|hF
  ·have:=h.bound b hF;omega
  ·exact hF.2
 ·intro b hF;rcases hF with hF|hF
  ·exact h.fsub b hF
  ·have:=h.hB;exact .inr (.inl (by omega))
theorem ku (h:Conc C B F0 w0 F loc st a w):∀(xs:List Operand),All2 (CV loc st.objs w F) (xs.map (ev st)) (xs.map a.eval)
 |[]=>trivial
 |x::xs=>⟨(qZ h x).1,ku h xs⟩
theorem MM {f:Nat} {o:Oper} {vs:List V} {xs:List Value} (h:Conc C B F0 w0 F loc st a w) (hvs:All2 (CV loc st.objs w F) vs xs)
 (hrun:∀fn,C.P.funcs[f]? =some fn→fn.body≠none→fn.name≠ "runtime.NumGoroutine" →(execOp a.eval o).run C.P w= .ok (.enter f xs.toArray) w):RS C B F0 w0 st a w o (vf C st.objs f vs):=by
 unfold vf;split
 ·trivial
 ·rename_i fn hfn;split
  ·trivial
  ·rename_i an;simp only[Hx,Hy]at an;obtain⟨a5,a8⟩:=an;have hrun:=hrun fn hfn (by intro hb;simp[hb]at a5) (by simpa using a8);split
   ·rename_i as us sh hto hsh;obtain⟨hfz,ad⟩:=vj h hto hvs;obtain⟨F',ag,hF',hb'⟩:=h.freezes hfz st.dirty;have a4:=ad F' hF' hb';have ap:∀(up:List (Nat×Obj)) (rs:List A),qc C f as rs→(∀v w',Below w.heap.size w w'→Tg w' (fun b=>F' b∨(w.heap.size≤b∧b<w'.heap.size)) rs v→St.has C B F0 w0 (st.put o.dst (VX rs) up) (a.put o.dst v) w')→
     ∀(next:Act→World→Prop) (Q:Exit→Act→World→Prop),(∀a' w',St.has C B F0 w0 (st.put o.dst (VX rs) up) a' w'→next a' w')→Oper.wp C.P o a w next Q:=by
     intro up rs hg al next Q hn
     unfold Oper.wp;rw[hrun,Oper.upon_enter];refine(hg w F' xs ag.bound ag.inv a4).mono fun e w' he=>?_
     obtain⟨a3,v,rfl,hr⟩:=he;exact hn _ _ (al v w' a3 hr)
    split
    ·intro rs hg _ next Q hn
     refine ap us rs hg (fun v w' a3 hr=>?_) next Q hn
     have a6:=GZ (loc:=loc) (objs:=upds st.objs us) hr;exact⟨_,loc,(ag.behind (dst:=o.dst) a3 a6.1 a6.2).redirty⟩
    ·rename_i hns;intro rs hg a7 next Q hn
     refine ap [] rs hg (fun v w' a3 hr=>?_) next Q hn
     have hr':Tg w' (fun b=>F b∨(w.heap.size≤b∧b<w'.heap.size)) rs v:=RV hr (a7 hns);have a6:=GZ (loc:=loc) (objs:=st.objs) hr';exact⟨_,loc,h.behind (dst:=o.dst) a3 a6.1 a6.2⟩
   ·trivial
theorem TD {f:Nat} {cal:Operand} {args:Array Operand} {ts:Array TypeId} (h:Conc C B F0 w0 F loc st a w) (hcal:a.eval cal= .func (.func f) #[] #[]):RS C B F0 w0 st a w ⟨dst,.call ⟨.value cal,args,ts⟩,ty,pos,after,g⟩ (vf C st.objs f (args.toList.map (ev st))):=by
 refine MM h (ku h args.toList) fun fn hfn hb2 hne=>?_
 have a3:(args.toList.map a.eval).toArray=args.map a.eval:=by apply Aw;simp
 rw[a3];simp[execOp,resolve,hcal,Deferred.ofValue,invoke,callFunc,hfn,hne,hb2]
theorem WY {R:D→Value→Prop}:∀(ps:List D) (vs:Nat→Value) (i:Nat),(∀j,j<ps.length→R (nth .undef ps j) (vs (i+j)))→All2 R ps ((List.range' i ps.length).map vs)
 |[],_,_,_=>trivial
 |p::ps,vs,i,h=>by
  rw[ey,List.range'_succ,hQ];refine⟨by have:=h 0 (by simp);simpa [nth]using this,WY ps vs (i+1) fun j hj=>?_⟩;have:=h (j+1) (by simp;omega);rw[show i+1+j=i+(j+1)by omega]
  simpa [nth]using this
theorem Ha:∀{ps:List D} {xs:List Value},All2 (CD w F) ps xs→All2 (CV loc st.objs w F) (ps.map V.c) xs
 |[],[],_=>trivial
 |_::_,_::_,h=>⟨h.1,Ha h.2⟩
 |[],_::_,h=>h.elim
 |_::_,[],h=>h.elim
theorem Hb {α β:Type} {R:α→β→Prop}:∀{as as':List α} {bs bs':List β},All2 R as bs→All2 R as' bs'→All2 R (as++as') (bs++bs')
 |[],_,[],_,_,h'=>h'
 |_::_,_,_::_,_,h,h'=>⟨h.1,Hb h.2 h'⟩
 |[],_,_::_,_,h,_=>h.elim
 |_::_,_,[],_,h,_=>h.elim
theorem io {f:Nat} {ps:List D} {cal:Operand} {args:Array Operand} {ts:Array TypeId} (h:Conc C B F0 w0 F loc st a w) (hcal:CD w F (.clo f ps) (a.eval cal)):
 RS C B F0 w0 st a w ⟨dst,.call ⟨.value cal,args,ts⟩,ty,pos,after,g⟩ (vf C st.objs f (args.toList.map (ev st)++ps.map V.c)):=by
 generalize hc:a.eval cal=y at hcal;cases hcal with
 |clo f ps vs hd=>
  have h2:All2 (CD w F) ps ((g8 ps.length).map vs):=by rw[List.range_eq_range'];exact WY ps vs 0 fun j hj=>by rw[hY];exact hd j hj
  refine MM h (Hb (ku h args.toList) (Ha h2)) fun fn hfn hb2 hne=>?_
  have a3:(args.toList.map a.eval++(g8 ps.length).map vs).toArray=args.map a.eval++((g8 ps.length).map vs).toArray:=by apply Aw;simp
  rw[a3];simp[execOp,resolve,hc,Deferred.ofValue,invoke,callFunc,hfn,hne,hb2]
theorem TE (h:Conc C B F0 w0 F loc st a w):∀{vs:List V} {xs:List Value} {ps:List D} {us:List (Nat×Obj)},Ty st.objs vs=some (ps,us)→All2 (CV loc st.objs w F) vs xs→
 (∀p∈us,p.2= .dead∧(∃v∈vs,p.1∈qn v)∧∃cells,nth .none st.objs p.1= .box cells)∧∀F':Nat→Prop,(∀b,F b→F' b)→(∀p∈us,∀b c,loc p.1=some (b,c)→F' b)→All2 (CD w F') ps xs
 |[],[],ps,us,hc,_=>by simp only[Ty,k9,lg]at hc;obtain⟨rfl,rfl⟩:=hc;exact⟨fun p hp=>by simp at hp,fun _ _ _=>trivial⟩
 |v::vs,x::xs,ps,us,hc,hv=>by
  unfold Ty at hc;split at hc
  ·rename_i k;split at hc
   ·rename_i cells hk;split at hc
    ·rename_i ds ps' us' hds hr;simp only[k9,lg]at hc;obtain⟨rfl,rfl⟩:=hc;obtain⟨h1,h2⟩:=TE h hr hv.2;refine⟨fun p hp=>?_,fun F' hF hb=>⟨?_,h2 F' hF fun p hp=>hb p (by simp[hp])⟩⟩
     ·rcases eH.1 hp with rfl|hp
      ·exact⟨rfl,⟨_,hT ..,by simp[qn]⟩,_,hk⟩
      ·obtain⟨q1,⟨u,q2,q3⟩,q4⟩:=h1 p hp;exact⟨q1,⟨u,hR _ q2,q3⟩,q4⟩
     ·obtain⟨b,c,hl,hx⟩:=hv.1 _ hk rfl;have hco:=h.objs k;rw[hk]at hco;obtain⟨b',c',cs,t',hl',hnF,hblk,hall,hrefs⟩:=hco;rw[hl]at hl';simp only[k9,lg]at hl';obtain⟨rfl,rfl⟩:=hl';have hcd:All2 (CD w F) ds cs.toList:=z7 (loc:=loc) (objs:=st.objs) hds (hall.mono fun _ _ h=>h.1);have hlen:=hcd.length;rw[hx];refine CD.ptr ds b 0 (fun j=>nth undef cs.toList j) (hb _ (hT ..) _ _ hl) (fun j hj=>?_) (fun j hj=>?_)
      ·rw[hY,zp hblk,qo _ (by omega)];simp at hlen;simp[show j<cs.size by omega]
      ·exact(hcd.nth .undef undef _ _ j hj).mono hF fun _ _=>rfl
    ·simp at hc
   ·simp at hc
  ·rename_i ds;split at hc
   ·rename_i ps' us' hr;simp only[k9,lg]at hc;obtain⟨rfl,rfl⟩:=hc;obtain⟨h1,h2⟩:=TE h hr hv.2;obtain⟨b,o,size,hx,_,hrow⟩:=hv.1;have hsz:ds.length=size:=hrow.hs ds (by simp);have hcell:∀j,j<ds.length→∃v,w.cell? ⟨b,o+j,none⟩=some v∧CD w F (nth .undef ds j) v:=fun j hj=>by
     have:=hrow.hc j (by simp only[List.length_singleton,k0];omega)
     simpa using this
    open Classical in
    have hptr:CD w F (.ptr ds) x:=by
     rw[hx];simp only[ix,j0];refine CD.ptr ds b o (fun j=>if h:j<ds.length then I2 (hcell j h)else undef) hrow.hF (fun j hj=>?_) (fun j hj=>?_)
     ·rw[dif_pos hj];exact(I1 (hcell j hj)).1
     ·rw[dif_pos hj];exact(I1 (hcell j hj)).2
    refine⟨fun p hp=>?_,fun F' hF hb=>⟨CD.mono hptr hF fun _ _=>rfl,h2 F' hF hb⟩⟩;obtain⟨q1,⟨u,q2,q3⟩,q4⟩:=h1 p hp;exact⟨q1,⟨u,hR _ q2,q3⟩,q4⟩
   ·simp at hc
  ·simp at hc
 |[],_::_,_,_,_,h=>h.elim
 |_::_,[],_,_,_,h=>h.elim
theorem jd:∀(us:List (Nat×Obj)) (objs:List Obj) (k:Nat),(∀p∈us,p.2= .dead∧p.1<objs.length)→nth .none (upds objs us) k=if(∃p∈us,p.1=k)then .dead else nth .none objs k
 |[],objs,k,_=>by simp[upds]
 |(j,o)::us,objs,k,h=>by
  obtain⟨h1,h2⟩:=h (j,o) (by simp);simp only at h1 h2;subst h1;simp only[upds];rw[jd us _ k fun p hp=>⟨(h p (by simp[hp])).1,by rw[qk];exact(h p (by simp[hp])).2⟩];by_cases hk:∃p∈us,p.1=k
  ·rw[if_pos hk,if_pos];obtain⟨p,hp,e⟩:=hk;exact⟨p,by simp[hp],e⟩
  ·rw[if_neg hk];by_cases hj:j=k
   ·subst hj;rw[qg _ _ _ h2,if_pos ⟨(j,.dead),by simp,rfl⟩]
   ·rw[qe _ _ _ hj,if_neg];rintro⟨p,hp,e⟩;rcases eH.1 hp with rfl|hp
    ·exact hj e
    ·exact hk ⟨p,hp,e⟩
theorem Conc.capture {us:List (Nat×Obj)} {v:V} {x:Value} (h:Conc C B F0 w0 F loc st a w) (hu:∀p∈us,p.2= .dead∧∃cells,nth .none st.objs p.1= .box cells)
 (hv:CD w (fun b=>F b∨∃p∈us,∃c,loc p.1=some (b,c)) (match v with| .c d=>d|_=> .undef) x) (hvc:∃d,v= .c d):St.has C B F0 w0 (st.put dst v us) (a.put dst x) w:=by
 have hlt:∀p∈us,p.2= .dead∧p.1<st.objs.length:=fun p hp=>by
  obtain⟨h1,cells,h2⟩:=hu p hp;refine⟨h1,?_⟩;rcases hX p.1 st.objs.length with h3|h3
  ·exact h3
  ·rw[qJ _ h3]at h2;simp at h2
 have hn:=fun k=>jd us st.objs k hlt
 open Classical in
 let loc':Where:=⟨loc.P,fun k=>if(∃p∈us,p.1=k)then none else loc k,loc.ty⟩
 have a5:Le st.objs (upds st.objs us) loc loc':=by
  refine⟨rfl,fun _ _=>rfl,fun j hj=>?_,fun j o' hj hc hbx=>?_,fun j s' es' fz' hj hc=>?_⟩
  ·rw[hn];split
   ·simp
   ·exact hj
  ·rw[hn]at hc;split at hc
   ·rw[←hc]at hbx;simp[zx]at hbx
   ·rename_i e;exact⟨by rw[hc];exact hbx,by simp only[loc'];rw[if_neg e]⟩
  ·rw[hn]at hc;split at hc
   ·simp at hc
   ·rename_i e;exact⟨⟨_,_,hc,rfl⟩,by simp only[loc'];rw[if_neg e]⟩
 have a3:∀k b c,loc' k=some (b,c)→loc k=some (b,c)∧¬∃p∈us,p.1=k:=fun k b c hl=>by
  simp only[loc']at hl;split at hl
  ·simp at hl
  ·rename_i e;exact⟨hl,e⟩
 refine⟨fun b=>F b∨∃p∈us,∃c,loc p.1=some (b,c),loc',h.step (fun b hb=> .inl hb) (fun _ _=>rfl) a5 h.below h.hB (fun k=>?_) ?_ ?_ ?_ ?_ ?_ ?_⟩
 ·rw[hn];by_cases hk:∃p∈us,p.1=k
  ·rw[if_pos hk];show loc' k=none;simp only[loc'];rw[if_pos hk]
  ·rw[if_neg hk];refine CO.le (fun b hb=> .inl hb) (fun _ _=>rfl) a5 (by simp only[loc'];rw[if_neg hk]) rfl (fun b c hl=>⟨rfl,fun hnF a4=>?_⟩) (h.objs k);rcases a4 with a4|⟨p,hp,c',a4⟩
   ·exact hnF a4
   ·exact hk ⟨p,hp,h.inj _ _ _ _ _ a4 hl⟩
 ·intro k k' b c c' h1 h2;exact h.inj _ _ _ _ _ (a3 _ _ _ h1).1 (a3 _ _ _ h2).1
 ·intro k b c h1;exact h.fresh _ _ _ (a3 _ _ _ h1).1
 ·intro b hb;rcases hb with hb|⟨p,hp,c,hb⟩
  ·exact h.bound b hb
  ·exact(h.fresh _ _ _ hb).2
 ·intro b hb;rcases hb with hb|⟨p,hp,c,hb⟩
  ·exact h.fsub b hb
  ·exact .inr (h.fresh _ _ _ hb).1
 ·obtain⟨d,rfl⟩:=hvc;exact hv
 ·obtain⟨d,rfl⟩:=hvc;trivial
theorem TF {fn:Fn} {first captured:Array Operand} (h:Conc C B F0 w0 F loc st a w):RS C B F0 w0 st a w ⟨dst,.makeFunc fn first captured,ty,pos,after,g⟩ (xw C ⟨dst,.makeFunc fn first captured,ty,pos,after,g⟩ (ev st) st.objs):=by
 simp only[xw];split
 ·rename_i f hf;have a3:first= #[]:=by apply Aw;simpa using hf
  subst a3;split
  ·rename_i ps us a4;obtain⟨h1,h2⟩:=TE h a4 (ku h captured.toList);have h3:=h2 (fun b=>F b∨∃p∈us,∃c,loc p.1=some (b,c)) (fun b hb=> .inl hb) (fun p hp b c hl=> .inr ⟨p,hp,c,hl⟩);refine⟨_,.func (.func f) #[] (captured.map a.eval),w,by simp[execOp,Instr.makeFunc],.inl rfl,?_⟩;refine h.capture (fun p hp=>⟨(h1 p hp).1,(h1 p hp).2.2⟩) ?_ (by cases ps<;>exact⟨_,rfl⟩);have hl:=h3.length;cases ps with
   |nil=>
    have:captured.map a.eval= #[]:=by
     apply Aw;have:captured.toList.length=0:=by simpa using hl.symm
     simp[fl this]
    rw[this];exact CD.fn f
   |cons p ps=>
    have e:captured.map a.eval=((g8 (p::ps).length).map fun j=>nth undef (captured.toList.map a.eval) j).toArray:=by
     apply Aw;rw[Array.toList_map];apply List.ext_getElem
     ·simp at hl ⊢;omega
     ·intro i hi1 hi2;simp only[hH,hU];rw[qo _ (by simpa using hi1)];simp
    rw[e];exact CD.clo f (p::ps) _ fun j hj=>h3.nth .undef undef _ _ j hj
  ·trivial
 ·trivial
def RSW (C:Cx) (B:Bd) (F0:Nat→Prop) (w0:World) (st:St) (a:Act) (w:World) (o:Oper):R→Prop
 | .fail=>True
 | .ok v up=>∀(next:Act→World→Prop) (Q:Exit→Act→World→Prop),(∀a' w',St.has C B F0 w0 (st.put o.dst v up) a' w'→next a' w')→o.wp C.P a w next Q
 | .cond (dc:=_) c v up=>c→∀(next:Act→World→Prop) (Q:Exit→Act→World→Prop),(∀a' w',St.has C B F0 w0 (st.put o.dst v up) a' w'→next a' w')→o.wp C.P a w next Q
 | .look z row off ag=>∀ds,cut row off z.length ds→∀(next:Act→World→Prop) (Q:Exit→Act→World→Prop),(∀a' w',St.has C B F0 w0 (st.put o.dst (match ag with|true=> .ag ds|false=> .c (nth .undef ds 0)) []) a' w'→next a' w')→o.wp C.P a w next Q
 | .call f as sh up=>∀rs,qc C f as rs→(zE sh=false→∀r∈rs,W7 r=true)→∀(next:Act→World→Prop) (Q:Exit→Act→World→Prop),
  (∀a' w',St.has C B F0 w0 (st.put o.dst (VX rs) up) a' w'→next a' w')→o.wp C.P a w next Q
theorem rsw {o:Oper} {r:R} (h:RS C B F0 w0 st a w o r):RSW C B F0 w0 st a w o r:=by
 cases r with
 |fail=>trivial
 |ok v up=>exact fun next Q hn=>Does.wp h hn
 |cond c v up=>exact fun hc next Q hn=>Does.wp (h hc) hn
 |look z row off ag=>exact fun ds hc next Q hn=>Does.wp (h ds hc) hn
 |call f as sh up=>exact h
def qW:Obj→List V
 | .box cells=>cells
 | .vec cells=>cells
 | .bld _ q=>[q]
 |_=>[]
def VOk (ob:List Obj) (up:List (Nat×Obj)) (v:V):Prop:=∀k∈qn v,nth .none ob k≠ .none∨(qA ob k=true∧∃x,(k,x)∈up)
def eN (wd:Bool) (dst:Option Nat) (k:Nat):Prop:=dst=some k∨(wd=true∧∃d,dst=some d∧k=d+1)
def tn (wd:Bool) (dst:Option Nat) (keys:List Nat) (ob:List Obj):R→Prop
 | .fail=>True
 | .ok v up| .cond (dc:=_) _ v up=>(∀p∈up,((eN wd dst p.1∧qA ob p.1=true)∨(p.1∈keys∧nth .none ob p.1≠ .none))∧p.2≠ .none∧∀u∈qW p.2,VOk ob up u)∧VOk ob up v
 | .look .. =>False
 | .call .. =>False
class EffOk (C:Cx):Prop where
 rs:∀{f:Nat} {e:Option Nat→List V→List Obj→R},C.eff f=some e→∀{B:Bd} {F0:Nat→Prop} {w0:World} {F:Nat→Prop} {loc:Where} {st:St} {a:Act} {w:World} {dst:Option Nat} {args:Array Operand} {ts:Array TypeId} {ty:TypeId} {pos:String} {after:Array Edge} {g:Option (Nat×Bool)},
  Conc C B F0 w0 F loc st a w→RSW C B F0 w0 st a w ⟨dst,.call ⟨.value (.func f),args,ts⟩,ty,pos,after,g⟩ (e dst (args.toList.map (ev st)) st.objs)
 ag:∀{f:Nat} {e:Option Nat→List V→List Obj→R},C.eff f=some e→∀(dst:Option Nat) (vs:List V) (ob ob':List Obj),(∀k∈vY ob (vs.flatMap qn),nth .none ob k=nth .none ob' k)→(∀d,eN (C.wd f) dst d→qA ob d=qA ob' d)→e dst vs ob=e dst vs ob'
 good:∀{f:Nat} {e:Option Nat→List V→List Obj→R},C.eff f=some e→∀(dst:Option Nat) (vs:List V) (ob:List Obj),(∀v∈vs,∀k∈qn v,nth .none ob k≠ .none)→(∀k,∀u∈qW (nth .none ob k),∀j∈qn u,nth .none ob j≠ .none)→tn (C.wd f) dst (vY ob (vs.flatMap qn)) ob (e dst vs ob)
theorem tq [EffOk C] {o:Oper} (h:Conc C B F0 w0 F loc st a w):RSW C B F0 w0 st a w o (xw C o (ev st) st.objs):=by
 obtain⟨dst,op,ty,pos,a6,g⟩:=o;cases op with
 |move x=>exact rsw (aH h)
 |assign x=>exact rsw (RN h)
 |pick c x y=>exact rsw (aJ h)
 |alloc t=>exact rsw (Et h)
 |box t x=>exact rsw (ig h)
 |build t parts=>exact rsw (E0 h)
 |buildSlice t len parts=>exact rsw (Yj h)
 |load t x=>exact rsw (aK h)
 |store t p x=>exact rsw (Eu h)
 |nilCheck x=>exact rsw (T8 h)
 |binOp op t x y t2=>exact rsw (Ev h)
 |unOp op t x=>exact rsw (aM h)
 |convert s t x=>exact rsw (Pe h)
 |makeSlice t x y=>exact rsw (GY h)
 |slice t x lo hi mx=>exact rsw (Ez h)
 |fieldAddr t x f=>exact rsw (GW h)
 |field t x f=>exact rsw (Ew h)
 |indexAddr t x i=>exact rsw (GX h)
 |index t x i=>exact rsw (Ex h)
 |extract x i=>exact rsw (Pf h)
 |makeFunc fn first captured=>exact rsw (TF h)
 |call c=>
  obtain⟨a5,a3,ts⟩:=c;simp only[xw];split
  ·split
   ·rename_i e he;exact EffOk.rs he h
   ·exact rsw (TD h rfl)
  ·split
   ·rename_i t _ f hx;have a4:=(qZ h (.tmp t)).1;rw[hx]at a4;split
    ·trivial
    refine rsw (TD h ((fun(y:Value) (hy:CD w F (.fn f) y)=>(by cases hy;rfl:y= .func (.func f) #[] #[])) _ a4))
   ·rename_i t _ f ps hx;have a4:=(qZ h (.tmp t)).1;rw[hx]at a4;split
    ·trivial
    exact rsw (io h a4)
   ·trivial
  ·split
   ·rename_i x hx;have:a3= #[x]:=by apply Aw;simpa using hx
    subst this;exact rsw (ij h)
   ·trivial
  ·split
   ·rename_i x y hx;have:a3= #[x,y]:=by apply Aw;simpa using hx
    subst this;exact rsw (RU h)
   ·trivial
  ·split
   ·rename_i x hx;have:a3= #[x]:=by apply Aw;simpa using hx
    subst this;exact rsw (E1 h)
   ·trivial
  ·split
   ·rename_i x y hx;have:a3= #[x,y]:=by apply Aw;simpa using hx
    subst this;exact rsw (tk h)
   ·trivial
  ·split
   ·rename_i x y hx;have:a3= #[x,y]:=by apply Aw;simpa using hx
    subst this;exact rsw (tl h)
   ·trivial
  ·trivial
 |_=>trivial
theorem RW {z r:List Value} (h:DG z=some r):∃b o n c b' o' n' c',z= .bool b:: .slice o n c:: .bool b':: .slice o' n' c'::r:=by
 unfold DG at h;split at h
 ·rename_i b o n c b' o' n' c' q;simp only[k9]at h;subst h;exact⟨b,o,n,c,b',o',n',c',rfl⟩
 ·simp at h
theorem MN {z r:List Value} (h:DG z=some r):ko z=true∧z.length=r.length+4:=by
 obtain⟨b,o,n,c,b',o',n',c',rfl⟩:=RW h;simp[ko,nV]
theorem QT:∀{k:Nat} {z r:List Value},yd k z=some r→z.length=r.length+4*k∧(0<k→ko z=true)
 |0,z,r,h=>by simp only[yd,k9]at h;subst h;simp
 |k+1,z,r,h=>by
  simp only[yd]at h;split at h
  ·rename_i q hq;have h1:=MN hq;have h2:=QT h;exact⟨by omega,fun _=>h1.1⟩
  ·simp at h
theorem RX {z r:List Value} (h:OQ z=some r):z.length=r.length+66∧ko z=true:=by
 unfold OQ at h;split at h
 ·rename_i b q;split at h
  ·rename_i b' q' hq;have h1:=QT hq;have h2:=QT h;simp only[ey]at h1 ⊢;exact⟨by omega,by simp[ko,h1.2]⟩
  ·simp at h
 ·simp at h
theorem R4.len (x:R4) (t:List D):(rk x t).length=t.length+4:=rfl
theorem P20.len (x:P20) (t:List D):(pk x t).length=t.length+20:=rfl
theorem C66.len (x:C66) (t:List D):(ck x t).length=t.length+66:=rfl
theorem QU:∀{g:Bool} {n:Nat} {z:List Value} {K:List D→Prop},exG g n z K→∃ds,K ds∧(ko z=false→∀d∈ds,JK d=true)∧ds.length=z.length
 |_,0,_,_,h=>h.elim
 |_,_+1,[],K,h=>⟨[],h,fun _ d hd=>absurd hd (by simp),rfl⟩
 |g,n+1,z::r,K,h=>by
  simp only[exG]at h;split at h
  ·rename_i q hq;obtain⟨x,h⟩:=h;obtain⟨ds,h1,_,h3⟩:=QU h;have h4:=RX hq;exact⟨_,h1,fun hz=>(by rw[h4.2]at hz;simp at hz),by rw[C66.len,h3,h4.1]⟩
  split at h
  ·rename_i q hq;obtain⟨x,h⟩:=h;obtain⟨ds,h1,_,h3⟩:=QU h;have h4:=QT hq;exact⟨_,h1,fun hz=>(by rw[h4.2 (by omega)]at hz;simp at hz),by rw[P20.len,h3,h4.1]⟩
  split at h
  ·rename_i q hq;obtain⟨x,h⟩:=h;obtain⟨ds,h1,_,h3⟩:=QU h;have hq:DG (z::r)=some q:=by
    split at hq
    ·exact hq
    ·simp at hq
   have h4:=MN hq;exact⟨_,h1,fun hz=>(by rw[h4.1]at hz;simp at hz),by rw[R4.len,h3,h4.2]⟩
  have key:∀(d:D),(exG g n r fun ds=>K (d::ds))→(nV z=false→JK d=true)→∃ds,K ds∧(ko (z::r)=false→∀d∈ds,JK d=true)∧ds.length=(z::r).length:=by
   intro d hd a3;obtain⟨ds,h1,h2,h3⟩:=QU hd;refine⟨d::ds,h1,fun hz e he=>?_,by simp[h3]⟩;simp only[ko,I0]at hz;rcases eH.1 he with rfl|he
   ·exact a3 hz.1
   ·exact h2 hz.2 e he
  cases z<;>obtain⟨x,h⟩:=h<;>refine key _ h ?_<;>simp[JK,nV]
theorem yh {z:List Value} {K:List D→Prop} (h:VW z K):∃ds,K ds∧(ko z=false→∀d∈ds,JK d=true)∧ds.length=z.length:=QU h
theorem XU:∀{sh:List (Bool×List Value)} {K:List A→Prop},OR sh K→∃rs,K rs∧(zE sh=false→∀r∈rs,W7 r=true)
 |[],K,h=>⟨[],h,fun _ d hd=>absurd hd (by simp)⟩
 |(true,z)::r,K,h=>by
  simp only[OR]at h;obtain⟨ds,h1,h2,h5⟩:=yh h;obtain⟨rs,h3,h4⟩:=XU h1;refine⟨_,h3,fun hs=>?_⟩;cases z with
  |nil=>simp[zE]at hs
  |cons z0 z=>
   simp only[zE,I0]at hs;intro q hq;rcases eH.1 hq with rfl|hq
   ·exact hK.2 (h2 hs.1)
   ·exact h4 hs.2 q hq
 |(false,z)::r,K,h=>by
  simp only[OR]at h;obtain⟨ds,h1,h2,h5⟩:=yh h;obtain⟨rs,h3,h4⟩:=XU h1;refine⟨_,h3,fun hs=>?_⟩;cases z with
  |nil=>simp[zE]at hs
  |cons z0 z=>
   simp only[zE,I0]at hs;intro q hq;rcases eH.1 hq with rfl|hq
   ·cases ds with
    |nil=>simp at h5
    |cons d ds=>exact h2 hs.1 d (by simp)
   ·exact h4 hs.2 q hq
end
end Eng
end
