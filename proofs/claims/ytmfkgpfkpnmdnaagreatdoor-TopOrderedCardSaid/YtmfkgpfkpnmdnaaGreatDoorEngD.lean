import Derived.Test.YtmfkgpfkpnmdnaaGreatDoorEngC
import Derived.Deep.AppendSrc
open Array renaming length_toList->Aw
open Bool renaming and_eq_true->Bx, or_eq_false_iff->Dd, false_eq_true->Hu, not_eq_true->Hv
open Eng.CO renaming le->Hx
open Eng.D renaming undef->Hy, sl->I0
open Eng.Obj.arr renaming injEq->I1
open Eng.St renaming has->I2
open Go.Code renaming wp_mono->I3, region->J3
open Go.Obj.cells renaming injEq->J4
open List renaming mem_cons->Lm, mem_append->Lr, append_assoc->Ls, mem_map->Lv, singleton_append->M0, length_singleton->M1, length_append->M2, length_map->M3, mem_append_right->No, mem_singleton->Pl, cons_append->P1, range_eq_range'->Sz, map_cons->Tk, range'_succ->Ts, length_cons->U0, range'->U3, replicate->V1, mapM_cons->W0, getElem?_append_right->W1, getElem?_append_left->W2, mem_of_mem_take->be, mem_of_getElem?->bh, mem_cons_of_mem->bm, mem_map_of_mem->bv, mem_range'_1->bw, not_mem_nil->bx, ext_getElem->bF, append_nil->cb
open Nat renaming eq_of_beq_eq_true->cc, lt_or_ge->cg, add_zero->cm, zero_add->cp, beq->cv, add_assoc->c1, add_comm->c2, blt_eq->c3, strongRecOn->c4, beq_refl->cF, mul_one->cH, le_refl->cL, beq_eq->dl
open Ne renaming symm->dv
open Option.some renaming injEq->ea
open Prod.mk renaming injEq->eb
section
namespace Eng
open Go Go.RowKit
variable [Env]
section
variable {C:Cx} {B:Bd} {F0:Nat->Prop} {w0:World} {F:Nat->Prop} {loc:Where} {st:St} {a:Act} {w:World}
omit [Env] in
theorem Ww {α β:Type} {R:α->β->Prop} (d:α) {y:α}:∀{as:List α} {bs:List β} (i:Nat),(∀b,R (nth d as i) b->R y b)->All2 R as bs->All2 R (upd as i y) bs
 |[],[],_,_,_=>trivial
 |_::_,b::_,0,h,h'=>⟨h b h'.1,h'.2⟩
 |_::as,_::bs,i+1,h,h'=>⟨h'.1,Ww (as:=as) (bs:=bs) d i h h'.2⟩
 |[],_::_,_,_,h=>h.elim
 |_::_,[],_,_,h=>h.elim
omit [Env] in
theorem yC {α β:Type} {R R':α->β->Prop} (d:α) {y:α}:∀{as:List α} {bs:List β} (i:Nat),(∀b,R (nth d as i) b->R' y b)->All2 R as bs->All2 R' as bs->All2 R' (upd as i y) bs
 |[],[],_,_,_,_=>trivial
 |_::_,b::_,0,h,h',h''=>⟨h b h'.1,h''.2⟩
 |_::as,_::bs,i+1,h,h',h''=>⟨h''.1,yC (as:=as) (bs:=bs) d i h h'.2 h''.2⟩
 |[],_::_,_,_,h,_=>h.elim
 |_::_,[],_,_,h,_=>h.elim
theorem Conc.weakT {t:Nat} {v:V} {d:List Nat} (h:Conc C B F0 w0 F loc st a w) (hv:∀x,CV loc st.objs w F (nth .any st.tmps t) x->CV loc st.objs w F v x) (hr:Ref st.objs v):Conc C B F0 w0 F loc ⟨upd st.tmps t v,st.objs,d⟩ a w:=
 ⟨h.prog,h.below,h.hB,h.defers,Ww .any t hv h.tmps,λu hu=>by
  rcases xJ hu with hu|rfl
  .exact h.refs u hu
  .exact hr,h.objs,h.inj,h.fresh,h.bound,h.fsub,h.fsup,h.inv⟩
theorem Conc.relocate {objs':List Obj} {loc':Where} {d:List Nat} (h:Conc C B F0 w0 F loc st a w) (hl:Le st.objs objs' loc loc') (hobjs:∀k,CO loc' objs' w F k (nth .none objs' k)) (hinj:∀k k' b c c',loc' k=some (b,c)->loc' k'=some (b,c')->k=k')
 (hfresh:∀k b c,loc' k=some (b,c)->Own B b/\b<w.heap.size):Conc C B F0 w0 F loc' ⟨st.tmps,objs',d⟩ a w:=
 ⟨hl.prog.trans h.prog,h.below,h.hB,h.defers,h.tmps.mono_mem λv hv _ hx=>CV.le (λ_ h=>h) (λ_ _=>rfl) hl (h.refs v hv) hx,λv hv=>(h.refs v hv).le hl,hobjs,hinj,hfresh,h.bound,h.fsub,h.fsup,h.inv⟩
omit [Env] in
theorem XL {ks:List Nat} {v:V} (h:Wd ks v=false):∀k∈qh v,k∉ks:=by
 intro k hk hm;have ha:∀l:List Nat,EY ks l=false->∀j∈l,k9 j ks=false:=by
  intro l
  induction l with
  |nil=>intro _ j hj;simp at hj
  |cons x l ih=>
   intro h j hj;simp only[EY,Dd]at h;rcases Lm.1 hj with rfl|hj
   .exact h.1
   .exact ih h.2 j hj
 cases v<;>simp only[qh,Pl,bx]at hk<;>first|(subst hk;simp[Wd,xk.2 hm]at h;done)|(have h2:=ha _ h k hk;rw[xk.2 hm]at h2;cases h2)|(simp only[Wd,Dd]at h;rcases Lm.1 hk with rfl|hk;(rw[xk.2 hm]at h;cases h.1);have h2:=ha _ h.2 k hk;rw[xk.2 hm]at h2;cases h2)
omit [Env] in
theorem kn {ks:List Nat}:∀{l:List V},Q2 ks l=false->∀v∈l,Wd ks v=false
 |[],_,v,hv=>by simp at hv
 |u::r,h,v,hv=>by
  simp only[Q2,Dd]at h;rcases Lm.1 hv with rfl|hv
  .exact h.1
  .exact kn h.2 v hv
omit [Env] in
theorem zw {ks:List Nat}:∀{l:List Obj},zj ks l=false->∀o∈l,∀u∈qQ o,Wd ks u=false
 |[],_,v,hv=>by simp at hv
 |u::r,h,v,hv=>by
  intro x hx;rcases Lm.1 hv with e|hm
  .subst e;cases v with
   |box cells=>simp only[zj,Dd]at h;exact kn h.1 x hx
   |bld T q=>simp only[zj,Dd]at h;simp[qQ]at hx;subst hx;exact h.1
   |vec cells=>simp only[zj,Dd]at h;exact kn h.1 x hx
   |_=>simp[qQ]at hx
  .cases u<;>simp only[zj,Dd]at h
   .exact zw h v hm x hx
   .exact zw h v hm x hx
   .exact zw h.2 v hm x hx
   .exact zw h v hm x hx
   .exact zw h.2 v hm x hx
   .exact zw h.2 v hm x hx
theorem CV.keep {loc':Where} {objs objs':List Obj} {v:V} {x:Value} (hty:loc'.ty=loc.ty) (hk:∀k∈qh v,nth .none objs' k=nth .none objs k/\loc' k=loc k) (h:CV loc objs w F v x):CV loc' objs' w F v x:=by
 cases v with
 |box k off=>intro a0 hc;rw[(hk k (by simp[qh])).1]at hc;rw[(hk k (by simp[qh])).2];exact h a0 hc
 |arr k=>intro s es fz hc;rw[(hk k (by simp[qh])).1]at hc;rw[(hk k (by simp[qh])).2];exact h s es fz hc
 |elt k i off=>intro s es fz hc;rw[(hk k (by simp[qh])).1]at hc;rw[(hk k (by simp[qh])).2];exact h s es fz hc
 |sub k off len=>intro s es fz hc;rw[(hk k (by simp[qh])).1]at hc;rw[(hk k (by simp[qh])).2];exact h s es fz hc
 |arrAt k g c t=>intro s es fz hc;rw[(hk k (by simp[qh])).1]at hc;rw[(hk k (by simp[qh])).2,hty];exact h s es fz hc
 |boxAt k g=>intro o hc;rw[(hk k (by simp[qh])).1]at hc;rw[(hk k (by simp[qh])).2];exact h o hc
 |vec k n=>intro o hc;rw[(hk k (by simp[qh])).1]at hc;rw[(hk k (by simp[qh])).2];exact h o hc
 |pinB k g ps=>
  refine⟨λo hc=>?_,λp hp=>?_⟩
  .rw[(hk k (by simp[qh])).1]at hc;rw[(hk k (by simp[qh])).2];exact h.1 o hc
  .obtain⟨q1,q2⟩:=hk p.1 (bm _ (bv hp));rw[q1,q2,hty];exact h.2 p hp
 |tpo k as=>obtain⟨x,ys,rfl,h1,h2⟩:=h;refine⟨x,ys,rfl,λs es fz hc=>?_,h2⟩;rw[(hk k (by simp[qh])).1]at hc;rw[(hk k (by simp[qh])).2];exact h1 s es fz hc
 |agv cs=>
  obtain⟨vs,rfl,h⟩:=h;refine⟨vs,rfl,h.mono_mem λc hc y hy=>?_⟩;cases c with
  |arr k=>have hk:=hk k (wF hc);refine⟨λs es fz hc=>?_,hy.2⟩;rw[hk.1]at hc;rw[hk.2];exact hy.1 s es fz hc
  |vec k n=>have hk:=hk k (wG hc);refine⟨λo hc hb=>?_,hy.2⟩;rw[hk.1]at hc;rw[hk.2];exact hy.1 o hc hb
  |_=>exact hy
 |_=>exact h
omit [Env] in
theorem Ref.keep {objs objs':List Obj} {v:V} (hk:∀k∈qh v,nth .none objs' k=nth .none objs k) (h:Ref objs v):Ref objs' v:=by
 cases v with
 |box k off=>intro hc;rw[hk k (by simp[qh])]at hc;exact h hc
 |arr k=>intro hc;rw[hk k (by simp[qh])]at hc;exact h hc
 |elt k i off=>intro hc;rw[hk k (by simp[qh])]at hc;exact h hc
 |sub k off len=>intro hc;rw[hk k (by simp[qh])]at hc;exact h hc
 |arrAt k g c t=>intro hc;rw[hk k (by simp[qh])]at hc;exact h hc
 |boxAt k g=>intro hc;rw[hk k (by simp[qh])]at hc;exact h hc
 |vec k n=>intro hc;rw[hk k (by simp[qh])]at hc;exact h hc
 |pinB k g ps=>exact⟨λhc=>by rw[hk k (by simp[qh])]at hc;exact h.1 hc,λp hp hc=>by rw[hk p.1 (bm _ (bv hp))]at hc;exact h.2 p hp hc⟩
 |tpo k as=>intro hc;rw[hk k (by simp[qh])]at hc;exact h hc
 |agv cs=>intro k a0 hc;rw[hk k a0]at hc;exact h k a0 hc
 |_=>trivial
theorem CO.keep {loc':Where} {objs objs':List Obj} {k:Nat} {o:Obj} (hP:loc'.P=loc.P) (hkk:loc' k=loc k) (hty:loc'.ty=loc.ty) (hk:∀v∈qQ o,∀j∈qh v,nth .none objs' j=nth .none objs j/\loc' j=loc j) (h:CO loc objs w F k o):CO loc' objs' w F k o:=by
 cases o with
 |none=>exact hkk.trans h
 |dead=>exact hkk.trans h
 |box cells=>obtain⟨b,c,cs,t,h1,h2,h3,h4,h5⟩:=h;exact⟨b,c,cs,t,by rw[hkk];exact h1,h2,h3,h4.mono_mem λv hv x hx=>⟨CV.keep hty (hk v hv) hx.1,hx.2⟩,λv hv=>Ref.keep (λj hj=>(hk v hv j hj).1) (h5 v hv)⟩
 |bld T q=>obtain⟨b,c,p,v,h1,h2,h3,h4,h5,h6⟩:=h;have hq:=hk q (by simp[qQ]);exact⟨b,c,p,v,by rw[hkk];exact h1,h2,h3,h4,CV.keep hty hq h5,Ref.keep (λj hj=>(hq j hj).1) h6.1,by rw[hty,hP];exact h6.2⟩
 |vec cells=>
  obtain⟨b,c,cs,t,h1,h2,h3,h4,h5,h7,h8,h9⟩:=h;exact⟨b,c,cs,t,by rw[hkk];exact h1,h2,h3,h4,h5,λj hj=>by
   obtain⟨x,q1,q2,q3⟩:=h7 j hj;exact⟨x,q1,CV.keep hty (hk _ (qT hj)) q2,q3⟩,λv hv=>Ref.keep (λj hj=>(hk v hv j hj).1) (h8 v hv),by rw[hP];exact h9.1,h9.2⟩
 |arr s es fz=>obtain⟨h1,h2,h3,h4⟩:=h;refine⟨h1,h2,h3,?_⟩;rw[hkk,hP,hty];exact h4
omit [Env] in
theorem Bo {α:Type} {d:α} {l:List α} {i:Nat} (h:nth d l i≠d):nth d l i∈l:=by
 by_cases hi:i<l.length
 .rw[qk _ hi];exact List.getElem_mem hi
 .exact absurd (qC _ (Nat.not_lt.1 hi)) h
theorem Conc.forgets {ks:List Nat} {objs':List Obj} {d:List Nat} (h:Conc C B F0 w0 F loc st a w) (hin:∀k∈ks,nth .none objs' k= .none) (hout:∀k,k∉ks->nth .none objs' k=nth .none st.objs k) (ht:Q2 ks st.tmps=false)
 (ho:zj ks objs'=false):∃loc',Conc C B F0 w0 F loc' ⟨st.tmps,objs',d⟩ a w:=by
 refine⟨⟨loc.P,λk=>if k∈ks then none else loc k,loc.ty⟩,h.prog,h.below,h.hB,h.defers,?_,?_,?_,?_,?_,h.bound,h.fsub,h.fsup,h.inv⟩
 .refine h.tmps.mono_mem λv hv x hx=>?_
  refine CV.keep (loc:=loc) (objs:=st.objs) ?_ (λk hk=>?_) hx
  .rfl
  .have hn:=XL (kn ht v hv) k hk;exact⟨hout k hn,by simp[hn]⟩
 .exact λv hv=>Ref.keep (λk hk=>hout k (XL (kn ht v hv) k hk)) (h.refs v hv)
 .intro k;by_cases hk:k∈ks
  .change CO _ objs' w F k (nth .none objs' k);rw[hin k hk];show(if k∈ks then none else loc k)=none;simp[hk]
  .change CO _ objs' w F k (nth .none objs' k);have a0:∀u∈qQ (nth .none objs' k),Wd ks u=false:=λu hu=>by
    have hne:nth .none objs' k≠ .none:=by intro e;rw[e]at hu;simp[qQ]at hu
    exact zw ho _ (Bo hne) u hu
   have h0:=h.objs k;rw[<-hout k hk]at h0;refine CO.keep (loc:=loc) (objs:=st.objs) rfl (by simp[hk]) rfl (λv hv j hj=>?_) h0;have hn:=XL (a0 v hv) j hj;exact⟨hout j hn,by simp[hn]⟩
 .intro k k' b c c' h1 h2;by_cases hk:k∈ks
  .simp[hk]at h1
  .by_cases hk':k'∈ks
   .simp[hk']at h2
   .simp only[if_neg hk]at h1;simp only[if_neg hk']at h2;exact h.inj _ _ _ _ _ h1 h2
 .intro k b c h1;by_cases hk:k∈ks
  .simp[hk]at h1
  .simp only[if_neg hk]at h1;exact h.fresh _ _ _ h1
theorem Conc.move {s k key sz:Nat} {es:List (List D)} {d:List Nat} (h:Conc C B F0 w0 F loc st a w) (hs:nth .any st.tmps s= .arr k) (hk:nth .none st.objs k= .arr sz es false) (hkey:nth .none st.objs key= .none) (hlt:key<st.objs.length):
 ∃loc',Conc C B F0 w0 F loc' ⟨upd st.tmps s (.arr key),upd (upd st.objs k .dead) key (.arr sz es false),d⟩ a w:=by
 have hne:k≠key:=λe=>by subst e;rw[hk]at hkey;simp at hkey
 have a1:k<st.objs.length:=by
  rcases cg k st.objs.length with h|h
  .exact h
  .rw[qC _ h]at hk;simp at hk
 have hn:∀j,nth .none (upd (upd st.objs k .dead) key (.arr sz es false)) j=if j=key then .arr sz es false else if j=k then .dead else nth .none st.objs j:=λj=>by
  by_cases h1:j=key
  .subst h1;rw[qb _ _ _ (by rw[xh];simpa using hlt)];simp
  .rw[qa _ _ _ (dv h1),if_neg h1];by_cases h2:j=k
   .subst h2;rw[qb _ _ _ a1];simp
   .rw[qa _ _ _ (dv h2),if_neg h2]
 generalize hob:upd (upd st.objs k .dead) key (.arr sz es false)=objs' at *
 let loc':Where:=⟨loc.P,λj=>if j=key then loc k else if j=k then none else loc j,λj=>if j=key then loc.ty k else loc.ty j⟩
 have a3:Le st.objs objs' loc loc':=by
  refine⟨rfl,λj hj=>by
   have:j≠key:=λe=>by subst e;exact hj hkey
   simp[loc',this],λj hj=>?_,λj o' hj hc hbx=>?_,λj s' es' fz' hj hc=>?_⟩
  .rw[hn];split
   .simp
   .split
    .simp
    .exact hj
  .rw[hn]at hc;split at hc
   .rw[<-hc]at hbx;simp[xD]at hbx
   .split at hc
    .rw[<-hc]at hbx;simp[xD]at hbx
    .rename_i e1 e2;exact⟨by rw[hc];exact hbx,by simp[loc',e1,e2]⟩
  .rw[hn]at hc;split at hc
   .rename_i e;rw[e]at hj;exact absurd hkey hj
   .split at hc
    .simp at hc
    .exact⟨⟨_,_,hc,rfl⟩,by simp[loc', *]⟩
 have hlk:loc key=none:=by have:=h.objs key;rw[hkey]at this;exact this
 have h1:Conc C B F0 w0 F loc' ⟨st.tmps,objs',d⟩ a w:=by
  refine h.relocate a3 (λj=>?_) ?_ ?_
  .rw[hn];split
   .rename_i e;have h0:=h.objs k;rw[hk]at h0;obtain⟨q1,q2,q3,q4⟩:=h0;refine⟨q1,q2,q3,?_⟩;simp only[loc',e,if_pos];exact q4
   .split
    .rename_i e;show loc' j=none;simp[loc',e,hne]
    .rename_i e1 e2;exact Hx (λ_ h=>h) (λ_ _=>rfl) a3 (by simp[loc',e1,e2]) (by simp[loc',e1]) (λ_ _ _=>⟨rfl,λh=>h⟩) (h.objs j)
  .intro j j' b c c' g1 g2;simp only[loc']at g1 g2;split at g1<;>split at g2
   .rw[‹j=key›,‹j'=key›]
   .split at g2
    .simp at g2
    .exact absurd (h.inj _ _ _ _ _ g1 g2).symm ‹_›
   .split at g1
    .simp at g1
    .exact absurd (h.inj _ _ _ _ _ g1 g2) ‹_›
   .split at g1
    .simp at g1
    .split at g2
     .simp at g2
     .exact h.inj _ _ _ _ _ g1 g2
  .intro j b c g1;simp only[loc']at g1;split at g1
   .exact h.fresh _ _ _ g1
   .split at g1
    .simp at g1
    .exact h.fresh _ _ _ g1
 refine⟨loc',?_⟩;have a0:Conc C B F0 w0 F loc' ⟨upd st.tmps s (.arr key),objs',d⟩ a w:=by
  refine⟨h1.prog,h1.below,h1.hB,h1.defers,?_,λu hu=>?_,h1.objs,h1.inj,h1.fresh,h1.bound,h1.fsub,h1.fsup,h1.inv⟩
  ·--slot s:read from the old state
   have hs0:s<st.tmps.length:=by
    rcases cg s st.tmps.length with h|h
    .exact h
    .rw[qC _ h]at hs;simp at hs
   have a2:CV loc' objs' w F (.arr key) (nth undef a.tmps.toList s):=by
    have h0:=h.tmps.nth .any undef _ _ s hs0;rw[hs]at h0;intro s' es' fz' hc;rw[hn,if_pos rfl]at hc;simp only[I1]at hc;obtain⟨rfl,rfl,rfl⟩:=hc;have:=h0 sz es false hk
    simpa [loc']using this
   have hlen:=h.tmps.length;have:upd a.tmps.toList s (nth undef a.tmps.toList s)=a.tmps.toList:=VK undef _ _ _ rfl;have h2:=All2.upd (i:=s) a2 h1.tmps;rw[this]at h2;exact h2
  .rcases xJ hu with hu|rfl
   .exact h1.refs u hu
   .show nth .none objs' key≠ .none;rw[hn];simp
 exact a0
theorem Conc.moveN {s k key sz n:Nat} {es:List (List D)} {d:List Nat} (h:Conc C B F0 w0 F loc st a w) (hs:nth .any st.tmps s= .sub k 0 n) (hk:nth .none st.objs k= .arr sz es false) (hkey:nth .none st.objs key= .none) (hlt:key<st.objs.length):
 ∃loc',Conc C B F0 w0 F loc' ⟨upd st.tmps s (.arr key),upd (upd st.objs k .dead) key (.arr sz (es.take n) false),d⟩ a w:=by
 have hnl:n<=es.length:=by
  have hlt:s<st.tmps.length:=by
   rcases cg s st.tmps.length with h1|h1
   .exact h1
   .rw[qC _ h1]at hs;simp at hs
  have hc:=h.tmps.nth .any default _ _ _ hlt;rw[hs]at hc;rcases hc _ _ _ hk with⟨b,c,q1,q2,q3⟩|⟨_,_,_,_,h0,_⟩|⟨_,h0,_⟩
  .omega
  .omega
  .omega
 have hne:k≠key:=λe=>by subst e;rw[hk]at hkey;simp at hkey
 have a1:k<st.objs.length:=by
  rcases cg k st.objs.length with h|h
  .exact h
  .rw[qC _ h]at hk;simp at hk
 have hn:∀j,nth .none (upd (upd st.objs k .dead) key (.arr sz (es.take n) false)) j=if j=key then .arr sz (es.take n) false else if j=k then .dead else nth .none st.objs j:=λj=>by
  by_cases h1:j=key
  .subst h1;rw[qb _ _ _ (by rw[xh];simpa using hlt)];simp
  .rw[qa _ _ _ (dv h1),if_neg h1];by_cases h2:j=k
   .subst h2;rw[qb _ _ _ a1];simp
   .rw[qa _ _ _ (dv h2),if_neg h2]
 generalize hob:upd (upd st.objs k .dead) key (.arr sz (es.take n) false)=objs' at *
 let loc':Where:=⟨loc.P,λj=>if j=key then loc k else if j=k then none else loc j,λj=>if j=key then loc.ty k else loc.ty j⟩
 have a3:Le st.objs objs' loc loc':=by
  refine⟨rfl,λj hj=>by
   have:j≠key:=λe=>by subst e;exact hj hkey
   simp[loc',this],λj hj=>?_,λj o' hj hc hbx=>?_,λj s' es' fz' hj hc=>?_⟩
  .rw[hn];split
   .simp
   .split
    .simp
    .exact hj
  .rw[hn]at hc;split at hc
   .rw[<-hc]at hbx;simp[xD]at hbx
   .split at hc
    .rw[<-hc]at hbx;simp[xD]at hbx
    .rename_i e1 e2;exact⟨by rw[hc];exact hbx,by simp[loc',e1,e2]⟩
  .rw[hn]at hc;split at hc
   .rename_i e;rw[e]at hj;exact absurd hkey hj
   .split at hc
    .simp at hc
    .exact⟨⟨_,_,hc,rfl⟩,by simp[loc', *]⟩
 have hlk:loc key=none:=by have:=h.objs key;rw[hkey]at this;exact this
 have h1:Conc C B F0 w0 F loc' ⟨st.tmps,objs',d⟩ a w:=by
  refine h.relocate a3 (λj=>?_) ?_ ?_
  .rw[hn];split
   .rename_i e;have h0:=h.objs k;rw[hk]at h0;obtain⟨q1,q2,q3,q4⟩:=h0;have a4:(es.take n).length=n:=by rw[List.length_take];omega
    refine⟨q1.le (by omega),q2,λe' he'=>q3 e' (be he'),?_⟩;simp only[loc',e,if_pos];rcases q4 with⟨q4,q5⟩|⟨b,c,cs,t,q4,q5,q6,q7,q8,q9,q10⟩
    .exact .inl ⟨q4,by rw[q5];simp⟩
    .refine .inr ⟨b,c,cs,t,q4,q5,q6,q7,by omega,λj hj=>?_,q10⟩;rw[a4]at hj;have hj2:j<es.length*sz:=Nat.lt_of_lt_of_le hj (Nat.mul_le_mul_right sz hnl);obtain⟨v,r1,r2⟩:=q9 j hj2;refine⟨v,r1,?_⟩;have hfl:(es.take n).flatten.length=n*sz:=by rw[qn (λe' he'=>q3 e' (be he')),a4]
     have hsp:es.flatten=(es.take n).flatten++(es.drop n).flatten:=by rw[<-List.flatten_append,List.take_append_drop]
     have:nth .undef (es.take n).flatten j=nth .undef es.flatten j:=by rw[hsp,qw,qw,W2 (by omega)]
     rw[this];exact r2
   .split
    .rename_i e;show loc' j=none;simp[loc',e,hne]
    .rename_i e1 e2;exact Hx (λ_ h=>h) (λ_ _=>rfl) a3 (by simp[loc',e1,e2]) (by simp[loc',e1]) (λ_ _ _=>⟨rfl,λh=>h⟩) (h.objs j)
  .intro j j' b c c' g1 g2;simp only[loc']at g1 g2;split at g1<;>split at g2
   .rw[‹j=key›,‹j'=key›]
   .split at g2
    .simp at g2
    .exact absurd (h.inj _ _ _ _ _ g1 g2).symm ‹_›
   .split at g1
    .simp at g1
    .exact absurd (h.inj _ _ _ _ _ g1 g2) ‹_›
   .split at g1
    .simp at g1
    .split at g2
     .simp at g2
     .exact h.inj _ _ _ _ _ g1 g2
  .intro j b c g1;simp only[loc']at g1;split at g1
   .exact h.fresh _ _ _ g1
   .split at g1
    .simp at g1
    .exact h.fresh _ _ _ g1
 refine⟨loc',?_⟩;have a0:Conc C B F0 w0 F loc' ⟨upd st.tmps s (.arr key),objs',d⟩ a w:=by
  refine⟨h1.prog,h1.below,h1.hB,h1.defers,?_,λu hu=>?_,h1.objs,h1.inj,h1.fresh,h1.bound,h1.fsub,h1.fsup,h1.inv⟩
  ·--slot s:read from the old state
   have hs0:s<st.tmps.length:=by
    rcases cg s st.tmps.length with h|h
    .exact h
    .rw[qC _ h]at hs;simp at hs
   have a2:CV loc' objs' w F (.arr key) (nth undef a.tmps.toList s):=by
    have h0:=h.tmps.nth .any undef _ _ s hs0;rw[hs]at h0;intro s' es' fz' hc;rw[hn,if_pos rfl]at hc;simp only[I1]at hc;obtain⟨rfl,rfl,rfl⟩:=hc;rcases h0 sz es false hk with⟨b,c,e1,e2,e3⟩|⟨_,e1,e2,_,_,e3⟩|⟨_,e1,_⟩
    .refine .inl ⟨b,c,by simpa [loc']using e1,?_⟩;rw[e3];simp;omega
    .refine .inr ⟨by simpa [loc']using e1,by rw[e2];simp,e3⟩
    .omega
   have hlen:=h.tmps.length;have:upd a.tmps.toList s (nth undef a.tmps.toList s)=a.tmps.toList:=VK undef _ _ _ rfl;have h2:=All2.upd (i:=s) a2 h1.tmps;rw[this]at h2;exact h2
  .rcases xJ hu with hu|rfl
   .exact h1.refs u hu
   .show nth .none objs' key≠ .none;rw[hn];simp
 exact a0
theorem Conc.nilOwn {s key sz:Nat} {d:List Nat} (h:Conc C B F0 w0 F loc st a w) (hs:nth .any st.tmps s= .nilS) (hkey:nth .none st.objs key= .none) (hlt:key<st.objs.length) (hsz:0<sz):
 Conc C B F0 w0 F loc ⟨upd st.tmps s (.arr key),upd st.objs key (.arr sz [] false),d⟩ a w:=by
 have a1:loc key=none:=by have:=h.objs key;rw[hkey]at this;exact this
 have a0:Le st.objs (upd st.objs key (.arr sz [] false)) loc loc:=by
  refine⟨rfl,λ_ _=>rfl,λj hj=>?_,λj o' hj hc hbx=>?_,λj s' es' fz' hj hc=>?_⟩
  .rw[xS];split
   .simp
   .exact hj
  .rw[xS]at hc;split at hc
   .rw[<-hc]at hbx;simp[xD]at hbx
   .exact⟨by rw[hc];exact hbx,rfl⟩
  .rw[xS]at hc;split at hc
   .rename_i e;rw[<-e.1]at hj;exact absurd hkey hj
   .exact⟨⟨_,_,hc,rfl⟩,rfl⟩
 have h1:Conc C B F0 w0 F loc ⟨st.tmps,upd st.objs key (.arr sz [] false),d⟩ a w:=by
  refine h.relocate a0 (λj=>?_) h.inj h.fresh;by_cases hj:key=j
  .subst hj;rw[qb _ _ _ hlt];exact⟨by simp[roomS],hsz,λe he=>by simp at he,.inl ⟨a1,rfl⟩⟩
  .rw[qa _ _ _ hj];exact Hx (λ_ h=>h) (λ_ _=>rfl) a0 rfl rfl (λ_ _ _=>⟨rfl,λh=>h⟩) (h.objs j)
 have h2:=h1.weakT (t:=s) (v:= .arr key) (d:=d) (λx hx=>by
  have hx:CV loc (upd st.objs key (.arr sz [] false)) w F (nth .any st.tmps s) x:=hx;rw[hs]at hx;intro s' es' fz' hc;change nth .none (upd st.objs key (.arr sz [] false)) key=_ at hc;rw[qb _ _ _ hlt]at hc;simp only[I1]at hc;obtain⟨_,rfl,_⟩:=hc;exact .inr ⟨a1,rfl,hx⟩) (by
   show nth .none (upd st.objs key (.arr sz [] false)) key≠ .none;rw[qb _ _ _ hlt];simp)
 exact h2
theorem Conc.moveM {k j key sz i0:Nat} {cells:List V} {es:List (List D)} {d:List Nat} (h:Conc C B F0 w0 F loc st a w) (hk:nth .none st.objs k= .box cells) (hi:nth .any cells i0= .arr j) (hj:nth .none st.objs j= .arr sz es false) (hkey:nth .none st.objs key= .none) (hlt:key<st.objs.length):
 ∃loc',Conc C B F0 w0 F loc' ⟨st.tmps,upd (upd (upd st.objs j .dead) key (.arr sz es false)) k (.box (upd cells i0 (.arr key))),d⟩ a w:=by
 have hne:j≠key:=λe=>by subst e;rw[hj]at hkey;simp at hkey
 have a0:k≠key:=λe=>by subst e;rw[hk]at hkey;simp at hkey
 have a2:k≠j:=λe=>by subst e;rw[hk]at hj;simp at hj
 have a1:j<st.objs.length:=by
  rcases cg j st.objs.length with h|h
  .exact h
  .rw[qC _ h]at hj;simp at hj
 have a3:k<st.objs.length:=by
  rcases cg k st.objs.length with h|h
  .exact h
  .rw[qC _ h]at hk;simp at hk
 have hn:∀i,nth .none (upd (upd (upd st.objs j .dead) key (.arr sz es false)) k (.box (upd cells i0 (.arr key)))) i=if i=k then .box (upd cells i0 (.arr key))else if i=key then .arr sz es false else if i=j then .dead else nth .none st.objs i:=λi=>by
  by_cases h0:i=k
  .subst h0;rw[qb _ _ _ (by rw[qj,qj];exact a3)];simp
  .rw[qa _ _ _ (dv h0),if_neg h0];by_cases h1:i=key
   .subst h1;rw[qb _ _ _ (by rw[qj];exact hlt)];simp
   .rw[qa _ _ _ (dv h1),if_neg h1];by_cases h2:i=j
    .subst h2;rw[qb _ _ _ a1];simp
    .rw[qa _ _ _ (dv h2),if_neg h2]
 generalize hob:upd (upd (upd st.objs j .dead) key (.arr sz es false)) k (.box (upd cells i0 (.arr key)))=objs' at *
 let loc':Where:=⟨loc.P,λi=>if i=key then loc j else if i=j then none else loc i,λi=>if i=key then loc.ty j else loc.ty i⟩
 have a4:Le st.objs objs' loc loc':=by
  refine⟨rfl,λi hi=>by
   have:i≠key:=λe=>by subst e;exact hi hkey
   simp[loc',this],λi hi=>?_,λi o' hi hc hbx=>?_,λi s' es' fz' hi hc=>?_⟩
  .rw[hn];split
   .simp
   .split
    .simp
    .split
     .simp
     .exact hi
  .rw[hn]at hc;split at hc
   .rename_i e0;subst e0;exact⟨by rw[hk];rfl,by simp[loc',a0,a2]⟩
   .split at hc
    .rw[<-hc]at hbx;simp[xD]at hbx
    .split at hc
     .rw[<-hc]at hbx;simp[xD]at hbx
     .rename_i e1 e2;exact⟨by rw[hc];exact hbx,by simp[loc',e1,e2]⟩
  .rw[hn]at hc;split at hc
   .simp at hc
   .split at hc
    .rename_i e;rw[e]at hi;exact absurd hkey hi
    .split at hc
     .simp at hc
     .exact⟨⟨_,_,hc,rfl⟩,by simp[loc', *]⟩
 refine⟨loc',h.relocate a4 (λi=>?_) ?_ ?_⟩
 .rw[hn];split
  .rename_i e0;subst e0;have h0:=h.objs i;rw[hk]at h0;have a5:=h0;have h0:=Hx (F':=F) (w':=w) (λ_ h=>h) (λ_ _=>rfl) a4 (show loc' i=loc i by simp[loc',a0,a2]) (show loc'.ty i=loc.ty i by simp[loc',a0]) (λ_ _ _=>⟨rfl,λh=>h⟩) h0;obtain⟨b0,c0,cs0,t0,r1,_,r3,r4,_⟩:=a5;obtain⟨b,c,cs,t,h1,h2,h3,h4,h5⟩:=h0;have hbb:b0=b/\c0=c:=by
    have:loc' i=loc i:=by simp[loc',a0,a2]
    rw[this,r1]at h1
    simpa using h1
   obtain⟨rfl,rfl⟩:=hbb;rw[r3]at h3;simp only[ea,J4]at h3;obtain⟨rfl,rfl,_⟩:=h3;refine⟨b0,c0,cs0,t0,h1,h2,r3,?_,?_⟩
   .refine yC .any i0 (λx hx=>⟨?_,hx.2⟩) r4 h4;rw[hi]at hx;intro s' es' fz' hc;rw[hn,if_neg (dv a0),if_pos rfl]at hc;simp only[I1]at hc;obtain⟨rfl,rfl,rfl⟩:=hc;have:=hx.1 _ _ _ hj
    simpa [loc']using this
   .intro v hv;rcases xJ hv with hv|rfl
    .exact h5 v hv
    .show nth .none objs' key≠ .none;rw[hn,if_neg (dv a0),if_pos rfl];simp
  .rename_i e0;split
   .rename_i e;have h0:=h.objs j;rw[hj]at h0;obtain⟨q1,q2,q3,q4⟩:=h0;refine⟨q1,q2,q3,?_⟩;simp only[loc',e,if_pos];exact q4
   .split
    .rename_i e;show loc' i=none;simp[loc',e,hne]
    .rename_i e1 e2;exact Hx (λ_ h=>h) (λ_ _=>rfl) a4 (by simp[loc',e1,e2]) (by simp[loc',e1]) (λ_ _ _=>⟨rfl,λh=>h⟩) (h.objs i)
 .intro i i' b c c' g1 g2;simp only[loc']at g1 g2;split at g1<;>split at g2
  .rw[‹i=key›,‹i'=key›]
  .split at g2
   .simp at g2
   .exact absurd (h.inj _ _ _ _ _ g1 g2).symm ‹_›
  .split at g1
   .simp at g1
   .exact absurd (h.inj _ _ _ _ _ g1 g2) ‹_›
  .split at g1
   .simp at g1
   .split at g2
    .simp at g2
    .exact h.inj _ _ _ _ _ g1 g2
 .intro i b c g1;simp only[loc']at g1;split at g1
  .exact h.fresh _ _ _ g1
  .split at g1
   .simp at g1
   .exact h.fresh _ _ _ g1
theorem Conc.nilM {k key sz i0:Nat} {cells:List V} {d:List Nat} (h:Conc C B F0 w0 F loc st a w) (hk:nth .none st.objs k= .box cells) (hi:nth .any cells i0= .nilS) (hkey:nth .none st.objs key= .none) (hlt:key<st.objs.length) (hsz:0<sz):
 Conc C B F0 w0 F loc ⟨st.tmps,upd (upd st.objs key (.arr sz [] false)) k (.box (upd cells i0 (.arr key))),d⟩ a w:=by
 have a3:k≠key:=λe=>by subst e;rw[hk]at hkey;simp at hkey
 have a0:k<st.objs.length:=by
  rcases cg k st.objs.length with h|h
  .exact h
  .rw[qC _ h]at hk;simp at hk
 have a4:loc key=none:=by have:=h.objs key;rw[hkey]at this;exact this
 have hn:∀i,nth .none (upd (upd st.objs key (.arr sz [] false)) k (.box (upd cells i0 (.arr key)))) i=if i=k then .box (upd cells i0 (.arr key))else if i=key then .arr sz [] false else nth .none st.objs i:=λi=>by
  by_cases h0:i=k
  .subst h0;rw[qb _ _ _ (by rw[qj];exact a0)];simp
  .rw[qa _ _ _ (dv h0),if_neg h0];by_cases h1:i=key
   .subst h1;rw[qb _ _ _ hlt];simp
   .rw[qa _ _ _ (dv h1),if_neg h1]
 generalize hob:upd (upd st.objs key (.arr sz [] false)) k (.box (upd cells i0 (.arr key)))=objs' at *;have a1:Le st.objs objs' loc loc:=by
  refine⟨rfl,λi hi=>rfl,λi hi=>?_,λi o' hi hc hbx=>?_,λi s' es' fz' hi hc=>?_⟩
  .rw[hn];split
   .simp
   .split
    .simp
    .exact hi
  .rw[hn]at hc;split at hc
   .rename_i e0;subst e0;exact⟨by rw[hk];rfl,rfl⟩
   .split at hc
    .rw[<-hc]at hbx;simp[xD]at hbx
    .exact⟨by rw[hc];exact hbx,rfl⟩
  .rw[hn]at hc;split at hc
   .simp at hc
   .split at hc
    .rename_i e;rw[e]at hi;exact absurd hkey hi
    .exact⟨⟨_,_,hc,rfl⟩,rfl⟩
 refine h.relocate a1 (λi=>?_) h.inj h.fresh;rw[hn];split
 .rename_i e0;subst e0;have h0:=h.objs i;rw[hk]at h0;have a2:=h0;have h0:=Hx (F':=F) (w':=w) (λ_ h=>h) (λ_ _=>rfl) a1 rfl rfl (λ_ _ _=>⟨rfl,λh=>h⟩) h0;obtain⟨b0,c0,cs0,t0,r1,_,r3,r4,_⟩:=a2;obtain⟨b,c,cs,t,h1,h2,h3,h4,h5⟩:=h0;have hbb:b0=b/\c0=c:=by
   rw[r1]at h1
   simpa using h1
  obtain⟨rfl,rfl⟩:=hbb;rw[r3]at h3;simp only[ea,J4]at h3;obtain⟨rfl,rfl,_⟩:=h3;refine⟨b0,c0,cs0,t0,h1,h2,r3,?_,?_⟩
  .refine yC .any i0 (λx hx=>⟨?_,hx.2⟩) r4 h4;rw[hi]at hx;intro s' es' fz' hc;rw[hn,if_neg (dv a3),if_pos rfl]at hc;simp only[I1]at hc;obtain⟨rfl,rfl,rfl⟩:=hc;exact .inr ⟨a4,rfl,hx.1⟩
  .intro v hv;rcases xJ hv with hv|rfl
   .exact h5 v hv
   .show nth .none objs' key≠ .none;rw[hn,if_neg (dv a3),if_pos rfl];simp
 .split
  .rename_i e;subst e;exact⟨by simp[roomS],hsz,λe he=>by simp at he,.inl ⟨a4,rfl⟩⟩
  .exact Hx (λ_ h=>h) (λ_ _=>rfl) a1 rfl rfl (λ_ _ _=>⟨rfl,λh=>h⟩) (h.objs i)
theorem Conc.dataM {k i0:Nat} {cells:List V} {d:List Nat} (h:Conc C B F0 w0 F loc st a w) (hk:nth .none st.objs k= .box cells) (hi:nth .any cells i0= .nilS):
 Conc C B F0 w0 F loc ⟨st.tmps,upd st.objs k (.box (upd cells i0 (.c (.sl [])))),d⟩ a w:=by
 have a0:k<st.objs.length:=by
  rcases cg k st.objs.length with h|h
  .exact h
  .rw[qC _ h]at hk;simp at hk
 have hn:∀i,nth .none (upd st.objs k (.box (upd cells i0 (.c (.sl []))))) i=if i=k then .box (upd cells i0 (.c (.sl [])))else nth .none st.objs i:=λi=>by
  by_cases h0:i=k
  .subst h0;rw[qb _ _ _ a0];simp
  .rw[qa _ _ _ (dv h0),if_neg h0]
 generalize hob:upd st.objs k (.box (upd cells i0 (.c (.sl []))))=objs' at *;have a1:Le st.objs objs' loc loc:=by
  refine⟨rfl,λi hi=>rfl,λi hi=>?_,λi o' hi hc hbx=>?_,λi s' es' fz' hi hc=>?_⟩
  .rw[hn];split
   .simp
   .exact hi
  .rw[hn]at hc;split at hc
   .rename_i e0;subst e0;exact⟨by rw[hk];rfl,rfl⟩
   .exact⟨by rw[hc];exact hbx,rfl⟩
  .rw[hn]at hc;split at hc
   .simp at hc
   .exact⟨⟨_,_,hc,rfl⟩,rfl⟩
 refine h.relocate a1 (λi=>?_) h.inj h.fresh;rw[hn];split
 .rename_i e0;subst e0;have h0:=h.objs i;rw[hk]at h0;have a2:=h0;have h0:=Hx (F':=F) (w':=w) (λ_ h=>h) (λ_ _=>rfl) a1 rfl rfl (λ_ _ _=>⟨rfl,λh=>h⟩) h0;obtain⟨b0,c0,cs0,t0,r1,_,r3,r4,_⟩:=a2;obtain⟨b,c,cs,t,h1,h2,h3,h4,h5⟩:=h0;have hbb:b0=b/\c0=c:=by
   rw[r1]at h1
   simpa using h1
  obtain⟨rfl,rfl⟩:=hbb;rw[r3]at h3;simp only[ea,J4]at h3;obtain⟨rfl,rfl,_⟩:=h3;refine⟨b0,c0,cs0,t0,h1,h2,r3,?_,?_⟩
  .refine yC .any i0 (λx hx=>⟨?_,hx.2⟩) r4 h4;rw[hi]at hx;have h2:x= .slice none 0 0:=hx.1;subst h2;exact CD.nil _ _
  .intro v hv;rcases xJ hv with hv|rfl
   .exact h5 v hv
   .trivial
 .exact Hx (λ_ h=>h) (λ_ _=>rfl) a1 rfl rfl (λ_ _ _=>⟨rfl,λh=>h⟩) (h.objs i)
theorem Conc.moveB {k j key T sz:Nat} {es:List (List D)} {d:List Nat} (h:Conc C B F0 w0 F loc st a w) (hk:nth .none st.objs k= .bld T (.arr j)) (hj:nth .none st.objs j= .arr sz es false) (hkey:nth .none st.objs key= .none) (hlt:key<st.objs.length):
 ∃loc',Conc C B F0 w0 F loc' ⟨st.tmps,upd (upd (upd st.objs j .dead) key (.arr sz es false)) k (.bld T (.arr key)),d⟩ a w:=by
 have hne:j≠key:=λe=>by subst e;rw[hj]at hkey;simp at hkey
 have a0:k≠key:=λe=>by subst e;rw[hk]at hkey;simp at hkey
 have a3:k≠j:=λe=>by subst e;rw[hk]at hj;simp at hj
 have a1:j<st.objs.length:=by
  rcases cg j st.objs.length with h|h
  .exact h
  .rw[qC _ h]at hj;simp at hj
 have a2:k<st.objs.length:=by
  rcases cg k st.objs.length with h|h
  .exact h
  .rw[qC _ h]at hk;simp at hk
 have hn:∀i,nth .none (upd (upd (upd st.objs j .dead) key (.arr sz es false)) k (.bld T (.arr key))) i=if i=k then .bld T (.arr key)else if i=key then .arr sz es false else if i=j then .dead else nth .none st.objs i:=λi=>by
  by_cases h0:i=k
  .subst h0;rw[qb _ _ _ (by rw[qj,qj];exact a2)];simp
  .rw[qa _ _ _ (dv h0),if_neg h0];by_cases h1:i=key
   .subst h1;rw[qb _ _ _ (by rw[qj];exact hlt)];simp
   .rw[qa _ _ _ (dv h1),if_neg h1];by_cases h2:i=j
    .subst h2;rw[qb _ _ _ a1];simp
    .rw[qa _ _ _ (dv h2),if_neg h2]
 generalize hob:upd (upd (upd st.objs j .dead) key (.arr sz es false)) k (.bld T (.arr key))=objs' at *
 let loc':Where:=⟨loc.P,λi=>if i=key then loc j else if i=j then none else loc i,λi=>if i=key then loc.ty j else loc.ty i⟩
 have a4:Le st.objs objs' loc loc':=by
  refine⟨rfl,λi hi=>by
   have:i≠key:=λe=>by subst e;exact hi hkey
   simp[loc',this],λi hi=>?_,λi o' hi hc hbx=>?_,λi s' es' fz' hi hc=>?_⟩
  .rw[hn];split
   .simp
   .split
    .simp
    .split
     .simp
     .exact hi
  .rw[hn]at hc;split at hc
   .rename_i e0;subst e0;exact⟨by rw[hk];rfl,by simp[loc',a0,a3]⟩
   .split at hc
    .rw[<-hc]at hbx;simp[xD]at hbx
    .split at hc
     .rw[<-hc]at hbx;simp[xD]at hbx
     .rename_i e1 e2;exact⟨by rw[hc];exact hbx,by simp[loc',e1,e2]⟩
  .rw[hn]at hc;split at hc
   .simp at hc
   .split at hc
    .rename_i e;rw[e]at hi;exact absurd hkey hi
    .split at hc
     .simp at hc
     .exact⟨⟨_,_,hc,rfl⟩,by simp[loc', *]⟩
 refine⟨loc',h.relocate a4 (λi=>?_) ?_ ?_⟩
 .rw[hn];split
  .rename_i e0;subst e0;have h0:=h.objs i;rw[hk]at h0;obtain⟨b,c,p,v,h1,h2,h3,h4,h5,h6,h7⟩:=h0;refine⟨b,c,p,v,by simp[loc',a0,a3,h1],h2,h3,h4,?_,?_,?_⟩
   .intro s' es' fz' hc;rw[hn,if_neg (dv a0),if_pos rfl]at hc;simp only[I1]at hc;obtain⟨rfl,rfl,rfl⟩:=hc;have:=h5 _ _ _ hj
    simpa [loc']using this
   .show nth .none objs' key≠ .none;rw[hn,if_neg (dv a0),if_pos rfl];simp
   .intro j' e;simp only[V.arr.injEq]at e;subst e;simp only[loc',if_pos];exact h7 j rfl
  .rename_i e0;split
   .rename_i e;have h0:=h.objs j;rw[hj]at h0;obtain⟨q1,q2,q3,q4⟩:=h0;refine⟨q1,q2,q3,?_⟩;simp only[loc',e,if_pos];exact q4
   .split
    .rename_i e;show loc' i=none;simp[loc',e,hne]
    .rename_i e1 e2;exact Hx (λ_ h=>h) (λ_ _=>rfl) a4 (by simp[loc',e1,e2]) (by simp[loc',e1]) (λ_ _ _=>⟨rfl,λh=>h⟩) (h.objs i)
 .intro i i' b c c' g1 g2;simp only[loc']at g1 g2;split at g1<;>split at g2
  .rw[‹i=key›,‹i'=key›]
  .split at g2
   .simp at g2
   .exact absurd (h.inj _ _ _ _ _ g1 g2).symm ‹_›
  .split at g1
   .simp at g1
   .exact absurd (h.inj _ _ _ _ _ g1 g2) ‹_›
  .split at g1
   .simp at g1
   .split at g2
    .simp at g2
    .exact h.inj _ _ _ _ _ g1 g2
 .intro i b c g1;simp only[loc']at g1;split at g1
  .exact h.fresh _ _ _ g1
  .split at g1
   .simp at g1
   .exact h.fresh _ _ _ g1
theorem Conc.nilB {k key T:Nat} {d:List Nat} (h:Conc C B F0 w0 F loc st a w) (hk:nth .none st.objs k= .bld T .nilS) (hkey:nth .none st.objs key= .none) (hlt:key<st.objs.length):
 ∃loc',Conc C B F0 w0 F loc' ⟨st.tmps,upd (upd st.objs key (.arr 1 [] false)) k (.bld T (.arr key)),d⟩ a w:=by
 have a1:k≠key:=λe=>by subst e;rw[hk]at hkey;simp at hkey
 have a0:k<st.objs.length:=by
  rcases cg k st.objs.length with h|h
  .exact h
  .rw[qC _ h]at hk;simp at hk
 have a3:loc key=none:=by have:=h.objs key;rw[hkey]at this;exact this
 have hn:∀i,nth .none (upd (upd st.objs key (.arr 1 [] false)) k (.bld T (.arr key))) i=if i=k then .bld T (.arr key)else if i=key then .arr 1 [] false else nth .none st.objs i:=λi=>by
  by_cases h0:i=k
  .subst h0;rw[qb _ _ _ (by rw[qj];exact a0)];simp
  .rw[qa _ _ _ (dv h0),if_neg h0];by_cases h1:i=key
   .subst h1;rw[qb _ _ _ hlt];simp
   .rw[qa _ _ _ (dv h1),if_neg h1]
 generalize hob:upd (upd st.objs key (.arr 1 [] false)) k (.bld T (.arr key))=objs' at *
 let loc':Where:=⟨loc.P,loc.at',λi=>if i=key then UZ loc.P T else loc.ty i⟩
 have a2:Le st.objs objs' loc loc':=by
  refine⟨rfl,λi hi=>by
   have:i≠key:=λe=>by subst e;exact hi hkey
   simp[loc',this],λi hi=>?_,λi o' hi hc hbx=>?_,λi s' es' fz' hi hc=>?_⟩
  .rw[hn];split
   .simp
   .split
    .simp
    .exact hi
  .rw[hn]at hc;split at hc
   .rename_i e0;subst e0;exact⟨by rw[hk];rfl,rfl⟩
   .split at hc
    .rw[<-hc]at hbx;simp[xD]at hbx
    .exact⟨by rw[hc];exact hbx,rfl⟩
  .rw[hn]at hc;split at hc
   .simp at hc
   .split at hc
    .rename_i e;rw[e]at hi;exact absurd hkey hi
    .exact⟨⟨_,_,hc,rfl⟩,rfl⟩
 refine⟨loc',h.relocate a2 (λi=>?_) h.inj h.fresh⟩;rw[hn];split
 .rename_i e0;subst e0;have h0:=h.objs i;rw[hk]at h0;obtain⟨b,c,p,v,h1,h2,h3,h4,h5,h6,h7⟩:=h0;have h5:v= .slice none 0 0:=h5;refine⟨b,c,p,v,h1,h2,h3,h4,?_,?_,?_⟩
  .intro s' es' fz' hc;rw[hn,if_neg (dv a1),if_pos rfl]at hc;simp only[I1]at hc;obtain⟨rfl,rfl,rfl⟩:=hc;exact .inr ⟨a3,rfl,h5⟩
  .show nth .none objs' key≠ .none;rw[hn,if_neg (dv a1),if_pos rfl];simp
  .intro j' e;simp only[V.arr.injEq]at e;subst e;simp only[loc',if_pos]
 .rename_i e0;split
  .rename_i e;subst e;exact⟨by simp[roomS],by omega,λe he=>by simp at he,.inl ⟨a3,rfl⟩⟩
  .rename_i e1;exact Hx (λ_ h=>h) (λ_ _=>rfl) a2 rfl (by simp[loc',e1]) (λ_ _ _=>⟨rfl,λh=>h⟩) (h.objs i)
theorem kK {loc:Where} {objs:List Obj}:∀{cells:List V} {ds:List D},qB cells=some ds->∀{cs:List Value},All2 (λv x=>CV loc objs w F v x/\x.oneCell'=true) cells cs->All2 (λv x=>CV loc objs w F v x/\x.oneCell'=true) (ds.map V.c) cs
 |[],ds,h,cs,hc=>by simp only[qB,ea]at h;subst h;exact hc
 |v::r,ds,h,[],hc=>hc.elim
 |v::r,ds,h,x::cs,hc=>by
  unfold qB at h;split at h
  .simp_all
  .rename_i d r' heq;simp only[List.cons.injEq]at heq;obtain⟨rfl,rfl⟩:=heq;rw[Option.map_eq_some_iff]at h;obtain⟨ds',h1,rfl⟩:=h;exact⟨hc.1,kK h1 hc.2⟩
  .rename_i r' heq;simp only[List.cons.injEq]at heq;obtain⟨rfl,rfl⟩:=heq;rw[Option.map_eq_some_iff]at h;obtain⟨ds',h1,rfl⟩:=h;refine⟨⟨?_,hc.1.2⟩,kK h1 hc.2⟩;have h2:x= .slice none 0 0:=hc.1.1;subst h2;exact CD.nil _ _
  .simp at h
theorem Conc.boxData {k:Nat} {cells:List V} {ds:List D} {d:List Nat} (h:Conc C B F0 w0 F loc st a w) (hk:nth .none st.objs k= .box cells) (hd:qB cells=some ds):
 Conc C B F0 w0 F loc ⟨st.tmps,upd st.objs k (.box (ds.map V.c)),d⟩ a w:=by
 have hlt:k<st.objs.length:=by
  rcases cg k st.objs.length with h|h
  .exact h
  .rw[qC _ h]at hk;simp at hk
 have a0:Le st.objs (upd st.objs k (.box (ds.map V.c))) loc loc:=by
  refine⟨rfl,λ_ _=>rfl,λj hj=>?_,λj o' hj hc hbx=>?_,λj s' es' fz' hj hc=>?_⟩
  .rw[xS];split
   .simp
   .exact hj
  .rw[xS]at hc;split at hc
   .rename_i e;rw[<-e.1];exact⟨by rw[hk];rfl,rfl⟩
   .exact⟨by rw[hc];exact hbx,rfl⟩
  .rw[xS]at hc;split at hc
   .simp at hc
   .exact⟨⟨_,_,hc,rfl⟩,rfl⟩
 refine h.relocate a0 (λj=>?_) h.inj h.fresh;by_cases hj:k=j
 .subst hj;rw[qb _ _ _ hlt];have h0:=h.objs k;rw[hk]at h0;obtain⟨b,c,cs,t,h1,h2,h3,h4,h5⟩:=h0;refine⟨b,c,cs,t,h1,h2,h3,?_,λv hv=>?_⟩
  .exact(kK hd h4).mono_mem λv hv x hx=>⟨CV.le (λ_ h=>h) (λ_ _=>rfl) a0 (by
    obtain⟨y,_,rfl⟩:=Lv.1 hv;trivial) hx.1,hx.2⟩
  .obtain⟨y,_,rfl⟩:=Lv.1 hv;trivial
 .rw[qa _ _ _ hj];exact Hx (λ_ h=>h) (λ_ _=>rfl) a0 rfl rfl (λ_ _ _=>⟨rfl,λh=>h⟩) (h.objs j)
end
section
variable {C:Cx} {B:Bd} {F0:Nat->Prop} {w0:World} {a:Act} {w:World}
theorem Jf:∀(l:List Nat) {st:St},I2 C B F0 w0 st a w->I2 C B F0 w0 ⟨wD st.tmps l,st.objs,st.dirty⟩ a w
 |[],st,h=>h
 |s::r,st,h=>by obtain⟨F,loc,h⟩:=h;exact Jf r (st:=⟨upd st.tmps s .any,st.objs,st.dirty⟩) ⟨F,loc,h.weakT (λ_ _=>trivial) trivial⟩
theorem vX {key:Nat} {st:St} (hg:NY key st=true) (h:I2 C B F0 w0 st a w):key<st.objs.length/\I2 C B F0 w0 ⟨st.tmps,upd st.objs key .none,st.dirty⟩ a w/\(∀k,nth .none st.objs k≠ .none->nth .none st.objs k≠ .dead->k≠key):=by
 simp only[NY,Bx,Bool.not_eq_true',c3]at hg;obtain⟨⟨⟨h1,h2⟩,h3⟩,h4⟩:=hg;refine⟨h1,?_,λk hk hk' e=>?_⟩
 .obtain⟨F,loc,h⟩:=h;obtain⟨a0,h'⟩:=h.forgets (ks:=[key]) (objs':=upd st.objs key .none) (d:=st.dirty) (λk hk=>by
   simp only[Pl]at hk;subst hk;exact qb _ _ _ h1) (λk hk=>by
   simp only[Pl]at hk;exact qa _ _ _ (dv hk)) h3 (by
   have:∀(l:List Obj) (i:Nat),zj [key] l=false->zj [key] (upd l i .none)=false:=by
    intro l
    induction l with
    |nil=>intro i h;exact h
    |cons o l ih=>
     intro i h;cases i with
     |zero=>cases o<;>simp_all[zj,upd]
     |succ i=>cases o<;>simp_all[zj,upd]
   exact this _ _ h4)
  exact⟨F,a0,h'⟩
 .subst e;revert h2;cases hn:nth .none st.objs k<;>simp_all[RD]
structure Frame (mt:List Nat) (s s':St):Prop where
 lt:s'.tmps.length=s.tmps.length
 lo:s'.objs.length=s.objs.length
 tmps:∀t,t∉mt->nth .any s'.tmps t=nth .any s.tmps t
 objs:∀k,k∉s'.dirty->nth .none s'.objs k=nth .none s.objs k
 dirty:∀k,k∈s.dirty->k∈s'.dirty
omit [Env] in
theorem Frame.refl (mt:List Nat) (s:St):Frame mt s s:=⟨rfl,rfl,λ_ _=>rfl,λ_ _=>rfl,λ_ h=>h⟩
omit [Env] in
theorem Frame.trans {m m':List Nat} {s s' s'':St} (h:Frame m s s') (h':Frame m' s' s''):Frame (m++m') s s'':=
 ⟨h'.lt.trans h.lt,h'.lo.trans h.lo,λt ht=>by
  simp only[Lr,not_or]at ht;rw[h'.tmps t ht.2,h.tmps t ht.1],λk hk=>by rw[h'.objs k hk,h.objs k λhk'=>hk (h'.dirty k hk')],λk hk=>h'.dirty k (h.dirty k hk)⟩
omit [Env] in
theorem Frame.mono {m m':List Nat} {s s':St} (h:Frame m s s') (hm:∀t∈m,t∈m'):Frame m' s s':=
 ⟨h.lt,h.lo,λt ht=>h.tmps t λh'=>ht (hm t h'),h.objs,h.dirty⟩
omit [Env] in
theorem Frame.trans' {m:List Nat} {s s' s'':St} (h:Frame m s s') (h':Frame m s' s''):Frame m s s'':=(h.trans h').mono λt ht=>by simpa using ht
omit [Env] in
theorem ko:∀(l:List Nat) (tmps:List V),(wD tmps l).length=tmps.length
 |[],_=>rfl
 |s::r,tmps=>by simp only[wD];rw[ko r,qj]
omit [Env] in
theorem kp {t:Nat}:∀(l:List Nat) (tmps:List V),t∉l->nth .any (wD tmps l) t=nth .any tmps t
 |[],_,_=>rfl
 |s::r,tmps,h=>by simp only[wD];rw[kp r _ λh'=>h (by simp[h']),qa _ _ _ λe=>h (by simp[e])]
omit [Env] in
theorem yD {t:Nat}:∀(l:List Nat) (tmps:List V),t∈l\/nth .any tmps t= .any->nth .any (wD tmps l) t= .any
 |[],_,h=>by rcases h with h|h;exact absurd h (by simp);exact h
 |s::r,tmps,h=>by
  simp only[wD];refine yD r _ ?_;by_cases hs:s=t
  .subst hs;refine .inr ?_;rw[xS];split
   .rfl
   .rename_i hlt;rw[qC _ (by simpa using hlt)]
  .rcases h with h|h
   .rcases Lm.1 h with h|h
    .exact absurd h.symm hs
    .exact .inl h
   .exact .inr (by rw[qa _ _ _ hs];exact h)
omit [Env] in
theorem jG:∀(l:List Nat) (objs:List Obj),(jq objs l).length=objs.length
 |[],_=>rfl
 |s::r,objs=>by simp only[jq];rw[jG r,qj]
omit [Env] in
theorem zZ {t:Nat}:∀(l:List Nat) (objs:List Obj),t∉l->nth .none (jq objs l) t=nth .none objs t
 |[],_,_=>rfl
 |s::r,objs,h=>by simp only[jq];rw[zZ r _ λh'=>h (by simp[h']),qa _ _ _ λe=>h (by simp[e])]
omit [Env] in
theorem kq {t:Nat}:∀(l:List Nat) (objs:List Obj),t∈l\/nth .none objs t= .none->nth .none (jq objs l) t= .none
 |[],_,h=>by rcases h with h|h;exact absurd h (by simp);exact h
 |s::r,objs,h=>by
  simp only[jq];refine kq r _ ?_;by_cases hs:s=t
  .subst hs;refine .inr ?_;rw[xS];split
   .rfl
   .rename_i hlt;rw[qC _ (by simpa using hlt)]
  .rcases h with h|h
   .rcases Lm.1 h with h|h
    .exact absurd h.symm hs
    .exact .inl h
   .exact .inr (by rw[qa _ _ _ hs];exact h)
omit [Env] in
theorem T0 {α:Type} (d:α) {l l':List α} (hl:l.length=l'.length) (h:∀i,nth d l i=nth d l' i):l=l':=by
 apply bF hl;intro i h1 h2;have:=h i
 rwa [qk _ h1,qk _ h2]at this
omit [Env] in
theorem XN (l:List Nat):∀(i:Nat) (tmps:List V),(wE l i tmps).length=tmps.length
 |_,[]=>rfl
 |i,v::r=>by simp[wE,XN l (i+1) r]
omit [Env] in
theorem XO (l:List Nat):∀(i:Nat) (tmps:List V) (t:Nat),nth .any (wE l i tmps) t=if i+t∈l then .any else nth .any tmps t
 |_,[],_=>by simp[wE,nth]
 |i,v::r,0=>by
  simp only[wE,nth,cm];split
  .rename_i h;rw[if_pos (xk.1 h)]
  .rename_i h;rw[if_neg λhm=>by rw[xk.2 hm]at h;simp at h]
 |i,v::r,t+1=>by simp only[wE,nth];rw[XO l (i+1) r t,show i+1+t=i+(t+1)by omega]
omit [Env] in
theorem Jg (tmps:List V) (l:List Nat):Xt tmps l=wD tmps l:=by
 refine T0 .any ?_ λt=>?_
 .unfold Xt;rw[XN,ko]
 .unfold Xt;rw[XO,cp];by_cases h:t∈l
  .rw[if_pos h,yD _ _ (.inl h)]
  .rw[if_neg h,kp _ _ h]
omit [Env] in
theorem Q9 (l:List Nat):∀(i:Nat) (objs:List Obj),(jT l i objs).length=objs.length
 |_,[]=>rfl
 |i,v::r=>by simp[jT,Q9 l (i+1) r]
omit [Env] in
theorem QA (l:List Nat):∀(i:Nat) (objs:List Obj) (t:Nat),nth .none (jT l i objs) t=if i+t∈l then .none else nth .none objs t
 |_,[],_=>by simp[jT,nth]
 |i,v::r,0=>by
  simp only[jT,nth,cm];split
  .rename_i h;rw[if_pos (xk.1 h)]
  .rename_i h;rw[if_neg λhm=>by rw[xk.2 hm]at h;simp at h]
 |i,v::r,t+1=>by simp only[jT,nth];rw[QA l (i+1) r t,show i+1+t=i+(t+1)by omega]
omit [Env] in
theorem XP (objs:List Obj) (l:List Nat):kF objs l=jq objs l:=by
 refine T0 .none ?_ λt=>?_
 .unfold kF;rw[Q9,jG]
 .unfold kF;rw[QA,cp];by_cases h:t∈l
  .rw[if_pos h,kq _ _ (.inl h)]
  .rw[if_neg h,zZ _ _ h]
omit [Env] in
theorem yE {t:Nat} {l:List Nat}:∀{m:List Nat},t∈Hl m l↔t∈m/\t∉l
 |[]=>by simp[Hl]
 |x::r=>by
  unfold Hl;split
  .rename_i h;have:=xk.1 h;rw[yE];constructor
   .intro h;exact⟨by simp[h.1],h.2⟩
   .rintro⟨h1,h2⟩;rcases Lm.1 h1 with rfl|h1
    .exact absurd this h2
    .exact⟨h1,h2⟩
  .rename_i h;have hx:x∉l:=λhm=>by rw[xk.2 hm]at h;simp at h
   simp only[Lm];rw[yE];constructor
   .rintro(rfl|h)
    .exact⟨.inl rfl,hx⟩
    .exact⟨.inr h.1,h.2⟩
   .rintro⟨rfl|h,h'⟩
    .exact .inl rfl
    .exact .inr ⟨h,h'⟩
theorem Qj {k:Nat}:∀{ms:List MC} {i:Nat} {st m:St},Nz k ms i st=some m->k∈st.dirty->Frame [] st m/\(∀j∈xY ms,j∈m.dirty)/\(I2 C B F0 w0 st a w->I2 C B F0 w0 m a w)
 |[],i,st,m,h,hd=>by simp only[Nz,ea]at h;subst h;exact⟨Frame.refl _ _,λk hk=>by simp[xY]at hk,λh=>h⟩
 | .dat z::r,i,st,m,h,hd=>by
  simp only[Nz]at h;split at h
  .rename_i cells hk;split at h
   .rename_i hi;obtain⟨h1,h2,h3⟩:=Qj h (by simp);refine⟨Frame.trans' (s':=⟨st.tmps,upd st.objs k (.box (upd cells i (.c (.sl [])))),k::st.dirty⟩) ⟨rfl,by simp only[qj],λ_ _=>rfl,λj hj=>by
     simp only[Lm,not_or]at hj;exact qa _ _ _ (dv hj.1),λj hj=>by simp[hj]⟩ h1,h2,λhh=>h3 ?_⟩
    obtain⟨F,loc,hh⟩:=hh;exact⟨F,loc,hh.dataM hk hi⟩
   .obtain⟨h1,h2,h3⟩:=Qj h hd;exact⟨h1,h2,h3⟩
  .simp at h
 | .own key size::r,i,st,m,h,hd=>by
  have hkeys:∀{m:St},key∈m.dirty->(∀k∈xY r,k∈m.dirty)->∀j∈xY (.own key size::r),j∈m.dirty:=λh1 h3 j hj=>by
   simp only[xY,Lm]at hj;rcases hj with rfl|hj
   .exact h1
   .exact h3 j hj
  simp only[Nz]at h;split at h
  .rename_i cells hk;split at h
   .rename_i hi;split at h
    .rename_i hg;simp only[Bx,c3]at hg;obtain⟨h1,h2,h3⟩:=Qj h (by simp);refine⟨Frame.trans' (s':=⟨st.tmps,upd (upd st.objs key (.arr size [] false)) k (.box (upd cells i (.arr key))),key::k::st.dirty⟩) ⟨rfl,by simp only[qj],λ_ _=>rfl,λj hj=>by
      simp only[Lm,not_or]at hj;rw[qa _ _ _ (dv hj.2.1),qa _ _ _ (dv hj.1)],λj hj=>by simp[hj]⟩ h1,hkeys (h1.dirty _ (by simp)) h2,λhh=>h3 ?_⟩
     obtain⟨hlt,hh',hne⟩:=vX hg.1 hh;obtain⟨F,loc,hh'⟩:=hh';have hkk:k≠key:=hne k (by rw[hk];simp) (by rw[hk];simp);have this:=hh'.nilM (k:=k) (key:=key) (sz:=size) (i0:=i) (cells:=cells) (d:=key::k::st.dirty) (by
      show nth .none (upd st.objs key .none) k=_;rw[qa _ _ _ (dv hkk)];exact hk) hi (qb _ _ _ hlt) (by rw[qj];exact hlt) hg.2
     have he:upd (upd st.objs key .none) key (.arr size [] false)=upd st.objs key (.arr size [] false):=by simp[xh]
     simp only[he]at this;exact⟨F,loc,this⟩
    .simp at h
   .rename_i j hi;split at h
    .obtain⟨h1,h2,h3⟩:=Qj h (by simp);exact⟨Frame.trans' (s':=⟨st.tmps,st.objs,key::k::st.dirty⟩) ⟨rfl,rfl,λ_ _=>rfl,λ_ _=>rfl,λi hi=>by simp[hi]⟩ h1,hkeys (h1.dirty _ (by simp)) h2,λhh=>h3 (xc hh rfl rfl)⟩
    .split at h
     .rename_i sz es hj;split at h
      .rename_i hg;obtain⟨h1,h2,h3⟩:=Qj h (by simp);refine⟨Frame.trans' (s':=⟨st.tmps,upd (upd (upd st.objs j .dead) key (.arr sz es false)) k (.box (upd cells i (.arr key))),key::j::k::st.dirty⟩) ⟨rfl,by simp only[qj],λ_ _=>rfl,λi hi=>by
        simp only[Lm,not_or]at hi;rw[qa _ _ _ (dv hi.2.2.1),qa _ _ _ (dv hi.1),qa _ _ _ (dv hi.2.1)],λi hi=>by simp[hi]⟩ h1,
        hkeys (h1.dirty _ (by simp)) h2,λhh=>h3 ?_⟩
       obtain⟨hlt,hh',hne⟩:=vX hg hh;obtain⟨F,loc,hh'⟩:=hh';have hkk:k≠key:=hne k (by rw[hk];simp) (by rw[hk];simp);have a1:j≠key:=hne j (by rw[hj];simp) (by rw[hj];simp);obtain⟨a0,this⟩:=hh'.moveM (k:=k) (j:=j) (key:=key) (sz:=sz) (es:=es) (i0:=i) (cells:=cells) (d:=key::j::k::st.dirty) (by
        show nth .none (upd st.objs key .none) k=_;rw[qa _ _ _ (dv hkk)];exact hk) hi (by
        show nth .none (upd st.objs key .none) j=_;rw[qa _ _ _ (dv a1)];exact hj) (qb _ _ _ hlt) (by rw[qj];exact hlt)
       have he:upd (upd (upd st.objs key .none) j .dead) key (.arr sz es false)=upd (upd st.objs j .dead) key (.arr sz es false):=by rw[vh st.objs key j _ _ (.inl (dv a1))];simp[xh]
       simp only[he]at this;exact⟨F,a0,this⟩
      .simp at h
     .simp at h
   .simp at h
  .simp at h
theorem zf:∀{locs:List Loc} {st m:St},kg locs st=some m->Frame (qP locs) st m/\(∀k∈xg locs,k∈m.dirty)/\(I2 C B F0 w0 st a w->I2 C B F0 w0 m a w)
 |[],st,m,h=>by simp only[kg,ea]at h;subst h;exact⟨Frame.refl _ _,λk hk=>by simp[xg]at hk,λh=>h⟩
 | .slot s z::r,st,m,h=>by
  simp only[kg]at h;split at h
  .rename_i hv;obtain⟨h1,h2,h3⟩:=zf h;refine⟨Frame.trans' (s':=⟨upd st.tmps s (.c (.sl [])),st.objs,st.dirty⟩) ⟨qj _ _ _,rfl,λt ht=>qa _ _ _ λe=>ht (by simp[qP,e]),λ_ _=>rfl,λ_ h=>h⟩ (h1.mono λt ht=>by simp[qP,ht]),h2,λhh=>h3 ?_⟩;obtain⟨F,loc,hh⟩:=hh;exact⟨F,loc,hh.weakT (λx hx=>by
    rw[hv]at hx;have hx:x= .slice none 0 0:=hx;subst hx;exact CD.nil _ _) trivial⟩
  .rename_i k hv;split at h
   .rename_i sz es fz hk;have hlt:k<st.objs.length:=by
     rcases cg k st.objs.length with h1|h1
     .exact h1
     .rw[qC _ h1]at hk;simp at hk
    obtain⟨h1,h2,h3⟩:=zf h;refine⟨Frame.trans' (s':=⟨upd st.tmps s (.c (.sl es)),upd st.objs k (.arr sz es true),k::st.dirty⟩) ⟨qj _ _ _,qj _ _ _,λt ht=>qa _ _ _ λe=>ht (by simp[qP,e]),λj hj=>qa _ _ _ λe=>hj (by simp[e]),λj hj=>by simp[hj]⟩ (h1.mono λt ht=>by simp[qP,ht]),h2,λhh=>h3 ?_⟩;obtain⟨F,loc,hh⟩:=hh;have h4:=hh.freeze1 hk;refine⟨_,loc,h4.weakT (t:=s) (v:= .c (.sl es)) (λx hx=>?_) trivial⟩;have ag:nth .none (upd st.objs k (.arr sz es true)) k= .arr sz es true:=qb _ _ _ hlt;have h0:=h4.objs k;simp only at h0 hx;rw[ag]at h0;rw[hv]at hx;exact ZR ag h0 hx (λ_ h=>h) (λb c hl=> .inr ⟨c,hl⟩)
   .simp at h
  .obtain⟨h1,h2,h3⟩:=zf h;exact⟨h1.mono λt ht=>by simp[qP,ht],h2,h3⟩
 | .box k z::r,st,m,h=>by
  simp only[kg]at h;split at h
  .rename_i a7 hk;split at h
   .rename_i ds hd;obtain⟨h1,h2,h3⟩:=zf h;refine⟨Frame.trans' (s':=⟨st.tmps,upd st.objs k (.box (ds.map V.c)),k::st.dirty⟩) ⟨rfl,qj _ _ _,λ_ _=>rfl,λj hj=>qa _ _ _ λe=>hj (by simp[e]),λj hj=>by simp[hj]⟩ h1,λj hj=>?_,λhh=>h3 ?_⟩
    .simp only[xg,Lm]at hj;rcases hj with rfl|hj
     .exact h1.dirty _ (by simp)
     .exact h2 j hj
    .obtain⟨F,loc,hh⟩:=hh;exact⟨F,loc,hh.boxData hk hd⟩
   .simp at h
  .simp at h
 | .own s key size::r,st,m,h=>by
  simp only[kg]at h;have a3:∀t,t∈qP r->t∈qP (.own s key size::r):=λt ht=>by simp[qP,ht]
  have a0:∀{m:St},key∈m.dirty->(∀k∈xg r,k∈m.dirty)->∀k∈xg (.own s key size::r),k∈m.dirty:=λh1 h2 k hk=>by
   simp only[xg,Lm]at hk;rcases hk with rfl|hk
   .exact h1
   .exact h2 k hk
  split at h
  .rename_i hv;split at h
   .rename_i hg;simp only[Bx,c3]at hg;obtain⟨h1,h2,h3⟩:=zf h;refine⟨Frame.trans' (s':=⟨upd st.tmps s (.arr key),upd st.objs key (.arr size [] false),key::st.dirty⟩) ⟨qj _ _ _,qj _ _ _,λt ht=>qa _ _ _ λe=>ht (by simp[qP,e]),λj hj=>qa _ _ _ λe=>hj (by simp[e]),λj hj=>by simp[hj]⟩ (h1.mono a3),
     a0 (h1.dirty _ (by simp)) h2,λhh=>h3 ?_⟩
    obtain⟨hlt,a1,_⟩:=vX hg.1 hh;obtain⟨F,loc,a1⟩:=a1;have:=a1.nilOwn (s:=s) (key:=key) (sz:=size) (d:=key::st.dirty) hv (qb _ _ _ hlt) (by rw[qj];exact hlt) hg.2;have he:upd (upd st.objs key .none) key (.arr size [] false)=upd st.objs key (.arr size [] false):=by simp[xh]
    simp only[he]at this;exact⟨F,loc,this⟩
   .simp at h
  .rename_i k hv;split at h
   .obtain⟨h1,h2,h3⟩:=zf h;refine⟨Frame.trans' (s':=⟨st.tmps,st.objs,key::st.dirty⟩) ⟨rfl,rfl,λ_ _=>rfl,λ_ _=>rfl,λj hj=>by simp[hj]⟩ (h1.mono a3),a0 (h1.dirty _ (by simp)) h2,λhh=>h3 (xc hh rfl rfl)⟩
   .split at h
    .rename_i sz es hk;split at h
     .rename_i hg;obtain⟨h1,h2,h3⟩:=zf h;refine⟨Frame.trans' (s':=⟨upd st.tmps s (.arr key),upd (upd st.objs k .dead) key (.arr sz es false),key::k::st.dirty⟩) ⟨qj _ _ _,by simp only[qj],λt ht=>qa _ _ _ λe=>ht (by simp[qP,e]),
       λj hj=>by
        simp only[Lm,not_or]at hj;rw[qa _ _ _ (dv hj.1),qa _ _ _ (dv hj.2.1)],λj hj=>by simp[hj]⟩ (h1.mono a3),a0 (h1.dirty _ (by simp)) h2,λhh=>h3 ?_⟩
      obtain⟨hlt,a1,a5⟩:=vX hg hh;obtain⟨F,loc,a1⟩:=a1;have a4:k≠key:=a5 k (by rw[hk];simp) (by rw[hk];simp);obtain⟨a2,this⟩:=a1.move (s:=s) (k:=k) (key:=key) (sz:=sz) (es:=es) (d:=key::k::st.dirty) hv (by
       show nth .none (upd st.objs key .none) k=_;rw[qa _ _ _ (dv a4)];exact hk) (qb _ _ _ hlt) (by rw[qj];exact hlt)
      have he:upd (upd (upd st.objs key .none) k .dead) key (.arr sz es false)=upd (upd st.objs k .dead) key (.arr sz es false):=by rw[vh st.objs key k _ _ (.inl (dv a4))];simp[xh]
      simp only[he]at this;exact⟨F,a2,this⟩
     .simp at h
    .simp at h
  .rename_i k off a6 hv;split at h
   .rename_i sz es hk;split at h
    .rename_i hg;obtain⟨h1,h2,h3⟩:=zf h;refine⟨Frame.trans' (s':=⟨upd st.tmps s (.arr key),upd (upd st.objs k .dead) key (.arr sz (es.take a6) false),key::k::st.dirty⟩) ⟨qj _ _ _,by simp only[qj],λt ht=>qa _ _ _ λe=>ht (by simp[qP,e]),
      λj hj=>by
       simp only[Lm,not_or]at hj;rw[qa _ _ _ (dv hj.1),qa _ _ _ (dv hj.2.1)],λj hj=>by simp[hj]⟩ (h1.mono a3),a0 (h1.dirty _ (by simp)) h2,λhh=>h3 ?_⟩
     obtain⟨hlt,a1,a5⟩:=vX hg hh;obtain⟨F,loc,a1⟩:=a1;have a4:k≠key:=a5 k (by rw[hk];simp) (by rw[hk];simp);obtain⟨a2,this⟩:=a1.moveN (s:=s) (k:=k) (key:=key) (sz:=sz) (es:=es) (n:=a6) (d:=key::k::st.dirty) hv (by
      show nth .none (upd st.objs key .none) k=_;rw[qa _ _ _ (dv a4)];exact hk) (qb _ _ _ hlt) (by rw[qj];exact hlt)
     have he:upd (upd (upd st.objs key .none) k .dead) key (.arr sz (es.take a6) false)=upd (upd st.objs k .dead) key (.arr sz (es.take a6) false):=by rw[vh st.objs key k _ _ (.inl (dv a4))];simp[xh]
     simp only[he]at this;exact⟨F,a2,this⟩
    .simp at h
   .simp at h
  .simp at h
 | .bld k T key::r,st,m,h=>by
  simp only[kg]at h;have a0:∀{m:St},key∈m.dirty->k∈m.dirty->(∀k∈xg r,k∈m.dirty)->∀j∈xg (.bld k T key::r),j∈m.dirty:=λh1 h2 h3 j hj=>by
   simp only[xg,Lm]at hj;rcases hj with rfl|rfl|hj
   .exact h2
   .exact h1
   .exact h3 j hj
  split at h
  .rename_i T' q hk;split at h
   .split at h
    .split at h
     .rename_i hg;obtain⟨h1,h2,h3⟩:=zf h;refine⟨Frame.trans' (s':=⟨st.tmps,upd (upd st.objs key (.arr 1 [] false)) k (.bld T' (.arr key)),key::k::st.dirty⟩) ⟨rfl,by simp only[qj],λ_ _=>rfl,λi hi=>by
       simp only[Lm,not_or]at hi;rw[qa _ _ _ (dv hi.2.1),qa _ _ _ (dv hi.1)],λi hi=>by simp[hi]⟩ h1,
       a0 (h1.dirty _ (by simp)) (h1.dirty _ (by simp)) h2,λhh=>h3 ?_⟩
      obtain⟨hlt,a1,a5⟩:=vX hg hh;obtain⟨F,loc,a1⟩:=a1;have a4:k≠key:=a5 k (by rw[hk];simp) (by rw[hk];simp);obtain⟨a2,this⟩:=a1.nilB (k:=k) (key:=key) (T:=T') (d:=key::k::st.dirty) (by
       show nth .none (upd st.objs key .none) k=_;rw[qa _ _ _ (dv a4)];exact hk) (qb _ _ _ hlt) (by rw[qj];exact hlt)
      have he:upd (upd st.objs key .none) key (.arr 1 [] false)=upd st.objs key (.arr 1 [] false):=by simp[xh]
      simp only[he]at this;exact⟨F,a2,this⟩
     .simp at h
    .rename_i j;split at h
     .obtain⟨h1,h2,h3⟩:=zf h;exact⟨Frame.trans' (s':=⟨st.tmps,st.objs,key::k::st.dirty⟩) ⟨rfl,rfl,λ_ _=>rfl,λ_ _=>rfl,λi hi=>by simp[hi]⟩ h1,a0 (h1.dirty _ (by simp)) (h1.dirty _ (by simp)) h2,λhh=>h3 (xc hh rfl rfl)⟩
     .split at h
      .rename_i sz es hj;split at h
       .rename_i hg;simp only[Bx]at hg;obtain⟨h1,h2,h3⟩:=zf h;refine⟨Frame.trans' (s':=⟨st.tmps,upd (upd (upd st.objs j .dead) key (.arr sz es false)) k (.bld T' (.arr key)),key::j::k::st.dirty⟩) ⟨rfl,by simp only[qj],λ_ _=>rfl,λi hi=>by
         simp only[Lm,not_or]at hi;rw[qa _ _ _ (dv hi.2.2.1),qa _ _ _ (dv hi.1),qa _ _ _ (dv hi.2.1)],λi hi=>by simp[hi]⟩ h1,
         a0 (h1.dirty _ (by simp)) (h1.dirty _ (by simp)) h2,λhh=>h3 ?_⟩
        obtain⟨hlt,a1,a5⟩:=vX hg.2 hh;obtain⟨F,loc,a1⟩:=a1;have a4:k≠key:=a5 k (by rw[hk];simp) (by rw[hk];simp);have ad:j≠key:=a5 j (by rw[hj];simp) (by rw[hj];simp);obtain⟨a2,this⟩:=a1.moveB (k:=k) (j:=j) (key:=key) (T:=T') (sz:=sz) (es:=es) (d:=key::j::k::st.dirty) (by
         show nth .none (upd st.objs key .none) k=_;rw[qa _ _ _ (dv a4)];exact hk) (by
         show nth .none (upd st.objs key .none) j=_;rw[qa _ _ _ (dv ad)];exact hj) (qb _ _ _ hlt) (by rw[qj];exact hlt)
        have he:upd (upd (upd st.objs key .none) j .dead) key (.arr sz es false)=upd (upd st.objs j .dead) key (.arr sz es false):=by rw[vh st.objs key j _ _ (.inl (dv ad))];simp[xh]
        simp only[he]at this;exact⟨F,a2,this⟩
       .simp at h
      .simp at h
    .simp at h
   .simp at h
  .simp at h
 | .mix k ms::r,st,m,h=>by
  simp only[kg]at h;split at h
  .rename_i st' hm;obtain⟨g1,g2,g3⟩:=Qj (C:=C) (B:=B) (F0:=F0) (w0:=w0) (a:=a) (w:=w) hm (by simp);obtain⟨h1,h2,h3⟩:=zf h;refine⟨Frame.trans' (Frame.trans' (s':=⟨st.tmps,st.objs,k::st.dirty⟩) ⟨rfl,rfl,λ_ _=>rfl,λ_ _=>rfl,λi hi=>by simp[hi]⟩ (g1.mono λt ht=>by simp at ht)) h1,λj hj=>?_,λhh=>h3 (g3 (xc hh rfl rfl))⟩;simp only[xg,Lm,Lr]at hj;rcases hj with rfl|hj|hj
   .exact h1.dirty _ (g1.dirty _ (by simp))
   .exact h1.dirty _ (g2 j hj)
   .exact h2 j hj
  .simp at h
structure Norm (mt ms:List Nat) (locs:List Loc) (st m:St):Prop where
 lt:m.tmps.length=st.tmps.length
 lo:m.objs.length=st.objs.length
 tin:∀t,t∈mt->t∉qP locs->nth .any m.tmps t= .any
 tout:∀t,t∉mt->t∉qP locs->nth .any m.tmps t=nth .any st.tmps t
 oin:∀k,k∈ms->nth .none m.objs k= .none
 oout:∀k,k∉m.dirty->nth .none m.objs k=nth .none st.objs k
 dirty:∀k,k∈st.dirty\/k∈xg locs->k∈m.dirty
 ok:xL locs m=true
omit [Env] in
theorem z2 (d d':List Nat) (t:List V) (o:List Obj):∀(locs:List Loc),xL locs ⟨t,o,d⟩=xL locs ⟨t,o,d'⟩
 |[]=>rfl
 | .slot s z::r=>by simp only[xL];rw[z2 d d' t o r]
 | .box k z::r=>by simp only[xL];rw[z2 d d' t o r]
 | .own s key size::r=>by simp only[xL];rw[z2 d d' t o r]
 | .bld k T key::r=>by simp only[xL];rw[z2 d d' t o r]
 | .mix k ms::r=>by simp only[xL];rw[z2 d d' t o r]
theorem VL {mt ms:List Nat} {locs:List Loc} {st m:St} (h:EZ mt ms locs st=some m):Norm mt ms locs st m/\(I2 C B F0 w0 st a w->I2 C B F0 w0 m a w):=by
 unfold EZ at h;simp only[Jg,XP]at h;split at h
 .simp at h
 .rename_i s1 h1;split at h
  .simp at h
  .rename_i hc;simp only[Dd,Bool.not_eq_false']at hc;obtain⟨⟨hc1,hc2⟩,hc3⟩:=hc;simp only[ea]at h;subst h;obtain⟨f1,f2,f3⟩:=zf (C:=C) (B:=B) (F0:=F0) (w0:=w0) (a:=a) (w:=w) h1;refine⟨⟨f1.lt.trans (ko _ _),(jG _ _).trans f1.lo,λt ht hs=>?_,λt ht hs=>?_,λk hk=>kq _ _ (.inl hk),λk hk=>?_,λk hk=>?_,by rw[z2 _ []];exact hc3⟩,λhh=>?_⟩
   .rw[f1.tmps t hs];exact yD _ _ (.inl (yE.2 ⟨ht,hs⟩))
   .rw[f1.tmps t hs];exact kp _ _ λh=>ht (yE.1 h).1
   .simp only[Lr,not_or]at hk;show nth .none (jq s1.objs ms) k=_;rw[zZ _ _ hk.1,f1.objs k hk.2]
   .refine No _ ?_;rcases hk with hk|hk
    .exact f1.dirty k hk
    .exact f2 k hk
   .obtain⟨F,loc,a0⟩:=f3 (Jf _ hh);obtain⟨a1,a0⟩:=a0.forgets (ks:=ms) (objs':=jq s1.objs ms) (d:=ms++s1.dirty) (λk hk=>kq _ _ (.inl hk)) (λk hk=>zZ _ _ hk) hc1 hc2;exact⟨F,a1,a0⟩
end
end Eng
end
section
namespace Eng
open Go Go.RowKit
variable [Env]
omit [Env] in
theorem JR {α:Type} (d:α) {l l':List α} (hl:l.length=l'.length) (h:∀i,nth d l i=nth d l' i):l=l':=by
 apply bF hl;intro i h1 h2;have:=h i
 rwa [qk _ h1,qk _ h2]at this
structure Away (locs:List Loc) (m s1:St):Prop where
 lt:m.tmps.length=s1.tmps.length
 lo:m.objs.length=s1.objs.length
 tmps:∀t,t∉qP locs->nth .any m.tmps t=nth .any s1.tmps t
 objs:∀k,k∉xg locs->nth .none m.objs k=nth .none s1.objs k
omit [Env] in
theorem qW {α:Type} {d:α} {l:List α} {i:Nat} (h:nth d l i≠d):i<l.length:=by
 rcases cg i l.length with h'|h'
 .exact h'
 .exact absurd (qC _ h') h
omit [Env] in
theorem kL {α:Type} (d:α) (pre r:List α) (i:Nat):nth d (pre++r) (pre.length+i)=nth d r i:=by
 rw[qw,qw,W1 (by omega),Nat.add_sub_cancel_left]
omit [Env] in
theorem wL:∀{zs:List Value} {cells:List V} {pre r:List D},xj zs cells=true->putCells zs pre.length (pre++(cells.map toC++r))=cells
 |[],[],_,_,_=>rfl
 |z::zs,v::vs,pre,r,h=>by
  simp only[xj,Bx]at h;have hv:V.c (toC v)=v:=by cases v<;>simp_all[isC,toC]
  simp only[putCells,Tk,P1];have h1:=kL Hy pre (toC v::(vs.map toC++r)) 0;rw[cm]at h1;rw[h1];have h2:=wL (pre:=pre++[toC v]) (r:=r) h.2;simp only[M2,M1,Ls,M0]at h2;rw[h2];simp only[nth,hv]
 |[],_::_,_,_,h=>by simp[xj]at h
 |_::_,[],_,_,h=>by simp[xj]at h
omit [Env] in
theorem vJ:∀{zs:List Value} {cells:List V},xj zs cells=true->cells.length=zs.length
 |[],[],_=>rfl
 |z::zs,v::vs,h=>by simp only[xj,Bx]at h;simp[vJ h.2]
 |[],_::_,h=>by simp[xj]at h
 |_::_,[],h=>by simp[xj]at h
omit [Env] in
theorem JS {ob:List Obj}:∀{ms:List MC} {cells:List V},jY ms cells ob=true->(KM ms cells ob).length=ms.length
 |[],[],_=>rfl
 | .dat z::ms,v::vs,h=>by simp only[jY,Bx]at h;simp[KM,JS h.2]
 | .own key size::ms,v::vs,h=>by simp only[jY,Bx]at h;simp[KM,JS h.2]
 |[],_::_,h=>by simp[jY]at h
 | .dat _::_,[],h=>by simp[jY]at h
 | .own .. ::_,[],h=>by simp[jY]at h
omit [Env] in
theorem T5 {ob1:List Obj} {R:List D}:∀{ms:List MC} {cells:List V} {pre:List D},jY ms cells ob1=true->SV ms pre.length (pre++(KM ms cells ob1++R))=cells/\
 ∀ob:List Obj,ob.length=ob1.length->(Y6 ms pre.length (pre++(KM ms cells ob1++R)) ob).length=ob1.length/\∀j,nth .none (Y6 ms pre.length (pre++(KM ms cells ob1++R)) ob) j=if j∈xY ms then nth .none ob1 j else nth .none ob j
 |[],[],pre,_=>⟨rfl,λob ho=>⟨ho,λj=>by simp[xY,Y6]⟩⟩
 | .dat z::ms,v::vs,pre,h=>by
  simp only[jY,Bx]at h;have hv:V.c (toC v)=v:=by cases v<;>simp_all[isC,toC]
  have h1:=kL Hy pre (toC v::(KM ms vs ob1++R)) 0;rw[cm]at h1;obtain⟨h2,h3⟩:=T5 (R:=R) (pre:=pre++[toC v]) h.2;simp only[M2,M1,Ls,M0]at h2 h3;refine⟨?_,?_⟩
  .simp only[SV,KM,P1];rw[h1,h2];simp only[nth,hv]
  .simp only[Y6,KM,P1,xY];exact h3
 | .own key size::ms,v::vs,pre,h=>by
  simp only[jY,Bx]at h;obtain⟨ho,h⟩:=h;unfold SU at ho;split at ho
  .rename_i a0;split at ho
   .rename_i sz es hk;simp only[Bx]at ho;obtain rfl:=cc ho.1;obtain rfl:=cc ho.2;have hr:NZ a0 ob1= .sl es:=by simp only[NZ,hk]
    have h1:=kL Hy pre (I0 es::(KM ms vs ob1++R)) 0;rw[cm]at h1;obtain⟨h2,h3⟩:=T5 (R:=R) (pre:=pre++[I0 es]) h;simp only[M2,M1,Ls,M0]at h2 h3;have a1:a0<ob1.length:=qW (by rw[hk];simp);refine⟨?_,?_⟩
    .simp only[SV,KM,P1,hr];rw[h2]
    .intro ob a2;simp only[Y6,KM,P1,hr,h1,nth,toL];obtain⟨h4,h5⟩:=h3 (upd ob a0 (.arr sz es false)) (by rw[qj];exact a2);refine⟨h4,λj=>?_⟩;rw[h5 j];simp only[xY,Lm];by_cases hj:j∈xY ms
     .simp[hj]
     .simp only[hj,if_false,or_false];by_cases hjk:j=a0
      .subst hjk;rw[if_pos rfl,qb _ _ _ (by rw[a2];exact a1),hk]
      .rw[if_neg hjk,qa _ _ _ (dv hjk)]
   .simp at ho
  .simp at ho
 |[],_::_,_,h=>by simp[jY]at h
 | .dat _::_,[],_,h=>by simp[jY]at h
 | .own .. ::_,[],_,h=>by simp[jY]at h
omit [Env] in
theorem wO:∀{locs:List Loc} {pre:List D} {m s1:St},xL locs s1=true->Away locs m s1->(fill locs pre.length (pre++xK locs s1) m).tmps=s1.tmps/\(fill locs pre.length (pre++xK locs s1) m).objs=s1.objs
 |[],pre,m,s1,_,h=>⟨JR .any h.lt λi=>h.tmps i (by simp[qP]),JR .none h.lo λi=>h.objs i (by simp[xg])⟩
 | .slot s z::r,pre,m,s1,hn,h=>by
  simp only[xL,Bx]at hn;have hv:V.c (toC (nth .any s1.tmps s))=nth .any s1.tmps s:=by revert hn;cases nth .any s1.tmps s<;>simp[isC,toC]
  have a3:s<s1.tmps.length:=qW (by intro e;rw[e]at hn;simp[isC]at hn);simp only[fill,xK];have h1:=kL Hy pre (toC (nth .any s1.tmps s)::xK r s1) 0;rw[cm]at h1;rw[h1];have h2:=wO (locs:=r) (pre:=pre++[toC (nth .any s1.tmps s)]) (m:=⟨upd m.tmps s (nth .any s1.tmps s),m.objs,m.dirty⟩) (s1:=s1) hn.2 ⟨by simp only[qj];exact h.lt,h.lo,λt ht=>by
   by_cases hst:s=t
   .subst hst;rw[qb _ _ _ (by rw[h.lt];exact a3)]
   .show nth .any (upd m.tmps s _) t=_;rw[qa _ _ _ hst];exact h.tmps t (by simp only[qP,Lm,not_or];exact⟨dv hst,ht⟩),λk hk=>h.objs k hk⟩
  simp only[M2,M1,Ls,M0]at h2;simp only[nth,hv];exact h2
 | .box k zs::r,pre,m,s1,hn,h=>by
  simp only[xL]at hn;split at hn
  .rename_i a0 hk;simp only[Bx]at hn;have a1:k<s1.objs.length:=qW (by rw[hk];simp);simp only[fill,xK,hk];rw[wL hn.1];have h2:=wO (locs:=r) (pre:=pre++a0.map toC) (m:=⟨m.tmps,upd m.objs k (.box a0),m.dirty⟩) (s1:=s1) hn.2 ⟨h.lt,by simp only[qj];exact h.lo,λt ht=>h.tmps t ht,λj hj=>by
    by_cases hkj:k=j
    .subst hkj;rw[qb _ _ _ (by rw[h.lo];exact a1),hk]
    .show nth .none (upd m.objs k _) j=_;rw[qa _ _ _ hkj];exact h.objs j (by simp only[xg,Lm,not_or];exact⟨dv hkj,hj⟩)⟩
   simp only[M2,M3,Ls,vJ hn.1]at h2;exact h2
  .simp at hn
 | .own s key size::r,pre,m,s1,hn,h=>by
  simp only[xL]at hn;split at hn
  .rename_i k hv;split at hn
   .rename_i sz es hk;simp only[Bx]at hn;obtain rfl:=cc hn.1.1;obtain rfl:=cc hn.1.2;have a1:k<s1.objs.length:=qW (by rw[hk];simp);have a3:s<s1.tmps.length:=qW (by rw[hv];simp);simp only[fill,xK,hk];have h1:=kL Hy pre (I0 es::xK r s1) 0;rw[cm]at h1;rw[h1];have h2:=wO (locs:=r) (pre:=pre++[I0 es]) (m:=⟨upd m.tmps s (.arr k),upd m.objs k (.arr sz es false),m.dirty⟩) (s1:=s1) hn.2 ⟨by simp only[qj];exact h.lt,by simp only[qj];exact h.lo,λt ht=>by
     by_cases hst:s=t
     .subst hst;rw[qb _ _ _ (by rw[h.lt];exact a3),hv]
     .show nth .any (upd m.tmps s _) t=_;rw[qa _ _ _ hst];exact h.tmps t (by simp only[qP,Lm,not_or];exact⟨dv hst,ht⟩),λj hj=>by
     by_cases hkj:k=j
     .subst hkj;rw[qb _ _ _ (by rw[h.lo];exact a1),hk]
     .show nth .none (upd m.objs k _) j=_;rw[qa _ _ _ hkj];exact h.objs j (by simp only[xg,Lm,not_or];exact⟨dv hkj,hj⟩)⟩
    simp only[M2,M1,Ls,M0]at h2;simp only[nth,toL];exact h2
   .simp at hn
  .simp at hn
 | .bld k T key::r,pre,m,s1,hn,h=>by
  simp only[xL]at hn;split at hn
  .rename_i T' a2 hk;split at hn
   .rename_i sz es hj;simp only[Bx]at hn;obtain rfl:=cc hn.1.1.1;obtain rfl:=cc hn.1.1.2;obtain rfl:=cc hn.1.2;have a1:k<s1.objs.length:=qW (by rw[hk];simp);have a4:a2<s1.objs.length:=qW (by rw[hj];simp);simp only[fill,xK,hj];have h1:=kL Hy pre (I0 es::xK r s1) 0;rw[cm]at h1;rw[h1];have h2:=wO (locs:=r) (pre:=pre++[I0 es]) (m:=⟨m.tmps,upd (upd m.objs a2 (.arr 1 es false)) k (.bld T' (.arr a2)),m.dirty⟩) (s1:=s1) hn.2 ⟨h.lt,by simp only[qj];exact h.lo,λt ht=>h.tmps t ht,λi hi=>by
     by_cases hki:k=i
     .subst hki;rw[qb _ _ _ (by rw[qj,h.lo];exact a1),hk]
     .show nth .none (upd (upd m.objs a2 _) k _) i=_;rw[qa _ _ _ hki];by_cases hji:a2=i
      .subst hji;rw[qb _ _ _ (by rw[h.lo];exact a4),hj]
      .rw[qa _ _ _ hji];exact h.objs i (by simp only[xg,Lm,not_or];exact⟨dv hki,dv hji,hi⟩)⟩
    simp only[M2,M1,Ls,M0]at h2;simp only[nth,toL];exact h2
   .simp at hn
  .simp at hn
 | .mix k ms::r,pre,m,s1,hn,h=>by
  simp only[xL]at hn;split at hn
  .rename_i a0 hk;simp only[Bx]at hn;have a1:k<s1.objs.length:=qW (by rw[hk];simp);obtain⟨g1,g2⟩:=T5 (R:=xK r s1) (pre:=pre) hn.1;obtain⟨g3,g4⟩:=g2 m.objs h.lo;simp only[fill,xK,hk];rw[g1];have h2:=wO (locs:=r) (pre:=pre++KM ms a0 s1.objs) (m:=⟨m.tmps,upd (Y6 ms pre.length (pre++(KM ms a0 s1.objs++xK r s1)) m.objs) k (.box a0),m.dirty⟩) (s1:=s1) hn.2 ⟨h.lt,by simp only[qj];exact g3,λt ht=>h.tmps t ht,λi hi=>by
    by_cases hki:k=i
    .subst hki;rw[qb _ _ _ (by rw[g3];exact a1),hk]
    .show nth Obj.none (upd _ k _) i=_;rw[qa _ _ _ hki,g4 i];by_cases hm:i∈xY ms
     .rw[if_pos hm]
     .rw[if_neg hm];exact h.objs i (by simp only[xg,Lm,Lr,not_or];exact⟨dv hki,hm,hi⟩)⟩
   simp only[M2,JS hn.1,Ls]at h2;exact h2
  .simp at hn
def TypedL:List Value->List D->Prop
 |[],us=>us=[]
 |z::zs,us=>∃d r,us=d::r/\jp z d=true/\TypedL zs r
omit [Env] in
theorem vj {v:Value} {b:Bool} {d:D} (hv:v= .bool b) (h:jp v d=true):∃x,d= .bool x:=by
 subst hv;cases d<;>simp[jp,isB]at h;exact⟨_,rfl⟩
omit [Env] in
theorem YL {v:Value} {a:Option Addr} {n c:Nat} {d:D} (hv:v= .slice a n c) (h:jp v d=true):∃x,d= .sl x:=by
 subst hv;cases d<;>simp[jp,isL]at h;exact⟨_,rfl⟩
omit [Env] in
theorem xw {z r:List Value} {us:List D} (h:Nx z=some r) (ht:TypedL z us):∃(x:R4) (ds:List D),us=rk x ds/\TypedL r ds:=by
 obtain⟨b,o,n,c,b',o',n',c',rfl⟩:=Tl h;obtain⟨d1,r1,rfl,h1,d2,r2,rfl,h2,d3,r3,rfl,h3,d4,r4,rfl,h4,h5⟩:=ht;obtain⟨x1,rfl⟩:=vj rfl h1;obtain⟨x2,rfl⟩:=YL rfl h2;obtain⟨x3,rfl⟩:=vj rfl h3;obtain⟨x4,rfl⟩:=YL rfl h4;exact⟨⟨x1,x2,x3,x4⟩,r4,rfl,h5⟩
omit [Env] in
theorem qY {n:Nat} {z r:List Value} (h:wA (n+1) z=some r):∃q,Nx z=some q/\wA n q=some r:=by
 simp only[wA]at h;split at h
 .rename_i q hq;exact⟨q,hq,h⟩
 .simp at h
omit [Env] in
theorem vY {z r:List Value} {us:List D} (h:wA 5 z=some r) (ht:TypedL z us):∃(x:P20) (ds:List D),us=pk x ds/\TypedL r ds:=by
 obtain⟨q1,e1,h⟩:=qY h;obtain⟨q2,e2,h⟩:=qY h;obtain⟨q3,e3,h⟩:=qY h;obtain⟨q4,e4,h⟩:=qY h;obtain⟨q5,e5,h⟩:=qY h;simp only[wA,ea]at h;subst h;obtain⟨x1,d1,rfl,t1⟩:=xw e1 ht;obtain⟨x2,d2,rfl,t2⟩:=xw e2 t1;obtain⟨x3,d3,rfl,t3⟩:=xw e3 t2;obtain⟨x4,d4,rfl,t4⟩:=xw e4 t3;obtain⟨x5,d5,rfl,t5⟩:=xw e5 t4;exact⟨⟨x1,x2,x3,x4,x5⟩,d5,rfl,t5⟩
omit [Env] in
theorem VM {z r:List Value} {us:List D} (h:Hi z=some r) (ht:TypedL z us):∃(x:C66) (ds:List D),us=ck x ds/\TypedL r ds:=by
 unfold Hi at h;split at h
 .rename_i b q;split at h
  .rename_i b' q' hq;obtain⟨d0,us0,rfl,t0,ht0⟩:=ht;obtain⟨a,rfl⟩:=vj rfl t0;obtain⟨q1,e1,hq⟩:=qY hq;obtain⟨q2,e2,hq⟩:=qY hq;obtain⟨q3,e3,hq⟩:=qY hq;obtain⟨q4,e4,hq⟩:=qY hq;obtain⟨q5,e5,hq⟩:=qY hq;obtain⟨q6,e6,hq⟩:=qY hq;simp only[wA,ea]at hq;subst hq;obtain⟨x1,d1,rfl,t1⟩:=xw e1 ht0;obtain⟨x2,d2,rfl,t2⟩:=xw e2 t1;obtain⟨x3,d3,rfl,t3⟩:=xw e3 t2;obtain⟨x4,d4,rfl,t4⟩:=xw e4 t3;obtain⟨x5,d5,rfl,t5⟩:=xw e5 t4;obtain⟨x6,d6,rfl,t6⟩:=xw e6 t5;obtain⟨d7,us7,rfl,t7,ht7⟩:=t6;obtain⟨w,rfl⟩:=vj rfl t7;have hs:∃s,wA 5 q'=some s/\wA 5 s=some r:=by obtain⟨q1,f1,h⟩:=qY h;obtain⟨q2,f2,h⟩:=qY h;obtain⟨q3,f3,h⟩:=qY h;obtain⟨q4,f4,h⟩:=qY h;obtain⟨q5,f5,h⟩:=qY h;exact⟨q5,by simp only[wA,f1,f2,f3,f4,f5],h⟩
   obtain⟨s,hs1,hs2⟩:=hs;obtain⟨p,d8,rfl,t8⟩:=vY hs1 ht7;obtain⟨p',d9,rfl,t9⟩:=vY hs2 t8;exact⟨⟨a,x1,x2,x3,x4,x5,x6,w,p,p'⟩,d9,rfl,t9⟩
  .simp at h
 .simp at h
omit [Env] in
theorem jy:∀{g:Bool} {n:Nat} {zs:List Value} {us:List D} {K:List D->Prop},UX g n zs K->TypedL zs us->K us
 |_,0,_,_,_,h,_=>h.elim
 |_,_+1,[],us,K,h,ht=>by have ht:us=[]:=ht;subst ht;exact h
 |g,n+1,z::zs,us,K,h,ht=>by
  simp only[UX]at h;split at h
  .rename_i q hq;obtain⟨x,ds,rfl,h2⟩:=VM hq ht;exact jy (K:=λus=>K (ck x us)) (h x) h2
  split at h
  .rename_i q hq;obtain⟨x,ds,rfl,h2⟩:=vY hq ht;exact jy (K:=λus=>K (pk x us)) (h x) h2
  split at h
  .rename_i q hq;have hq:Nx (z::zs)=some q:=by
    split at hq
    .exact hq
    .simp at hq
   obtain⟨x,ds,rfl,h2⟩:=xw hq ht;exact jy (K:=λus=>K (rk x us)) (h x) h2
  obtain⟨d,r,rfl,h1,h2⟩:=ht;cases z with
  |int k n=>
   cases d<;>simp only[jp,isI,Hu]at h1;have h1:=of_decide_eq_true h1;subst h1;exact jy (K:=λus=>K (_::us)) (h _) h2
  |bool b=>
   cases d<;>simp only[jp,isB,Hu]at h1;exact jy (K:=λus=>K (_::us)) (h _) h2
  |string b=>
   cases d<;>simp only[jp,isS,Hu]at h1;exact jy (K:=λus=>K (_::us)) (h _) h2
  |slice b l c=>
   cases d<;>simp only[jp,isL,Hu]at h1;exact jy (K:=λus=>K (_::us)) (h _) h2
  |_=>exact jy (K:=λus=>K (d::us)) (h d) h2
omit [Env] in
theorem YM {zs:List Value} {us:List D} {K:List D->Prop} (h:cD zs K) (ht:TypedL zs us):K us:=jy h ht
omit [Env] in
theorem TypedL.append:∀{zs zs':List Value} {us us':List D},TypedL zs us->TypedL zs' us'->TypedL (zs++zs') (us++us')
 |[],zs',us,us',h,h'=>by have h:us=[]:=h;subst h;exact h'
 |z::zs,zs',us,us',h,h'=>by obtain⟨d,r,rfl,h1,h2⟩:=h;exact⟨d,r++us',rfl,h1,h2.append h'⟩
omit [Env] in
theorem we:∀{zs:List Value} {cells:List V},xj zs cells=true->TypedL zs (cells.map toC)
 |[],[],_=>rfl
 |z::zs,v::vs,h=>by simp only[xj,Bx]at h;exact⟨_,_,rfl,h.1.2,we h.2⟩
 |[],_::_,h=>by simp[xj]at h
 |_::_,[],h=>by simp[xj]at h
omit [Env] in
theorem XQ {ob:List Obj}:∀{ms:List MC} {cells:List V},jY ms cells ob=true->TypedL (zsM ms) (KM ms cells ob)
 |[],[],_=>rfl
 | .dat z::ms,v::vs,h=>by simp only[jY,Bx]at h;exact⟨_,_,rfl,h.1.2,XQ h.2⟩
 | .own key size::ms,v::vs,h=>by
  simp only[jY,Bx]at h;obtain⟨ho,h⟩:=h;unfold SU at ho;split at ho
  .split at ho
   .rename_i hk;refine⟨_,_,rfl,?_,XQ h⟩;simp only[NZ,hk];rfl
   .simp at ho
  .simp at ho
 |[],_::_,h=>by simp[jY]at h
 | .dat _::_,[],h=>by simp[jY]at h
 | .own .. ::_,[],h=>by simp[jY]at h
omit [Env] in
theorem xN:∀{locs:List Loc} {m:St},xL locs m=true->TypedL (Hm locs) (xK locs m)
 |[],_,_=>rfl
 | .slot s z::r,m,h=>by simp only[xL,Bx]at h;exact⟨_,_,rfl,h.1.2,xN h.2⟩
 | .box k zs::r,m,h=>by
  simp only[xL]at h;split at h
  .rename_i cells hk;simp only[Bx]at h;simp only[Hm,xK,hk];exact(we h.1).append (xN h.2)
  .simp at h
 | .own s key size::r,m,h=>by
  simp only[xL]at h;split at h
  .split at h
   .rename_i hk;simp only[Bx]at h;simp only[Hm,xK,hk];exact⟨_,_,rfl,rfl,xN h.2⟩
   .simp at h
  .simp at h
 | .bld k T key::r,m,h=>by
  simp only[xL]at h;split at h
  .split at h
   .rename_i hj;simp only[Bx]at h;simp only[Hm,xK,hj];exact⟨_,_,rfl,rfl,xN h.2⟩
   .simp at h
  .simp at h
 | .mix k ms::r,m,h=>by
  simp only[xL]at h;split at h
  .rename_i cells hk;simp only[Bx]at h;simp only[Hm,xK,hk];exact(XQ h.1).append (xN h.2)
  .simp at h
omit [Env] in
theorem JT {us:List D}:∀{ms:List MC} {i:Nat} {ob:List Obj},(Y6 ms i us ob).length=ob.length/\∀j,j∉xY ms->nth .none (Y6 ms i us ob) j=nth .none ob j
 |[],_,_=>⟨rfl,λ_ _=>rfl⟩
 | .dat z::ms,i,ob=>by simp only[Y6,xY];exact JT
 | .own key size::ms,i,ob=>by simp only[Y6,xY,Lm,not_or];obtain⟨h1,h2⟩:=JT (us:=us) (ms:=ms) (i:=i+1) (ob:=upd ob key (.arr size (toL (nth .undef us i)) false));exact⟨h1.trans (qj _ _ _),λj hj=>(h2 j hj.2).trans (qa _ _ _ (dv hj.1))⟩
omit [Env] in
theorem kM:∀{locs:List Loc} {i:Nat} {us:List D} {m:St},(fill locs i us m).tmps.length=m.tmps.length/\(fill locs i us m).objs.length=m.objs.length/\(fill locs i us m).dirty=m.dirty/\
 (∀t,t∉qP locs->nth .any (fill locs i us m).tmps t=nth .any m.tmps t)/\(∀k,k∉xg locs->nth .none (fill locs i us m).objs k=nth .none m.objs k)
 |[],_,_,_=>⟨rfl,rfl,rfl,λ_ _=>rfl,λ_ _=>rfl⟩
 | .slot s z::r,i,us,m=>by obtain⟨h1,h2,h3,h4,h5⟩:=kM (locs:=r) (i:=i+1) (us:=us) (m:=⟨upd m.tmps s (.c (nth .undef us i)),m.objs,m.dirty⟩);refine⟨by simp only[fill];rw[h1];exact qj _ _ _,h2,h3,λt ht=>?_,h5⟩;simp only[qP,Lm,not_or]at ht;simp only[fill];rw[h4 t ht.2];exact qa _ _ _ (dv ht.1)
 | .box k zs::r,i,us,m=>by obtain⟨h1,h2,h3,h4,h5⟩:=kM (locs:=r) (i:=i+zs.length) (us:=us) (m:=⟨m.tmps,upd m.objs k (.box (putCells zs i us)),m.dirty⟩);refine⟨h1,by simp only[fill];rw[h2];exact qj _ _ _,h3,h4,λt ht=>?_⟩;simp only[xg,Lm,not_or]at ht;simp only[fill];rw[h5 t ht.2];exact qa _ _ _ (dv ht.1)
 | .own s key size::r,i,us,m=>by
  obtain⟨h1,h2,h3,h4,h5⟩:=kM (locs:=r) (i:=i+1) (us:=us) (m:=⟨upd m.tmps s (.arr key),upd m.objs key (.arr size (toL (nth .undef us i)) false),m.dirty⟩);refine⟨by simp only[fill];rw[h1];exact qj _ _ _,by simp only[fill];rw[h2];exact qj _ _ _,h3,λt ht=>?_,λt ht=>?_⟩
  .simp only[qP,Lm,not_or]at ht;simp only[fill];rw[h4 t ht.2];exact qa _ _ _ (dv ht.1)
  .simp only[xg,Lm,not_or]at ht;simp only[fill];rw[h5 t ht.2];exact qa _ _ _ (dv ht.1)
 | .bld k T key::r,i,us,m=>by obtain⟨h1,h2,h3,h4,h5⟩:=kM (locs:=r) (i:=i+1) (us:=us) (m:=⟨m.tmps,upd (upd m.objs key (.arr 1 (toL (nth .undef us i)) false)) k (.bld T (.arr key)),m.dirty⟩);refine⟨h1,by simp only[fill];rw[h2];simp only[qj],h3,h4,λt ht=>?_⟩;simp only[xg,Lm,not_or]at ht;simp only[fill];rw[h5 t ht.2.2];show nth .none (upd (upd m.objs key _) k _) t=_;rw[qa _ _ _ (dv ht.1),qa _ _ _ (dv ht.2.1)]
 | .mix k ms::r,i,us,m=>by obtain⟨g1,g2⟩:=JT (us:=us) (ms:=ms) (i:=i) (ob:=m.objs);obtain⟨h1,h2,h3,h4,h5⟩:=kM (locs:=r) (i:=i+ms.length) (us:=us) (m:=⟨m.tmps,upd (Y6 ms i us m.objs) k (.box (SV ms i us)),m.dirty⟩);refine⟨h1,by simp only[fill];rw[h2];simp only[qj];exact g1,h3,h4,λt ht=>?_⟩;simp only[xg,Lm,Lr,not_or]at ht;simp only[fill];rw[h5 t ht.2.2];show nth Obj.none (upd _ k _) t=_;rw[qa _ _ _ (dv ht.1),g2 t ht.2.1]
omit [Env] in
theorem Wx {a l:List Nat} (h:We a l=true):∀k∈a,k∈l:=by
 induction a with
 |nil=>intro k hk;simp at hk
 |cons x r ih=>
  simp only[We,Bx]at h;intro k hk;rcases Lm.1 hk with rfl|hk
  .exact xk.1 h.1
  .exact ih h.2 k hk
omit [Env] in
theorem Bp {p:Nat->Prop} (h:∃n,p n):∃n,p n/\∀m,p m->n<=m:=by
 obtain⟨n,hn⟩:=h
 induction n using c4 with
 |_ n ih=>
  by_cases hc:∃m,m<n/\p m
  .obtain⟨m,hm,hp⟩:=hc;exact ih m hm hp
  .exact⟨n,hn,λm hm=>Nat.le_of_not_lt λhlt=>hc ⟨m,hlt,hm⟩⟩
open Classical in
noncomputable def kc (p:Nat->Prop):Nat:=if h:∃n,p n then Classical.choose (Bp h)else 0
omit [Env] in
theorem Jh {p:Nat->Prop} (h:∃n,p n):p (kc p):=by unfold kc;rw[dif_pos h];exact(Classical.choose_spec (Bp h)).1
omit [Env] in
theorem Ji {p:Nat->Prop} {m:Nat} (h:p m):kc p<=m:=by unfold kc;rw[dif_pos ⟨m,h⟩];exact(Classical.choose_spec (Bp ⟨m,h⟩)).2 m h
section
variable {C:Cx} {B:Bd} {F0:Nat->Prop} {w0:World} {anns:Nat->Ann}
def XM:X->Exit->Prop
 | .normal,e=>e= .normal
 | .exit i,e=>e= .exit i
 | .ret,e=>e= .ret
def cN (C:Cx) (B:Bd) (F0:Nat->Prop) (w0:World) (mt:List Nat) (Q:X->St->Prop) (st:St) (e:Exit) (a:Act) (w:World):Prop:=
 ∃x s',XM x e/\Q x s'/\Frame mt st s'/\I2 C B F0 w0 s' a w
omit [Env] in
theorem JU {t:Nat} {o:Oper}:∀{l:List Oper},o∈l->o.dst=some t->t∈Hk l
 |[],h,_=>by simp at h
 |p::r,h,hd=>by
  simp only[Hk];rcases Lm.1 h with rfl|h
  .rw[hd];simp
  .have:=JU h hd;split
   .simp[this]
   .exact this
omit [Env] in
theorem jm:∀{us:List (Nat×Obj)} {l:List Nat} {k:Nat},k∈jw us l↔k∈l\/∃p∈us,p.1=k
 |[],l,k=>by simp[jw]
 |(j,o)::r,l,k=>by
  simp only[jw,Lm];rw[jm];constructor
  .rintro(rfl|h|⟨p,hp,rfl⟩)
   .exact .inr ⟨(k,o),.inl rfl,rfl⟩
   .exact .inl h
   .exact .inr ⟨p,.inr hp,rfl⟩
  .rintro(h|⟨p,rfl|hp,rfl⟩)
   .exact .inr (.inl h)
   .exact .inl rfl
   .exact .inr (.inr ⟨p,hp,rfl⟩)
omit [Env] in
theorem Frame.put {mt:List Nat} {s:St} {dst:Option Nat} {v:V} {up:List (Nat×Obj)} (h:∀t,dst=some t->t∈mt):Frame mt s (s.put dst v up):=by
 refine⟨?_,jF _ _,λt ht=>?_,λk hk=>?_,λk hk=>jm.2 (.inl hk)⟩
 .simp only[St.put];cases dst with
  |none=>rfl
  |some t=>exact qj _ _ _
 .simp only[St.put];cases dst with
  |none=>rfl
  |some d=>exact qa _ _ _ λe=>ht (by rw[<-e];exact h d rfl)
 .exact xz _ _ λp hp e=>hk (jm.2 (.inr ⟨p,hp,e⟩))
omit [Env] in
theorem Wy {Gv:Nat->List A->List A->Prop} {ops:Array Oper}:∀(l:List Oper) (k:Nat) (s:St) (K:St->Prop),(∀j,l[j]? =ops[k+j]?)->wpL C Gv ops l s K->∃rc s',Tr C Gv ops rc (U3 k l.length) s s'/\K s'/\Frame (Hk ops.toList) s s'
 |[],_,s,_,_,h=>⟨λ_=>([],[]),s,⟨rfl,rfl⟩,h,Frame.refl _ _⟩
 |o::l,k,s,K,hk,h=>by
  have h0:ops[k]? =some o:=by simpa using(hk 0).symm
  obtain⟨v,up,h1,h2⟩:=Wv h;obtain⟨rc,s',h3,h4,h5⟩:=Wy l (k+1) _ K (λj=>by have:=hk (j+1);simpa [c1,c2 1 j]using this) h2;refine⟨λi=>if i=k then(opk o (ev s) s.objs,up.map (·.1))else rc i,s',?_,h4,Frame.trans' (Frame.put λt ht=>JU (o:=o) ?_ ht) h5⟩
  .rw[U0,Ts];refine⟨o,h0,v,up,h1,?_,h3.recs λi hi=>?_⟩
   .simp only[if_pos];exact⟨λ_ _ h=>h,λp hp=>Lv.2 ⟨p,hp,rfl⟩⟩
   .have:=(bw.1 hi).1;rw[if_neg (by omega)]
  .have:=bh (show ops.toList[k]? =some o by simpa using h0);exact this
omit [Env] in
theorem Jj {Gv:Nat->List A->List A->Prop} {ops:Array Oper}:∀(l:List Oper) (k:Nat) (s:St) (acc:List Rec) (K:St->List Rec->Prop),(∀j,l[j]? =ops[k+j]?)->acc.length=k->aF C Gv ops l s acc K->
 ∃R s',Tr C Gv ops (λi=>nth ([],[]) (acc++R) i) (U3 k l.length) s s'/\K s' (acc++R)/\Frame (Hk ops.toList) s s'
 |[],_,s,acc,_,_,_,h=>⟨[],s,⟨rfl,rfl⟩,by rw[cb];exact h,Frame.refl _ _⟩
 |o::l,k,s,acc,K,hk,hacc,h=>by
  have h0:ops[k]? =some o:=by simpa using(hk 0).symm
  obtain⟨v,up,h1,h2⟩:=Wv h;obtain⟨R,s',h3,h4,h5⟩:=Jj l (k+1) _ _ K (λj=>by have:=hk (j+1);simpa [c1,c2 1 j]using this) (by simp[hacc]) h2;refine⟨(opk o (ev s) s.objs,jw up [])::R,s',?_,by rw[Ls]at h4;exact h4,?_⟩
  .rw[U0,Ts];refine⟨o,h0,v,up,h1.same rfl rfl,?_,?_⟩
   .have e:nth ([],[]) (acc++(opk o (ev s) s.objs,jw up [])::R) k=(opk o (ev s) s.objs,jw up []):=by have:=kL ([],[]) acc ((opk o (ev s) s.objs,jw up [])::R) 0;rw[cm,hacc]at this;rw[this];rfl
    simp only;rw[e];exact⟨λ_ _ h=>h,λp hp=>jm.2 (.inr ⟨p,hp,rfl⟩)⟩
   .simp only[Ls,M0]at h3;exact h3.same rfl rfl
  .refine Frame.trans' (s':=⟨(s.put o.dst v up).tmps,(s.put o.dst v up).objs,jw up []++s.dirty⟩) ?_ h5;have hf:=Frame.put (mt:=Hk ops.toList) (s:=s) (dst:=o.dst) (v:=v) (up:=up) λt ht=>JU (o:=o) (bh (show ops.toList[k]? =some o by simpa using h0)) ht
   refine⟨hf.lt,hf.lo,hf.tmps,λj hj=>hf.objs j λhj'=>hj ?_,λj hj=>No _ hj⟩;rcases jm.1 hj' with h|h
   .exact No _ h
   .exact List.mem_append_left _ (jm.2 (.inr h))
theorem Wz [EffOk C] {id:Nat} {ops:Array Oper} {d:Bool} {Q:X->St->Prop} {s:St} {a:Act} {w:World} (hm:C.P.follows .mixedOrders=true) (hd:d=true->ve C ops.toList=true) (h:wpL C (Gives C) ops ops.toList s (Q .normal)) (hh:I2 C B F0 w0 s a w):
 (J3 id ops d).wp C.P (cN C B F0 w0 (Hk ops.toList) Q s) a w:=by
 obtain⟨rc,s',h1,h2,h3⟩:=Wy ops.toList 0 s _ (by simp) h;rw[Aw,<-Sz]at h1;exact yB hm (λh=>XJ rc (hd h)) h1 hh λa w hw=>⟨.normal,s',rfl,h2,h3,hw⟩
theorem H6 [EffOk C] {id:Nat} {ops:Array Oper} {d:Bool} {Q:X->St->Prop} {s:St} {a:Act} {w:World} (hm:C.P.follows .mixedOrders=true) (h:aF C (Gives C) ops ops.toList s [] λs rs=>cnd (wB C ops.toList rs) (Q .normal s)) (hh:I2 C B F0 w0 s a w):
 (J3 id ops d).wp C.P (cN C B F0 w0 (Hk ops.toList) Q s) a w:=by
 obtain⟨R,s',h1,h2,h3⟩:=Jj ops.toList 0 s [] _ (by simp) rfl h;rw[Aw,<-Sz]at h1;unfold cnd at h2;split at h2
 .rename_i hr;exact yB hm (λ_=>Q8 hr) h1 hh λa w hw=>⟨.normal,s',rfl,h2,h3,hw⟩
 .exact h2.elim
theorem T6 [EffOk C] (hm:C.P.follows .mixedOrders=true):∀(c:Code) (n:Nat) (Q:X->St->Prop) (s:St) (a:Act) (w:World),wpC C (Gives C) anns n c Q s->I2 C B F0 w0 s a w->
 c.wp C.P (cN C B F0 w0 (jC anns n c) Q s) a w:=by
 intro c
 induction c with
 |skip=>intro n Q s a w h hh;exact wp_skip ⟨.normal,s,rfl,h,Frame.refl _ _,hh⟩
 |region id ops d=>
  intro n Q s a w h hh;simp only[wpC,V6]at h;cases d with
  |false=>exact Wz hm (by simp) h hh
  |true=>
   dsimp only at h
   split at h
   .rename_i hr;exact Wz hm (λ_=>hr) h hh
   .exact H6 hm h hh
 |seq x y ihx ihy=>
  intro n Q s a w h hh;simp only[wpC,V6,Jg,XP]at h;split at h
  .rename_i hj;refine wp_seq (I3 (λe a' w' hp=>?_) (ihx n _ s a w h hh));obtain⟨z,s',hz,hq,hf,a0⟩:=hp;cases z with
   |normal=>
    have hz:e= .normal:=hz;subst hz;refine I3 (λe a' w' hp=>?_) (ihy _ _ s' a' w' hq a0);obtain⟨z,bc,hz,hq,al,b1⟩:=hp;exact⟨z,bc,hz,hq,(hf.trans al).mono λt ht=>by
     simp only[jC,Lr]at ht ⊢;rcases ht with ht|ht
     .exact .inl ht
     .exact .inr (.inl ht),b1⟩
   |exit i=>have hz:e= .exit i:=hz;subst hz;exact⟨.exit i,s',rfl,hq,hf.mono λt ht=>by simp[jC,ht],a0⟩
   |ret=>have hz:e= .ret:=hz;subst hz;exact⟨.ret,s',rfl,hq,hf.mono λt ht=>by simp[jC,ht],a0⟩
  .rename_i J hj;have hjs:Xu anns y=qP J.locs:=by unfold Xu;rw[hj]
   obtain⟨h1,b0⟩:=h;generalize hlocs:J.locs=locs at *;generalize hmt:jC anns n x=mt at *;generalize hms:Z8 x=ms at *;have hh0:I2 C B F0 w0 ⟨s.tmps,s.objs,[]⟩ a w:=xc hh rfl rfl;have h2:=ihx n _ _ a w h1 hh0;rw[hmt]at h2;refine wp_seq (I3 (λe a' w' hp=>?_) h2);obtain⟨z,s',hz,hq,hf,a0⟩:=hp;have a7:Frame (jC anns n (.seq x y)) s ⟨s'.tmps,s'.objs,s'.dirty++s.dirty⟩:=by
    refine⟨hf.lt,hf.lo,λt ht=>?_,λk hk=>?_,λk hk=>No _ hk⟩
    .simp only[jC,Lr,not_or]at ht;exact hf.tmps t (by rw[<-hmt];exact ht.1)
    .simp only[Lr,not_or]at hk;exact hf.objs k hk.1
   cases z with
   |normal=>
    have hz:e= .normal:=hz;subst hz;simp only at hq;split at hq
    .exact hq.elim
    rename_i m' a3;obtain⟨a2,a5⟩:=VL (C:=C) (B:=B) (F0:=F0) (w0:=w0) (a:=a') (w:=w') a3;unfold cnd at hq;split at hq
    .rename_i bb;generalize hm:(⟨wD s.tmps (mt++qP locs),jq s.objs (ms++xg locs),ms++(xg locs++s.dirty)⟩:St)=m at *;have ag:m.tmps=wD s.tmps (mt++qP locs):=by rw[<-hm]
     have ad:m.objs=jq s.objs (ms++xg locs):=by rw[<-hm]
     have b3:m.dirty=ms++(xg locs++s.dirty):=by rw[<-hm]
     have a4:Away locs m m':=by
      refine⟨?_,?_,λt ht=>?_,λk hk=>?_⟩
      .rw[ag,ko];exact(a2.lt.trans hf.lt).symm
      .rw[ad,jG];exact(a2.lo.trans hf.lo).symm
      .rw[ag];by_cases htm:t∈mt
       .rw[yD _ _ (.inl (by simp[htm])),a2.tin t htm ht]
       .rw[kp _ _ (by simp[htm,ht]),a2.tout t htm ht,hf.tmps t htm]
      .rw[ad];by_cases hkm:k∈ms
       .rw[kq _ _ (.inl (by simp[hkm])),a2.oin k hkm]
       .have a6:k∉m'.dirty:=λh=>by
         rcases Lr.1 (Wx bb k h)with h|h
         .exact hkm h
         .exact hk h
        rw[zZ _ _ (by simp[hkm,hk]),a2.oout k a6,hf.objs k λh=>a6 (a2.dirty k (.inl h))]
     have b2:=wO (pre:=[]) (m:=m) a2.ok a4;have hb:=YM b0 (xN a2.ok) hq;have hS:I2 C B F0 w0 (fill locs 0 (xK locs m') m) a' w':=xc (a5 a0) b2.1.symm b2.2.symm;obtain⟨q1,q2,q3,q4,q5⟩:=kM (locs:=locs) (i:=0) (us:=xK locs m') (m:=m);refine I3 (λe a' w' hp=>?_) (ihy _ _ _ a' w' hb hS);obtain⟨z,bc,hz,hq,al,b1⟩:=hp;refine⟨z,bc,hz,hq,⟨?_,?_,λt ht=>?_,λk hk=>?_,λk hk=>?_⟩,b1⟩
     .rw[al.lt,q1,ag,ko]
     .rw[al.lo,q2,ad,jG]
     .simp only[jC,Lr,not_or,hjs,hmt]at ht;rw[al.tmps t ht.2.1,q4 t ht.2.2,ag,kp _ _ (by simp[ht.1,ht.2.2])]
     .have a6:k∉(fill locs 0 (xK locs m') m).dirty:=λh=>hk (al.dirty k h)
      rw[q3,b3]at a6;simp only[Lr,not_or]at a6;rw[al.objs k (λh=>hk h),q5 k a6.2.1,ad,zZ _ _ (by simp[a6.1,a6.2.1])]
     .refine al.dirty k ?_;rw[q3,b3];simp[hk]
    .exact hq.elim
   |exit i=>have hz:e= .exit i:=hz;subst hz;exact⟨.exit i,_,rfl,hq,a7,xc a0 rfl rfl⟩
   |ret=>have hz:e= .ret:=hz;subst hz;exact⟨.ret,_,rfl,hq,a7,xc a0 rfl rfl⟩
 |cond cd x y ihx ihy=>
  intro n Q s a w h hh;simp only[wpC]at h;split at h
  .rename_i d hd;obtain⟨F,bd,hc⟩:=hh;have he:=(qU hc cd).1;rw[hd]at he;cases d with
   |bool b=>
    have hb:a.eval cd= .bool b:=(λ(x:Value) (hx:CD w F (.bool b) x)=>(by cases hx;rfl:x= .bool b)) _ he;refine wp_cond hb ?_;cases b with
    |true=>rw[if_pos rfl];refine I3 (λe a' w' hp=>?_) (ihx n Q s a w h ⟨F,bd,hc⟩);obtain⟨z,s',hz,hq,hf,a0⟩:=hp;exact⟨z,s',hz,hq,hf.mono λt ht=>by simp[jC,ht],a0⟩
    |false=>rw[if_neg (by simp)];refine I3 (λe a' w' hp=>?_) (ihy _ Q s a w h ⟨F,bd,hc⟩);obtain⟨z,s',hz,hq,hf,a0⟩:=hp;exact⟨z,s',hz,hq,hf.mono λt ht=>by simp[jC,ht],a0⟩
   |_=>exact h.elim
  .exact h.elim
 |block id x ih=>
  intro n Q s a w h hh;simp only[wpC]at h;refine wp_block (I3 (λe a' w' hp=>?_) (ih n _ s a w h hh));obtain⟨z,s',hz,hq,hf,a0⟩:=hp;cases z with
  |normal=>have hz:e= .normal:=hz;subst hz;exact⟨.normal,s',rfl,hq,hf,a0⟩
  |exit i=>
   have hz:e= .exit i:=hz;subst hz;simp only at hq;unfold Exit.inBlock;split at hq
   .rename_i hi;have:=cc hi;simp only[this,if_true];exact⟨.normal,s',rfl,hq,hf,a0⟩
   .rename_i hi;have:i≠id:=λe=>by subst e;simp at hi
    simp only[this,if_false];exact⟨.exit i,s',rfl,hq,hf,a0⟩
  |ret=>have hz:e= .ret:=hz;subst hz;exact⟨.ret,s',rfl,hq,hf,a0⟩
 |exit id=>intro n Q s a w h hh;exact wp_exit ⟨.exit id,s,rfl,h,Frame.refl _ _,hh⟩
 |ret=>intro n Q s a w h hh;exact wp_ret ⟨.ret,s,rfl,h,Frame.refl _ _,hh⟩
 |loop body ih=>
  intro n Q s a w h hh;simp only[wpC,V6]at h;split at h
  .exact h.elim
  rename_i m b5;generalize hmt:jC anns (n+1) body=mt at *;generalize hms:Z8 body=ms at *;generalize hlocs:(anns n).locs=locs at *;obtain⟨ba,b0⟩:=h;obtain⟨hM,b6⟩:=VL (C:=C) (B:=B) (F0:=F0) (w0:=w0) (a:=a) (w:=w) b5;have ap:(fill locs 0 (xK locs m) ⟨m.tmps,m.objs,[]⟩).tmps=m.tmps/\(fill locs 0 (xK locs m) ⟨m.tmps,m.objs,[]⟩).objs=m.objs:=
   wO (pre:=[]) (m:=⟨m.tmps,m.objs,[]⟩) hM.ok ⟨rfl,rfl,λ_ _=>rfl,λ_ _=>rfl⟩
  let S:List D->St:=λus=>fill locs 0 us ⟨m.tmps,m.objs,[]⟩
  let p:Act->World->Nat->Prop:=λa w k=>∃us,TypedL (Hm locs) us/\(anns n).inv (xK (anns n).gh m) us/\I2 C B F0 w0 (S us) a w/\(anns n).meas us=k
  have h0:∃k,p a w k:=⟨_,xK locs m,xN hM.ok,ba,xc (b6 hh) ap.1.symm ap.2.symm,rfl⟩;refine wp_loop (λa w=>∃k,p a w k) (λa w=>kc (p a w)) h0 λa1 w1 h1=>?_
  obtain⟨us,hty,hiv,hs,hme⟩:=Jh h1;have hb:=YM b0 hty hiv;refine I3 (λe a' w' hp=>?_) (ih (n+1) _ (S us) a1 w1 hb hs);rw[hmt]at hp;obtain⟨z,s',hz,hq,hf,a0⟩:=hp;obtain⟨q1,q2,q3,q4,q5⟩:=kM (locs:=locs) (i:=0) (us:=us) (m:=⟨m.tmps,m.objs,[]⟩)
  --the frame from the loop's start to an end that leaves it
  have a7:Frame (qP locs++mt) s ⟨s'.tmps,s'.objs,s'.dirty++m.dirty⟩:=by
   refine⟨hf.lt.trans (q1.trans hM.lt),hf.lo.trans (q2.trans hM.lo),λt ht=>?_,λk hk=>?_,λk hk=>No _ (hM.dirty k (.inl hk))⟩
   .simp only[Lr,not_or]at ht;show nth .any s'.tmps t=_;rw[hf.tmps t ht.2,q4 t ht.1];exact hM.tout t ht.2 ht.1
   .simp only[Lr,not_or]at hk;show nth .none s'.objs k=_;rw[hf.objs k hk.1,q5 k λh=>hk.2 (hM.dirty k (.inr h))];exact hM.oout k hk.2
  cases z with
  |normal=>
   have hz:e= .normal:=hz;subst hz;simp only at hq;split at hq
   .exact hq.elim
   rename_i m' a3;obtain⟨a2,a5⟩:=VL (C:=C) (B:=B) (F0:=F0) (w0:=w0) (a:=a') (w:=w') a3;unfold cnd at hq;split at hq
   .rename_i bb;obtain⟨hi',hm'⟩:=hq;have a4:Away locs ⟨m.tmps,m.objs,[]⟩ m':=by
     refine⟨(a2.lt.trans (hf.lt.trans q1)).symm,(a2.lo.trans (hf.lo.trans q2)).symm,λt ht=>?_,λk hk=>?_⟩
     .show nth .any m.tmps t=_;by_cases htm:t∈mt
      .rw[hM.tin t htm ht,a2.tin t htm ht]
      .rw[a2.tout t htm ht,hf.tmps t htm,q4 t ht]
     .show nth .none m.objs k=_;by_cases hkm:k∈ms
      .rw[hM.oin k hkm,a2.oin k hkm]
      .have a6:k∉m'.dirty:=λh=>by
        rcases Lr.1 (Wx bb k h)with h|h
        .exact hkm h
        .exact hk h
       rw[a2.oout k a6,hf.objs k λh=>a6 (a2.dirty k (.inl h)),q5 k hk]
    have b2:=wO (pre:=[]) (m:=⟨m.tmps,m.objs,[]⟩) a2.ok a4;have b4:p a' w' ((anns n).meas (xK locs m')):=⟨xK locs m',xN a2.ok,hi',xc (a5 a0) b2.1.symm b2.2.symm,rfl⟩;refine⟨⟨_,b4⟩,?_⟩;have h3:=Ji b4;show kc (p a' w')<kc (p a1 w1);omega
   .exact hq.elim
  |exit i=>have hz:e= .exit i:=hz;subst hz;exact⟨.exit i,_,rfl,hq,by rw[jC,hlocs,hmt];exact a7,xc a0 rfl rfl⟩
  |ret=>have hz:e= .ret:=hz;subst hz;exact⟨.ret,_,rfl,hq,by rw[jC,hlocs,hmt];exact a7,xc a0 rfl rfl⟩
 |_=>intro n Q s a w h hh;exact h.elim
end
end Eng
end
section
namespace Eng
open Go Go.RowKit
variable [Env]
section
variable {C:Cx}
def QL (F0:Nat->Prop) (B:Bd) (w:World):Nat->Prop:=λb=>F0 b\/(Own B b/\b<w.heap.size)
def N1 (tmps:Array Value) (r:ResultVar):Sem Value:=
 match r with
 | .tmp t=>pure (tmps.getD t undef)
 | .cell x t=>do loadVar t (<-asAddr (tmps.getD x undef))
theorem T7 {F0:Nat->Prop} {w0:World} {B:Bd} {F:Nat->Prop} {loc:Where} {st:St} {a:Act} {w:World} (h:Conc C B F0 w0 F loc st a w) {cells:List V} {ds:List D} {xs:List Value} (hc:UY st.objs cells=some ds)
 (hv:All2 (λv x=>CV loc st.objs w F v x/\x.oneCell'=true) cells xs):All2 (CD w (QL F0 B w)) ds xs:=by
 unfold UY at hc;split at hc
 .rename_i cs hcs;split at hc
  .rename_i ds' us hd;simp only[ea]at hc;subst hc;rw[wI hcs]at hv;exact(yt h hd (JG hv)).2 (QL F0 B w) (λb hb=>by
    rcases h.fsub b hb with h'|h'
    .exact .inl h'
    .exact .inr ⟨h',h.bound b hb⟩) (λp _ b c hl=> .inr (h.fresh _ _ _ hl))
  .simp at hc
 .simp at hc
theorem RK {F0:Nat->Prop} {w0:World} {B:Bd} {F:Nat->Prop} {loc:Where} {st:St} {a:Act} {w:World} (h:Conc C B F0 w0 F loc st a w) {v:V} {x:Value} {r:A} (hr:toR st.objs v=some r) (hv:CV loc st.objs w F v x):CA w (QL F0 B w) r x:=by
 unfold toR at hr;split at hr
 .rename_i k n;split at hr
  .rename_i _ a0 hk;split at hr
   .rename_i ds hn hds;simp only[ea]at hr;subst hr;obtain rfl:=cc hn;obtain⟨b,c,hl,rfl⟩:=hv _ hk rfl;have a5:=h.objs k;rw[hk]at a5;obtain⟨b',c',cs,t',a3,_,a2,hsz,hlc,a1,_⟩:=a5;rw[hl]at a3;simp only[ea,eb]at a3;obtain⟨rfl,rfl⟩:=a3;have ad:∀j,j<a0.length->nth undef (cs.toList.take a0.length) j=nth undef cs.toList j:=λj hj=>by rw[qw,qw,List.getElem?_take,if_pos hj]
    have a7:(cs.toList.take a0.length).length=a0.length:=by simp;omega
    have h2:All2 (λv x=>CV loc st.objs w F v x/\x.oneCell'=true) a0 (cs.toList.take a0.length):=zY .any undef a7.symm λj hj=>by
     obtain⟨u,q1,q2,q3⟩:=a1 j hj;have e:nth undef cs.toList j=u:=by rw[qw];simp[q1]
     rw[ad j hj,e];exact⟨q2,q3⟩
    have a4:=T7 h hds h2;have a6:=a4.length;rw[a7]at a6;have hf:∀l:List D,(l.map λd=>[d]).flatten=l:=λl=>by induction l with|nil=>rfl|cons _ _ ih=>simp[ih]
    show CD w (QL F0 B w) (.sl (ds.map λd=>[d])) _;have:=CD.sl (w:=w) (F:=QL F0 B w) (ds.map λd=>[d]) b 0 c 1 (λj=>nth undef (cs.toList.take a0.length) j) (by rw[M3];omega) (λe he=>by obtain⟨_,_,rfl⟩:=Lv.1 he;rfl) (.inr (h.fresh _ _ _ hl)) (λj hj=>by
     rw[M3,cH]at hj;rw[cp,xI a2,ad j (by omega),qw];simp[show j<cs.size by omega]) (λj hj=>by
     rw[M3,cH]at hj;rw[hf];exact a4.nth .undef undef _ _ j hj)
    rw[M3,a6]at this;exact this
   .simp at hr
  .simp at hr
 .split at hr
  .rename_i r' us h1;simp only[ea]at hr;subst hr;exact(RF h h1 hv).2 (QL F0 B w) (λb hb=>by
    rcases h.fsub b hb with h'|h'
    .exact .inl h'
    .exact .inr ⟨h',h.bound b hb⟩) (λp _ b c hl=> .inr (h.fresh _ _ _ hl))
  .simp at hr
theorem Jk {F0:Nat->Prop} {w0:World} {B:Bd} {F:Nat->Prop} {loc:Where} {st:St} {a:Act} {w:World} (h:Conc C B F0 w0 F loc st a w):∀{cells:List V} {ds:List D} {xs:List Value},Xv st.objs cells=some ds->
 All2 (λv x=>CV loc st.objs w F v x/\x.oneCell'=true) cells xs->All2 (CD w (QL F0 B w)) ds xs
 |[],_,[],hc,_=>by simp only[Xv,ea]at hc;subst hc;trivial
 |v::vs,ds,x::xs,hc,hv=>by
  simp only[Xv]at hc;split at hc
  .rename_i d ds' h1 h2;simp only[ea]at hc;subst hc;exact⟨RK h h1 hv.1.1,Jk h h2 hv.2⟩
  .cases hc
 |[],_,_::_,_,hv=>hv.elim
 |_::_,_,[],_,hv=>hv.elim
theorem Qk {F0:Nat->Prop} {w0:World} {B:Bd} {F:Nat->Prop} {loc:Where} {st:St} {a:Act} {w:World} (h:Conc C B F0 w0 F loc st a w):∀{rs:List ResultVar} {as:List A},resD C st rs=some as->
 ∃vs:List Value,(rs.mapM (N1 a.tmps)).run C.P w= .ok vs w/\All2 (CA w (QL F0 B w)) as vs
 |[],as,hr=>by simp only[resD,ea]at hr;subst hr;exact⟨[],rfl,trivial⟩
 | .tmp t::r,as,hr=>by
  simp only[resD]at hr;split at hr
  .rename_i d as' h1 h2;simp only[ea]at hr;subst hr;obtain⟨vs,h3,h4⟩:=Qk h h2;refine⟨a.tmps.getD t undef::vs,?_,?_,h4⟩
   .rw[W0];simp[h3,N1]
   .have hv:=(wH h t).1;exact RK h h1 hv
  .simp at hr
 | .cell x t::r,as,hr=>by
  simp only[resD]at hr;split at hr
  .rename_i k hv;split at hr
   .rename_i cells z hk hz;split at hr
    .rename_i ds as' hlen hds h2;have hlen:cells.length=z.length:=of_decide_eq_true hlen;obtain⟨vs,h3,h4⟩:=Qk h h2;have hx:=(wH h x).1;simp only[Act.eval]at hx;rw[hv]at hx;obtain⟨b,c,hl,hp⟩:=hx _ hk rfl;have hco:=h.objs k;rw[hk]at hco;obtain⟨b',c',cs,t',hl',hnF,hblk,hall,hrefs⟩:=hco;rw[hl]at hl';simp only[ea,eb]at hl';obtain⟨rfl,rfl⟩:=hl';have hl2:=hall.length;have hcell:∀j,j<z.length->w.cell? ⟨b,0+j,none⟩=some (nth undef cs.toList (0+j)):=λj hj=>by rw[cp,xI hblk,qk _ (by omega)];simp at hl2;simp[show j<cs.size by omega]
     have hFF:∀b,F b->QL F0 B w b:=λb hb=>by
      rcases h.fsub b hb with h'|h'
      .exact .inl h'
      .exact .inr ⟨h',h.bound b hb⟩
     have hcd:All2 (CD w (QL F0 B w)) ds cs.toList:=Jk h hds hall;have hcs:∀n,n=cs.toList.length->JE (λj=>nth undef cs.toList j) 0 n=cs.toList:=λn hn=>by
      apply JR undef
      .rw[hn];rw[vR]
      .intro i;by_cases hi:i<n
       .rw[QT _ _ _ _ _ hi,cp]
       .rw[qC _ (by rw[vR];omega),qC _ (by omega)]
     have h1:=kl (P:=C.P) (w:=w) (b:=b) (o:=0) hz (λj=>nth undef cs.toList j) hcell;obtain⟨_,zv,_,_,hzc,_,_,hzt,_⟩:=xy hz;have hpos:wk C.P t=false->0<z.length:=by intro hf;cases zv<;>simp[hf]at hzt<;>(subst hzc;simp[Value.cells])
     have a0:∀y,(Instr.loadAt t (.pointer (some ⟨b,0,none⟩))).run C.P w= .ok y w->(do loadVar t (<-asAddr (a.tmps.getD x undef)):Sem Value).run C.P w= .ok y w:=λy hy=>by
      have hp':a.tmps.getD x undef= .pointer (some ⟨b,0,none⟩):=hp;rw[hp']
      simpa [Instr.loadAt,Instr.sureAddr,asAddr]using hy
     have hlc:z.length=cs.toList.length:=by rw[<-hlen];exact hl2
     split at hr
     .rename_i ht;simp only[ea]at hr;subst hr;rcases h1 with h1|⟨h1,_⟩
      .rw[ht]at h1;refine⟨.agg cs::vs,?_,⟨cs,rfl,hcd⟩,h4⟩;have h5:=a0 _ h1;rw[hcs _ hlc]at h5;rw[W0];simp only[Sem.run_bind,N1,h5,Result.andThen_ok,h3];rfl
      .rw[ht]at h1;simp at h1
     .rename_i ht;simp only[ea]at hr;subst hr;rcases h1 with h1|⟨_,h1⟩
      .rw[ht]at h1;refine⟨nth undef cs.toList 0::vs,?_,?_,h4⟩
       .have h5:=a0 _ h1;rw[W0];simp only[Sem.run_bind,N1,h5,Result.andThen_ok,h3];rfl
       .have h6:=hpos ht;exact hcd.nth .undef undef _ _ 0 (by have:=hcd.length;omega)
      .have:=hpos ht;omega
    .simp at hr
   .simp at hr
  .simp at hr
theorem Oy {w:World} {F:Nat->Prop} {loc:Where} {objs:List Obj} {a:A} {v:Value} (h:CA w F a v):CV loc objs w F (Oa a) v:=by
 cases a with
 |ag cs=>exact h
 |c d=>
  cases d with
  |ptr cs=>
   replace h:CD w F (.ptr cs) v:=h;cases h with
   |ptr cs b o vs hF hc hd=>
    refine⟨b,o,cs.length,by simp,by simp,⟨λe he=>by simp at he;rw[he],hF,λj hj=>?_⟩⟩;have hj:j<cs.length:=by simpa using hj
    exact⟨vs j,hc j hj,by simpa using hd j hj⟩
  |_=>exact h
omit [Env] in
theorem vk {objs:List Obj} (a:A):Ref objs (Oa a):=by
 cases a with
 |c d=>cases d<;>trivial
 |ag cs=>trivial
theorem vZ {w:World} {F:Nat->Prop} {loc:Where} {objs:List Obj}:∀{args:List A} {vs:List Value},All2 (CA w F) args vs->All2 (CV loc objs w F) (args.map Oa) vs
 |[],[],_=>trivial
 |_::_,_::_,h=>⟨Oy h.1,vZ h.2⟩
 |[],_::_,h=>h.elim
 |_::_,[],h=>h.elim
omit [Env] in
theorem kN {α β:Type} {R:α->β->Prop}:∀{as as':List α} {bs bs':List β},All2 R as bs->All2 R as' bs'->All2 R (as++as') (bs++bs')
 |[],_,[],_,_,h'=>h'
 |_::_,_,_::_,_,h,h'=>⟨h.1,kN h.2 h'⟩
 |[],_,_::_,_,h,_=>h.elim
 |_::_,_,[],_,h,_=>h.elim
omit [Env] in
theorem vm {α β:Type} {R:α->β->Prop} {a:α} {b:β} (h:R a b):∀n,All2 R (V1 n a) (V1 n b)
 |0=>trivial
 |n+1=>⟨h,vm h n⟩
omit [Env] in
theorem XR {α:Type} (d:α):∀(n i:Nat),nth d (V1 n d) i=d
 |0,_=>rfl
 |n+1,0=>rfl
 |n+1,i+1=>by simp only[List.replicate_succ,nth];exact XR d n i
theorem vn {n:Nat} {args:List A} {vs:List Value} {w:World} {F:Nat->Prop} (hb:∀b,F b->b<w.heap.size) (hinv:Inv C F w) (hargs:All2 (CA w F) args vs):
 I2 C ⟨w.heap.size,λ_=>False⟩ F w (ki n args) {tmps:=vs.toArray++Array.replicate (n-vs.toArray.size) undef,defers:=[]} w:=by
 have a0:=hargs.length;refine⟨F,⟨C.P,λ_=>none,λ_=>0⟩,⟨rfl,BelowX.refl _ _,cL _,rfl,?_,λv hv=>?_,λk=>?_,λ_ _ _ _ _ h=>by simp at h,λ_ _ _ h=>by simp at h,hb,λb h=> .inl h,λ_ h=>h,hinv⟩⟩
 .simp only[ki,Array.toList_append,Array.toList_replicate,List.size_toArray];rw[a0];exact kN (vZ hargs) (vm trivial _)
 .simp only[ki,Lr,Lv,List.mem_replicate]at hv;rcases hv with⟨x,_,rfl⟩|⟨_,rfl⟩
  .exact vk x
  .trivial
 .simp only[ki];rw[XR];rfl
theorem VN {fn:Func} {w:World} {F:Nat->Prop} {s':St} {a':Act} {w':World} {res:List A} (hh:I2 C ⟨w.heap.size,λ_=>False⟩ F w s' a' w') (has:resD C s' fn.results.toList=some res):
 a'.defers=[]/\∃v,(results fn a'.tmps).run C.P w'= .ok v w'/\Below w.heap.size w w'/\∃u,Ending.returned v= .returned u/\vO w' (λb=>F b\/(w.heap.size<=b/\b<w'.heap.size)) res u:=by
 obtain⟨F',loc',a0⟩:=hh;obtain⟨us,h1,h2⟩:=Qk a0 has;refine⟨a0.defers,if h:us.toArray.size=1 then us.toArray[0]else .tuple us.toArray,?_,a0.below.toBelow,_,rfl,?_⟩
 .unfold results;rw[Array.mapM_eq_mapM_toList];simp only[Sem.run_bind,map_eq_pure_bind];have h5:∀g:ResultVar->Sem Value,g=N1 a'.tmps->(fn.results.toList.mapM g).run C.P w'= .ok us w':=λg hg=>by rw[hg];exact h1
  rw[h5 _ (by funext r;cases r<;>rfl)];rfl
 .have hl:=h2.length;have h2:All2 (CA w' (λb=>F b\/(w.heap.size<=b/\b<w'.heap.size))) res us:=h2.mono λ_ _ h=>h.mono (λb hb=>hb.imp id λhb=>⟨hb.1.elim id False.elim,hb.2⟩) λ_ _=>rfl
  match res,us,h2 with
  |[a],[u],h2=>exact h2.1
  |[],[],h2=>exact⟨#[],rfl,trivial⟩
  |a::b::r,u::v::s,h2=>exact⟨(u::v::s).toArray,by simp,h2⟩
theorem qm [EffOk C] {anns:Nat->Ann} {f:Nat} {fn:Func} {args res:List A} (hm:C.P.follows .mixedOrders=true) (hf:C.P.funcs[f]? =some fn) (h:wpF C (Gives C) anns fn args (λr=>r=res)):Gives C f args res:=by
 intro w F vs hb a2 a0;unfold wpF at h;split at h
 .exact h.elim
 rename_i c hc;refine calls_of_wp hf hc ?_;refine I3 (λe a' w' hp=>?_) (T6 hm c 0 _ _ _ _ h (vn hb a2 a0));obtain⟨x,s',hx,hq,_,hh⟩:=hp;have a3:∀as,resD C s' fn.results.toList=some as->as=res->_:=λas a1 he=>VN (fn:=fn) hh (he▸a1)
 cases x with
 |normal=>
  have hx:e= .normal:=hx;subst hx;simp only at hq;split at hq
  .rename_i as a1;exact a3 as a1 hq
  .exact hq.elim
 |ret=>
  have hx:e= .ret:=hx;subst hx;simp only at hq;split at hq
  .rename_i as a1;exact a3 as a1 hq
  .exact hq.elim
 |exit i=>exact hq.elim
end
end Eng
end
section
namespace Eng
open Go Go.RowKit
variable [Env]
def Vq (d m k:Nat):Nat:=match cv k d with
 |true=>m
 |false=>k
def N2 (d m:Nat):V->V
 | .box k off=> .box (Vq d m k) off
 | .arr k=> .arr (Vq d m k)
 | .elt k i off=> .elt (Vq d m k) i off
 | .sub k off len=> .sub (Vq d m k) off len
 | .arrAt _ _ _ _=> .any
 | .boxAt k g=> .boxAt (Vq d m k) g
 | .tpo k as=> .tpo (Vq d m k) as
 | .agv _=> .any
 | .pinB _ _ _=> .any
 | .vec k n=> .vec (Vq d m k) n
 |v=>v
def JV (d m:Nat):List V->List V
 |[]=>[]
 |v::r=>N2 d m v::JV d m r
def ZH (d m:Nat):Obj->Obj
 | .box cells=> .box (JV d m cells)
 | .bld T q=> .bld T (N2 d m q)
 | .vec cells=> .vec (JV d m cells)
 |o=>o
def H7 (d m:Nat):List Obj->List Obj
 |[]=>[]
 |v::r=>ZH d m v::H7 d m r
def evict1 (d:Nat) (st:St):St:=
 match nth .none st.objs d with
 | .none=>st
 |o=>match Nat.blt d st.objs.length with
  |true=>⟨JV d st.objs.length st.tmps,H7 d st.objs.length (upd st.objs d .none)++[ZH d st.objs.length o],[]⟩
  |false=>st
def evict:List Nat->St->St
 |[],st=>st
 |d::r,st=>evict r (evict1 d st)
omit [Env] in
theorem T8 (d m k:Nat):Vq d m k=if k=d then m else k:=by
 unfold Vq;split
 .rename_i h;rw[if_pos (cc h)]
 .rename_i h;rw[if_neg λe=>by subst e;simp at h]
omit [Env] in
theorem jh (d m:Nat):∀l,JV d m l=l.map (N2 d m)
 |[]=>rfl
 |v::r=>by simp only[JV,Tk];rw[jh d m r]
omit [Env] in
theorem JW (d m:Nat):∀l,H7 d m l=l.map (ZH d m)
 |[]=>rfl
 |v::r=>by simp only[H7,Tk];rw[JW d m r]
omit [Env] in
theorem ya {α β:Type} (f:α->β) (d:α) (l:List α) (i:Nat):nth (f d) (l.map f) i=f (nth d l i):=by
 rw[qw,qw,List.getElem?_map];cases l[i]? <;>rfl
section
variable {C:Cx} {B:Bd} {F0:Nat->Prop} {w0:World} {F:Nat->Prop} {loc:Where} {st:St} {a:Act} {w:World}
omit [Env] in
theorem Ref.lt {objs:List Obj} {v:V} (h:Ref objs v):∀k∈qh v,k<objs.length:=by
 intro k hk;cases v<;>simp only[qh,Pl,bx]at hk<;>first|(subst hk;exact qW h)|exact qW (h k hk)|(rcases Lm.1 hk with rfl|hk;exact qW h.1;obtain⟨p,hp,rfl⟩:=Lv.1 hk;exact qW (h.2 p hp))
omit [Env] in
theorem Ref.ren {objs objs':List Obj} {d m:Nat} {v:V} (ho:∀k,k<objs.length->nth .none objs' (Vq d m k)=ZH d m (nth .none objs k)) (hr:Ref objs v):Ref objs' (N2 d m v):=by
 have hn:∀{o:Obj},o≠ .none->ZH d m o≠ .none:=λ{o} h=>by cases o<;>simp_all[ZH]
 have key:∀k,nth .none objs k≠ .none->nth .none objs' (Vq d m k)≠ .none:=λk h e=>hn h ((ho k (qW h)).symm.trans e)
 cases v<;>first|exact key _ hr|trivial
theorem CV.ren {loc':Where} {objs objs':List Obj} {d m:Nat} {v:V} {x:Value} (ho:∀k,k<objs.length->nth .none objs' (Vq d m k)=ZH d m (nth .none objs k)/\loc' (Vq d m k)=loc k) (hr:Ref objs v) (h:CV loc objs w F v x):CV loc' objs' w F (N2 d m v) x:=by
 have hl:=hr.lt;cases v with
 |box k off=>
  obtain⟨h1,h2⟩:=ho k (hl k (by simp[qh]));intro o hc a0;rw[h1]at hc;rw[h2];have hb:xD (nth .none objs k)=true:=by rw[<-hc]at a0;revert a0;cases nth .none objs k<;>simp[ZH,xD]
  exact h _ rfl hb
 |tpo k as=>obtain⟨h1,h2⟩:=ho k (hl k (by simp[qh]));obtain⟨x,ys,rfl,h3,h4⟩:=h;refine⟨x,ys,rfl,λs es fz hc=>?_,h4⟩;rw[h1]at hc;rw[h2];cases hk:nth .none objs k<;>rw[hk]at hc<;>simp only[ZH,reduceCtorEq]at hc;exact h3 _ _ _ (hk.trans hc)
 |arr k=>obtain⟨h1,h2⟩:=ho k (hl k (by simp[qh]));intro s es fz hc;rw[h1]at hc;rw[h2];cases hk:nth .none objs k<;>rw[hk]at hc<;>simp only[ZH,reduceCtorEq]at hc;exact h _ _ _ (hk.trans hc)
 |elt k i off=>obtain⟨h1,h2⟩:=ho k (hl k (by simp[qh]));intro s es fz hc;rw[h1]at hc;rw[h2];cases hk:nth .none objs k<;>rw[hk]at hc<;>simp only[ZH,reduceCtorEq]at hc;exact h _ _ _ (hk.trans hc)
 |sub k off len=>obtain⟨h1,h2⟩:=ho k (hl k (by simp[qh]));intro s es fz hc;rw[h1]at hc;rw[h2];cases hk:nth .none objs k<;>rw[hk]at hc<;>simp only[ZH,reduceCtorEq]at hc;exact h _ _ _ (hk.trans hc)
 |arrAt k g c t=>trivial
 |agv cs=>trivial
 |pinB k g ps=>trivial
 |boxAt k g=>
  obtain⟨h1,h2⟩:=ho k (hl k (by simp[qh]));intro o hc a0;rw[h1]at hc;rw[h2];have hb:xD (nth .none objs k)=true:=by rw[<-hc]at a0;revert a0;cases nth .none objs k<;>simp[ZH,xD]
  exact h _ rfl hb
 |vec k n=>
  obtain⟨h1,h2⟩:=ho k (hl k (by simp[qh]));intro o hc a0;rw[h1]at hc;rw[h2];have hb:xD (nth .none objs k)=true:=by rw[<-hc]at a0;revert a0;cases nth .none objs k<;>simp[ZH,xD]
  exact h _ rfl hb
 |_=>exact h
omit [Env] in
theorem j7 {α β γ:Type} {R:α->β->Prop} {R':γ->β->Prop} {f:α->γ}:∀{as:List α} {bs:List β},(∀a∈as,∀b,R a b->R' (f a) b)->All2 R as bs->All2 R' (as.map f) bs
 |[],[],_,_=>trivial
 |a::as,b::bs,h,h'=>⟨h a (by simp) b h'.1,j7 (λc hc=>h c (by simp[hc])) h'.2⟩
 |[],_::_,_,h=>h.elim
 |_::_,[],_,h=>h.elim
set_option maxHeartbeats 1000000 in
theorem H8 {d:Nat} (hh:I2 C B F0 w0 st a w):I2 C B F0 w0 (evict1 d st) a w:=by
 unfold evict1;split
 .exact hh
 .rename_i hne;split
  .rename_i hd;rw[c3]at hd;obtain⟨F,a0,h⟩:=hh;generalize hm:st.objs.length=m at *;generalize hobj:H7 d m (upd st.objs d .none)++[ZH d m (nth .none st.objs d)]=objs'
   let loc':Where:=⟨a0.P,λj=>if j=m then a0 d else if j=d then none else a0 j,λj=>if j=m then a0.ty d else a0.ty j⟩
   have a1:(H7 d m (upd st.objs d .none)).length=m:=by rw[JW,M3,qj,hm]
   have a4:∀j,nth .none objs' j=if j=m then ZH d m (nth .none st.objs d)else if j=d then .none else ZH d m (nth .none st.objs j):=λj=>by
    rw[<-hobj];by_cases h1:j<m
    .rw[if_neg (by omega),qw,W2 (by omega),<-qw,JW];have:=ya (ZH d m) .none (upd st.objs d .none) j;have e:ZH d m .none= .none:=rfl;rw[e]at this;rw[this,xS];by_cases h2:j=d
     .subst h2;rw[if_pos ⟨rfl,by omega⟩,if_pos rfl];rfl
     .rw[if_neg λe=>h2 e.1.symm,if_neg h2]
    .by_cases h2:j=m
     .subst h2;rw[if_pos rfl,qw,W1 (by omega)];simp[a1]
     .rw[if_neg h2,if_neg (by omega),qC _ (by simp[a1];omega),qC _ (by omega)];rfl
   have ho:∀k,k<st.objs.length->nth .none objs' (Vq d m k)=ZH d m (nth .none st.objs k)/\loc' (Vq d m k)=a0 k:=λk hk=>by
    rw[T8,a4];by_cases hkd:k=d
    .subst hkd;simp[loc']
    .have:k≠m:=by omega
     simp[loc',hkd,this]
   have hlm:a0 m=none:=by have:=h.objs m;rw[qC _ (by omega)]at this;exact this
   have hld:∀{k b c},a0 k=some (b,c)->k<m:=λ{k b c} hk=>by
    rcases cg k m with h'|h'
    .exact h'
    .have:=h.objs k;rw[qC _ (by omega)]at this;rw[this]at hk;simp at hk
   have a3:∀i,i<m->loc'.ty (Vq d m i)=a0.ty i:=λi hi=>by
    rw[T8];by_cases hid:i=d
    .simp[hid,loc']
    .have:i≠m:=by omega
     simp[hid,loc',this]
   have a5:∀(j k:Nat),loc' j=a0 k->loc'.ty j=a0.ty k->CO a0 st.objs w F k (nth .none st.objs k)->CO loc' objs' w F j (ZH d m (nth .none st.objs k)):=by
    intro j k hl hty hc;cases hk:nth .none st.objs k with
    |none=>rw[hk]at hc;exact hl.trans hc
    |dead=>rw[hk]at hc;exact hl.trans hc
    |box cells=>
     rw[hk]at hc;obtain⟨b,c,cs,t,h1,h2,h3,h4,h5⟩:=hc;refine⟨b,c,cs,t,hl.trans h1,h2,h3,?_,?_⟩
     .rw[jh];exact j7 (λv hv x hx=>⟨CV.ren ho (h5 v hv) hx.1,hx.2⟩) h4
     .intro v hv;rw[jh]at hv;obtain⟨u,hu,rfl⟩:=Lv.1 hv;exact(h5 u hu).ren λk hk=>(ho k hk).1
    |vec cells=>
     rw[hk]at hc;obtain⟨b,c,cs,t,h1,h2,h3,h4,h5,h7,h8,h9⟩:=hc;have a2:(JV d m cells).length=cells.length:=by rw[jh,M3]
     refine⟨b,c,cs,t,hl.trans h1,h2,h3,h4,by rw[a2];exact h5,λj hj=>?_,λv hv=>?_,h9.1,by rw[a2];exact h9.2⟩
     .rw[a2]at hj;obtain⟨x,q1,q2,q3⟩:=h7 j hj;refine⟨x,q1,?_,q3⟩;rw[jh,show(V.any:V)=N2 d m .any from rfl,ya];exact CV.ren ho (h8 _ (qT hj)) q2
     .rw[jh]at hv;obtain⟨u,hu,rfl⟩:=Lv.1 hv;exact(h8 u hu).ren λk hk=>(ho k hk).1
    |bld T q=>
     rw[hk]at hc;obtain⟨b,c,p,v,h1,h2,h3,h4,h5,h6⟩:=hc;refine⟨b,c,p,v,hl.trans h1,h2,h3,h4,CV.ren ho h6.1 h5,h6.1.ren λk hk=>(ho k hk).1,λi hi=>?_⟩;cases q with
     |arr i'=>simp only[N2,V.arr.injEq]at hi;subst hi;have hlt:=Ref.lt h6.1 i' (by simp[qh]);rw[a3 i' (by omega)];exact h6.2 i' rfl
     |_=>simp[N2]at hi
    |arr s es fz=>rw[hk]at hc;obtain⟨h1,h2,h3,h4⟩:=hc;refine⟨h1,h2,h3,?_⟩;rw[hl,hty];exact h4
   refine⟨F,loc',h.prog,h.below,h.hB,h.defers,?_,?_,λj=>?_,?_,?_,h.bound,h.fsub,h.fsup,h.inv⟩
   .show All2 _ (JV d m st.tmps) _;rw[jh];exact j7 (λv hv x hx=>CV.ren ho (h.refs v hv) hx) h.tmps
   .intro v hv;have hv:v∈JV d m st.tmps:=hv;rw[jh]at hv;obtain⟨u,hu,rfl⟩:=Lv.1 hv;exact(h.refs u hu).ren λk hk=>(ho k hk).1
   .show CO loc' objs' w F j (nth .none objs' j);rw[a4];split
    .rename_i e;exact a5 j d (by simp[loc',e]) (by simp[loc',e]) (h.objs d)
    .split
     .rename_i e1 e2;show loc' j=none;simp[loc',e2];omega
     .rename_i e1 e2;exact a5 j j (by simp[loc',e1,e2]) (by simp[loc',e1]) (h.objs j)
   .intro j j' b c c' g1 g2;simp only[loc']at g1 g2;split at g1<;>split at g2
    .rw[‹j=m›,‹j'=m›]
    .split at g2
     .simp at g2
     .exact absurd (h.inj _ _ _ _ _ g1 g2).symm ‹_›
    .split at g1
     .simp at g1
     .exact absurd (h.inj _ _ _ _ _ g1 g2) ‹_›
    .split at g1
     .simp at g1
     .split at g2
      .simp at g2
      .exact h.inj _ _ _ _ _ g1 g2
   .intro j b c g1;simp only[loc']at g1;split at g1
    .exact h.fresh _ _ _ g1
    .split at g1
     .simp at g1
     .exact h.fresh _ _ _ g1
  .exact hh
theorem XS:∀(l:List Nat) {st:St},I2 C B F0 w0 st a w->I2 C B F0 w0 (evict l st) a w
 |[],_,h=>h
 |_::r,_,h=>XS r (H8 h)
end
def JX (k:Nat) (ds:List D):V->V
 | .box j off=>match cv j k with
  |true=> .eref [ds] 0 off
  |false=> .box j off
 | .boxAt j g=>match cv j k with
  |true=> .any
  |false=> .boxAt j g
 | .agv _=> .any
 | .pinB _ _ _=> .any
 |v=>v
def ZI (k:Nat) (ds:List D):List V->List V
 |[]=>[]
 |v::r=>JX k ds v::ZI k ds r
def Oz (k:Nat) (ds:List D):Obj->Obj
 | .box cells=> .box (ZI k ds cells)
 | .bld T q=> .bld T (JX k ds q)
 | .vec cells=> .vec (ZI k ds cells)
 |o=>o
def XT (k:Nat) (ds:List D):List Obj->List Obj
 |[]=>[]
 |v::r=>Oz k ds v::XT k ds r
def frz1 (k:Nat) (st:St):St:=
 match nth .none st.objs k with
 | .box cells=>match qB cells with
  |some ds=>⟨ZI k ds st.tmps,upd (XT k ds st.objs) k .dead,[]⟩
  |none=>st
 |_=>st
omit [Env] in
theorem ji (k:Nat) (ds:List D):∀l,ZI k ds l=l.map (JX k ds)
 |[]=>rfl
 |v::r=>by simp only[ZI,Tk];rw[ji k ds r]
omit [Env] in
theorem YN (k:Nat) (ds:List D):∀l,XT k ds l=l.map (Oz k ds)
 |[]=>rfl
 |v::r=>by simp only[XT,Tk];rw[YN k ds r]
section
variable {C:Cx} {B:Bd} {F0:Nat->Prop} {w0:World} {F:Nat->Prop} {loc:Where} {st:St} {a:Act} {w:World}
omit [Env] in
theorem Ql {α β:Type} {R:α->β->Prop}:∀{as:List α} {bs:List β},All2 R as bs->∀a∈as,∃b,R a b
 |a::as,b::bs,h,x,hx=>by
  rcases Lm.1 hx with rfl|hx
  .exact⟨b,h.1⟩
  .exact Ql h.2 x hx
theorem CV.frz {loc':Where} {objs objs':List Obj} {F':Nat->Prop} {k:Nat} {ds:List D} {cells:List V} {v:V} {x:Value} (hk:nth .none objs k= .box cells) (hF:∀b,F b->F' b) (hty:loc'.ty=loc.ty)
 (hn:∀j,nth .none objs' j=if j=k then .dead else Oz k ds (nth .none objs j)) (hl:∀j,j≠k->loc' j=loc j)
 (hp:∀b c,loc k=some (b,c)->Row w F' [ds] b 0 ds.length)
 (hr:Ref objs v) (h:CV loc objs w F v x):CV loc' objs' w F' (JX k ds v) x/\Ref objs' (JX k ds v):=by
 have hne:∀{o:Obj},o≠ .none->Oz k ds o≠ .none:=λ{o} h=>by cases o<;>simp_all[Oz]
 have a0:∀j,nth .none objs j≠ .none->nth .none objs' j≠ .none:=λj hj=>by
  rw[hn];split
  .simp
  .exact hne hj
 have a3:∀o:Obj,xD (Oz k ds o)=xD o:=λo=>by cases o<;>rfl
 have a1:∀j s es fz,nth .none objs' j= .arr s es fz->nth .none objs j= .arr s es fz/\loc' j=loc j:=λj s es fz hj=>by
  rw[hn]at hj;split at hj
  .simp at hj
  .rename_i e;refine⟨?_,hl j e⟩;cases hj2:nth .none objs j<;>rw[hj2]at hj<;>simp only[Oz,reduceCtorEq]at hj;exact hj
 cases v with
 |box j off=>
  simp only[JX];by_cases a2:j=k
  .subst a2;rw[show cv j j=true from cF j]
   dsimp only
   obtain⟨b,c,h1,rfl⟩:=h _ hk rfl;exact⟨⟨b,0,ds.length,by simp,by simp,hp b c h1⟩,trivial⟩
  .rw[show cv j k=false from by rw[<-Hv,dl];exact a2];refine⟨λo hc hb=>?_,a0 j hr⟩;rw[hn,if_neg a2]at hc;have a4:xD (nth .none objs j)=true:=by rw[<-a3,hc];exact hb
   obtain⟨b,c,h1,h2⟩:=h _ rfl a4;exact⟨b,c,by rw[hl j a2];exact h1,h2⟩
 |boxAt j g=>
  simp only[JX];by_cases a2:j=k
  .subst a2;rw[show cv j j=true from cF j];exact⟨trivial,trivial⟩
  .rw[show cv j k=false from by rw[<-Hv,dl];exact a2];refine⟨λo hc hb=>?_,a0 j hr⟩;rw[hn,if_neg a2]at hc;have a4:xD (nth .none objs j)=true:=by rw[<-a3,hc];exact hb
   obtain⟨⟨c,h1⟩,h2⟩:=h _ rfl a4;exact⟨⟨c,by rw[hl j a2];exact h1⟩,h2⟩
 |vec j n=>
  refine⟨λo hc hb=>?_,a0 j hr⟩;rw[hn]at hc;split at hc
  .subst hc;simp[xD]at hb
  .rename_i a2;obtain⟨b,c,h1,h2⟩:=h _ rfl (by rw[<-a3,hc];exact hb);exact⟨b,c,by rw[hl j a2];exact h1,h2⟩
 |arr j=>refine⟨λs es fz hc=>?_,a0 j hr⟩;obtain⟨h1,h2⟩:=a1 j s es fz hc;rw[h2];exact h s es fz h1
 |elt j i off=>refine⟨λs es fz hc=>?_,a0 j hr⟩;obtain⟨h1,h2⟩:=a1 j s es fz hc;rw[h2];exact h s es fz h1
 |sub j off len=>refine⟨λs es fz hc=>?_,a0 j hr⟩;obtain⟨h1,h2⟩:=a1 j s es fz hc;rw[h2];exact h s es fz h1
 |arrAt j g c t=>refine⟨λs es fz hc=>?_,a0 j hr⟩;obtain⟨h1,h2⟩:=a1 j s es fz hc;rw[h2,hty];exact h s es fz h1
 |tpo j as=>obtain⟨y,ys,rfl,h3,h4⟩:=h;refine⟨⟨y,ys,rfl,λs es fz hc=>?_,h4.mono λ_ _ h=>h.mono hF λ_ _=>rfl⟩,a0 j hr⟩;obtain⟨h1,h2⟩:=a1 j s es fz hc;rw[h2];exact h3 s es fz h1
 |agv cs=>exact⟨trivial,trivial⟩
 |pinB k g ps=>exact⟨trivial,trivial⟩
 |c d=>exact⟨CD.mono h hF λ_ _=>rfl,trivial⟩
 |ag cs=>obtain⟨vs,rfl,h⟩:=h;exact⟨⟨vs,rfl,h.mono λ_ _ h=>h.mono hF λ_ _=>rfl⟩,trivial⟩
 |tp as=>obtain⟨vs,rfl,h⟩:=h;exact⟨⟨vs,rfl,h.mono λ_ _ h=>h.mono hF λ_ _=>rfl⟩,trivial⟩
 |eref es i off=>obtain⟨b,o,a5,h1,h2,h3⟩:=h;exact⟨⟨b,o,a5,h1,h2,h3.mono hF λ_ _=>rfl⟩,trivial⟩
 |any=>exact⟨trivial,trivial⟩
 |no=>exact⟨h,trivial⟩
 |nilS=>exact⟨h,trivial⟩
 |gl g off=>exact⟨h,trivial⟩
 |fn f=>exact⟨h,trivial⟩
theorem O0 {k:Nat} (hh:I2 C B F0 w0 st a w):I2 C B F0 w0 (frz1 k st) a w:=by
 unfold frz1;split
 .rename_i ag hk;split
  .rename_i ds hds;obtain⟨F,loc,h⟩:=hh;have an:=h.objs k;rw[hk]at an;obtain⟨b0,c0,cs,t,a4,hnF,a6,a5,ap⟩:=an;have hlt:k<st.objs.length:=qW (by rw[hk];simp)
   let F':Nat->Prop:=λx=>F x\/x=b0
   have hF:∀b,F b->F' b:=λb hb=> .inl hb
   let loc':Where:=⟨loc.P,λj=>if j=k then none else loc j,loc.ty⟩
   have hl:∀j,j≠k->loc' j=loc j:=λj hj=>by simp[loc',hj]
   have hn:∀j,nth .none (upd (XT k ds st.objs) k .dead) j=if j=k then .dead else Oz k ds (nth .none st.objs j):=λj=>by
    rw[YN];by_cases hj:k=j
    .subst hj;rw[qb _ _ _ (by rw[M3];exact hlt),if_pos rfl]
    .rw[qa _ _ _ hj,if_neg (dv hj)];exact ya (Oz k ds) .none st.objs j
   have al:All2 (CD w F) ds cs.toList:=zb (loc:=loc) (objs:=st.objs) hds (a5.mono λ_ _ h=>h.1);have ad:=al.length;have hp:∀b c,loc k=some (b,c)->Row w F' [ds] b 0 ds.length:=λb c hb=>by
    rw[a4]at hb;simp only[ea,eb]at hb;obtain⟨rfl,rfl⟩:=hb;refine⟨λe he=>by simp only[Pl]at he;rw[he],.inr rfl,λj hj=>?_⟩;simp only[M1,Nat.one_mul]at hj;refine⟨nth undef cs.toList j,?_,?_⟩
    .rw[cp,xI a6,qk _ (by omega)];simp at ad;simp[show j<cs.size by omega]
    .simp only[List.flatten_cons,List.flatten_nil,cb];exact(al.nth .undef undef _ _ j hj).mono hF λ_ _=>rfl
   have a2:∀v x,Ref st.objs v->CV loc st.objs w F v x->CV loc' (upd (XT k ds st.objs) k .dead) w F' (JX k ds v) x/\Ref (upd (XT k ds st.objs) k .dead) (JX k ds v):=λv x hr hv=>CV.frz (loc:=loc) (objs:=st.objs) hk hF rfl hn hl hp hr hv
   have a0:∀j b c,j≠k->loc j=some (b,c)->b≠b0:=λj b c hj hb e=>by subst e;exact hj (h.inj _ _ _ _ _ hb a4)
   refine⟨F',loc',h.prog,h.below,h.hB,h.defers,?_,λv hv=>?_,λj=>?_,λi j b c c' q1 q2=>?_,λj b c q=>?_,λb hb=>?_,λb hb=>?_,λb hb=>hF _ (h.fsup b hb),h.inv.mono hF λ_ _=>rfl⟩
   .show All2 _ (ZI k ds st.tmps) _;rw[ji];exact j7 (λv hv x hx=>(a2 v x (h.refs v hv) hx).1) h.tmps
   .have hv:v∈ZI k ds st.tmps:=hv;rw[ji]at hv;obtain⟨u,hu,rfl⟩:=Lv.1 hv;obtain⟨x,hx⟩:=Ql h.tmps u hu;exact(a2 u x (h.refs u hu) hx).2
   .show CO loc' _ w F' j (nth .none (upd (XT k ds st.objs) k .dead) j);rw[hn];split
    .rename_i e;show loc' j=none;simp[loc',e]
    .rename_i e;have hc:=h.objs j;cases hj:nth .none st.objs j with
     |none=>rw[hj]at hc;exact(hl j e).trans hc
     |dead=>rw[hj]at hc;exact(hl j e).trans hc
     |box cells2=>
      rw[hj]at hc;obtain⟨b,c,a1,t2,h1,h2,h3,h4,h5⟩:=hc;refine⟨b,c,a1,t2,(hl j e).trans h1,λhb=>?_,h3,?_,λv hv=>?_⟩
      .rcases hb with hb|hb
       .exact h2 hb
       .exact a0 j b c e h1 hb
      .show All2 (λv x=>CV loc' (upd (XT k ds st.objs) k .dead) w F' v x/\x.oneCell'=true) (ZI k ds cells2) a1.toList;rw[ji];exact j7 (λv hv x hx=>⟨(a2 v x (h5 v hv) hx.1).1,hx.2⟩) h4
      .rw[ji]at hv;obtain⟨u,hu,rfl⟩:=Lv.1 hv;obtain⟨x,hx⟩:=Ql h4 u hu;exact(a2 u x (h5 u hu) hx.1).2
     |vec cells2=>
      rw[hj]at hc;obtain⟨b,c,a1,t2,h1,h2,h3,h4,h5,h7,h8,h9⟩:=hc;have a7:(ZI k ds cells2).length=cells2.length:=by rw[ji,M3]
      have a3:∀j,j<cells2.length->∃x,a1[j]? =some x/\(CV loc' (upd (XT k ds st.objs) k .dead) w F' (JX k ds (nth .any cells2 j)) x/\Ref (upd (XT k ds st.objs) k .dead) (JX k ds (nth .any cells2 j)))/\x.oneCell'=true:=λj hj=>by obtain⟨x,q1,q2,q3⟩:=h7 j hj;exact⟨x,q1,a2 _ x (h8 _ (qT hj)) q2,q3⟩
      refine⟨b,c,a1,t2,(hl j e).trans h1,λhb=>?_,h3,h4,by rw[a7];exact h5,λi hi=>?_,λv hv=>?_,h9.1,by rw[a7];exact h9.2⟩
      .rcases hb with hb|hb
       .exact h2 hb
       .exact a0 j b c e h1 hb
      .rw[a7]at hi;obtain⟨x,q1,q2,q3⟩:=a3 i hi;refine⟨x,q1,?_,q3⟩;rw[ji k ds cells2,show(V.any:V)=JX k ds .any from rfl,ya];exact q2.1
      .rw[ji]at hv;obtain⟨u,hu,rfl⟩:=Lv.1 hv;obtain⟨i,hi,rfl⟩:=List.getElem_of_mem hu;obtain⟨x,_,q2,_⟩:=a3 i hi;rw[qk _ hi]at q2;exact q2.2
     |bld T q=>
      rw[hj]at hc;obtain⟨b,c,p,v,h1,h2,h3,h4,h5,h6,h7⟩:=hc;have h8:=a2 q v h6 h5;refine⟨b,c,p,v,(hl j e).trans h1,λhb=>?_,h3,h4,h8.1,h8.2,λi hi=>?_⟩
      .rcases hb with hb|hb
       .exact h2 hb
       .exact a0 j b c e h1 hb
      .have:q= .arr i:=by
        cases q with
        |arr m=>exact hi
        |box m off=>simp only[JX]at hi;split at hi<;>simp at hi
        |boxAt m g=>simp only[JX]at hi;split at hi<;>simp at hi
        |_=>simp only[JX,reduceCtorEq]at hi
       exact h7 i this
     |arr s es fz=>
      rw[hj]at hc;obtain⟨h1,h2,h3,h4⟩:=hc;refine⟨h1,h2,h3,?_⟩;rcases h4 with⟨q1,q2⟩|⟨b,c,a1,t2,q1,q2,q3,q4,q5,q6,q7,q8⟩
      .exact .inl ⟨(hl j e).trans q1,q2⟩
      .refine .inr ⟨b,c,a1,t2,(hl j e).trans q1,?_,q3,q4,q5,λi hi=>?_,q7,q8⟩
       .cases fz with
        |true=>exact hF _ q2
        |false=>
         intro hb;rcases hb with hb|hb
         .exact q2 hb
         .exact a0 j b c e q1 hb
       .obtain⟨v,r1,r2⟩:=q6 i hi;exact⟨v,r1,r2.mono hF λ_ _=>rfl⟩
   .have e1:i≠k:=λe=>by simp[loc',e]at q1
    have e2:j≠k:=λe=>by simp[loc',e]at q2
    rw[hl i e1]at q1;rw[hl j e2]at q2;exact h.inj _ _ _ _ _ q1 q2
   .have e1:j≠k:=λe=>by simp[loc',e]at q
    rw[hl j e1]at q;exact h.fresh _ _ _ q
   .rcases hb with hb|hb
    .exact h.bound b hb
    .subst hb;exact(h.fresh _ _ _ a4).2
   .rcases hb with hb|hb
    .exact h.fsub b hb
    .subst hb;exact .inr (h.fresh _ _ _ a4).1
  .exact hh
 .exact hh
end
end Eng
end
section
namespace Eng
open Go Go.RowKit
variable [Env]
def z8:List A->Bool
 |[]=>true
 |a::r=>Xz a&&z8 r
omit [Env] in
theorem ja {rs:List A} (h:z8 rs=true):∀r∈rs,Xz r=true:=by
 induction rs with
 |nil=>intro r hr;simp at hr
 |cons a r ih=>
  simp only[z8,Bx]at h;intro x hx;rcases Lm.1 hx with rfl|hx
  .exact h.1
  .exact ih h.2 x hx
def Fo (K:Nat->List A->Option (List A)):R->Option (V×List (Nat×Obj))
 | .fail=>none
 | .ok v up=>some (v,up)
 | .cond (dc:=dc) _ v up=>match dc with
  | .isTrue _=>some (v,up)
  | .isFalse _=>none
 | .look z row off ag=>match Nat.ble (off+z.length) row.length with
  |true=>some (match ag with|true=> .ag (seg row off z.length)|false=> .c (nth .undef (seg row off z.length) 0),[])
  |false=>none
 | .call f as sh up=>match K f as with
  |some rs=>match zc sh||z8 rs with
   |true=>some (ZC rs,up)
   |false=>none
  |none=>none
def JY (K:Nat->List A->Option (List A)) (C:Cx) (ops:Array Oper) (o:Oper) (st:St):Option (V×List (Nat×Obj)):=
 match o.guard with
 |none=>Fo K (xl C o (ev st) st.objs)
 |some (j,want)=>match vE ops j with
  |none=>none
  |some t=>match nth .any st.tmps t with
   | .c (.bool c)=>match c,want with
    |true,true=>Fo K (xl C o (ev st) st.objs)
    |false,false=>Fo K (xl C o (ev st) st.objs)
    |true,false=>some (.no,[])
    |false,true=>some (.no,[])
   | .no=>some (.no,[])
   |_=>none
def N3 (K:Nat->List A->Option (List A)) (C:Cx) (ops:Array Oper):List Oper->St->Option St
 |[],st=>some st
 |o::r,st=>match JY K C ops o st with
  |some (v,up)=>N3 K C ops r (st.put o.dst v up)
  |none=>none
def ZJ (K:Nat->List A->Option (List A)) (C:Cx) (ops:Array Oper):List Oper->St->List Rec->Option (St×List Rec)
 |[],st,rs=>some (st,rs)
 |o::r,st,rs=>match JY K C ops o st with
  |some (v,up)=>ZJ K C ops r (st.put o.dst v up) (rs++[(opk o (ev st) st.objs,jw up [])])
  |none=>none
def settle1 (k i:Nat) (st:St):St:=
 match nth .none st.objs k with
 | .box cells=>match nth .any cells i with
  | .arr j=>match nth .none st.objs j with
   | .arr s es _=>⟨st.tmps,upd (upd st.objs j (.arr s es true)) k (.box (upd cells i (.c (.sl es)))),st.dirty⟩
   |_=>st
  |_=>st
 |_=>st
def settleN (k:Nat):Nat->St->St
 |0,st=>st
 |n+1,st=>settleN k n (settle1 k n st)
def Fp:V->Bool
 | .arr _=>true
 |_=>false
def settle (k:Nat) (st:St):St:=
 match nth .none st.objs k with
 | .box cells=>match cells.any Fp with
  |true=>settleN k cells.length st
  |false=>st
 |_=>st
def settleM:List Operand->St->St
 |[],st=>st
 |x::r,st=>settleM r (match ev st x with
  | .box k 0=>frz1 k (settle k st)
  |_=>st)
def settleO (C:Cx):List Oper->St->St
 |[],st=>st
 |o::r,st=>settleO C r (match o.op with
  | .load t x=>match wk C.P t&&!C.keep t o.dst with
   |true=>match ev st x with
    | .box k _=>settle k st
    |_=>st
   |false=>st
  | .makeFunc _ _ captured=>settleM captured.toList st
  |_=>st)
def T9 (st:St):St:=⟨st.tmps,st.objs,[]⟩
def RL (K:Nat->List A->Option (List A)) (C:Cx) (ops:Array Oper) (draw:Bool) (st:St):Option St:=
 match draw with
 |false=>N3 K C ops ops.toList st
 |true=>match ve C ops.toList with
  |true=>N3 K C ops ops.toList st
  |false=>match ZJ K C ops ops.toList st []with
   |some (s,rs)=>match wB C ops.toList rs with
    |true=>some s
    |false=>none
   |none=>none
def H9 (C:Cx):List Oper->List Nat
 |[]=>[]
 |o::r=>UU C o++H9 C r
def jb (K:Nat->List A->Option (List A)) (C:Cx):Nat->Code->St->Option (X×St)
 |0,_,_=>none
 |n+1,c,st=>match c with
  | .skip=>some (.normal,st)
  | .region _ ops d=>match RL K C ops d (settleO C ops.toList (evict (H9 C ops.toList) st))with
   |some s=>some (.normal,T9 s)
   |none=>none
  | .seq a b=>match jb K C n a st with
   |some (.normal,s)=>jb K C n b s
   |r=>r
  | .cond c x y=>match ev st c with
   | .c (.bool true)=>jb K C n x st
   | .c (.bool false)=>jb K C n y st
   |_=>none
  | .block id c=>match jb K C n c st with
   |some (.exit i,s)=>match cv i id with
    |true=>some (.normal,s)
    |false=>some (.exit i,s)
   |r=>r
  | .exit id=>some (.exit id,st)
  | .ret=>some (.ret,st)
  | .loop body=>match jb K C n body st with
   |some (.normal,s)=>jb K C n (.loop body) s
   |r=>r
  |_=>none
def wv (tab:Nat->List A->Option (List A)) (C:Cx) (lim:Nat):Nat->Nat->List A->Option (List A)
 |0,_,_=>none
 |n+1,f,args=>match tab f args with
  |some rs=>some rs
  |none=>match C.P.funcs[f]? with
   |none=>none
   |some fn=>match fn.body with
    |none=>none
    |some c=>match jb (wv tab C lim n) C lim c (ki fn.ntmps args)with
     |some (.normal,s)=>resD C s fn.results.toList
     |some (.ret,s)=>resD C s fn.results.toList
     |_=>none
section
variable {C:Cx} {B:Bd} {F0:Nat->Prop} {w0:World} {K:Nat->List A->Option (List A)}
theorem VO (hK:∀f as rs,K f as=some rs->Gives C f as rs) {r:R} {v:V} {up:List (Nat×Obj)} (h:Fo K r=some (v,up)):Out (Gives C) r v up:=by
 unfold Fo at h;split at h
 .simp at h
 .simp only[ea,eb]at h;exact⟨h.1.symm,h.2.symm⟩
 .split at h
  .simp only[ea,eb]at h;exact⟨by assumption,h.1.symm,h.2.symm⟩
  .simp at h
 .split at h
  .rename_i hle;simp only[ea,eb]at h;exact⟨_,⟨rfl,Nat.le_of_ble_eq_true hle⟩,h.1.symm,h.2.symm⟩
  .simp at h
 .split at h
  .rename_i rs hrs;split at h
   .rename_i hf;simp only[ea,eb]at h;refine⟨rs,hK _ _ _ hrs,λhs=>ja ?_,h.1.symm,h.2.symm⟩
    simpa [hs]using hf
   .simp at h
  .simp at h
theorem YO (hK:∀f as rs,K f as=some rs->Gives C f as rs) {ops:Array Oper} {o:Oper} {st:St} {v:V} {up:List (Nat×Obj)} (h:JY K C ops o st=some (v,up)):Stp C (Gives C) ops o st v up:=by
 unfold JY at h;split at h
 .rename_i hg;exact⟨true,by unfold yA;rw[hg],by rw[if_pos rfl];exact VO hK h⟩
 .rename_i j a0 hg;split at h
  .simp at h
  .rename_i t ht;split at h
   .rename_i c hc;have hw:∀b,b=(c==a0)->yA ops o st.tmps b:=λb hb=>by unfold yA;rw[hg];exact⟨t,ht,.inl ⟨c,hc,hb⟩⟩
    split at h
    .exact⟨true,hw _ rfl,by rw[if_pos rfl];exact VO hK h⟩
    .exact⟨true,hw _ rfl,by rw[if_pos rfl];exact VO hK h⟩
    .simp only[ea,eb]at h;exact⟨false,hw _ rfl,by rw[if_neg (by simp)];exact⟨h.1.symm,h.2.symm⟩⟩
    .simp only[ea,eb]at h;exact⟨false,hw _ rfl,by rw[if_neg (by simp)];exact⟨h.1.symm,h.2.symm⟩⟩
   .rename_i hd;simp only[ea,eb]at h;exact⟨false,by unfold yA;rw[hg];exact⟨t,ht,.inr ⟨hd,rfl⟩⟩,by rw[if_neg (by simp)];exact⟨h.1.symm,h.2.symm⟩⟩
   .simp at h
theorem TA (hK:∀f as rs,K f as=some rs->Gives C f as rs) {ops:Array Oper}:∀(l:List Oper) (k:Nat) (s s':St),(∀j,l[j]? =ops[k+j]?)->N3 K C ops l s=some s'->∃rc,Tr C (Gives C) ops rc (U3 k l.length) s s'
 |[],_,s,s',_,h=>by simp only[N3,ea]at h;subst h;exact⟨λ_=>([],[]),rfl,rfl⟩
 |o::l,k,s,s',hk,h=>by
  have h0:ops[k]? =some o:=by simpa using(hk 0).symm
  simp only[N3]at h;split at h
  .rename_i v up hs;obtain⟨rc,h3⟩:=TA hK l (k+1) _ _ (λj=>by have:=hk (j+1);simpa [c1,c2 1 j]using this) h;refine⟨λi=>if i=k then(opk o (ev s) s.objs,up.map (·.1))else rc i,?_⟩;rw[U0,Ts];refine⟨o,h0,v,up,YO hK hs,?_,h3.recs λi hi=>?_⟩
   .simp only[if_pos];exact⟨λ_ _ h=>h,λp hp=>Lv.2 ⟨p,hp,rfl⟩⟩
   .have:=(bw.1 hi).1;rw[if_neg (by omega)]
  .simp at h
theorem YP (hK:∀f as rs,K f as=some rs->Gives C f as rs) {ops:Array Oper}:∀(l:List Oper) (k:Nat) (s s':St) (acc R:List Rec),(∀j,l[j]? =ops[k+j]?)->acc.length=k->ZJ K C ops l s acc=some (s',R)->
 Tr C (Gives C) ops (λi=>nth ([],[]) R i) (U3 k l.length) s s'/\∃R',R=acc++R'
 |[],_,s,s',acc,R,_,_,h=>by simp only[ZJ,ea,eb]at h;obtain⟨rfl,rfl⟩:=h;exact⟨⟨rfl,rfl⟩,[],by simp⟩
 |o::l,k,s,s',acc,R,hk,hacc,h=>by
  have h0:ops[k]? =some o:=by simpa using(hk 0).symm
  simp only[ZJ]at h;split at h
  .rename_i v up hs;obtain⟨h3,R',hR⟩:=YP hK l (k+1) _ _ _ _ (λj=>by have:=hk (j+1);simpa [c1,c2 1 j]using this) (by simp[hacc]) h;refine⟨?_,(opk o (ev s) s.objs,jw up [])::R',by rw[hR];simp⟩;rw[U0,Ts];refine⟨o,h0,v,up,YO hK hs,?_,h3⟩;have e:nth ([],[]) R k=(opk o (ev s) s.objs,jw up []):=by rw[hR,Ls];have:=kL ([],[]) acc ((opk o (ev s) s.objs,jw up [])::R') 0;rw[cm,hacc]at this;exact this
   simp only;rw[e];exact⟨λ_ _ h=>h,λp hp=>jm.2 (.inr ⟨p,hp,rfl⟩)⟩
  .simp at h
theorem VP {k i:Nat} {st:St} {a:Act} {w:World} (hh:I2 C B F0 w0 st a w):I2 C B F0 w0 (settle1 k i st) a w:=by
 unfold settle1;split
 .rename_i a0 hk;split
  .rename_i j hi;split
   .rename_i s es fz hj;obtain⟨F,a1,h⟩:=hh;have hkj:k≠j:=by intro e;subst e;rw[hk]at hj;cases hj
    have h1:=h.freeze1 hj;generalize hF':(λb=>F b\/∃c,a1 j=some (b,c))=F' at h1;have hFF:∀b,F b->F' b:=λb hb=>by rw[<-hF'];exact .inl hb
    have hFj:∀b c,a1 j=some (b,c)->F' b:=λb c hb=>by rw[<-hF'];exact .inr ⟨c,hb⟩
    refine⟨F',a1,?_⟩;have hlt:k<st.objs.length:=by
     rcases cg k st.objs.length with h|h
     .exact h
     .rw[qC _ h]at hk;simp at hk
    have a7:nth .none (upd st.objs j (.arr s es true)) k= .box a0:=by rw[qa _ _ _ (dv hkj)];exact hk
    have a5:k<(upd st.objs j (.arr s es true)).length:=by rw[qj];exact hlt
    have a2:Le (upd st.objs j (.arr s es true)) (upd (upd st.objs j (.arr s es true)) k (.box (upd a0 i (.c (.sl es))))) a1 a1:=by
     refine⟨rfl,λ_ _=>rfl,λj hj=>?_,λj o' hj hc hbx=>?_,λj s' es' fz' hj hc=>?_⟩
     .rw[xS];split
      .simp
      .exact hj
     .rw[xS]at hc;split at hc
      .rename_i e;rw[<-e.1];exact⟨by rw[a7];rfl,rfl⟩
      .exact⟨by rw[hc];exact hbx,rfl⟩
     .rw[xS]at hc;split at hc
      .simp at hc
      .exact⟨⟨_,_,hc,rfl⟩,rfl⟩
    refine h1.relocate a2 (λm=>?_) h1.inj h1.fresh;by_cases hm:k=m
    .subst hm;rw[qb _ _ _ a5];have h0:=h1.objs k;simp only at h0;rw[a7]at h0;obtain⟨b,c,cs,t,q1,q2,q3,q4,q5⟩:=h0;have hi0:i<a0.length:=by
      rcases cg i a0.length with h|h
      .exact h
      .rw[qC _ h]at hi;simp at hi
     have hcl:=q4.length;have hx:=All2.nth .any undef a0 cs.toList i q4 hi0;rw[hi]at hx;have a3:=h1.objs j;simp only at a3;have a4:j<st.objs.length:=by
      rcases cg j st.objs.length with h|h
      .exact h
      .rw[qC _ h]at hj;simp at hj
     have a6:nth .none (upd st.objs j (.arr s es true)) j= .arr s es true:=qb _ _ _ a4;rw[a6]at a3;have hcd:=ZR (F':=F') a6 a3 hx.1 (λ_ h=>h) hFj;refine⟨b,c,cs,t,q1,q2,q3,?_,λv hv=>?_⟩
     .have h6:All2 (λv x=>CV a1 (upd (upd st.objs j (.arr s es true)) k (.box (upd a0 i (.c (.sl es))))) w F' v x/\x.oneCell'=true) a0 cs.toList:=
       q4.mono_mem λv hv x hx=>⟨CV.le (λ_ h=>h) (λ_ _=>rfl) a2 (q5 v hv) hx.1,hx.2⟩
      have h7:=All2.upd (i:=i) (a:=V.c (.sl es)) (b:=nth undef cs.toList i) ⟨hcd,hx.2⟩ h6;have h8:upd cs.toList i (nth undef cs.toList i)=cs.toList:=by rw[xh,qk _ (by omega)];exact List.set_getElem_self _
      rw[h8]at h7;exact h7
     .rcases xJ hv with hv|rfl
      .exact(q5 v hv).le a2
      .trivial
    .rw[qa _ _ _ hm];exact Hx (λ_ h=>h) (λ_ _=>rfl) a2 rfl rfl (λ_ _ _=>⟨rfl,λh=>h⟩) (h1.objs m)
   .exact hh
  .exact hh
 .exact hh
theorem XU {k:Nat} {a:Act} {w:World}:∀(n:Nat) {st:St},I2 C B F0 w0 st a w->I2 C B F0 w0 (settleN k n st) a w
 |0,_,h=>h
 |n+1,_,h=>XU n (VP h)
theorem Jl {k:Nat} {st:St} {a:Act} {w:World} (hh:I2 C B F0 w0 st a w):I2 C B F0 w0 (settle k st) a w:=by
 unfold settle;split
 .split
  .exact XU _ hh
  .exact hh
 .exact hh
theorem XV {a:Act} {w:World}:∀(l:List Operand) {st:St},I2 C B F0 w0 st a w->I2 C B F0 w0 (settleM l st) a w
 |[],_,h=>h
 |x::l,st,h=>by
  refine XV l ?_;split
  .exact O0 (Jl h)
  .exact h
theorem yb {a:Act} {w:World}:∀(l:List Oper) {st:St},I2 C B F0 w0 st a w->I2 C B F0 w0 (settleO C l st) a w
 |[],_,h=>h
 |o::l,st,h=>by
  refine yb l ?_;split
  .split
   .split
    .exact Jl h
    .exact h
   .exact h
  .exact XV _ h
  .exact h
def aH (C:Cx) (B:Bd) (F0:Nat->Prop) (w0:World) (x:X) (s':St) (e:Exit) (a:Act) (w:World):Prop:=XM x e/\I2 C B F0 w0 s' a w
theorem Bq [EffOk C] (hm:C.P.follows .mixedOrders=true) (hK:∀f as rs,K f as=some rs->Gives C f as rs) {id:Nat} {ops:Array Oper} {d:Bool} {s s':St} {a:Act} {w:World} (h:RL K C ops d s=some s') (hh:I2 C B F0 w0 s a w):
 (J3 id ops d).wp C.P (aH C B F0 w0 .normal s') a w:=by
 have hq:∀a w,I2 C B F0 w0 s' a w->aH C B F0 w0 .normal s' .normal a w:=λa w h=>⟨rfl,h⟩
 have a0:N3 K C ops ops.toList s=some s'->(d=true->ve C ops.toList=true)->(J3 id ops d).wp C.P (aH C B F0 w0 .normal s') a w:=λh hr=>by obtain⟨rc,ht⟩:=TA hK ops.toList 0 s s' (by simp) h;rw[Aw,<-Sz]at ht;exact yB hm (λhd=>XJ rc (hr hd)) ht hh hq
 unfold RL at h;split at h
 .exact a0 h (by simp)
 .split at h
  .rename_i hr;exact a0 h λ_=>hr
  .split at h
   .rename_i s1 rs a1;split at h
    .rename_i hr;simp only[ea]at h;subst h;obtain⟨ht,_⟩:=YP hK ops.toList 0 s s1 [] rs (by simp) rfl a1;rw[Aw,<-Sz]at ht;exact yB hm (λ_=>Q8 hr) ht hh hq
    .simp at h
   .simp at h
theorem yc [EffOk C] (hm:C.P.follows .mixedOrders=true) (hK:∀f as rs,K f as=some rs->Gives C f as rs):∀(n:Nat) (c:Code) (s s':St) (x:X) (a:Act) (w:World),jb K C n c s=some (x,s')->I2 C B F0 w0 s a w->c.wp C.P (aH C B F0 w0 x s') a w:=by
 intro n
 induction n using c4 with
 |_ n ih=>
  intro c s s' x a w h hh;cases n with
  |zero=>simp[jb]at h
  |succ n=>
   cases c with
   |skip=>simp only[jb,ea,eb]at h;obtain⟨rfl,rfl⟩:=h;exact wp_skip ⟨rfl,hh⟩
   |region id ops d=>
    simp only[jb]at h;split at h
    .rename_i s1 h1;simp only[ea,eb]at h;obtain⟨rfl,rfl⟩:=h;have h3:=Bq (id:=id) hm hK h1 (yb _ (XS _ hh));refine I3 (λe a w q=>?_) h3;obtain⟨q1,q2⟩:=q;exact⟨q1,xc q2 rfl rfl⟩
    .simp at h
   |seq p q=>
    simp only[jb]at h;split at h
    .rename_i s1 h1;refine wp_seq (I3 (λe a' w' hp=>?_) (ih n (by omega) p s s1 .normal a w h1 hh));obtain⟨he,a0⟩:=hp;have he:e= .normal:=he;subst he;exact ih n (by omega) q s1 s' x a' w' h a0
    .rename_i a2;refine wp_seq (I3 (λe a' w' hp=>?_) (ih n (by omega) p s s' x a w h hh));obtain⟨he,a0⟩:=hp;cases x with
     |normal=>exact absurd h (a2 s')
     |exit i=>have he:e= .exit i:=he;subst he;exact⟨rfl,a0⟩
     |ret=>have he:e= .ret:=he;subst he;exact⟨rfl,a0⟩
   |cond cd p q=>
    simp only[jb]at h;have hb:∀b,ev s cd= .c (.bool b)->a.eval cd= .bool b:=λb hb=>by obtain⟨F,loc,hc⟩:=hh;have he:=(qU hc cd).1;rw[hb]at he;exact(λ(x:Value) (hx:CD w F (.bool b) x)=>(by cases hx;rfl:x= .bool b)) _ he
    split at h
    .rename_i hc;exact wp_cond (hb _ hc) (by rw[if_pos rfl];exact ih n (by omega) p s s' x a w h hh)
    .rename_i hc;exact wp_cond (hb _ hc) (by rw[if_neg (by simp)];exact ih n (by omega) q s s' x a w h hh)
    .simp at h
   |block id p=>
    simp only[jb]at h;split at h
    .rename_i i s1 h1;refine wp_block (I3 (λe a' w' hp=>?_) (ih n (by omega) p s s1 _ a w h1 hh));obtain⟨he,a0⟩:=hp;have he:e= .exit i:=he;subst he;unfold Exit.inBlock;split at h
     .rename_i hi;simp only[ea,eb]at h;obtain⟨rfl,rfl⟩:=h;have:=cc hi;simp only[this,if_true];exact⟨rfl,a0⟩
     .rename_i hi;simp only[ea,eb]at h;obtain⟨rfl,rfl⟩:=h;have:i≠id:=λe=>by subst e;simp at hi
      simp only[this,if_false];exact⟨rfl,a0⟩
    .rename_i a2;refine wp_block (I3 (λe a' w' hp=>?_) (ih n (by omega) p s s' x a w h hh));obtain⟨he,a0⟩:=hp;cases x with
     |normal=>have he:e= .normal:=he;subst he;exact⟨rfl,a0⟩
     |exit i=>exact absurd h (a2 i s')
     |ret=>have he:e= .ret:=he;subst he;exact⟨rfl,a0⟩
   |exit id=>simp only[jb,ea,eb]at h;obtain⟨rfl,rfl⟩:=h;exact wp_exit ⟨rfl,hh⟩
   |ret=>simp only[jb,ea,eb]at h;obtain⟨rfl,rfl⟩:=h;exact wp_ret ⟨rfl,hh⟩
   |loop body=>
    let p:Act->World->Nat->Prop:=λa w k=>k<=n+1/\∃s,jb K C k (.loop body) s=some (x,s')/\I2 C B F0 w0 s a w
    refine wp_loop (λa w=>∃k,p a w k) (λa w=>kc (p a w)) ⟨n+1,cL _,s,h,hh⟩ λa1 w1 h1=>?_
    obtain⟨hle,s1,hr,hs⟩:=Jh h1;generalize hk:kc (p a1 w1)=k at *;cases k with
    |zero=>simp[jb]at hr
    |succ k=>
     simp only[jb]at hr;split at hr
     .rename_i s2 hb;refine I3 (λe a' w' hp=>?_) (ih k (by omega) body s1 s2 .normal a1 w1 hb hs);obtain⟨he,a0⟩:=hp;have he:e= .normal:=he;subst he;have a3:p a' w' k:=⟨by omega,s2,hr,a0⟩;refine⟨⟨_,a3⟩,?_⟩;have:=Ji a3;show kc (p a' w')<k+1;omega
     .rename_i a2;refine I3 (λe a' w' hp=>?_) (ih k (by omega) body s1 s' x a1 w1 hr hs);obtain⟨he,a0⟩:=hp;cases x with
      |normal=>exact absurd hr (a2 s')
      |exit i=>have he:e= .exit i:=he;subst he;exact⟨rfl,a0⟩
      |ret=>have he:e= .ret:=he;subst he;exact⟨rfl,a0⟩
   |_=>simp[jb]at h
theorem z9 [EffOk C] {tab:Nat->List A->Option (List A)} {lim:Nat} (hm:C.P.follows .mixedOrders=true) (htab:∀f as rs,tab f as=some rs->Gives C f as rs):∀(n f:Nat) (args res:List A),wv tab C lim n f args=some res->Gives C f args res:=by
 intro n
 induction n with
 |zero=>intro f args res h;simp[wv]at h
 |succ n ih=>
  intro f args res h;simp only[wv]at h;split at h
  .rename_i rs hrs;simp only[ea]at h;subst h;exact htab _ _ _ hrs
  .split at h
   .simp at h
   rename_i fn hf;split at h
   .simp at h
   rename_i c hc;have a4:∀(x:X) (s:St),(x= .normal\/x= .ret)->jb (wv tab C lim n) C lim c (ki fn.ntmps args)=some (x,s)->resD C s fn.results.toList=some res->Gives C f args res:=by
    intro x s hx hr a2 w F vs hb a1 a0;refine calls_of_wp hf hc (I3 (λe a' w' hp=>?_) (yc hm (λf as rs h=>ih f as rs h) lim c _ s x _ w hr (vn hb a1 a0)));obtain⟨he,hh⟩:=hp;have a3:=VN (fn:=fn) hh a2;rcases hx with rfl|rfl
    .have he:e= .normal:=he;subst he;exact a3
    .have he:e= .ret:=he;subst he;exact a3
   split at h
   .rename_i s hr;exact a4 _ _ (.inl rfl) hr h
   .rename_i s hr;exact a4 _ _ (.inr rfl) hr h
   .simp at h
end
end Eng
end
section
namespace Eng
open Go Go.RowKit
variable [Env]
end Eng
end
