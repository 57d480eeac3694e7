import Derived.Test.YtmfkgpfkpnmdnaaGreatDoorPaC
import Derived.KernelRfl
import Derived.Shelf.Lays2
import Derived.Shelf.RegionOpenPlain
import Derived.WalkKit
import Derived.Deep.LoopGhost
import Derived.Deep.RegionLaw
import Derived.Lib.Walk
import Derived.Lib.SliceRun
open Bool renaming and_eq_true->Aw, or_eq_true->Bx
open Classical renaming propDecidable->Dd
open Eng.A renaming ag->F0, c->Hu
open Eng.D renaming int->Hv, sl->Hx
open Eng.D.int renaming injEq->Hy
open Eng.R4 renaming m->J3, c->J4, l->Lm, b->Lr
open Go.IntKind renaming wrap->Ls
open Int renaming tmod->Lv, toNat_natCast->No, ofNat->Pl, ofNat_eq_natCast->P1, toNat->Sz, fdiv->Tk, natAbs_natCast->Ts, natAbs_mul->U0, natAbs_neg->U3, natAbs_ediv_le_natAbs->V1, mul_pos->W0, not_le->W1
open List renaming length->W2, getElem_mem->an, not_mem_nil->ap, mem_cons->ba, length_take->bb, getElem_range->bc, take_succ_eq_append_getElem->be, append_assoc->bh, take_length->bm, getElem_map->bv, ext_getElem->bw, length_map->bx, length_append->b4
open List.cons renaming injEq->b5
open Nat renaming eq_of_beq_eq_true->b6, beq->bF, le_refl->cb, zero_le->cc, zero_add->cg, le_trans->cm, mul_le_mul->cp, pow_le_pow_right->cv, pow_add->c3, lt_of_lt_of_le->c4, lt_of_le_of_lt->cF, min_eq_left->dc, sub_self->dl, mul_comm->dv, le_of_lt->ec, ble->el, pow_pos->ep
open Option.some renaming inj->ey, injEq->ez
open Rat renaming num_divInt_den->eH, divInt->eL, intCast_mul->eU, intCast_lt_intCast->fe, mul_le_mul_of_nonneg_left->fg, num_eq_zero->fk, intCast_neg->ft, intCast_add->fx, intCast_le_intCast->fy, divInt_mul_divInt->fz, mul_pos->fR, inv_divInt->fS, mul_comm->ga, div_def->gb
set_option maxRecDepth 1000000
section
namespace Eng
open Go Go.Proofs Go.RowKit
section
variable [Env]
theorem Ml {C:Cx} {f s:Nat} {es:List (List D)} {post res:List A} (hfl:z8 res=true) (h:Gives C f (.c (.sl es)::post) res):WB C f s es post res es:=by
 intro w F vs2 g c0 a2 t0 hb hi h2 hL;have hF:∀b,F b->(λb=>F b\/b=g) b:=λb hb=> .inl hb
 have hcd:CD w (λb=>F b\/b=g) (.sl es) (.slice (some ⟨g,0,none⟩) es.length c0):=by
  refine CD.sl es g 0 c0 s (λj=>nth undef a2.toList j) hL.lc.1 hL.lens (.inr rfl) (λj hj=>?_) (λj hj=>?_)
  .obtain⟨v,q1,q2⟩:=hL.cd j hj;rw[cg,xI hL.blk,q1,qw];simp[q1]
  .obtain⟨v,q1,q2⟩:=hL.cd j hj;have:nth undef a2.toList j=v:=by rw[qw];simp[q1]
   rw[this];exact q2.mono hF λ_ _=>rfl
 refine(h w (λb=>F b\/b=g) (.slice (some ⟨g,0,none⟩) es.length c0::vs2) (λb hb'=>?_) (hi.mono hF λ_ _=>rfl) ⟨hcd,h2.mono λa v q=>CA.mono q hF λ_ _=>rfl⟩).mono λe w' he=>?_
 .rcases hb' with q|rfl
  .exact hb b q
  .exact hL.lt
 obtain⟨a0,v,rfl,hr⟩:=he;have a1:∀b,b<w.heap.size->w'.heap[b]? =w.heap[b]? :=λb hb=>a0.block b hb
 refine⟨⟨a0.os,a0.tape,a0.output,a0.size,λk hk _=>a1 k hk⟩,F,a2,v,rfl,λ_ h=>h,λx hx=>⟨c4 (hb x hx) a0.size,.inl hx⟩,Wo hr (ja hfl),?_,rfl⟩;exact⟨hL.nF,c4 hL.lt a0.size,by rw[a1 _ hL.lt];exact hL.blk,hL.sz,hL.lc,hL.room,hL.s0,hL.lens,hL.ct,λj hj=>by
  obtain⟨v,q1,q2⟩:=hL.cd j hj;exact⟨v,q1,q2.mono (λ_ h=>h) λb hb'=>a1 b (hb b hb')⟩⟩
end
structure OR where
 (k i t:Int)
 es:List Int
def orD (o:OR):List D:=[.int .i64 o.k,.int .i64 o.i,.int .i64 o.t,.sl (iR o.es),.int .i64 0]
def jx (l:List OR):List (List D):=l.map orD
theorem vz (l:List OR):(jx l).length=l.length:=by simp[jx]
theorem Zu {l:List OR} {i:Nat} (h:i<l.length):nth [] (jx l) i=orD l[i]:=by rw[qw];simp[jx,h]
section
variable [Env]
theorem Ac {o:OR} {ts:List TL} (h:0<=o.t/\o.t<ts.length):Gives CC 39 [.ag (orD o),.c (.ptr [.sl (mgD ts)])] [.c (.bool false)]:=by
 refine qm (C:=CC) (anns:=an0) mixedT Tryz.func39 ?_;unfold orD;rw[P2];refine brd (λq=>by omega) λ_=>⟨_,⟨rfl,cb 1⟩,?_⟩
 rw[decide_eq_false (by rw[wb,P1];omega)]
theorem Ad {l:List OR} {ts:List TL} (hl:l.length<=1000) (h:∀o∈l,0<=o.t/\o.t<ts.length):Gives CC 85 [.c (.sl (jx l)),.c (.clo 39 [.ptr [.sl (mgD ts)]])] [.c (.int .i64 (-1))]:=by
 have hv:=Cr (Gives CC) (λ_ ds=>∃k:Nat,k<=l.length/\ds=[.int .i64 (k:Int)]) (λds=>(l.length-toI (nth .undef ds 0)).toNat) (jx l) (mgD ts) (· =[.c (.int .i64 (-1))]);refine qm (C:=CC) mixedT Tryz.func85 (hv.mpr ?_);clear hv;refine⟨⟨0,cc _,rfl⟩,?_⟩;rintro _ ⟨k,hk,e⟩;simp only[b5,Hy,true_and,and_true]at e;subst e;simp only[P1,vz,No];refine brd (λq=>?_) λ_=>trivial
 have a0:k<l.length:=by omega
 have hw:Ls .i64 ((k:Int)+1)=((k+1:Nat):Int):=by rw[xb (by omega) (by omega)];omega
 rw[Zu a0,hw];exact⟨⟨by omega,by omega,rfl⟩,_,_,_,_,_,⟨rfl,cb 5⟩,_,Ac (h _ (an a0)),⟨⟨k+1,by omega,rfl⟩,by simp only[nth,toI];omega⟩⟩
theorem Sc {l:List OR} {ts:List TL} (hl:l.length<=1000) (h:∀o∈l,0<=o.t/\o.t<ts.length):Gives CC 38 [.c (.sl (jx l)),.c (.clo 39 [.ptr [.sl (mgD ts)]])] [.c (.bool false)]:=by
 refine qm (C:=CC) (anns:=an0) mixedT Tryz.func38 ?_;rw[Cs];exact⟨_,Ad hl h,rfl⟩
def khI (t:TL):Int:=match t.k==2 with
 |true=>3
 |false=>1
theorem Ct {f:FT} {ts:List TL} {a b:Nat} (hk:f.k=1\/f.k=3\/f.k=4) (ha:a<ts.length):Gives CC 37 [.ag (ftD f),.c (.sl (mgD ts)),.ag [.int .i64 (a:Int),.int .i64 (b:Int)]] (P3 (khI ts[a]) [.ag (ftD f),.c (.sl (mgD ts)),.ag [.int .i64 (a:Int),.int .i64 (b:Int)]]):=by
 refine qm (C:=CC) (anns:=an0) mixedT Tryz.func37 ?_;unfold ftD P3 khI opR;rw[P0];simp only[P1,wb,No];rw[wW ha];refine brd (λ_=>?_) λq=>by omega
 refine brd (λ_=>⟨⟨by omega,by omega,rfl⟩,_,⟨rfl,by show 1+1<=8;omega⟩,?_⟩) λq=>by omega
 rcases hk with e|e|e<;>rw[e]
 .exact brb (λ_=>rfl) λq=>by cases q
 .refine brb (λq=>by cases q) λ_=>brb (λq=>by cases q) λ_=>brb (λq=>?_) λq=>?_
  .rw[q];rfl
  .rw[q];rfl
 .exact brb (λq=>by cases q) λ_=>brb (λ_=>rfl) λq=>by cases q
def KOk (K:Int) (f:FT) (t:TL):Prop:=(f.k=1/\(K=1\/K=2)/\t.k=1)\/(f.k=3/\((K=1/\t.k=1)\/(K=3/\t.k=2)))\/(f.k=4/\K=5/\t.k=1)
theorem Mm {K:Int} {f:FT} {t:TL} (h:KOk K f t):Gives CC 88 [.c (.int .i64 K),.c (.int .i64 f.k),.c (.int .i64 t.k)] [.c (.bool true)]:=by
 refine qm (C:=CC) (anns:=an0) mixedT Tryz.func88 ?_;rw[LK];rcases h with⟨e1,rfl|rfl,e2⟩|⟨e1,⟨rfl,e2⟩|⟨rfl,e2⟩⟩|⟨e1,rfl,e2⟩<;>rw[e1,e2]
 .exact brb (λ_=>brb (λ_=>rfl) λq=>by cases q) λq=>by cases q
 .exact brb (λq=>by cases q) λ_=>brb (λ_=>brb (λ_=>rfl) λq=>by cases q) λq=>by cases q
 .exact brb (λ_=>brb (λq=>by cases q) λ_=>brb (λ_=>rfl) λq=>by cases q) λq=>by cases q
 .exact brb (λq=>by cases q) λ_=>brb (λq=>by cases q) λ_=>brb (λ_=>brb (λ_=>rfl) λq=>by cases q) λq=>by cases q
 .exact brb (λq=>by cases q) λ_=>brb (λq=>by cases q) λ_=>brb (λq=>by cases q) λ_=>brb (λq=>by cases q) λ_=>brb (λ_=>brb (λ_=>rfl) λq=>by cases q) λq=>by cases q
theorem Ub {gs:List GF} {ts:List TL} {i j:Nat} {K:Int} (hi:i<gs.length) (hj:j<ts.length) (hg:GOk gs[i]) (ht:ts[j].Ok) (hs:Ps ts[j].s) (hK:KOk K gs[i].toFT ts[j]) (hf:¬ts[j].f<gs[i].d) (hfit:gs[i].k=3->Gz gs[i].R ts[j]=true):
 Gives CC 41 [.ag [.int .i64 K,.int .i64 (i:Int),.int .i64 (j:Int),.sl (iR (psL gs[i].d (nPs gs[i].d ts[j].s))),.int .i64 0],.ag [.int .i64 6000,.sl (J0 (gsF gs))],.c (.sl (mgD ts))] [.c (.int .i64 0)]:=by
 refine qm (C:=CC) (anns:=an0) mixedT Tryz.func41 ?_;rw[Ma];simp only[P1,yX,Qv,wb,No];rw[G0 hi,wW hj];have hd:=hg.f.d;have gp:=LQ hd.1 hd.2 hs;have gsu:=Mm hK;have hne:=hg.f.ne;refine brd (λh=>by omega) λ_=>brd (λh=>by omega) λ_=>brd (λh=>by omega) λ_=>brd (λh=>by omega) λ_=>brd (λh=>by omega) λ_=>brd (λh=>by omega) λ_=>?_
 refine⟨⟨by omega,by omega,rfl⟩,_,_,_,_,⟨rfl,cb 4⟩,⟨by omega,by omega,rfl⟩,_,_,_,_,_,_,_,_,⟨rfl,cb 8⟩,?_⟩;have a1:(K !=4)=true:=by rcases hK with⟨_,rfl|rfl,_⟩|⟨_,⟨rfl,_⟩|⟨rfl,_⟩⟩|⟨_,rfl,_⟩<;>rfl
 refine brb (λ_=>⟨_,gp,_,gsu,?_⟩) λh=>by rw[a1]at h;cases h
 refine brb (λh=>by cases h) λ_=>brb (λh=>by cases h) λ_=>brb (λ_=>?_) λh=>by rw[a1]at h;cases h
 refine brd (λh=>absurd h hf) λ_=>?_
 refine brb (λh3=>?_) λh3=>trivial
 have a0:gs[i].k=3:=by simpa using h3
 obtain⟨q,q1,q2,q3⟩:=(hg.h a0).row;have hkt:ts[j].k=1\/ts[j].k=2:=by
  rcases hK with⟨_,_,e⟩|⟨_,⟨_,e⟩|⟨_,e⟩⟩|⟨_,_,e⟩
  .exact .inl e
  .exact .inl e
  .exact .inr e
  .exact .inl e
 refine brd (λ_=>⟨⟨by omega,by omega,q1⟩,_,q2,_,q3 _ ht hkt,?_⟩) λh5=>by omega
 rw[hfit a0];exact brb (λh5=>by cases h5) λh5=>trivial
def Uc (ts:List TL) (l:List OR) (k:Nat):List Int:=(List.range l.length).map λi=>match Nat.blt i k with
 |true=>(ts.getD (l.getD i ⟨0,0,0,[]⟩).t.toNat dTL).n
 |false=>0
def nms (ts:List TL) (l:List OR):List Int:=l.map λo=>(ts.getD o.t.toNat dTL).n
theorem P4 {l:List OR} {ts:List TL} (hl:l.length<=1000) (h:∀o∈l,0<=o.t/\o.t<ts.length):Gives CC 11 [.c (.sl (jx l)),.c (.sl (mgD ts))] [.c (.sl (iR (nms ts l))),.c (.int .i64 0)]:=by
 have ml:∀k,(Uc ts l k).length=l.length:=λk=>by simp[Uc]
 have hv:=Mk (Gives CC) (λ_ ds=>∃k:Nat,k<=l.length/\ds=[.sl (iR (Uc ts l k)),.int .i64 (k:Int)]) (λds=>(l.length-toI (nth .undef ds 1)).toNat) (jx l) (mgD ts) (· =[.c (.sl (iR (nms ts l))),.c (.int .i64 0)]);refine qm (C:=CC) mixedT Tryz.func11 (hv.mpr ?_);clear hv;simp only[P1,vz,wb,No];refine⟨⟨by omega,by omega,by unfold room;omega⟩,⟨0,cc _,?_⟩,?_⟩
 .have:Uc ts l 0=List.replicate l.length 0:=by apply bw (by simp[Uc]);intro i h1 h2;simp only[Uc,bv,bc,List.getElem_replicate];rw[EB (by omega)]
  rw[this];simp[iR]
 rintro es i ⟨k,hk,e⟩;simp only[b5,D.sl.injEq,Hy,true_and,and_true]at e;obtain⟨rfl,rfl⟩:=e;simp only[Gx,ml,No];refine brd (λq=>?_) λq=>?_
 .have a0:k<l.length:=by omega
  obtain⟨p1,p2⟩:=h _ (an a0);have a1:l[k].t.toNat<ts.length:=by omega
  have hw:Ls .i64 ((k:Int)+1)=((k+1:Nat):Int):=by rw[xb (by omega) (by omega)];omega
  rw[Zu a0,hw];refine⟨⟨by omega,by omega,rfl⟩,_,_,_,_,_,⟨rfl,cb 5⟩,brd (λq=>by omega) λ_=>brd (λq=>by omega) λ_=>?_⟩;rw[wW a1];refine⟨⟨by omega,by omega,rfl⟩,_,⟨rfl,by show 0+1<=8;omega⟩,⟨by omega,by omega⟩,by omega,⟨k+1,by omega,?_⟩,by simp only[nth,toI];omega⟩;rw[RY (by rw[ml];omega)];have:(Uc ts l k).set k (ts[l[k].t.toNat]).n=Uc ts l (k+1):=by
   apply bw (by simp[Uc]);intro i h1 h2;rw[List.getElem_set];simp only[Uc,bv,bc];by_cases e:k=i
   .subst e;rw[if_pos rfl,RZ (Nat.lt_succ_self k),zi a0,zi a1]
   .rw[if_neg e];by_cases q:i<k
    .rw[RZ q,RZ (by omega)]
    .rw[EB q,EB (by omega)]
  rw[this]
 .obtain rfl:k=l.length:=by omega
  have:Uc ts l l.length=nms ts l:=by
   apply bw (by simp[Uc,nms]);intro i h1 h2;have hi:i<l.length:=by simpa [nms]using h2
   simp only[Uc,nms,bv,bc];rw[RZ hi,zi hi]
  rw[this]
end
end Eng
end
section
open Go Go.Proofs Eng
namespace Eng
theorem P5 (Gv:Nat->List A->List A->Prop) (I0:List D->List D->Prop) (M0:List D->Nat) (I1:List D->List D->Prop) (M1:List D->Nat) (I2:List D->List D->Prop) (M2:List D->Nat) (chk38:List (List D)->List A->Bool) (th:Int) (fs:List (List D)) (l0:List (List D)) (l1:List (List D)) (Q:List A->Prop):B1 (CN [(38,VR 5 chk38 (λes _=>es) (λ_ _=>[.c (.bool false)]))]) Gv (cP ⟨[.own 8 109 5,.slot 37 (.int .i64 0)],[],I0,M0⟩ ⟨[.own 8 109 5,.slot 50 (.int .i64 0)],[.slot 37 (.int .i64 0)],I1,M1⟩ ⟨[.own 8 109 5,.slot 67 (.int .i64 0)],[],I2,M2⟩) (λ_=>0) Tryz.f9 [.ag [.int .i64 th,.sl fs],.c (.sl l0),.c (.sl l1)] Q=(∃i,Gv 35 [F0 [dI th,Hx fs]] [aI i]/\bB (i !=0) (Q [aL [],aI (1:Int)]) (∃i,Gv 36 [aL l0] [aI i]/\bB (i !=0) (Q [aL [],aI (1:Int)]) (bB ((Pl l1.length) !=(Pl fs.length)) (Q [aL [],aI (1:Int)]) (I0 [] [Hx [],dI (0:Int)]/\∀(es:List (List D)) (i:Int),I0 [] [Hx es,dI i]->bB (decide (i<(Pl fs.length))) ((0<=i/\i<(Pl fs.length)/\W2 (nth [] fs (Sz i))=4)/\∃s i_1 i_2 e1,cut (nth [] fs (Sz i)) 0 4 [D.str s,dI i_1,dI i_2,Hx e1]/\(0<=i/\i<(Pl l1.length)/\W2 (nth [] l1 (Sz i))=2)/\∃i_3 i_4,cut (nth [] l1 (Sz i)) 0 2 [dI i_3,dI i_4]/\∃e2,Gv 37 [F0 [D.str s,dI i_1,dI i_2,Hx e1],aL l0,F0 [dI i_3,dI i_4]] [aL e2]/\I1 [dI i] [Hx es,dI (0:Int)]/\∀(e3:List (List D)) (i_5:Int),I1 [dI i] [Hx e3,dI i_5]->bB (decide (i_5<(Pl e2.length))) ((0<=i_5/\i_5<(Pl e2.length)/\W2 (nth [] e2 (Sz i_5))=5)/\∃i_6 i_7 i_8 es i_9,cut (nth [] e2 (Sz i_5)) 0 5 [dI i_6,dI i_7,dI i_8,Hx es,dI i_9]/\(room (e3.length+1)/\lens 5 [[dI i_6,dI i,dI i_8,Hx es,dI i_9]])/\I1 [dI i] [Hx (e3++[[dI i_6,dI i,dI i_8,Hx es,dI i_9]]),dI (Ls .i64 (i_5+1))]/\M1 [Hx (e3++[[dI i_6,dI i,dI i_8,Hx es,dI i_9]]),dI (Ls .i64 (i_5+1))]<M1 [Hx e3,dI i_5]) (I0 [] [Hx e3,dI (Ls .i64 (i+1))]/\M0 [Hx e3,dI (Ls .i64 (i+1))]<M0 [Hx es,dI i])) (chk38 es [Hu (D.clo 39 [D.ptr [Hx l0]])]=true/\I2 [] [Hx es,dI (0:Int)]/\∀(e1:List (List D)) (i:Int),I2 [] [Hx e1,dI i]->bB (decide (i<(Pl es.length))) ((0<=i/\i<(Pl e1.length))/\∃i_1 i_2 i_3 es i_4,cut (nth [] e1 (Sz i)) 0 5 [dI i_1,dI i_2,dI i_3,Hx es,dI i_4]/\(0<=i_2/\i_2<(Pl fs.length)/\W2 (nth [] fs (Sz i_2))=4)/\∃i_5,cut (nth [] fs (Sz i_2)) 2 1 [dI i_5]/\∃es,cut [Hx l0] 0 1 [Hx es]/\(0<=i_3/\i_3<(Pl es.length)/\W2 (nth [] es (Sz i_3))=8)/\∃i_6,cut (nth [] es (Sz i_3)) 5 1 [dI i_6]/\∃es i_7,Gv 40 [aI i_5,aI i_6] [aL es,aI i_7]/\bB (i_7 !=0) (Q [aL [],aI i_7]) ((0<=i/\i<(Pl e1.length))/\3<5/\(0<=i/\i<(Pl (W2 (upd e1 (Sz i) (upd (nth [] e1 (Sz i)) 3 (Hx es))))))/\∃i_8 i_9 i_10 e2 i_11,cut (nth [] (upd e1 (Sz i) (upd (nth [] e1 (Sz i)) 3 (Hx es))) (Sz i)) 0 5 [dI i_8,dI i_9,dI i_10,Hx e2,dI i_11]/\∃e3,cut [Hx l0] 0 1 [Hx e3]/\∃i_12,Gv 41 [F0 [dI i_8,dI i_9,dI i_10,Hx e2,dI i_11],F0 [dI th,Hx fs],aL e3] [aI i_12]/\bB (i_12 !=0) (Q [aL [],aI i_12]) (I2 [] [Hx (upd e1 (Sz i) (upd (nth [] e1 (Sz i)) 3 (Hx es))),dI (Ls .i64 (i+1))]/\M2 [Hx (upd e1 (Sz i) (upd (nth [] e1 (Sz i)) 3 (Hx es))),dI (Ls .i64 (i+1))]<M2 [Hx e1,dI i]))) (Q [aL e1,aI (0:Int)])))))):=by kernel_rfl
end Eng
end
section
open Go Go.Proofs Eng
namespace Eng
section
variable (Gv:Nat->List A->List A->Prop) (I0:List D->List D->Prop) (M0:List D->Nat) (I1:List D->List D->Prop) (M1:List D->Nat) (I2:List D->List D->Prop) (M2:List D->Nat) (I3:List D->List D->Prop) (M3:List D->Nat) (Q:List A->Prop)
theorem Mn (a0 a1 a2 a3 co h0 h1 h2 fr ha d0 d1 c0 c1 c2 m0 m1 m2 dr to:Int):wpF CC Gv an0 Tryz.f6 [.ag (.int .u8 a0:: .int .u8 a1:: .int .u8 a2:: .int .u8 a3:: .int .u8 co:: .int .u8 h0:: .int .u8 h1:: .int .u8 h2:: .int .u8 fr:: .int .u8 ha:: .int .u8 d0:: .int .u8 d1:: .int .u8 c0:: .int .u8 c1:: .int .u8 c2:: .int .u8 m0:: .int .u8 m1:: .int .u8 m2:: .int .u8 dr:: .int .u8 to::[])] Q=(bB (decide (c2>0)) ((36:Int)≠(0:Int)/\(36:Int)≠(0:Int)/\(20:Int)≠(0:Int)/\Q [F0 [dI (0:Int),dI (0:Int),dI (30000:Int),dI (30000:Int),dI (6000:Int),dI (5000:Int),Hx [[dI (Ls .i64 (1000*Ls .i64 (Lv c0 (36:Int)))),dI (Ls .i64 (1000*Ls .i64 (Lv c1 (36:Int)))),dI (Ls .i64 (Ls .i64 (1000*Ls .i64 (Lv c0 (36:Int)))+4000)),dI (Ls .i64 (Ls .i64 (1000*Ls .i64 (Lv c1 (36:Int)))+4000)),dI (Ls .i64 (1000*Ls .i64 (Lv c2 (20:Int))))]],dI (25000:Int)]]) (Q [F0 [dI (0:Int),dI (0:Int),dI (30000:Int),dI (30000:Int),dI (6000:Int),dI (5000:Int),Hx [],dI (25000:Int)]])):=by kernel_rfl
theorem Ae (i0:Int) (i1:Int):wpF CC Gv an0 Tryz.f60 [.c (.int .i64 i0),.c (.int .i64 i1)] Q=(∃x x1,Gv 112 [aI (Ls .i64 (1000*i0)),aI (Ls .i64 (1000*i1))] [aV x x1]/\Q [aV x x1]):=by kernel_rfl
theorem P6 (a0 a1 a2 a3 co h0 h1 h2 fr ha d0 d1 c0 c1 c2 m0 m1 m2 dr to:Int):wpF CC Gv an0 Tryz.f22 [.ag (.int .u8 a0:: .int .u8 a1:: .int .u8 a2:: .int .u8 a3:: .int .u8 co:: .int .u8 h0:: .int .u8 h1:: .int .u8 h2:: .int .u8 fr:: .int .u8 ha:: .int .u8 d0:: .int .u8 d1:: .int .u8 c0:: .int .u8 c1:: .int .u8 c2:: .int .u8 m0:: .int .u8 m1:: .int .u8 m2:: .int .u8 dr:: .int .u8 to::[])] Q=((12:Int)≠(0:Int)/\(12:Int)≠(0:Int)/\(5:Int)≠(0:Int)/\(5:Int)≠(0:Int)/\(3:Int)≠(0:Int)/\bB (Lv co (3:Int)==(1:Int)) (∃x x1,Gv 60 [aI (Ls .i64 (Lv a0 (12:Int))),aI (Ls .i64 (Lv a1 (12:Int)))] [aV x x1]/\∃x2 x3,Gv 60 [aI (Ls .i64 (Ls .i64 (Ls .i64 (Lv a0 (12:Int))+6)+Ls .i64 (Lv a2 (5:Int)))),aI (Ls .i64 (Lv a1 (12:Int)))] [aV x2 x3]/\∃x4 x5,Gv 60 [aI (Ls .i64 (Ls .i64 (Ls .i64 (Lv a0 (12:Int))+6)+Ls .i64 (Lv a2 (5:Int)))),aI (Ls .i64 (Ls .i64 (Ls .i64 (Ls .i64 (Lv a1 (12:Int))+6)+Ls .i64 (Lv a3 (5:Int)))-2))] [aV x4 x5]/\∃x6 x7,Gv 60 [aI (Ls .i64 (Ls .i64 (Ls .i64 (Ls .i64 (Lv a0 (12:Int))+6)+Ls .i64 (Lv a2 (5:Int)))-3)),aI (Ls .i64 (Ls .i64 (Ls .i64 (Lv a1 (12:Int))+6)+Ls .i64 (Lv a3 (5:Int))))] [aV x6 x7]/\∃x8 x9,Gv 60 [aI (Ls .i64 (Lv a0 (12:Int))),aI (Ls .i64 (Ls .i64 (Ls .i64 (Lv a1 (12:Int))+6)+Ls .i64 (Lv a3 (5:Int))))] [aV x8 x9]/\Q [aL [(rk x (rk x1 [])),(rk x2 (rk x3 [])),(rk x4 (rk x5 [])),(rk x6 (rk x7 [])),(rk x8 (rk x9 []))]]) ((3:Int)≠(0:Int)/\bB (Lv co (3:Int)==(2:Int)) (∃x x1,Gv 60 [aI (Ls .i64 (Lv a0 (12:Int))),aI (Ls .i64 (Lv a1 (12:Int)))] [aV x x1]/\∃x2 x3,Gv 60 [aI (Ls .i64 (Ls .i64 (Ls .i64 (Lv a0 (12:Int))+6)+Ls .i64 (Lv a2 (5:Int)))),aI (Ls .i64 (Lv a1 (12:Int)))] [aV x2 x3]/\∃x4 x5,Gv 60 [aI (Ls .i64 (Lv a0 (12:Int))),aI (Ls .i64 (Ls .i64 (Ls .i64 (Lv a1 (12:Int))+6)+Ls .i64 (Lv a3 (5:Int))))] [aV x4 x5]/\Q [aL [(rk x (rk x1 [])),(rk x2 (rk x3 [])),(rk x4 (rk x5 []))]]) (∃x x1,Gv 60 [aI (Ls .i64 (Lv a0 (12:Int))),aI (Ls .i64 (Lv a1 (12:Int)))] [aV x x1]/\∃x2 x3,Gv 60 [aI (Ls .i64 (Ls .i64 (Ls .i64 (Lv a0 (12:Int))+6)+Ls .i64 (Lv a2 (5:Int)))),aI (Ls .i64 (Lv a1 (12:Int)))] [aV x2 x3]/\∃x4 x5,Gv 60 [aI (Ls .i64 (Ls .i64 (Ls .i64 (Lv a0 (12:Int))+6)+Ls .i64 (Lv a2 (5:Int)))),aI (Ls .i64 (Ls .i64 (Ls .i64 (Lv a1 (12:Int))+6)+Ls .i64 (Lv a3 (5:Int))))] [aV x4 x5]/\∃x6 x7,Gv 60 [aI (Ls .i64 (Lv a0 (12:Int))),aI (Ls .i64 (Ls .i64 (Ls .i64 (Lv a1 (12:Int))+6)+Ls .i64 (Lv a3 (5:Int))))] [aV x6 x7]/\Q [aL [(rk x (rk x1 [])),(rk x2 (rk x3 [])),(rk x4 (rk x5 [])),(rk x6 (rk x7 []))]]))):=by kernel_rfl
theorem Cu (i0:Int) (i1:Int):wpF CC Gv an0 Tryz.f26 [.c (.int .i64 i0),.c (.int .i64 i1)] Q=(Q [F0 [dI i0,dI (1:Int),dI i1,dI (20000:Int),dI (Ls .i64 (i1+7000)),dI (1500:Int),dI (20000:Int),dI (5000:Int)]]):=by kernel_rfl
theorem Mo (i0:Int):wpF CC Gv an0 Tryz.f24 [.c (.int .i64 i0)] Q=(∃x,Gv 63 [aI i0] [aR x]/\Q [aR x]):=by kernel_rfl
end
end Eng
end
section
namespace Eng
open Go Go.Proofs
def clA (c0 c1 c2:Int):List CLp:=match decide (c2>0)with
 |true=>[⟨1000*Lv c0 36,1000*Lv c1 36,1000*Lv c0 36+4000,1000*Lv c1 36+4000,1000*Lv c2 20⟩]
 |false=>[]
theorem xt {a b:Int} (h:0<=a) (hb:0<b):0<=Lv a b/\Lv a b<b:=⟨Int.tmod_nonneg _ h,Int.tmod_lt_of_pos _ hb⟩
theorem Af {c0 c1 c2:Int} (h0:0<=c0) (h1:0<=c1) (h2:0<=c2):∀c∈clA c0 c1 c2,c.Ok:=λc hc=>by
 unfold clA at hc;have b0:=xt (b:=36) h0 (by omega);have b1:=xt (b:=36) h1 (by omega);have b2:=xt (b:=20) h2 (by omega);cases h:decide (c2>0)with
 |false=>rw[h]at hc;cases hc
 |true=>rw[h]at hc;simp only[List.mem_singleton]at hc;subst hc;refine⟨⟨?_,?_,?_⟩,⟨?_,?_,?_⟩,?_,?_⟩<;>simp only<;>omega
section
variable [Env]
theorem Mp (a0 a1 a2 a3 co h0 h1 h2 fr ha d0 d1 c0 c1 c2 m0 m1 m2 dr to:Int) (g0:0<=c0) (g1:0<=c1) (g2:0<=c2):
 Gives CC 6 [.ag (.int .u8 a0:: .int .u8 a1:: .int .u8 a2:: .int .u8 a3:: .int .u8 co:: .int .u8 h0:: .int .u8 h1:: .int .u8 h2:: .int .u8 fr:: .int .u8 ha:: .int .u8 d0:: .int .u8 d1:: .int .u8 c0:: .int .u8 c1:: .int .u8 c2:: .int .u8 m0:: .int .u8 m1:: .int .u8 m2:: .int .u8 dr:: .int .u8 to::[])] [Us (clA c0 c1 c2)]:=by
 have b0:=xt (b:=36) g0 (by omega);have b1:=xt (b:=36) g1 (by omega);have b2:=xt (b:=20) g2 (by omega);refine qm (C:=CC) (anns:=an0) mixedT Tryz.func6 ?_;rw[Mn];unfold clA Us;refine brd (λh=>?_) λh=>?_
 .rw[decide_eq_true h,xb (n:=Lv c0 36) (by omega) (by omega),xb (n:=Lv c1 36) (by omega) (by omega),xb (n:=Lv c2 20) (by omega) (by omega),
   xb (n:=1000*Lv c0 36) (by omega) (by omega),xb (n:=1000*Lv c1 36) (by omega) (by omega),xb (n:=1000*Lv c2 20) (by omega) (by omega),
   xb (n:=1000*Lv c0 36+4000) (by omega) (by omega),xb (n:=1000*Lv c1 36+4000) (by omega) (by omega)]
  exact⟨by omega,by omega,by omega,rfl⟩
 .rw[decide_eq_false h];rfl
end
end Eng
end
section
namespace Eng
open Go Go.Proofs
def ED (b:Bool) (g:GF) (l:List GF):List GF:=match b with
 |true=>g::l
 |false=>l
def gsS (b1 b2 b3:Bool) (p q r:GF):List GF:=ED b1 p (ED b2 q (ED b3 r []))
section
variable [Env]
structure ShOk (x:List D) (gs:List GF) (t0 t1 t2 t3 t4:TL) (cs:List CLp):Prop where
 p:PlOk gs [t0,t1,t2,t3,t4] cs
 s:∀t∈[t0,t1,t2,t3,t4],Ps t.s
 f4:Gives (CN []) 4 [] [.c (.bool true)]
 f5:Gives (CN []) 5 [.ag x] [.ag [.int .i64 6000,.sl (J0 (gsF gs))]]
 f6:Gives (CN []) 6 [.ag x] [Us cs]
 f7:Gives (CN []) 7 [.ag x] [.c (.sl (mgD [t0,t1,t2,t3,t4]))]
end
end Eng
end
section
namespace Eng
open Go Go.Proofs Go.RowKit
def wi (ts:List TL) (i:Nat) (g:GF):List OR:=match g.k==1 with
 |true=>[⟨1,i,(chA ts g).1,[]⟩,⟨2,i,(chA ts g).2,[]⟩]
 |false=>match g.k==4 with
  |true=>[⟨5,i,(chA ts g).1,[]⟩]
  |false=>[⟨khI (ts.getD (chA ts g).1.toNat dTL),i,(chA ts g).1,[]⟩]
def K3 (ts:List TL):List GF->Nat->List OR
 |[],_=>[]
 |g::r,i=>wi ts i g++K3 ts r (i+1)
theorem Zv {ts:List TL}:∀{gs:List GF} {k i:Nat} (h:k<gs.length),K3 ts (gs.take (k+1)) i=K3 ts (gs.take k) i++wi ts (i+k) gs[k]
 |g::r,0,i,_=>by simp[K3]
 |g::r,k+1,i,h=>by have:=Zv (ts:=ts) (gs:=r) (k:=k) (i:=i+1) (by simpa using h);simp only[List.take_succ_cons,K3,List.getElem_cons_succ];rw[this,bh];congr 3;omega
def dGF:GF:=⟨⟨[],0,0,[]⟩,0,0,0⟩
def Ut (gs:List GF) (ts:List TL) (o:OR):OR:={o with es:=psL (gs.getD o.i.toNat dGF).d (nPs (gs.getD o.i.toNat dGF).d (ts.getD o.t.toNat dTL).s)}
def kx (gs:List GF) (ts:List TL) (l:List OR) (k:Nat):List OR:=(l.take k).map (Ut gs ts)++l.drop k
structure OrOk (gs:List GF) (ts:List TL) (o:OR):Prop where
 e:o.es=[]
 i:∃(i:Nat) (_:i<gs.length),o.i=(i:Int)
 t:∃(t:Nat) (_:t<ts.length),o.t=(t:Int)
 k:KOk o.k (gs.getD o.i.toNat dGF).toFT (ts.getD o.t.toNat dTL)
 f:¬(ts.getD o.t.toNat dTL).f<(gs.getD o.i.toNat dGF).d
 fit:(gs.getD o.i.toNat dGF).k=3->Gz (gs.getD o.i.toNat dGF).R (ts.getD o.t.toNat dTL)=true
theorem Mq {g:GF} {t:TL} (h:jn g t=true):QO g.toFT t=true/\¬t.f<g.d/\(g.k=3->Gz g.R t=true):=by
 rw[Xc]at h;simp only[Aw,Bool.not_eq_true',decide_eq_false_iff_not]at h;refine⟨h.1,h.2.1,λe=>?_⟩;have:=h.2.2.1;rw[e]at this
 simpa using this
theorem Cv {gs:List GF} {ts:List TL} {i:Nat} (hi:i<gs.length) (hk:gs[i].k=1\/gs[i].k=3\/gs[i].k=4) {a b:Nat} (ha:a<ts.length) (hb:b<ts.length) (hc:chA ts gs[i]=((a:Int),(b:Int))) (ra:jn gs[i] ts[a]=true) (rb:jn gs[i] ts[b]=true):∀o∈wi ts i gs[i],OrOk gs ts o:=by
 obtain⟨a1,a2,a3⟩:=Mq ra;obtain⟨b1,b2,b3⟩:=Mq rb;have eg:gs.getD ((i:Int)).toNat dGF=gs[i]:=by rw[No,zi hi]
 have ea:ts.getD ((a:Int)).toNat dTL=ts[a]:=by rw[No,zi ha]
 have eb:ts.getD ((b:Int)).toNat dTL=ts[b]:=by rw[No,zi hb]
 have mk:∀(K:Int) (t:Nat) (ht:t<ts.length),KOk K gs[i].toFT ts[t]->¬ts[t].f<gs[i].d->(gs[i].k=3->Gz gs[i].R ts[t]=true)->OrOk gs ts ⟨K,i,t,[]⟩:=λK t ht h1 h2 h3=>by
  have et:ts.getD ((t:Int)).toNat dTL=ts[t]:=by rw[No,zi ht]
  exact⟨rfl,⟨i,hi,rfl⟩,⟨t,ht,rfl⟩,by show KOk K (gs.getD ((i:Int)).toNat dGF).toFT (ts.getD ((t:Int)).toNat dTL);rw[eg,et];exact h1,by show ¬(ts.getD ((t:Int)).toNat dTL).f<(gs.getD ((i:Int)).toNat dGF).d;rw[eg,et];exact h2,by show(gs.getD ((i:Int)).toNat dGF).k=3->Gz (gs.getD ((i:Int)).toNat dGF).R (ts.getD ((t:Int)).toNat dTL)=true;rw[eg,et];exact h3⟩
 have sk:∀{t:TL},QO gs[i].toFT t=true->gs[i].k≠3->t.k=1:=λ{t} h hn=>by
  unfold QO at h;simp only[Bx,Aw,beq_iff_eq]at h;rcases h with h|h
  .exact h
  .exact absurd h.1 hn
 intro o ho;unfold wi at ho;rw[hc]at ho;rcases hk with e|e|e<;>rw[e]at ho
 .have ho:o∈[(⟨1,i,a,[]⟩:OR),⟨2,i,b,[]⟩]:=ho;simp only[ba,ap,or_false]at ho;rcases ho with rfl|rfl
  .exact mk 1 a ha (.inl ⟨e,.inl rfl,sk a1 (by omega)⟩) a2 a3
  .exact mk 2 b hb (.inl ⟨e,.inr rfl,sk b1 (by omega)⟩) b2 b3
 .have ho:o∈[(⟨khI (ts.getD ((a:Int)).toNat dTL),i,a,[]⟩:OR)]:=ho;simp only[ba,ap,or_false]at ho;subst ho;rw[ea];refine mk _ a ha (.inr (.inl ⟨e,?_⟩)) a2 a3;unfold khI;cases h2:ts[a].k==2 with
  |true=>exact .inr ⟨rfl,by simpa using h2⟩
  |false=>
   refine .inl ⟨rfl,?_⟩;unfold QO at a1;rw[h2]at a1
   simpa using a1
 .have ho:o∈[(⟨5,i,a,[]⟩:OR)]:=ho;simp only[ba,ap,or_false]at ho;subst ho;exact mk 5 a ha (.inr (.inr ⟨e,rfl,sk a1 (by omega)⟩)) a2 a3
theorem G2 (ts:List TL) (i:Nat) (g:GF):(wi ts i g).length<=2:=by
 unfold wi;split
 .simp
 .split<;>simp
theorem K4 (ts:List TL):∀(gs:List GF) (i:Nat),(K3 ts gs i).length<=2*gs.length
 |[],_=>by simp[K3]
 |g::r,i=>by have h1:=K4 ts r (i+1);have h2:=G2 ts i g;simp only[K3,b4,List.length_cons];omega
def G3 (gs:List GF) (ts:List TL):Prop:=∀i (hi:i<gs.length),(gs[i].k=1\/gs[i].k=3\/gs[i].k=4)/\∃a b:Nat,∃(ha:a<ts.length) (hb:b<ts.length),chA ts gs[i]=((a:Int),(b:Int))/\jn gs[i] ts[a]=true/\jn gs[i] ts[b]=true
theorem Ym {gs:List GF} {ts:List TL} (h:G3 gs ts):∀k,k<=gs.length->∀o∈K3 ts (gs.take k) 0,OrOk gs ts o
 |0,_,o,ho=>by simp[K3]at ho
 |k+1,hk,o,ho=>by
  rw[Zv (by omega),cg]at ho;rcases List.mem_append.1 ho with ho|ho
  .exact Ym h k (by omega) o ho
  .obtain⟨h1,a,b,ha,hb,h2,h3,h4⟩:=h k (by omega);exact Cv (by omega) h1 ha hb h2 h3 h4 o ho
section
variable [Env]
theorem Ah {C:Cx} [EffOk C] {anns:Nat->Ann} {un:Nat->Nat} {f:Nat} {fn:Func} {args res:List A} {P:Prop} (hm:C.P.follows .mixedOrders=true) (hf:C.P.funcs[f]? =some fn) (e:B1 C (Gives C) anns un fn args (λr=>r=res)=P) (h:P):Gives C f args res:=by
 subst e;exact TT hm hf h
noncomputable def chkI (es0:List (List D)) (al0:List A) (es:List (List D)) (al:List A):Bool:= @decide (es=es0/\al=al0) (Dd _)
noncomputable abbrev exO (es0:List (List D)) (al0:List A):List (Nat×wq):=[(38,VR 5 (chkI es0 al0) (λes _=>es) (λ_ _=>[.c (.bool false)]))]
theorem Ai {es0:List (List D)} {al0:List A} (hne:es0≠[]) (h:Gives CC 38 (.c (.sl es0)::al0) [.c (.bool false)]):EffOk (CN (exO es0 al0)):=by
 refine xd (LY ⟨YT Tryz.func38 (by simp[Tryz.f38]) (by decide) λes al hc=>?_,trivial⟩);obtain⟨rfl,rfl⟩:= @of_decide_eq_true _ (Dd _) hc;exact⟨hne,Ml rfl (upN h)⟩
end
end Eng
end
section
open Go Go.Proofs Eng
namespace Eng
theorem Mr (Gv:Nat->List A->List A->Prop) (th:Int) (l0:List (List D)) (Q:List A->Prop):B1 (CN []) Gv an0 (λ_=>1) Tryz.f9 [.ag [.int .i64 th,.sl []],.c (.sl l0),.c (.sl [])] Q=(∃i,Gv 35 [F0 [dI th,Hx []]] [aI i]/\bB (i !=0) (Q [aL [],aI (1:Int)]) (∃i,Gv 36 [aL l0] [aI i]/\bB (i !=0) (Q [aL [],aI (1:Int)]) (∃b,Gv 38 [aL [],Hu (D.clo 39 [D.ptr [Hx l0]])] [aB b]/\br b (Q [aL [],aI (1:Int)]) (Q [aL [],aI (0:Int)])))):=by kernel_rfl
end Eng
end
section
namespace Eng
open Go Go.Proofs Go.RowKit
theorem Aj {ts:List TL} {i:Nat} {g:GF}:∀o∈wi ts i g,o.i=(i:Int)/\o.es=[]:=by
 intro o ho;unfold wi at ho;split at ho
 .simp only[ba,ap,or_false]at ho;rcases ho with rfl|rfl<;>exact⟨rfl,rfl⟩
 .split at ho
  .simp only[ba,ap,or_false]at ho;subst ho;exact⟨rfl,rfl⟩
  .simp only[ba,ap,or_false]at ho;subst ho;exact⟨rfl,rfl⟩
def dh (o:OR):List D:=opR o.k o.t
theorem Ms {ts:List TL} {i:Nat} {g:GF} (hk:g.k=1\/g.k=3\/g.k=4) {a b:Nat} (ha:a<ts.length) (hc:chA ts g=((a:Int),(b:Int))):
 P3 (khI ts[a]) [.ag (ftD g.toFT),.c (.sl (mgD ts)),.ag [.int .i64 (a:Int),.int .i64 (b:Int)]]=[.c (.sl ((wi ts i g).map dh))]:=by
 have ea:ts.getD ((a:Int)).toNat dTL=ts[a]:=by rw[No,zi ha]
 unfold wi ftD P3;rw[hc];rcases hk with e|e|e<;>rw[e]
 .rfl
 .rw[ea];rfl
 .rfl
theorem P7 (a b:List OR):jx (a++b)=jx a++jx b:=by simp[jx]
theorem Mt (a:List OR) (o:OR):jx (a++[o])=jx a++[orD o]:=P7 a [o]
theorem Ak {o:OR} {k:Nat} (h:o.i=(k:Int)/\o.es=[]):[Hv .i64 o.k,.int .i64 (k:Int),.int .i64 o.t,.sl [],.int .i64 0]=orD o:=by
 unfold orD;rw[h.1,h.2];rfl
theorem di (gs:List GF) (ts:List TL) (l:List OR):kx gs ts l 0=l:=by simp[kx]
theorem dj (gs:List GF) (ts:List TL) (l:List OR):kx gs ts l l.length=l.map (Ut gs ts):=by simp[kx]
theorem Zw (gs:List GF) (ts:List TL) (l:List OR) (k:Nat):(kx gs ts l k).length=l.length:=by simp[kx];omega
theorem Sd {gs:List GF} {ts:List TL} {l:List OR} {k:Nat} (h:k<l.length):(kx gs ts l k)[k]'(by rw[Zw];exact h)=l[k]:=by
 unfold kx;rw[List.getElem_append_right (by simp;omega)];simp only[bx,bb,dc (ec h),dl,List.getElem_drop,Nat.add_zero]
theorem Al {gs:List GF} {ts:List TL} {l:List OR} {k:Nat} (h:k<l.length):(kx gs ts l k).set k (Ut gs ts l[k])=kx gs ts l (k+1):=by
 unfold kx;rw[List.set_append_right _ _ (by simp;omega),be h,List.map_append,bh];congr 1;simp only[bx,bb,dc (ec h),dl];rw[List.drop_eq_getElem_cons h];rfl
theorem Am {l:List OR} {k:Nat} (h:k<l.length) (es:List Int):upd (jx l) k (upd (nth [] (jx l) k) 3 (.sl (iR es)))=jx (l.set k {l[k]with es:=es}):=by
 rw[Zu h,xh];unfold jx;rw[List.map_set];rfl
section
variable [Env]
set_option maxHeartbeats 8000000 in
theorem Cw {gs:List GF} {ts:List TL} {cs:List CLp} (h:PlOk gs ts cs) (hs:∀t∈ts,Ps t.s) (hg:G3 gs ts) (hne:K3 ts gs 0≠[]):
 Gives (CN []) 9 [.ag [.int .i64 6000,.sl (J0 (gsF gs))],.c (.sl (mgD ts)),.c (.sl (prR (gs.map (chA ts))))] [.c (.sl (jx ((K3 ts gs 0).map (Ut gs ts)))),.c (.int .i64 0)]:=by
 have a1:=Ym hg gs.length (cb _);rw[bm]at a1;have hln:=K4 ts gs 0;have hgl:gs.length<=40:=by have:=h.p.len;rw[Qv]at this;exact this
 have htl:ts.length<=200:=h.m.len;have hto:=h.m.ok;generalize hL:K3 ts gs 0=L at a1 hne hln;have hin:∀o∈L,0<=o.t/\o.t<ts.length:=λo ho=>by obtain⟨t,ht,e⟩:=(a1 o ho).t;rw[e];omega
 have a3:=Sc (l:=L) (ts:=ts) (by omega) hin
 haveI:=Ai (es0:=jx L) (al0:=[.c (.clo 39 [.ptr [.sl (mgD ts)]])]) (λe=>hne (List.map_eq_nil_iff.1 e)) a3
 have hv:=P5 (Gives (CN (exO (jx L) [.c (.clo 39 [.ptr [.sl (mgD ts)]])]))) (λ_ ds=>∃k:Nat,k<=gs.length/\ds=[.sl (jx (K3 ts (gs.take k) 0)),.int .i64 (k:Int)]) (λds=>(gs.length-toI (nth .undef ds 1)).toNat)
  (λgh ds=>∃k j:Nat,k<gs.length/\j<=(wi ts k (gs.getD k dGF)).length/\gh=[.int .i64 (k:Int)]/\ds=[.sl (jx (K3 ts (gs.take k) 0++(wi ts k (gs.getD k dGF)).take j)),.int .i64 (j:Int)]) (λds=>(2-toI (nth .undef ds 1)).toNat)
  (λ_ ds=>∃k:Nat,k<=L.length/\ds=[.sl (jx (kx gs ts L k)),.int .i64 (k:Int)]) (λds=>(L.length-toI (nth .undef ds 1)).toNat)
  (chkI (jx L) [.c (.clo 39 [.ptr [.sl (mgD ts)]])]) 6000 (J0 (gsF gs)) (mgD ts) (prR (gs.map (chA ts))) (· =[.c (.sl (jx (L.map (Ut gs ts)))),.c (.int .i64 0)])
 refine xP (C:=CN (exO (jx L) [.c (.clo 39 [.ptr [.sl (mgD ts)]])])) rfl rfl (Ah mixedT Tryz.func9 hv ?_);clear hv;have lp:(prR (gs.map (chA ts))).length=gs.length:=by simp[prR]
 simp only[P1,yX,Qv,lp];refine⟨_,upN (Zt h.p),brb (λh=>by cases h) λ_=>⟨_,Yk h.m,brb (λh=>by cases h) λ_=>brb (λq=>by simp at q) λ_=>⟨⟨0,cc _,rfl⟩,?_⟩⟩⟩;rintro _ _ ⟨k,hk,e⟩;simp only[b5,D.sl.injEq,Hy,true_and,and_true]at e;obtain⟨rfl,rfl⟩:=e;simp only[No];refine brd (λq=>?_) λq=>?_
 .have a0:k<gs.length:=by omega
  obtain⟨h1,a,b,ha,hb,h2,h3,h4⟩:=hg k a0;have hw:Ls .i64 ((k:Int)+1)=((k+1:Nat):Int):=by rw[xb (by omega) (by omega)];omega
  have eg:gs.getD k dGF=gs[k]:=zi a0;have np:nth [] (prR (gs.map (chA ts))) k=[.int .i64 (a:Int),.int .i64 (b:Int)]:=by rw[qw];simp[prR,a0,h2]
  have gp:=Ct (f:=gs[k].toFT) (ts:=ts) (a:=a) (b:=b) h1 ha;rw[Ms (i:=k) h1 ha h2]at gp;rw[G0 a0,np,hw];refine⟨⟨by omega,by omega,rfl⟩,_,_,_,_,⟨rfl,cb 4⟩,⟨by omega,by omega,rfl⟩,_,_,⟨rfl,cb 2⟩,_,upN gp,⟨k,0,a0,cc _,rfl,by simp⟩,?_⟩;rintro _ _ ⟨k',j,hk',hj,e1,e2⟩;simp only[b5,Hy,true_and,and_true]at e1;obtain rfl:k=k':=by omega
  simp only[b5,D.sl.injEq,Hy,true_and,and_true]at e2;obtain⟨rfl,rfl⟩:=e2;rw[eg]at hj ⊢;have hF:=G2 ts k gs[k];simp only[bx,No];refine brd (λq=>?_) λq=>?_
  .have a4:j<(wi ts k gs[k]).length:=by omega
   have hoi:=Aj _ (an a4);have nr:nth [] ((wi ts k gs[k]).map dh) j=opR (wi ts k gs[k])[j].k (wi ts k gs[k])[j].t:=by rw[qw];simp[a4,dh]
   have hw2:Ls .i64 ((j:Int)+1)=((j+1:Nat):Int):=by rw[xb (by omega) (by omega)];omega
   rw[nr,hw2];have a6:=K4 ts (gs.take k) 0;rw[bb]at a6;refine⟨⟨by omega,by omega,rfl⟩,_,_,_,_,_,⟨rfl,cb 5⟩,⟨?_,?_⟩,⟨k,j+1,a0,by rw[eg];omega,rfl,?_⟩,by simp only[nth,toI];omega⟩
   .unfold room;rw[vz,b4,bb];omega
   .intro x hx;simp at hx;subst hx;rfl
   .rw[eg,be a4,<-bh,Ak hoi,Mt]
  .obtain rfl:j=(wi ts k gs[k]).length:=by omega
   rw[bm];refine⟨⟨k+1,by omega,?_⟩,by simp only[nth,toI];omega⟩;rw[Zv a0,cg]
 .obtain rfl:k=gs.length:=by omega
  rw[bm,hL];refine⟨@decide_eq_true _ (Dd _) ⟨rfl,rfl⟩,⟨0,cc _,by rw[di];rfl⟩,?_⟩;rintro _ _ ⟨k,hk,e⟩;simp only[b5,D.sl.injEq,Hy,true_and,and_true]at e;obtain⟨rfl,rfl⟩:=e;simp only[vz,Zw,No];refine brd (λq=>?_) λq=>?_
  .have a0:k<L.length:=by omega
   have a5:k<(kx gs ts L k).length:=by rw[Zw];exact a0
   have ho:=a1 _ (an a0);obtain⟨i,hi,ei⟩:=ho.i;obtain⟨t,ht,et⟩:=ho.t;have eg:gs.getD (L[k].i).toNat dGF=gs[i]:=by rw[ei,No,zi hi]
   have e2:ts.getD (L[k].t).toNat dTL=ts[t]:=by rw[et,No,zi ht]
   have hK:=ho.k;have hf:=ho.f;have a2:=ho.fit;rw[eg,e2]at hK hf a2;have a7:=h.g _ (an hi);have hd:=a7.f.d;have ag:=hs _ (an ht);have hps:=LP hd.1 hd.2 ag;have hva:=Ub hi ht a7 (hto _ (an ht)) ag hK hf a2;have hw:Ls .i64 ((k:Int)+1)=((k+1:Nat):Int):=by rw[xb (by omega) (by omega)];omega
   have ed:Ut gs ts L[k]={L[k]with es:=psL gs[i].d (nPs gs[i].d ts[t].s)}:=by unfold Ut;rw[eg,e2]
   have eu:upd (jx (kx gs ts L k)) k (upd (orD L[k]) 3 (.sl (iR (psL gs[i].d (nPs gs[i].d ts[t].s)))))=jx (kx gs ts L (k+1)):=by have q:=Am a5 (psL gs[i].d (nPs gs[i].d ts[t].s));rw[Zu a5,Sd a0,<-ed,Al a0]at q;exact q
   rw[Zu a5,Sd a0,hw];have ei2:(L[k].i).toNat=i:=by rw[ei,No]
   have et2:(L[k].t).toNat=t:=by rw[et,No]
   refine⟨⟨by omega,by omega⟩,_,_,_,_,_,⟨rfl,cb 5⟩,?_⟩;rw[ei2,G0 hi];refine⟨⟨by omega,by omega,rfl⟩,_,⟨rfl,by show 2+1<=4;omega⟩,_,⟨rfl,cb 1⟩,?_⟩;rw[et2,wW ht];refine⟨⟨by omega,by rw[wb];omega,rfl⟩,_,⟨rfl,by show 5+1<=8;omega⟩,_,_,upN hps,brb (λq=>by cases q) λ_=>⟨⟨by omega,by omega⟩,by omega,?_⟩⟩;rw[eu,vz,Zw];have ad:k<(kx gs ts L (k+1)).length:=by rw[Zw];exact a0
   have en:nth [] (jx (kx gs ts L (k+1))) k=[.int .i64 L[k].k,.int .i64 (i:Int),.int .i64 (t:Int),.sl (iR (psL gs[i].d (nPs gs[i].d ts[t].s))),.int .i64 0]:=by
    rw[Zu ad];have:(kx gs ts L (k+1))[k]=Ut gs ts L[k]:=by
     have e:=Al (gs:=gs) (ts:=ts) a0;have:(kx gs ts L (k+1))[k]=((kx gs ts L k).set k (Ut gs ts L[k]))[k]'(by rw[e];exact ad):=by simp only[e]
     rw[this,List.getElem_set_self]
    rw[this,ed];unfold orD;rw[ei,et]
   rw[en];exact⟨⟨by omega,by omega⟩,_,_,_,_,_,⟨rfl,cb 5⟩,_,⟨rfl,cb 1⟩,_,upN hva,brb (λq=>by cases q) λ_=>⟨⟨k+1,by omega,rfl⟩,by simp only[nth,toI];omega⟩⟩
  .obtain rfl:k=L.length:=by omega
   rw[dj]
end
end Eng
end
section
namespace Eng
open Go Go.Proofs
variable [Env]
def ZP (t:TypeId) (d:Option Nat):Bool:=match d with
 |some d=>(bF t 117&&(bF d 52||(bF d 9||bF d 11)))||((bF t 123&&bF d 53)||(bF t 119&&bF d 12))
 |none=>false
def Ud (_:Nat) (_:List A):Option (List A):=none
noncomputable def Zx (C:Cx) (f:Nat):Option wq:=
 match bF f 45||(bF f 46||bF f 90)with
 |true=>some (Fz Ud C f)
 |false=>match bF f 44 with
  |true=>some (xC Ud C f 1)
  |false=>none
noncomputable def CB0:Cx:=⟨Tryz.prog,λ_=>none,λ_=>false,λ_=>none,ZP,λ_=>false⟩
noncomputable def CB1:Cx:=⟨Tryz.prog,λ_=>none,λ_=>false,Zx CB0,ZP,λ_=>false⟩
noncomputable def CB2:Cx:=⟨Tryz.prog,λ_=>none,λ_=>false,Zx CB1,ZP,λ_=>false⟩
noncomputable def CB3:Cx:=⟨Tryz.prog,λ_=>none,λ_=>false,Zx CB2,ZP,λ_=>false⟩
noncomputable def CB4:Cx:=⟨Tryz.prog,λ_=>none,λ_=>false,Zx CB3,ZP,λ_=>false⟩
noncomputable def CB5:Cx:=⟨Tryz.prog,λ_=>none,λ_=>false,Zx CB4,ZP,λ_=>false⟩
noncomputable def CB6:Cx:=⟨Tryz.prog,λ_=>none,λ_=>false,Zx CB5,ZP,λ_=>false⟩
noncomputable def CB7:Cx:=⟨Tryz.prog,λ_=>none,λ_=>false,Zx CB6,ZP,λ_=>false⟩
noncomputable def CB8:Cx:=⟨Tryz.prog,λ_=>none,λ_=>false,Zx CB7,ZP,λ_=>false⟩
noncomputable def CB9:Cx:=⟨Tryz.prog,λ_=>none,λ_=>false,Zx CB8,ZP,λ_=>false⟩
theorem K5 {C C':Cx} (h:EffOk C) (hP:C.P=Tryz.prog) (hP':C'.P=C.P) (hG:C'.G=C.G) (he:∀f,C'.eff f=Zx C f):EffOk C':=by
 have hm:C.P.follows .mixedOrders=true:=by rw[hP];exact mixedT
 have a0:∀{f:Nat} {fn:Func},Tryz.prog.funcs[f]? =some fn->C'.P.funcs[f]? =some fn:=λh=>by rw[hP',hP];exact h
 refine Qm λf e h=>?_
 rw[he]at h;unfold Zx at h;split at h
 .rename_i hb;cases h;simp only[Bx]at hb;rcases hb with hb|hb|hb
  .obtain rfl:=b6 hb;exact Kg hm (λ_ _ _ h=>by cases h) hP' hG (a0 Tryz.func45) (by simp[Tryz.f45]) (by decide)
  .obtain rfl:=b6 hb;exact Kg hm (λ_ _ _ h=>by cases h) hP' hG (a0 Tryz.func46) (by simp[Tryz.f46]) (by decide)
  .obtain rfl:=b6 hb;exact Kg hm (λ_ _ _ h=>by cases h) hP' hG (a0 Tryz.func90) (by simp[Tryz.f90]) (by decide)
 .split at h
  .rename_i hb;cases h;obtain rfl:=b6 hb;exact(qy hm (λ_ _ _ h=>by cases h) hP' hG (a0 Tryz.func44) (by simp[Tryz.f44]) (by decide)).toC
  .cases h
instance:EffOk CB0:=Qm λf e h=>by cases h
instance:EffOk CB1:=K5 (C:=CB0) inferInstance rfl rfl rfl λ_=>rfl
instance:EffOk CB2:=K5 (C:=CB1) inferInstance rfl rfl rfl λ_=>rfl
instance:EffOk CB3:=K5 (C:=CB2) inferInstance rfl rfl rfl λ_=>rfl
instance:EffOk CB4:=K5 (C:=CB3) inferInstance rfl rfl rfl λ_=>rfl
instance:EffOk CB5:=K5 (C:=CB4) inferInstance rfl rfl rfl λ_=>rfl
instance:EffOk CB6:=K5 (C:=CB5) inferInstance rfl rfl rfl λ_=>rfl
instance:EffOk CB7:=K5 (C:=CB6) inferInstance rfl rfl rfl λ_=>rfl
instance:EffOk CB8:=K5 (C:=CB7) inferInstance rfl rfl rfl λ_=>rfl
instance:EffOk CB9:=K5 (C:=CB8) inferInstance rfl rfl rfl λ_=>rfl
theorem yk {C:Cx} [EffOk C] (hP:C.P=Tryz.prog) (hG:C.G=CC.G) {f:Nat} {al rs:List A} (h:wv Ud C 1000 40 f al=some rs):Gives CC f al rs:=xP hP.symm hG.symm (z9 (C:=C) (tab:=Ud) (lim:=1000) (by rw[hP];exact mixedT) (λ_ _ _ h=>by cases h) 40 _ _ _ h)
end Eng
end
section
namespace Eng
open Go Go.Proofs Go.RowKit
section
variable [Env]
theorem P8 {ts:List TL} {cs:List CLp} (h:PlOk [] ts cs):Gives (CN []) 9 [.ag [.int .i64 6000,.sl []],.c (.sl (mgD ts)),.c (.sl [])] [.c (.sl []),.c (.int .i64 0)]:=by
 have a0:=Sc (l:=[]) (ts:=ts) (by simp) (λo ho=>by simp at ho);have hv:=Mr (Gives (CN [])) 6000 (mgD ts) (· =[.c (.sl []),.c (.int .i64 0)]);refine Ah mixedT Tryz.func9 hv ?_;have g1:=upN (ex:=[]) (Zt h.p);exact⟨_,g1,brb (λh=>by cases h) λ_=>⟨_,Yk h.m,brb (λh=>by cases h) λ_=>⟨_,upN a0,brb (λh=>by cases h) λ_=>rfl⟩⟩⟩
end
end Eng
end
section
open Go Go.Proofs Eng
namespace Eng
section
variable (Gv:Nat->List A->List A->Prop) (I0:List D->List D->Prop) (M0:List D->Nat) (I1:List D->List D->Prop) (M1:List D->Nat) (I2:List D->List D->Prop) (M2:List D->Nat) (I3:List D->List D->Prop) (M3:List D->Nat) (Q:List A->Prop)
theorem Cy (a0 a1 a2 a3 co h0 h1 h2 fr ha d0 d1 c0 c1 c2 m0 m1 m2 dr to:Int):wpF (CN []) Gv an0 Tryz.f3 [.ag (.int .u8 a0:: .int .u8 a1:: .int .u8 a2:: .int .u8 a3:: .int .u8 co:: .int .u8 h0:: .int .u8 h1:: .int .u8 h2:: .int .u8 fr:: .int .u8 ha:: .int .u8 d0:: .int .u8 d1:: .int .u8 c0:: .int .u8 c1:: .int .u8 c2:: .int .u8 m0:: .int .u8 m1:: .int .u8 m2:: .int .u8 dr:: .int .u8 to::[])] Q=(∃b,Gv 4 [] [aB b]/\bB (!b) (Q [aB false]) (∃i es,Gv 5 [F0 [Hv .u8 a0,Hv .u8 a1,Hv .u8 a2,Hv .u8 a3,Hv .u8 co,Hv .u8 h0,Hv .u8 h1,Hv .u8 h2,Hv .u8 fr,Hv .u8 ha,Hv .u8 d0,Hv .u8 d1,Hv .u8 c0,Hv .u8 c1,Hv .u8 c2,Hv .u8 m0,Hv .u8 m1,Hv .u8 m2,Hv .u8 dr,Hv .u8 to]] [F0 [dI i,Hx es]]/\∃i_1 i_2 i_3 i_4 i_5 i_6 e1 i_7,Gv 6 [F0 [Hv .u8 a0,Hv .u8 a1,Hv .u8 a2,Hv .u8 a3,Hv .u8 co,Hv .u8 h0,Hv .u8 h1,Hv .u8 h2,Hv .u8 fr,Hv .u8 ha,Hv .u8 d0,Hv .u8 d1,Hv .u8 c0,Hv .u8 c1,Hv .u8 c2,Hv .u8 m0,Hv .u8 m1,Hv .u8 m2,Hv .u8 dr,Hv .u8 to]] [F0 [dI i_1,dI i_2,dI i_3,dI i_4,dI i_5,dI i_6,Hx e1,dI i_7]]/\∃e2,Gv 7 [F0 [Hv .u8 a0,Hv .u8 a1,Hv .u8 a2,Hv .u8 a3,Hv .u8 co,Hv .u8 h0,Hv .u8 h1,Hv .u8 h2,Hv .u8 fr,Hv .u8 ha,Hv .u8 d0,Hv .u8 d1,Hv .u8 c0,Hv .u8 c1,Hv .u8 c2,Hv .u8 m0,Hv .u8 m1,Hv .u8 m2,Hv .u8 dr,Hv .u8 to]] [aL e2]/\∃e3 i_8,Gv 8 [F0 [dI i,Hx es],F0 [dI i_1,dI i_2,dI i_3,dI i_4,dI i_5,dI i_6,Hx e1,dI i_7],aL e2] [aL e3,aI i_8]/\bB (i_8 !=0) (Q [aB true]) (∃e4 i_9,Gv 9 [F0 [dI i,Hx es],aL e2,aL e3] [aL e4,aI i_9]/\bB (i_9 !=0) (Q [aB true]) (∃es,Gv 10 [aL e4] [aL es]/\∃e5 i,Gv 11 [aL e4,aL e2] [aL e5,aI i]/\∃e6 i_10,Gv 12 [aI (Pl e4.length),aL es] [aL e6,aI i_10]/\∃e7 i_11 i_12,Gv 13 [aI (Pl e4.length),aL es,aL e5] [aL e7,aI i_11,aI i_12]/\bB (i !=0) (Q [aB false]) (bB (i_10 !=0) (Q [aB false]) (bB (i_12 !=0) (Q [aB false]) (∃b,Gv 14 [aI (Pl e4.length),aL es,aL e7] [aB b]/\bB (!b) (Q [aB false]) (∃i,Gv 15 [aL e6,aL e5] [aI i]/\bB (decide (i_11>i)) (Q [aB false]) (bB ((Pl e4.length)==0) (Q [aB true]) ((0<=Ls .i64 ((Pl e4.length)-1)/\Ls .i64 ((Pl e4.length)-1)<(Pl e4.length)/\W2 (nth [] e4 (Sz (Ls .i64 ((Pl e4.length)-1))))=5)/\∃i,cut (nth [] e4 (Sz (Ls .i64 ((Pl e4.length)-1)))) 0 1 [dI i]/\bB (i !=5) (Q [aB true]) ((0<=Ls .i64 ((Pl e7.length)-1)/\Ls .i64 ((Pl e7.length)-1)<(Pl e7.length)/\W2 (nth [] e7 (Sz (Ls .i64 ((Pl e7.length)-1))))=1)/\∃i,cut (nth [] e7 (Sz (Ls .i64 ((Pl e7.length)-1)))) 0 1 [dI i]/\Q [aB (i==Ls .i64 ((Pl e4.length)-1))]))))))))))):=by kernel_rfl
end
end Eng
end
section
namespace Eng
open Go Go.Proofs Go.RowKit
def prD (l:List (Int×Int)):List (List D):=l.map λp=>[.int .i64 p.1,.int .i64 p.2]
section
variable [Env]
structure PrcOk (n:Nat) (needs:List (Int×Int)) (cut:Bool) (nums:List Int):Prop where
 ex:∃(first best:List Int) (c m:Int),Gives CC 12 [.c (.int .i64 (n:Int)),.c (.sl (prD needs))] [.c (.sl (iR first)),.c (.int .i64 0)]/\Gives CC 13 [.c (.int .i64 (n:Int)),.c (.sl (prD needs)),.c (.sl (iR nums))] [.c (.sl (iR best)),.c (.int .i64 c),.c (.int .i64 0)]/\
  Gives CC 14 [.c (.int .i64 (n:Int)),.c (.sl (prD needs)),.c (.sl (iR best))] [.c (.bool true)]/\Gives CC 15 [.c (.sl (iR first)),.c (.sl (iR nums))] [.c (.int .i64 m)]/\c<=m/\(cut=true->best.length=n/\best.getD (n-1) 0=((n-1:Nat):Int))
omit [Env] in
theorem Mu {gs:List GF} {ts:List TL} (hto:∀t∈ts,t.Ok) (hk:∀g∈gs,g.k=1\/g.k=3\/g.k=4) (h:EC ts gs=true):G3 gs ts:=λi hi=>by
 have hm:=an hi;refine⟨hk _ hm,?_⟩;have h1:=of_decide_eq_true (List.all_eq_true.1 h _ hm);rcases Ab hto (hk _ hm)with⟨h2,_⟩|h2
 .omega
 .exact h2
theorem dk {gs:List GF} (h:∀g∈gs,GOk g):∀g∈gs,g.k=1\/g.k=3\/g.k=4:=λg hg=>by
 rcases(h g hg).f.k with e|⟨e,_⟩|⟨e,_⟩
 .exact .inl e
 .exact .inr (.inl e)
 .exact .inr (.inr e)
theorem dm {a0 a1 a2 a3 co h0 h1 h2 fr ha d0 d1 c0 c1 c2 m0 m1 m2 dr to:Int} {gs:List GF} {t0 t1 t2 t3 t4:TL} {cs:List CLp}
 (h:ShOk (.int .u8 a0:: .int .u8 a1:: .int .u8 a2:: .int .u8 a3:: .int .u8 co:: .int .u8 h0:: .int .u8 h1:: .int .u8 h2:: .int .u8 fr:: .int .u8 ha:: .int .u8 d0:: .int .u8 d1:: .int .u8 c0:: .int .u8 c1:: .int .u8 c2:: .int .u8 m0:: .int .u8 m1:: .int .u8 m2:: .int .u8 dr:: .int .u8 to::[]) gs t0 t1 t2 t3 t4 cs)
 (hall:EC [t0,t1,t2,t3,t4] gs=true->∃(L:List OR) (needs:List (Int×Int)) (nums:List Int),L.length<=100/\Gives (CN []) 9 [.ag [.int .i64 6000,.sl (J0 (gsF gs))],.c (.sl (mgD [t0,t1,t2,t3,t4])),.c (.sl (prR (gs.map (chA [t0,t1,t2,t3,t4]))))] [.c (.sl (jx L)),.c (.int .i64 0)]/\
  Gives CC 10 [.c (.sl (jx L))] [.c (.sl (prD needs))]/\Gives CC 11 [.c (.sl (jx L)),.c (.sl (mgD [t0,t1,t2,t3,t4]))] [.c (.sl (iR nums)),.c (.int .i64 0)]/\PrcOk L.length needs ((L.getD (L.length-1) ⟨0,0,0,[]⟩).k==5) nums):
 Gives (CN []) 3 [.ag (.int .u8 a0:: .int .u8 a1:: .int .u8 a2:: .int .u8 a3:: .int .u8 co:: .int .u8 h0:: .int .u8 h1:: .int .u8 h2:: .int .u8 fr:: .int .u8 ha:: .int .u8 d0:: .int .u8 d1:: .int .u8 c0:: .int .u8 c1:: .int .u8 c2:: .int .u8 m0:: .int .u8 m1:: .int .u8 m2:: .int .u8 dr:: .int .u8 to::[])] [.c (.bool true)]:=by
 have hc:=Ua h.p;have f6:=h.f6;refine qm (C:=CN []) (anns:=an0) mixedT Tryz.func3 ?_;unfold Us at hc f6;rw[Cy];refine⟨_,h.f4,brb (λh=>by cases h) λ_=>⟨_,_,h.f5,_,_,_,_,_,_,_,_,f6,_,h.f7,?_⟩⟩;cases hok:EC [t0,t1,t2,t3,t4] gs with
 |false=>unfold HY at hc;rw[hok]at hc;exact⟨_,_,hc,brb (λ_=>rfl) λq=>by cases q⟩
 |true=>
  unfold HY at hc;rw[hok]at hc;obtain⟨L,needs,nums,hL,g1,g2,g3,⟨first,best,c,m,p1,p2,p3,p4,p5,p6⟩⟩:=hall hok;refine⟨_,_,hc,brb (λq=>by cases q) λ_=>⟨_,_,g1,brb (λq=>by cases q) λ_=>⟨_,upN g2,_,_,upN g3,?_⟩⟩⟩;simp only[P1,vz];refine⟨_,_,upN p1,_,_,_,upN p2,brb (λq=>by cases q) λ_=>brb (λq=>by cases q) λ_=>brb (λq=>by cases q) λ_=>⟨_,upN p3,brb (λq=>by cases q) λ_=>⟨_,upN p4,brd (λq=>by omega) λ_=>brb (λ_=>trivial) λq=>?_⟩⟩⟩;have hn:0<L.length:=by
   rcases Nat.eq_zero_or_pos L.length with e|e
   .rw[e]at q;cases q
   .exact e
  have hw:Ls .i64 ((L.length:Int)-1)=((L.length-1:Nat):Int):=by rw[xb (by omega) (by omega)];omega
  have a4:L.length-1<L.length:=by omega
  rw[hw,No,Zu a4];refine⟨⟨by omega,by omega,rfl⟩,_,⟨rfl,by show 0+1<=5;omega⟩,brb (λ_=>trivial) λq2=>?_⟩;have hk:L[L.length-1].k=5:=by simpa using q2
  obtain⟨b1,b2⟩:=p6 (by rw[zi a4,hk];rfl);rw[Gx,b1,hw,No,LJ (by omega)];rw[zi (by omega)]at b2;refine⟨⟨by omega,by omega,rfl⟩,_,⟨rfl,by show 0+1<=1;omega⟩,?_⟩;rw[b2];simp
end
end Eng
end
section
namespace Eng
open Go Go.Proofs
def Hz (k:Nat) (r:Rat):Prop:=r.num.natAbs<=10^k/\r.den<=10^k
theorem Hz.mono {k m:Nat} {r:Rat} (h:Hz k r) (hk:k<=m):Hz m r:=
 ⟨cm h.1 (cv (by omega) hk),cm h.2 (cv (by omega) hk)⟩
theorem dn {n:Nat} (hn:n=9*100*100*4):QN=10^n:=by
 have e:(1000000000:Nat)=10^9:=by decide
 unfold QN;rw[e];exact pow4 hn
theorem Hz.sr {k:Nat} {r:Rat} (h:Hz k r) (hk:k<360000):Sr r:=by
 obtain⟨n,hn⟩:∃n,n=9*100*100*4:=⟨_,rfl⟩;have h1:10^k<QN:=by rw[dn hn];exact Nat.pow_lt_pow_right (by omega) (by omega)
 refine⟨cF h.1 h1,?_⟩;unfold Sq;rw[Ts];exact cF h.2 h1
theorem Hz.divInt {n d:Int} {k:Nat} (hd:0<d) (h1:n.natAbs<=10^k) (h2:d.natAbs<=10^k):Hz k (eL n d):=by
 obtain⟨e1,e2⟩:=Zj (n:=n) hd;constructor
 .rw[e1];exact cm (V1 _ _) h1
 .have:((eL n d).den:Int).natAbs<=d.natAbs:=by rw[e2];exact V1 _ _
  rw[Ts]at this;exact cm this h2
theorem Hz.neg {k:Nat} {r:Rat} (h:Hz k r):Hz k (-r):=by
 refine⟨?_,h.2⟩;rw[Rat.neg_num,U3];exact h.1
theorem Hz.mul {j k l:Nat} {x y:Rat} (hx:Hz j x) (hy:Hz k y) (h:j+k<=l:=by omega):Hz l (x*y):=by
 have e:x*y=eL (x.num*y.num) (x.den*y.den):=by rw[<-fz,eH,eH]
 have px:=den_pos x;have py:=den_pos y;refine Hz.mono (k:=j+k) ?_ h;rw[e];refine Hz.divInt (W0 px py) ?_ ?_
 .rw[U0,c3];exact cp hx.1 hy.1
 .rw[U0,c3,Ts,Ts];exact cp hx.2 hy.2
theorem Hz.add {j k l:Nat} {x y:Rat} (hx:Hz j x) (hy:Hz k y) (h:j+k+1<=l:=by omega):Hz l (x+y):=by
 have px:=den_pos x;have py:=den_pos y;have e0:x+y=eL (x.num*y.den+y.num*x.den) (x.den*y.den):=by rw[<-Rat.divInt_add_divInt _ _ (by omega) (by omega),eH,eH]
 refine Hz.mono (k:=j+k+1) ?_ h;rw[e0];have hp:10^(j+k+1)=10*(10^j*10^k):=by rw[Nat.pow_succ,c3,dv]
 have a1:(x.num*y.den).natAbs<=10^j*10^k:=by rw[U0,Ts];exact cp hx.1 hy.2
 have a2:(y.num*x.den).natAbs<=10^j*10^k:=by rw[U0,Ts,dv];exact cp hx.2 hy.1
 have a3:((x.den:Int)*y.den).natAbs<=10^j*10^k:=by rw[U0,Ts,Ts];exact cp hx.2 hy.2
 refine Hz.divInt (W0 px py) ?_ ?_
 .rw[hp];generalize 10^j*10^k=T at *;have:=Int.natAbs_add_le (x.num*y.den) (y.num*x.den);omega
 .rw[hp];generalize 10^j*10^k=T at *;omega
theorem Hz.sub {j k l:Nat} {x y:Rat} (hx:Hz j x) (hy:Hz k y) (h:j+k+1<=l:=by omega):Hz l (x-y):=by
 rw[Rat.sub_eq_add_neg];exact hx.add hy.neg h
theorem Hz.inv {k:Nat} {y:Rat} (hy:Hz k y) (h:y≠0):Hz k (y⁻¹):=by
 have hn:y.num≠0:=λh0=>h (fk.1 h0)
 have e:y⁻¹=eL y.den y.num:=by rw[<-fS,eH]
 rw[e];by_cases hp:0<y.num
 .exact Hz.divInt hp (by rw[Ts];exact hy.2) hy.1
 .have e2:eL (y.den:Int) y.num=eL (-(y.den:Int)) (-y.num):=(Rat.neg_divInt_neg _ _).symm;rw[e2];exact Hz.divInt (by omega) (by rw[U3,Ts];exact hy.2) (by rw[U3];exact hy.1)
theorem Hz.div {j k l:Nat} {x y:Rat} (hx:Hz j x) (hy:Hz k y) (h0:y≠0) (h:j+k<=l):Hz l (x/y):=by
 rw[gb];exact hx.mul (hy.inv h0) h
theorem Hz.int {n:Int} {k:Nat} (h:n.natAbs<=10^k):Hz k (n:Rat):=by
 refine⟨by rw[Rat.num_intCast];exact h,by rw[Rat.den_intCast];exact ep (by omega)⟩
theorem Hz.zero {k:Nat}:Hz k 0:=Hz.int (n:=0) (by simp)
theorem Hz.one {k:Nat}:Hz k 1:=Hz.int (n:=1) (ep (by omega))
end Eng
end
section
namespace Eng
namespace Rl
def sr (a:Rat):Int:=if 0<a then 1 else if a<0 then-1 else 0
end Rl
end Eng
end
section
namespace Eng
open Rl
abbrev Mon:=Int×List Nat
abbrev Pol:=List Mon
variable (ρ:Nat->Rat)
def K6 (x:Rat):Nat->Rat
 |0=>1
 |n+1=>x*K6 x n
def evE:Nat->List Nat->Rat
 |_,[]=>1
 |i,e::r=>K6 (ρ i) e*evE (i+1) r
def evM (m:Mon):Rat:=(m.1:Rat)*evE ρ 0 m.2
def evP:Pol->Rat
 |[]=>0
 |m::r=>evM ρ m+evP r
def eqE:List Nat->List Nat->Bool
 |[],[]=>true
 |a::r,b::s=>bF a b&&eqE r s
 |_,_=>false
def ltE:List Nat->List Nat->Bool
 |a::r,b::s=>match Nat.blt a b with
  |true=>true
  |false=>bF a b&&ltE r s
 |[],_::_=>true
 |_,_=>false
def Se (m:Mon):Pol->Pol
 |[]=>[m]
 |k::r=>match eqE m.2 k.2 with
  |true=>match m.1+k.1 with
   | .ofNat 0=>r
   |c=>(c,k.2)::r
  |false=>match ltE m.2 k.2 with
   |true=>m::k::r
   |false=>k::Se m r
def kA:Pol->Pol->Pol
 |[],q=>q
 |m::r,q=>Se m (kA r q)
def Qf:Pol->Pol
 |[]=>[]
 |(c,e)::r=>(-c,e)::Qf r
def Cz:List Nat->List Nat->List Nat
 |[],s=>s
 |r,[]=>r
 |a::r,b::s=>(a+b)::Cz r s
def An (m:Mon):Pol->Pol
 |[]=>[]
 |k::r=>Se (m.1*k.1,Cz m.2 k.2) (An m r)
def ZA:Pol->Pol->Pol
 |[],_=>[]
 |m::r,q=>kA (An m q) (ZA r q)
theorem Sf:∀{a b:List Nat},eqE a b=true->a=b
 |[],[],_=>rfl
 |a::r,b::s,h=>by unfold eqE at h;rw[Aw]at h;rw[b6 h.1,Sf h.2]
 |[],_::_,h=>by cases h
 |_::_,[],h=>by cases h
theorem Yn (m:Mon):∀p:Pol,evP ρ (Se m p)=evM ρ m+evP ρ p
 |[]=>rfl
 |k::r=>by
  unfold Se;cases he:eqE m.2 k.2 with
  |true=>
   have e:=Sf he;have s:evM ρ m+evM ρ k=((m.1+k.1:Int):Rat)*evE ρ 0 k.2:=by unfold evM;rw[e,fx];grind
   show evP ρ (match m.1+k.1 with
    | .ofNat 0=>r
    |c=>(c,k.2)::r)=evM ρ m+(evM ρ k+evP ρ r)
   split
   .rename_i h0;rw[show m.1+k.1=0 from h0]at s;have:((0:Int):Rat)=0:=rfl;rw[this]at s
    grind
   .show(((m.1+k.1:Int):Rat)*evE ρ 0 k.2)+evP ρ r=_;rw[<-s];grind
  |false=>
   cases ltE m.2 k.2 with
   |true=>rfl
   |false=>show evM ρ k+evP ρ (Se m r)=evM ρ m+(evM ρ k+evP ρ r);rw[Yn m r];grind
theorem xT:∀p q:Pol,evP ρ (kA p q)=evP ρ p+evP ρ q
 |[],q=>by show evP ρ q=0+evP ρ q;grind
 |m::r,q=>by show evP ρ (Se m (kA r q))=(evM ρ m+evP ρ r)+evP ρ q;rw[Yn,xT r q];grind
theorem yi:∀p:Pol,evP ρ (Qf p)= -evP ρ p
 |[]=>by show(0:Rat)= -0;grind
 |(c,e)::r=>by show((-c:Int):Rat)*evE ρ 0 e+evP ρ (Qf r)= -((c:Rat)*evE ρ 0 e+evP ρ r);rw[yi r,ft];grind
theorem G4 (x:Rat) (a:Nat):∀b:Nat,K6 x (a+b)=K6 x a*K6 x b
 |0=>by show K6 x a=K6 x a*1;grind
 |b+1=>by show x*K6 x (a+b)=K6 x a*(x*K6 x b);rw[G4 x a b];grind
theorem Mv:∀(i:Nat) (a b:List Nat),evE ρ i (Cz a b)=evE ρ i a*evE ρ i b
 |i,[],s=>by show evE ρ i s=1*evE ρ i s;grind
 |i,a::r,[]=>by show evE ρ i (a::r)=evE ρ i (a::r)*1;grind
 |i,a::r,b::s=>by show K6 (ρ i) (a+b)*evE ρ (i+1) (Cz r s)=K6 (ρ i) a*evE ρ (i+1) r*(K6 (ρ i) b*evE ρ (i+1) s);rw[G4 (ρ i) a b,Mv (i+1) r s];grind
theorem Mw (m:Mon):∀q:Pol,evP ρ (An m q)=evM ρ m*evP ρ q
 |[]=>by show(0:Rat)=evM ρ m*0;grind
 |k::r=>by
  show evP ρ (Se (m.1*k.1,Cz m.2 k.2) (An m r))=evM ρ m*(evM ρ k+evP ρ r);rw[Yn,Mw m r];have:evM ρ (m.1*k.1,Cz m.2 k.2)=evM ρ m*evM ρ k:=by unfold evM;show((m.1*k.1:Int):Rat)*evE ρ 0 (Cz m.2 k.2)=_;rw[Mv,eU];grind
  rw[this];grind
theorem zx:∀p q:Pol,evP ρ (ZA p q)=evP ρ p*evP ρ q
 |[],q=>by show(0:Rat)=0*evP ρ q;grind
 |m::r,q=>by show evP ρ (kA (An m q) (ZA r q))=(evM ρ m+evP ρ r)*evP ρ q;rw[xT,Mw,zx r q];grind
def C1:List Bool->List Nat->Bool
 |_,[]=>true
 |[],0::r=>C1 [] r
 |[],(_+1)::_=>false
 |true::bs,_::r=>C1 bs r
 |false::bs,0::r=>C1 bs r
 |false::_,(_+1)::_=>false
def sgA (bs:List Bool) (s:Bool):Pol->Bool
 |[]=>true
 |(c,e)::r=>(match s with
  |true=>decide (0<c)
  |false=>decide (c<0))&&(C1 bs e&&sgA bs s r)
def sgP (bs:List Bool) (p:Pol):Option Int:=
 match p with
 |[]=>some 0
 |_=>match sgA bs true p with
  |true=>some 1
  |false=>match sgA bs false p with
   |true=>some (-1)
   |false=>none
def Ue (bs:List Bool):Prop:=∀i,bs[i]? =some true->0<ρ i
theorem G5 {x:Rat} (h:0<x):∀n,0<K6 x n
 |0=>by show(0:Rat)<1;decide
 |n+1=>fR h (G5 h n)
theorem K7:∀(bs:List Bool) (e:List Nat) (i:Nat),(∀j,bs[j]? =some true->0<ρ (i+j))->C1 bs e=true->0<evE ρ i e
 |_,[],_,_,_=>by show(0:Rat)<1;decide
 |[],0::r,i,h,hp=>by
  show(0:Rat)<1*evE ρ (i+1) r;have:=K7 [] r (i+1) (λj hj=>by simp at hj) hp
  grind
 |[],(_+1)::_,_,_,hp=>by cases hp
 |true::bs,e::r,i,h,hp=>by
  refine fR (G5 (by have:=h 0 rfl;exact this) e) ?_;have hp:C1 bs r=true:=by simpa only[C1]using hp
  exact K7 bs r (i+1) (λj hj=>by have:=h (j+1) (by simpa using hj);rwa [show i+1+j=i+(j+1)by omega]) hp
 |false::bs,0::r,i,h,hp=>by
  show(0:Rat)<1*evE ρ (i+1) r;have:=K7 bs r (i+1) (λj hj=>by have:=h (j+1) (by simpa using hj);rwa [show i+1+j=i+(j+1)by omega]) hp
  grind
 |false::_,(_+1)::_,_,_,hp=>by cases hp
theorem Yo {bs:List Bool} (hb:Ue ρ bs):∀p:Pol,sgA bs true p=true->0<=evP ρ p/\(p≠[]->0<evP ρ p)
 |[],_=>⟨Rat.le_refl,λh=>absurd rfl h⟩
 |(c,e)::r,h=>by
  unfold sgA at h;simp only[Aw,decide_eq_true_eq]at h;obtain⟨h1,h2,h3⟩:=h;have k1:=K7 ρ bs e 0 (λj hj=>by rw[cg];exact hb j hj) h2;have k2:=(Yo hb r h3).1;have k3:(0:Rat)<(c:Rat):=by have:=fe.2 h1;exact this
  have k4:=fR k3 k1;have k5:0<evP ρ ((c,e)::r):=by show 0<(c:Rat)*evE ρ 0 e+evP ρ r;grind
  exact⟨Rat.le_of_lt k5,λ_=>k5⟩
theorem Mx {bs:List Bool}:∀p:Pol,sgA bs false p=true->sgA bs true (Qf p)=true
 |[],_=>rfl
 |(c,e)::r,h=>by unfold sgA at h;simp only[Aw,decide_eq_true_eq]at h;show sgA bs true ((-c,e)::Qf r)=true;unfold sgA;simp only[Aw,decide_eq_true_eq];exact⟨by omega,h.2.1,Mx r h.2.2⟩
theorem Sg {bs:List Bool} (hb:Ue ρ bs) {p:Pol} {s:Int} (h:sgP bs p=some s):sr (evP ρ p)=s:=by
 unfold sgP at h;split at h
 .obtain rfl:=ey h;show sr 0=0;simp[sr]
 .rename_i hp;have a0:p≠[]:=λe=>hp e
  split at h
  .rename_i k;obtain rfl:=ey h;have:=(Yo ρ hb p k).2 a0;unfold sr;rw[if_pos this]
  .split at h
   .rename_i k;obtain rfl:=ey h;have hn:Qf p≠[]:=by
     cases p with
     |nil=>exact absurd rfl a0
     |cons m r=>obtain⟨c,e⟩:=m;intro e;cases e
    have:=(Yo ρ hb _ (Mx p k)).2 hn;rw[yi]at this;unfold sr;rw[if_neg (by grind),if_pos (by grind)]
   .cases h
def Ao (q:Pol):Nat->Pol
 |0=>[(1,[])]
 |n+1=>ZA (Ao q n) q
def zE:Nat->List Nat->List Nat
 |0,e=>e
 |n+1,e=>0::zE n e
def prE:Nat->List Pol->List Nat->Pol
 |_,_,[]=>[(1,[])]
 |i,[],e=>[(1,zE i e)]
 |i,q::s,k::r=>ZA (Ao q k) (prE (i+1) s r)
def bf (σ:List Pol):Pol->Pol
 |[]=>[]
 |(c,e)::r=>kA (ZA [(c,[])] (prE 0 σ e)) (bf σ r)
theorem My (q:Pol):∀n,evP ρ (Ao q n)=K6 (evP ρ q) n
 |0=>by show(1:Rat)*1+0=1;grind
 |n+1=>by unfold Ao K6;rw[zx,My q n];grind
theorem P9:∀(j i:Nat) (e:List Nat),evE ρ j (zE i e)=evE ρ (j+i) e
 |_,0,_=>rfl
 |j,i+1,e=>by
  show K6 (ρ j) 0*evE ρ (j+1) (zE i e)=_;rw[P9 (j+1) i e,show j+1+i=j+(i+1)by omega];show(1:Rat)*_=_
  grind
theorem Sh:∀(e:List Nat) (i:Nat) (s:List Pol),(∀(j:Nat) q,s[j]? =some q->evP ρ q=ρ (i+j))->evP ρ (prE i s e)=evE ρ i e
 |[],i,s,_=>by
  have:prE i s []=[(1,[])]:=by unfold prE;rfl
  rw[this];show(1:Rat)*1+0=1;grind
 |k::r,i,[],_=>by show(1:Rat)*evE ρ 0 (zE i (k::r))+0=_;rw[P9,cg];grind
 |k::r,i,q::s,h=>by
  show evP ρ (ZA (Ao q k) (prE (i+1) s r))=K6 (ρ i) k*evE ρ (i+1) r;rw[zx,My,h 0 q rfl,Sh r (i+1) s λj q' hj=>by
   have:=h (j+1) q' (by simpa using hj);rw[this,show i+(j+1)=i+1+j by omega]]
  rfl
theorem Mz {σ:List Pol} (h:∀(j:Nat) q,σ[j]? =some q->evP ρ q=ρ j):∀p:Pol,evP ρ (bf σ p)=evP ρ p
 |[]=>rfl
 |(c,e)::r=>by
  show evP ρ (kA (ZA [(c,[])] (prE 0 σ e)) (bf σ r))=(c:Rat)*evE ρ 0 e+evP ρ r;rw[xT,zx,Sh ρ e 0 σ (λj q hj=>by rw[h j q hj,cg]),Mz h r];show((c:Rat)*1+0)*_+_=_
  grind
def sgS (σ:List Pol) (bs:List Bool) (p:Pol):Option Int:=
 match sgP bs p with
 |some s=>some s
 |none=>match σ with
  |[]=>none
  |_=>sgP bs (bf σ p)
theorem Si {σ:List Pol} {bs:List Bool} (hb:Ue ρ bs) (h:∀(j:Nat) q,σ[j]? =some q->evP ρ q=ρ j) (p:Pol) (s:Int) (hs:sgS σ bs p=some s):sr (evP ρ p)=s:=by
 unfold sgS at hs;split at hs
 .rename_i h1;obtain rfl:=ey hs;exact Sg ρ hb h1
 .split at hs
  .cases hs
  .rw[<-Mz ρ h p];exact Sg ρ hb hs
end Eng
end
section
namespace Eng
open Go Go.Proofs
variable [Env]
def W (acc w:Nat):Nat:=acc*4722366482869645213696+w
def dp:IntKind->Nat
 | .u8=>0| .u16=>1| .u32=>2| .u64=>3| .i8=>4| .i16=>5| .i32=>6| .i64=>7
def Sj (acc:Nat):Int->Nat
 | .ofNat n=>W (W acc 0) n
 | .negSucc n=>W (W acc 1) n
def PA {α:Type} (e:Nat->α->Nat) (acc:Nat) (l:List α):Nat:=l.foldl e (W acc l.length)
def encE (acc:Nat) (l:List Nat):Nat:=PA W acc l
def encP (acc:Nat) (p:List (Int×List Nat)):Nat:=PA (λa m=>encE (Sj a m.1) m.2) acc p
def Ap:Nat->Nat->D->Nat
 |0,acc,_=>W acc 99
 |_+1,acc,.undef=>W acc 0
 |_+1,acc,.bool b=>W (W acc 1) (match b with|true=>1|false=>0)
 |_+1,acc,.int k n=>Sj (W (W acc 2) (dp k)) n
 |_+1,acc,.str s=>PA (λa (b:UInt8)=>W a b.toNat) (W acc 3) s
 |n+1,acc,.sl es=>PA (PA (Ap n)) (W acc 4) es
 |_+1,acc,.ifc b=>W (W acc 5) (match b with|true=>1|false=>0)
 |_+1,acc,.nilP=>W acc 6
 |_+1,acc,.fn f=>W (W acc 7) f
 |n+1,acc,.ptr cs=>PA (Ap n) (W acc 8) cs
 |n+1,acc,.clo f ps=>PA (Ap n) (W (W acc 9) f) ps
 |_+1,acc,.tok p i=>encP (W (W acc 10) i) p
 |_+1,acc,.map _=>W acc 11
def encA (acc:Nat):A->Nat
 | .c d=>Ap 20 (W acc 0) d
 | .ag cs=>PA (Ap 20) (W acc 1) cs
def keyA (al:List A):Nat:=PA encA (W 1 2) al%997
abbrev qg:=Nat×Nat×List A×List A
def Yp (f key:Nat) (al:List A):List qg->Option (List A)
 |[]=>none
 |(f0,k0,al0,rs0)::r=>match bF f f0 with
  |true=>match bF key k0 with
   |true=>match eqL eqA al al0 with
    |true=>some rs0
    |false=>Yp f key al r
   |false=>Yp f key al r
  |false=>Yp f key al r
def KP (C:Cx):List qg->Prop
 |[]=>True
 |(f0,_,al0,rs0)::r=>Gives C f0 al0 rs0/\KP C r
def hasF (f:Nat):List qg->Bool
 |[]=>false
 |(f0,_)::r=>match bF f f0 with
  |true=>true
  |false=>hasF f r
def Sk (ents:List qg) (tab:Nat->List A->Option (List A)) (f:Nat) (al:List A):Option (List A):=
 match hasF f ents with
 |true=>match keyA al with
  |0=>tab f al
  |k+1=>match Yp f (k+1) al ents with
   |some rs=>some rs
   |none=>tab f al
 |false=>tab f al
theorem Xd {C:Cx} {f key:Nat} {al rs:List A}:∀{ents:List qg},KP C ents->Yp f key al ents=some rs->Gives C f al rs
 |[],_,h=>by simp[Yp]at h
 |(f0,k0,al0,rs0)::r,hg,h=>by
  obtain⟨h1,h2⟩:=hg;unfold Yp at h;split at h
  .rename_i hf;split at h
   .split at h
    .rename_i ha;obtain rfl:=b6 hf;obtain rfl:=zP RV ha;simp only[ez]at h;subst h;exact h1
    .exact Xd h2 h
   .exact Xd h2 h
  .exact Xd h2 h
theorem K8 {C:Cx} {ents:List qg} {tab:Nat->List A->Option (List A)} (h0:KP C ents) (h:∀f al rs,tab f al=some rs->Gives C f al rs) (f:Nat) (al rs:List A) (hh:Sk ents tab f al=some rs):Gives C f al rs:=by
 unfold Sk at hh;split at hh
 .split at hh
  .exact h _ _ _ hh
  .split at hh
   .rename_i rs' hf;simp only[ez]at hh;subst hh;exact Xd h0 hf
   .exact h _ _ _ hh
 .exact h _ _ _ hh
end Eng
end
section
namespace Eng
open Go Go.Proofs Rl
def tk (p:Pol):List D:=[.tok p 0,.tok p 1,.tok p 2,.tok p 3]
def yY (x:Rat):Nat->D
 |0=> .bool (decide (x.num<0))
 |1=> .sl (raw (lim x.num.natAbs))
 |2=> .bool (decide ((x.den:Int)<0))
 |_=> .sl (raw (lim (x.den:Int).natAbs))
def Vj (ρ:Nat->Rat) (bd:Pol->Nat->Int) (p:Pol) (i:Nat):D:=
 match el 4 i with
 |false=>yY (evP ρ p) i
 |true=>match bF i 8 with
  |true=> .bool (decide (bd p i≠0))
  |false=>match bF i 9,nmT p with
   |true,some c=> .int .i64 c
   |_,_=> .int .i64 (bd p i)
@[reducible] def envP (ρ:Nat->Rat) (bd:Pol->Nat->Int):Env:=⟨Vj ρ bd,λp i h=>by
  unfold Vj;rw[h];cases bF i 8 with
  |true=>exact .inl ⟨_,rfl⟩
  |false=>cases bF i 9<;>cases nmT p<;>exact .inr ⟨_,_,rfl⟩,λc c' h1 h2 h3 h4=>by
  have e:∀c:Int,0<=c->c<4->nmT [(c,[])]=some c:=λc h1 h2=>by
   show(match decide (0<=c)&&decide (c<4)with|true=>some c|false=>none)=some c;rw[decide_eq_true h1,decide_eq_true h2]
   try rfl
  have e2:∀c:Int,0<=c->c<4->Vj ρ bd [(c,[])] 9= .int .i64 c:=λc h1 h2=>by
   unfold Vj;rw[e c h1 h2]
   try rfl
  exact⟨c,c',e2 c h1 h2,e2 c' h3 h4,Iff.rfl⟩⟩
theorem Aq (x:Rat):xv x= .ag [yY x 0,yY x 1,yY x 2,yY x 3]:=rfl
section
variable {ρ:Nat->Rat} {bd:Pol->Nat->Int}
theorem J1 {w:World} {F:Nat->Prop} {p:Pol} {i:Nat} {v:Value} (hi:el 4 i=false): @CD (envP ρ bd) w F (.tok p i) v↔ @CD (envP ρ bd) w F (yY (evP ρ p) i) v:=by
 have e:(envP ρ bd).E p i=yY (evP ρ p) i:=by show Vj ρ bd p i=_;unfold Vj;rw[hi]
 rw[<-e];constructor
 .intro h;cases h;assumption
 .intro h;exact @CD.tok (envP ρ bd) w F p i v h
theorem EE {w:World} {F:Nat->Prop} {p:Pol} {v:Value}: @CA (envP ρ bd) w F (.ag (tk p)) v↔ @CA (envP ρ bd) w F (xv (evP ρ p)) v:=by
 rw[Aq];unfold CA;constructor
 .rintro⟨vs,rfl,h⟩;refine⟨vs,rfl,?_⟩;generalize vs.toList=l at h ⊢
  match l,h with
  |[a,b,c,d],⟨h1,h2,h3,h4,_⟩=>exact⟨(J1 rfl).1 h1,(J1 rfl).1 h2,(J1 rfl).1 h3,(J1 rfl).1 h4,trivial⟩
 .rintro⟨vs,rfl,h⟩;refine⟨vs,rfl,?_⟩;generalize vs.toList=l at h ⊢
  match l,h with
  |[a,b,c,d],⟨h1,h2,h3,h4,_⟩=>exact⟨(J1 rfl).2 h1,(J1 rfl).2 h2,(J1 rfl).2 h3,(J1 rfl).2 h4,trivial⟩
end
theorem Gives.conv [Env] {C:Cx} {f:Nat} {al al' rs rs':List A} (ha:∀w F vs,All2 (CA w F) al' vs->All2 (CA w F) al vs) (hr:∀w F v,vO w F rs v->vO w F rs' v) (h:Gives C f al rs):Gives C f al' rs':=by
 intro w F vs hF hi hv;refine(h w F vs hF hi (ha w F vs hv)).mono λe w' he=>?_
 obtain⟨hb,v,rfl,k⟩:=he;exact⟨hb,v,rfl,hr _ _ _ k⟩
def Ar:List Nat->Nat
 |[]=>0
 |e::r=>e+Ar r
def Vk:Pol->Bool
 |[]=>true
 |(c,_)::r=>decide (c.natAbs<=1000000000000000000)&&Vk r
def szP:Pol->Nat
 |[]=>0
 |(_,e)::r=>18+20*Ar e+1+szP r
def wt (p:Pol):Bool:=Vk p&&decide (szP p<=70000)
theorem Sl {x:Rat} (h:Hz 20 x):∀n,Hz (20*n) (K6 x n)
 |0=>Hz.one
 |n+1=>h.mul (Sl h n)
theorem Sn {ρ:Nat->Rat} (h:∀i,Hz 20 (ρ i)):∀(i:Nat) (e:List Nat),Hz (20*Ar e) (evE ρ i e)
 |_,[]=>Hz.one
 |i,e::r=>(Sl (h i) e).mul (Sn h (i+1) r) (by simp only[Ar];omega)
theorem G6 {ρ:Nat->Rat} (h:∀i,Hz 20 (ρ i)):∀p:Pol,Vk p=true->Hz (szP p) (evP ρ p)
 |[],_=>Hz.zero
 |(c,e)::r,hc=>by unfold Vk at hc;rw[Aw,decide_eq_true_eq]at hc;have h1:Hz 18 (c:Rat):=Hz.int (by rw[show(10:Nat)^18=1000000000000000000 by decide];exact hc.1);have h2:=h1.mul (Sn h 0 e) (l:=18+20*Ar e);exact h2.add (G6 h r hc.2) (by simp only[szP];omega)
theorem yZ {ρ:Nat->Rat} (h:∀i,Hz 20 (ρ i)) {p:Pol} (hs:wt p=true):Sr (evP ρ p):=by
 unfold wt at hs;rw[Aw,decide_eq_true_eq]at hs;exact(G6 h p hs.1).sr (by omega)
def PB (p q:Pol):Bool:=eqL aU p q
theorem wX {p q:Pol} (h:PB p q=true):p=q:=zP L5 h
def unT:List D->Option Pol
 |[.tok p 0,.tok p1 1,.tok p2 2,.tok p3 3]=>match PB p p1&&(PB p p2&&PB p p3)with
  |true=>some p
  |false=>none
 |_=>none
theorem Vl {ds:List D} {p:Pol} (h:unT ds=some p):ds=tk p:=by
 unfold unT at h;split at h
 .split at h
  .rename_i hh;obtain rfl:=ey h;simp only[Aw]at hh;rw[<-wX hh.1,<-wX hh.2.1,<-wX hh.2.2];rfl
  .cases h
 .cases h
def dq:List Nat->List Nat->Option (List Nat)
 |e,[]=>some e
 |[],0::r=>dq [] r
 |[],(_+1)::_=>none
 |a::r,b::s=>match el b a,dq r s with
  |true,some t=>match a-b,t with
   |0,[]=>some []
   |n,t=>some (n::t)
  |_,_=>none
def C2:Pol->Option Mon
 |[]=>none
 |[m]=>some m
 |_::r=>C2 r
def divF:Nat->Pol->Mon->Pol->Pol->Option Pol
 |0,_,_,_,_=>none
 |n+1,p,m,q,acc=>match C2 p with
  |none=>some acc
  |some (c,e)=>match dq e m.2 with
   |some e'=>divF n (kA p (Qf (ZA [(c/m.1,e')] q))) m q (kA [(c/m.1,e')] acc)
   |none=>none
def bi (p q:Pol):Option Pol:=
 match p with
 |[]=>some []
 |p=>match C2 q with
  |some m=>match divF 40 p m q []with
   |some r=>match PB (ZA r q) p with
    |true=>some r
    |false=>none
   |none=>none
  |none=>none
structure Ids where
 add:Nat
 sub:Nat
 mul:Nat
 neg:Nat
 sign:Nat
 cmp:Nat
 div:Nat
 int:Nat
def As (p:Pol):Option (List A):=some [.ag (tk p)]
def pC (n:Int):Pol:=match n with
 | .ofNat 0=>[]
 |n=>[(n,[])]
def bj (k:Ids) (sg:Pol->Option Int) (f:Nat) (al:List A):Option (List A):=
 match al with
 |[.ag x]=>match unT x with
  |some p=>match wt p with
   |true=>match bF f k.neg with
    |true=>As (Qf p)
    |false=>match bF f k.sign with
     |true=>match sg p with
      |some s=>some [.c (.int .i64 s)]
      |none=>none
     |false=>none
   |false=>none
  |none=>none
 |[.ag x,.ag y]=>match unT x,unT y with
  |some p,some q=>match wt p&&wt q with
   |true=>match bF f k.add with
    |true=>As (kA p q)
    |false=>match bF f k.sub with
     |true=>As (kA p (Qf q))
     |false=>match bF f k.mul with
      |true=>As (ZA p q)
      |false=>match bF f k.cmp with
       |true=>match sg (kA p (Qf q))with
        |some s=>some [.c (.int .i64 s)]
        |none=>none
       |false=>match bF f k.div with
        |true=>match sg q,bi p q with
         |some (.ofNat (_+1)),some r=>some [.ag (tk r),.c (.int .i64 0)]
         |some (.negSucc _),some r=>some [.ag (tk r),.c (.int .i64 0)]
         |_,_=>none
        |false=>none
   |false=>none
  |_,_=>none
 |[.c (.int .i64 n)]=>match bF f k.int&&(decide (-9223372036854775808<=n)&&decide (n<9223372036854775808))with
  |true=>As (pC n)
  |false=>none
 |_=>none
structure NumOk [Env] (k:Ids):Prop where
 add:∀x y,Sr x->Sr y->Gives CC k.add [xv x,xv y] [xv (x+y)]
 sub:∀x y,Sr x->Sr y->Gives CC k.sub [xv x,xv y] [xv (x-y)]
 mul:∀x y,Sr x->Sr y->Gives CC k.mul [xv x,xv y] [xv (x*y)]
 neg:∀x,Sr x->Gives CC k.neg [xv x] [xv (-x)]
 sign:∀x,Sr x->Gives CC k.sign [xv x] [.c (.int .i64 (sr x))]
 cmp:∀x y,Sr x->Sr y->Gives CC k.cmp [xv x,xv y] [.c (.int .i64 (sr (x-y)))]
 div:∀x y,Sr x->Sr y->y≠0->Gives CC k.div [xv x,xv y] [xv (x/y),.c (.int .i64 0)]
 int:∀n:Int, -9223372036854775808<=n->n<9223372036854775808->Gives CC k.int [.c (.int .i64 n)] [xv (n:Rat)]
section
variable {ρ:Nat->Rat} {bd:Pol->Nat->Int}
theorem C3 {w:World} {F:Nat->Prop} {p:Pol} {vs:List Value} (h:All2 (@CA (envP ρ bd) w F) [.ag (tk p)] vs):All2 (@CA (envP ρ bd) w F) [xv (evP ρ p)] vs:=by
 match vs,h with
 |[v],h=>exact⟨EE.1 h.1,trivial⟩
theorem At {w:World} {F:Nat->Prop} {p q:Pol} {vs:List Value} (h:All2 (@CA (envP ρ bd) w F) [.ag (tk p),.ag (tk q)] vs):All2 (@CA (envP ρ bd) w F) [xv (evP ρ p),xv (evP ρ q)] vs:=by
 match vs,h with
 |[u,v],h=>exact⟨EE.1 h.1,EE.1 h.2.1,trivial⟩
theorem Au {w:World} {F:Nat->Prop} {p:Pol} {v:Value} (h: @vO (envP ρ bd) w F [xv (evP ρ p)] v): @vO (envP ρ bd) w F [.ag (tk p)] v:=EE.2 h
theorem zL (p q:Pol):evP ρ (kA p (Qf q))=evP ρ p-evP ρ q:=by rw[xT,yi];grind
theorem du (n:Int):evP ρ (pC n)=(n:Rat):=by
 unfold pC;split
 .rfl
 .show(n:Rat)*1+0=n;grind
theorem C4 {p q r:Pol} (h:bi p q=some r) (hq:evP ρ q≠0):evP ρ r=evP ρ p/evP ρ q:=by
 unfold bi at h;split at h
 .obtain rfl:=ey h;show(0:Rat)=0/_
  grind
 .split at h
  .split at h
   .split at h
    .rename_i hh;obtain rfl:=ey h;have:=congrArg (evP ρ) (wX hh);rw[zx]at this
     grind
    .cases h
   .cases h
  .cases h
theorem M4 {k:Ids} {sg:Pol->Option Int} (hk: @NumOk (envP ρ bd) k) (hz:∀i,Hz 20 (ρ i)) (hb:∀p s,sg p=some s->sr (evP ρ p)=s) (f:Nat) (al rs:List A) (h:bj k sg f al=some rs): @Gives (envP ρ bd) CC f al rs:=by
 letI:Env:=envP ρ bd
 unfold bj at h;split at h
 .rename_i x;split at h
  .rename_i p hp;obtain rfl:=Vl hp;split at h
   .rename_i hs;have a2:=yZ hz hs;split at h
    .rename_i e;obtain rfl:=b6 e;obtain rfl:=ey h;have:=hk.neg _ a2;rw[<-yi]at this;exact this.conv (λ_ _ _ h=>C3 h) (λ_ _ _ h=>Au h)
    .split at h
     .rename_i e;obtain rfl:=b6 e;split at h
      .rename_i s a0;obtain rfl:=ey h;have:=hk.sign _ a2;rw[hb _ _ a0]at this;exact this.conv (λ_ _ _ h=>C3 h) (λ_ _ _ h=>h)
      .cases h
     .cases h
   .cases h
  .cases h
 .rename_i x y;split at h
  .rename_i p q hp hq;obtain rfl:=Vl hp;obtain rfl:=Vl hq;split at h
   .rename_i hs;rw[Aw]at hs;have h1:=yZ hz hs.1;have h2:=yZ hz hs.2;split at h
    .rename_i e;obtain rfl:=b6 e;obtain rfl:=ey h;have:=hk.add _ _ h1 h2;rw[<-xT]at this;exact this.conv (λ_ _ _ h=>At h) (λ_ _ _ h=>Au h)
    .split at h
     .rename_i e;obtain rfl:=b6 e;obtain rfl:=ey h;have:=hk.sub _ _ h1 h2;rw[<-zL]at this;exact this.conv (λ_ _ _ h=>At h) (λ_ _ _ h=>Au h)
     .split at h
      .rename_i e;obtain rfl:=b6 e;obtain rfl:=ey h;have:=hk.mul _ _ h1 h2;rw[<-zx]at this;exact this.conv (λ_ _ _ h=>At h) (λ_ _ _ h=>Au h)
      .split at h
       .rename_i e;obtain rfl:=b6 e;split at h
        .rename_i s a0;obtain rfl:=ey h;have:=hk.cmp _ _ h1 h2;rw[<-zL,hb _ _ a0]at this;exact this.conv (λ_ _ _ h=>At h) (λ_ _ _ h=>h)
        .cases h
       .split at h
        .rename_i e;obtain rfl:=b6 e;have go:∀{s:Int} {r:Pol},sg q=some s->s≠0->bi p q=some r->some [F0 (tk r),.c (.int .i64 0)]=some rs->Gives CC k.div [.ag (tk p),.ag (tk q)] rs:=by
          intro s r a0 hs0 hd he;obtain rfl:=ey he;have a1:evP ρ q≠0:=λe=>by have:=hb _ _ a0;rw[e]at this;simp[sr]at this;exact hs0 this.symm
          have:=hk.div _ _ h1 h2 a1;rw[<-C4 hd a1]at this;refine this.conv (λ_ _ _ h=>At h) (λ_ _ v h=>?_);obtain⟨vs,rfl,h⟩:=h;refine⟨vs,rfl,?_⟩;generalize vs.toList=l at h ⊢
          match l,h with
          |[u,v],h=>exact⟨EE.2 h.1,h.2⟩
         split at h
         .rename_i a0 hd;exact go a0 (by intro e;cases e) hd h
         .rename_i a0 hd;exact go a0 (by intro e;cases e) hd h
         .cases h
        .cases h
   .cases h
  .cases h
 .split at h
  .rename_i e;rw[Aw,Aw,decide_eq_true_eq,decide_eq_true_eq]at e;obtain rfl:=b6 e.1;obtain rfl:=ey h;have:=hk.int _ e.2.1 e.2.2;rw[<-du (ρ:=ρ)]at this;exact this.conv (λ_ _ _ h=>h) (λ_ _ _ h=>Au h)
  .cases h
 .cases h
end
end Eng
end
section
namespace Eng
open Go Go.Proofs Go.RowKit Go.Lib Go.Shelf
def ptZ:List Value:=[.bool false,.slice none 0 0,.bool false,.slice none 0 0,.bool false,.slice none 0 0,.bool false,.slice none 0 0,.bool false,.slice none 0 0,.bool false,.slice none 0 0,.bool false,.slice none 0 0,.bool false,.slice none 0 0,.bool false,.slice none 0 0,.bool false,.slice none 0 0]
theorem C5:zN Tryz.prog 139=some ptZ:=by kernel_rfl
theorem G7:Tryz.prog.underlying 193=some (.slice 139):=by kernel_rfl
set_option maxHeartbeats 4000000 in
theorem M5 (c:Nat) (w:World):Calls Tryz.prog 377 #[.slice none 0 c] w λe w'=>e= .returned (.slice none 0 0)/\w'=w:=by
 have a0:Tryz.prog.follows .mixedOrders=true:=by kernel_rfl
 have tPts:=G7;have he:∀w,(binOp .eql 193 (.slice none 0 c) (.slice none 0 0)).run Tryz.prog w= .ok (.bool true) w:=λw=>by have:=run_eql_slice_nil (P:=Tryz.prog) w 193 139 none 0 c 0 0 G7;simpa using this
 go_enter Tryz.func377,Tryz.ntmps377
 go_wp2
 all_goals (go_ret;exact⟨rfl,rfl⟩)
set_option maxHeartbeats 4000000 in
theorem M6 (a:Addr) (c:Nat) (w:World):Calls Tryz.prog 377 #[.slice (some a) 0 c] w λe w'=>∃b,e= .returned (.slice (some b) 0 0)/\w'=w.alloc (.cells #[] 139):=by
 have a0:Tryz.prog.follows .mixedOrders=true:=by kernel_rfl
 have tPts:=G7;have he:∀w,(binOp .eql 193 (.slice (some a) 0 c) (.slice none 0 0)).run Tryz.prog w= .ok (.bool false) w:=λw=>by have:=run_eql_slice_nil (P:=Tryz.prog) w 193 139 (some a) 0 c 0 0 G7;simpa using this
 have zPt:∀w,(Go.sizeOf 139).run Tryz.prog w= .ok 20 w:=λw=>xe C5 w
 go_enter Tryz.func377,Tryz.ntmps377
 go_wp2
 go_ret
 exact⟨_,rfl,rfl⟩
variable [Env]
theorem M7:Gives CC 377 [.c (.sl [])] [.c (.sl [])]:=by
 intro w F vs _ _ ha
 match vs,ha with
 |[v],⟨h,_⟩=>
  obtain⟨ad,c,rfl,_⟩:=CD.slice_inv (show CD w F (.sl []) v from h);have hP:CC.P=Tryz.prog:=rfl;rw[hP];cases ad with
  |none=>refine(M5 c w).mono ?_;rintro e w' ⟨rfl,rfl⟩;exact⟨Below.refl _ _,_,rfl,CD.nil _ _⟩
  |some a=>refine(M6 a c w).mono ?_;rintro e w' ⟨b,rfl,rfl⟩;exact⟨(Below.refl _ _).alloc (cb _) _,_,rfl,CD.nil _ _⟩
def dw (f:Nat) (al:List A):Option (List A):=
 match bF f 377 with
 |false=>RX f al
 |true=>match al with
  |[.c (.sl [])]=>some [.c (.sl [])]
  |_=>none
theorem C6 (f:Nat) (al rs:List A) (h:dw f al=some rs):Gives CC f al rs:=by
 unfold dw at h;split at h
 .exact K0 f al rs h
 .rename_i hf;obtain rfl:=b6 hf;split at h
  .simp only[ez]at h;subst h;exact M7
  .simp at h
end Eng
end
section
namespace Eng
open Go Go.Proofs Rl
def idG:Ids:=⟨75,33,157,76,78,34,424,72⟩
def idR:Ids:=⟨238,237,239,245,114,64,292,63⟩
def bsT:List Bool:=[false,false,true,true,false,false,true,false,true,true,true]
def lt (i:Nat):Pol:=[(1,zE i [1])]
def kP (n:Int):Pol:=[(n,[])]
def sgT:List Pol:=[lt 0,lt 1,kA (lt 9) (kP 1000),kA (lt 10) (kP 1000),lt 4,lt 5,lt 6,lt 7,lt 8,lt 9,lt 10]
def Av:List Nat->Option (List Nat)
 |[]=>some []
 |a::r=>match bF (a%2) 0,Av r with
  |true,some h=>some (a/2::h)
  |_,_=>none
def PC (sg:Pol->Option Int) (p:Pol):Option Pol:=
 match p with
 |[]=>some []
 |[(1,e)]=>match Av e with
  |some h=>match sg [(1,h)],PB (ZA [(1,h)] [(1,h)]) p with
   |some (.ofNat _),true=>some [(1,h)]
   |_,_=>none
  |none=>none
 |_=>none
def M8:Nat->List D->Option (List Pol)
 |0,[]=>some []
 |n+1,a::b::c::d::r=>match unT [a,b,c,d],M8 n r with
  |some p,some l=>some (p::l)
  |_,_=>none
 |_,_=>none
def tkR (l:List Pol):List D:=l.flatMap tk
def lX0:Pol:=lt 0
def lY0:Pol:=lt 1
def lX1:Pol:=kA lX0 (ZA (kP 3) (lt 2))
def lY1:Pol:=kA lY0 (ZA (kP 2) (lt 3))
def lXm:Pol:=kA lX1 (kP (-3000))
def lYm:Pol:=kA lY1 (kP (-2000))
def whL:List Pol:=[lX0,lX1,lXm,lY0,lY1,lYm,lt 4,lt 5,lt 6,kA (lt 4) (lt 6),kA (lt 4) (Qf (lt 6)),kA (lt 5) (lt 6),kA (lt 5) (Qf (lt 6))]
def Ax:List Pol->Pol->Bool
 |[],_=>false
 |q::r,p=>match PB q p with
  |true=>true
  |false=>Ax r p
def jo (p:Pol):Bool:=match Ax whL p with
 |true=>true
 |false=>Ax whL (Qf p)
def tkI (p:Pol):List D:=[.tok p 0,.tok p 1]
def unI:List D->Option Pol
 |[.tok p 0,.tok q 1]=>match PB p q&&jo p with
  |true=>some p
  |false=>none
 |_=>none
def QI (k:Nat) (p:Pol):Bool:=Vk p&&decide (szP p<=k)
def Ay (sg:Pol->Option Int) (l p:List D):Option Int:=
 match M8 3 l,M8 5 p with
 |some [a,b,c],some [x,[],y,[],[]]=>match wt a&&(wt b&&(wt c&&(wt x&&wt y)))with
  |true=>sg (kA (kA (ZA a x) (ZA b y)) (Qf c))
  |false=>none
 |_,_=>none
def insT (sg:Pol->Option Int) (c p:List D):Option Int:=
 match M8 3 c,M8 5 p with
 |some [x,y,q],some [u,[],v,[],[]]=>match QI 30000 x&&(QI 30000 y&&(QI 30000 q&&(QI 30000 u&&QI 30000 v)))with
  |true=>sg (kA (kA (ZA (kA u (Qf x)) (kA u (Qf x))) (ZA (kA v (Qf y)) (kA v (Qf y)))) (Qf q))
  |false=>none
 |_,_=>none
def t1 (sg:Pol->Option Int) (f:Nat) (x:List D):Option (List A):=
 match unT x with
 |some p=>match bF f 192||bF f 113 with
  |true=>match wt p with
   |true=>some [.c (.bool true)]
   |false=>none
  |false=>match bF f 164||bF f 68 with
   |true=>match PC sg p with
    |some r=>match QI 600 r with
     |true=>some [.ag (tk r),.c (.bool true)]
     |false=>none
    |none=>none
   |false=>match bF f 266&&(jo p&&wt p)with
    |true=>some [.ag (tkI p)]
    |false=>none
 |none=>match unI x with
  |some p=>match wt p with
   |true=>match bF f 142||bF f 311 with
    |true=>some [.ag (tkI (Qf p))]
    |false=>none
   |false=>none
  |none=>none
def i1L:List D:=[.bool false,.sl [[.int .u32 1]]]
def t2 (sg:Pol->Option Int) (f:Nat) (x y:List D):Option (List A):=
 match unI x with
 |some p=>match wt p with
  |true=>match bF f 139&&eqL (eqD 20) y i1L with
   |true=>some [.ag (tk p),.c (.int .i64 0)]
   |false=>match(bF f 79||bF f 118),unI y with
    |true,some q=>match wt q,sg (kA p (Qf q))with
     |true,some s=>some [.c (.int .i64 s)]
     |_,_=>none
    |_,_=>none
  |false=>none
 |none=>match bF f 315 with
  |true=>match Ay sg x y with
   |some s=>some [.c (.int .i64 s)]
   |none=>none
  |false=>match bF f 314 with
   |true=>match insT sg x y with
    |some s=>some [.c (.int .i64 (-s))]
    |none=>none
   |false=>none
def C7 (sg:Pol->Option Int) (f:Nat) (al:List A):Option (List A):=
 match al with
 |[.ag x]=>t1 sg f x
 |[.ag x,.ag y]=>t2 sg f x y
 |_=>none
def bk (sg:Pol->Option Int) (f:Nat) (al:List A):Option (List A):=
 match bj idG sg f al with
 |some r=>some r
 |none=>match bj idR sg f al with
  |some r=>some r
  |none=>match C7 sg f al with
   |some r=>some r
   |none=>dw f al
def sg0:Pol->Option Int:=sgS sgT bsT
def jO:Nat->List A->Option (List A):=bk sg0
class SgOk [Env] (sg:Pol->Option Int):Prop where
 ok:∀f al rs,bk sg f al=some rs->Gives CC f al rs
abbrev xr [Env]:Prop:=SgOk sg0
theorem qu [Env] [xr] {ex:List (Nat×wq)} (f:Nat) (al rs:List A) (h:jO f al=some rs):Gives (CX ex) f al rs:=upX (SgOk.ok f al rs h)
end Eng
end
section
open Go Go.Proofs Eng
namespace Eng
section
variable (Gv:Nat->List A->List A->Prop) (I0:List D->List D->Prop) (M0:List D->Nat) (I1:List D->List D->Prop) (M1:List D->Nat) (I2:List D->List D->Prop) (M2:List D->Nat) (I3:List D->List D->Prop) (M3:List D->Nat) (Q:List A->Prop)
theorem PD (r0:R4) (r1:R4):wpF CC Gv an0 Tryz.f424 [.ag (rk r0 []),.ag (rk r1 [])] Q=(∃i,Gv 78 [aR r1] [aI i]/\bB (i==0) (Q [F0 [D.bool false,Hx [],D.bool false,Hx []],aI (6:Int)]) (∃b es,Gv 80 [aZ (Lr r0) (Lm r0),aZ (J4 r1) (J3 r1)] [aZ b es]/\∃b1 e1,Gv 80 [aZ (J4 r0) (J3 r0),aZ (Lr r1) (Lm r1)] [aZ b1 e1]/\∃x,Gv 140 [aZ b es,aZ b1 e1] [aR x]/\Q [aR x,aI (0:Int)])):=by kernel_rfl
theorem PE (r0:R4):wpF CC Gv an0 Tryz.f192 [.ag (rk r0 [])] Q=(∃b,Gv 247 [aZ (Lr r0) (Lm r0)] [aB b]/\bB (!b) (Q [aB false]) (∃b,Gv 247 [aZ (J4 r0) (J3 r0)] [aB b]/\bB (!b) (Q [aB false]) (∃i,Gv 144 [aZ (J4 r0) (J3 r0)] [aI i]/\bB (decide (i<=0)) (Q [aB false]) (∃b es,Gv 210 [aZ (Lr r0) (Lm r0),aZ (J4 r0) (J3 r0)] [aZ b es]/\∃b1 e1,Gv 202 [] [aZ b1 e1]/\∃i,Gv 79 [aZ b es,aZ b1 e1] [aI i]/\Q [aB (i==0)])))):=by kernel_rfl
theorem PF (r0:R4):wpF CC Gv an0 Tryz.f113 [.ag (rk r0 [])] Q=(∃b,Gv 181 [aZ (Lr r0) (Lm r0)] [aB b]/\bB (!b) (Q [aB false]) (∃b,Gv 181 [aZ (J4 r0) (J3 r0)] [aB b]/\bB (!b) (Q [aB false]) (∃i,Gv 182 [aZ (J4 r0) (J3 r0)] [aI i]/\bB (i !=1) (Q [aB false]) (∃b es,Gv 184 [aZ (Lr r0) (Lm r0),aZ (J4 r0) (J3 r0)] [aZ b es]/\∃b1 e1,Gv 117 [] [aZ b1 e1]/\∃b2,Gv 183 [aZ b es,aZ b1 e1] [aB b2]/\Q [aB b2])))):=by kernel_rfl
theorem Az (z0:Bool) (l0:List (List D)) (Q:List A->Prop):wpF CC Gv (λ_=>⟨[.slot 3 (.int .i64 0)],[],I0,M0⟩) Tryz.f181 [.ag [.bool z0,.sl l0]] Q=(I0 [] [dI (0:Int)]/\∀(i:Int),I0 [] [dI i]->bB (decide (i<(Pl l0.length))) ((0<=i/\i<(Pl l0.length)/\W2 (nth [] l0 (Sz i))=1)/\∃i_1,cut (nth [] l0 (Sz i)) 0 1 [Hv .u32 i_1]/\bB (decide (i_1>=1000000000)) (Q [aB false]) (I0 [] [dI (Ls .i64 (i+1))]/\M0 [dI (Ls .i64 (i+1))]<M0 [dI i])) (∃es,Gv 240 [aL l0] [aL es]/\bB ((Pl es.length)==(Pl l0.length)) (bB (!z0) (Q [aB true]) (Q [aB (decide ((Pl l0.length)>0))])) (Q [aB false]))):=by kernel_rfl
theorem A0 (z0:Bool) (l0:List (List D)) (Q:List A->Prop):wpF CC Gv (λ_=>⟨[.slot 9 (.int .i64 0)],[],I0,M0⟩) Tryz.f247 [.ag [.bool z0,.sl l0]] Q=(I0 [] [dI (0:Int)]/\∀(i:Int),I0 [] [dI i]->bB (decide (i<(Pl l0.length))) ((0<=i/\i<(Pl l0.length)/\W2 (nth [] l0 (Sz i))=1)/\∃i_1,cut (nth [] l0 (Sz i)) 0 1 [Hv .u32 i_1]/\bB (decide (i_1>=1000000000)) (Q [aB false]) (I0 [] [dI (Ls .i64 (i+1))]/\M0 [dI (Ls .i64 (i+1))]<M0 [dI i])) (bB (decide ((Pl l0.length)>0)) ((0<=Ls .i64 ((Pl l0.length)-1)/\Ls .i64 ((Pl l0.length)-1)<(Pl l0.length)/\W2 (nth [] l0 (Sz (Ls .i64 ((Pl l0.length)-1))))=1)/\∃i,cut (nth [] l0 (Sz (Ls .i64 ((Pl l0.length)-1)))) 0 1 [Hv .u32 i]/\Q [aB (i !=0)]) (Q [aB (!z0)]))):=by kernel_rfl
theorem PG (z0:Bool) (l0:List (List D)) (z1:Bool) (l1:List (List D)):wpF CC Gv an0 Tryz.f183 [.ag [.bool z0,.sl l0],.ag [.bool z1,.sl l1]] Q=(bB (z0==z1) (∃i,Gv 189 [aL l0,aL l1] [aI i]/\Q [aB (i==0)]) (Q [aB false])):=by kernel_rfl
end
end Eng
end
section
namespace Eng
open Go Go.Proofs Rl
section
variable [Env]
theorem wpG {f:Nat} {fn:Func} {args res:List A} (hf:Tryz.prog.funcs[f]? =some fn) (h:wpF CC (Gives CC) an0 fn args (· =res)):Gives CC f args res:=qm mixedT hf h
theorem gOk {f:Nat} {fn:Func} {args res:List A} {anns:Nat->Ann} {P:Prop} (hf:Tryz.prog.funcs[f]? =some fn) (hv:wpF CC (Gives CC) anns fn args (λr=>r=res)=P) (h:P):Gives CC f args res:=
 qm mixedT hf (hv.mpr h)
omit [Env] in
theorem M9 (r:Rat):sgn r.num=sr r:=by
 unfold sgn sr;have h1:= @Rat.num_nonneg r;have h2:= @fk r;by_cases h3:r<0
 .rw[if_pos (by rw[<-W1,h1];grind),if_neg (by grind),if_pos h3]
 .rw[if_neg (by rw[<-W1,h1];grind)];by_cases h4:r=0
  .rw[if_neg (by rw[h2.2 h4];decide),if_neg (by grind),if_neg h3]
  .have h5:0<=r.num:=h1.2 (by grind);have h6:r.num≠0:=λe=>h4 (h2.1 e)
   rw[if_pos (by omega),if_pos (by grind)]
omit [Env] in
theorem MA (x y:Rat):BG x y=sr (x-y):=by
 unfold BG sr
 grind
theorem C8 {x y:Rat} (hx:Sr x) (hy:Sr y) (h0:y≠0):Gives CC 424 [xv x,xv y] [xv (x/y),.c (.int .i64 0)]:=by
 show Gives CC 424 [.ag (rk (q4 x) []),.ag (rk (q4 y) [])] _;refine wpG Tryz.func424 ((PD ..).mpr ?_);have px:=den_pos x;have py:=den_pos y;have hn:y.num≠0:=λe=>h0 (fk.1 e)
 have h1:(x.den:Int)*y.num≠0:=Int.mul_ne_zero (by omega) hn;refine⟨_,vu y,?_⟩;refine brb (λh=>?_) (λ_=>?_)
 .exfalso;have h2:sgn y.num=0:=by simpa using h
  unfold sgn at h2;split at h2
  .omega
  .split at h2<;>omega
 refine⟨_,_,up (jd hx.1.sm hy.2.sm),_,_,up (jd hx.2.sm hy.1.sm),q4 (eL (x.num*y.den) (x.den*y.num)),kv wS (hx.1.mul hy.2) (hx.2.mul hy.1) h1,?_⟩;have e:x/y=eL (x.num*y.den) (x.den*y.num):=by rw[gb,<-fz,eH,<-fS,eH]
 rw[e];rfl
theorem C9 {x y:Rat} (hx:Sr x) (hy:Sr y) (h0:y≠0):Gives CC 292 [xv x,xv y] [xv (x/y),.c (.int .i64 0)]:=by
 have:=BZ jv hx hy
 rwa [if_neg h0]at this
end
section
variable [Env]
theorem numK_G:NumOk idG:=⟨λ_ _ hx hy=>Kp wS hx hy,λ_ _ hx hy=>Yb wS hx hy,λ_ _ hx hy=>Ya wS hx hy,λ_ hx=>Ko hx,
 λx _=>by rw[<-M9];exact vu x,λx y hx hy=>by rw[<-MA];exact Lt hx hy,λ_ _ hx hy h0=>C8 hx hy h0,λ_ h1 h2=>kZ h1 h2⟩
theorem A1:NumOk idR:=⟨λ_ _ hx hy=>Yi jv hx hy,λ_ _ hx hy=>LF jv hx hy,λ_ _ hx hy=>LH jv hx hy,λ_ hx=>Yh hx,
 λx _=>by rw[<-M9];exact Gw x,λx y hx hy=>by rw[<-MA];exact LG hx hy,λ_ _ hx hy h0=>C9 hx hy h0,λ_ h1 h2=>zJ h1 h2⟩
end
end Eng
end
section
namespace Eng
open Go Go.Proofs Rl
section
variable [Env]
theorem Vm {z:Int} (hz:Sm z):Gives CC 181 [qL z] [.c (.bool true)]:=by
 have a1:=qc z.natAbs;have hlen:=hz.len;have hv:=Az (Gives CC) (λ_ ds=>∃k:Nat,k<=(lim z.natAbs).length/\ds=[.int .i64 (k:Int)]) (λds=>((lim z.natAbs).length-toI (nth .undef ds 0)).toNat) (decide (z<0)) (raw (lim z.natAbs)) (· =[.c (.bool true)]);rw[qX];refine gOk Tryz.func181 hv ?_;clear hv;rw[qe];refine⟨⟨0,cc _,rfl⟩,?_⟩;rintro _ ⟨k,hk,he⟩;simp only[b5,Hy,and_true,true_and]at he;subst he;refine brd (λh=>?_) (λh=>?_)
 .have a0:k<(lim z.natAbs).length:=by simp only[P1]at h;omega
  have h9:=a1.get a0;rw[No];refine⟨⟨by omega,by simp only[P1];omega,qz a0⟩,_,qA a0,brd (λh2=>?_) (λh2=>?_)⟩
  .omega
  .have hw:Ls .i64 ((k:Int)+1)=((k+1:Nat):Int):=by rw[xb (by omega) (by omega)];omega
   rw[hw];exact⟨⟨k+1,a0,rfl⟩,by simp only[nth,toI];omega⟩
 .have ht:=j1 a1 (by omega);rw[qi]at ht;refine⟨_,ht,?_⟩;rw[qe];refine brb (λ_=>?_) (λh2=>by simp at h2);refine brb (λ_=>rfl) (λh3=>?_);have hn:z<0:=by simpa using h3
  have:0<(lim z.natAbs).length:=qD.2 (by omega);rw[decide_eq_true (by simp only[P1];omega)]
theorem Vn {z:Int} (hz:Sm z):Gives CC 247 [qL z] [.c (.bool true)]:=by
 have hll:=qc z.natAbs;have hlen:=hz.len;have hv:=A0 (Gives CC) (λ_ ds=>∃k:Nat,k<=(lim z.natAbs).length/\ds=[.int .i64 (k:Int)]) (λds=>((lim z.natAbs).length-toI (nth .undef ds 0)).toNat) (decide (z<0)) (raw (lim z.natAbs)) (· =[.c (.bool true)]);rw[qX];refine gOk Tryz.func247 hv ?_;clear hv;rw[qe];refine⟨⟨0,cc _,rfl⟩,?_⟩;rintro _ ⟨k,hk,he⟩;simp only[b5,Hy,and_true,true_and]at he;subst he;refine brd (λh=>?_) (λh=>?_)
 .have a0:k<(lim z.natAbs).length:=by simp only[P1]at h;omega
  have h9:=hll.get a0;rw[No];refine⟨⟨by omega,by simp only[P1];omega,qz a0⟩,_,qA a0,brd (λh2=>?_) (λh2=>?_)⟩
  .omega
  .have hw:Ls .i64 ((k:Int)+1)=((k+1:Nat):Int):=by rw[xb (by omega) (by omega)];omega
   rw[hw];exact⟨⟨k+1,a0,rfl⟩,by simp only[nth,toI];omega⟩
 .refine brd (λh2=>?_) (λh2=>?_)
  .have h3:0<(lim z.natAbs).length:=by simp only[P1]at h2;omega
   have hw:Ls .i64 (Pl (lim z.natAbs).length-1)=(((lim z.natAbs).length-1:Nat):Int):=by simp only[P1];rw[xb (by omega) (by omega)];omega
   rw[hw,No];refine⟨⟨by omega,by simp only[P1];omega,qz (by omega)⟩,_,qA (by omega),?_⟩;rcases jk z.natAbs with e|e
   .rw[e]at h3;simp at h3
   .rw[List.getLast?_eq_getElem?,List.getElem?_eq_getElem (by omega)]at e;have:(((lim z.natAbs)[(lim z.natAbs).length-1]'(by omega):Nat):Int)≠0:=λk=>e (by congr 1;omega)
    simp;omega
  .have h3:¬0<(lim z.natAbs).length:=by simp only[P1]at h2;omega
   rw[qD]at h3;rw[decide_eq_false (by omega)];rfl
theorem G8 {x y:Int} (hx:Sm x) (hy:Sm y):Gives CC 183 [qL x,qL y] [.c (.bool (decide (x=y)))]:=by
 rw[qX,qX];refine wpG Tryz.func183 ((PG ..).mpr ?_);have hc:=jM (x:=x.natAbs) (y:=y.natAbs) (cm hx.len (by omega)) (cm hy.len (by omega));refine brb (λh=>⟨_,hc,?_⟩) (λh=>?_)
 .rw[beq_iff_eq,decide_eq_decide]at h;have:(Qe x.natAbs y.natAbs==0)=decide (x=y):=by
   rw[Bool.eq_iff_iff,beq_iff_eq,decide_eq_true_eq];unfold Qe;split
   .omega
   .split<;>omega
  rw[this]
 .have:decide (x=y)=false:=by
   refine decide_eq_false λe=>?_
   subst e;simp at h
  rw[this]
theorem MB {x:Rat} (hs:Sr x):Gives CC 113 [xv x] [.c (.bool true)]:=by
 show Gives CC 113 [.ag (rk (q4 x) [])] _;refine wpG Tryz.func113 ((PF ..).mpr ?_);have h3:=yU (x.den:Int);have h4:=Yg jv hs.1.sm hs.2.sm;have hg:Nat.gcd x.num.natAbs (x.den:Int).natAbs=1:=by rw[Ts];exact x.reduced
 have s1:Sm 1:=Gl;have h6:=G8 s1 s1;have hd:=x.den_pos;have h7:sgn (x.den:Int)=1:=by unfold sgn;rw[if_neg (by omega),if_pos (by omega)]
 rw[hg]at h4;rw[h7]at h3;exact⟨_,Vm hs.1.sm,brb (λh=>by cases h) (λ_=>⟨_,Vm hs.2.sm,brb (λh=>by cases h) (λ_=>⟨_,h3,brb (λh=>by cases h) (λ_=>⟨_,_,h4,_,_,Ky,_,h6,rfl⟩)⟩)⟩)⟩
theorem MD {x:Rat} (hs:Sr x):Gives CC 192 [xv x] [.c (.bool true)]:=by
 show Gives CC 192 [.ag (rk (q4 x) [])] _;refine wpG Tryz.func192 ((PE ..).mpr ?_);have h3:=up (QY (x.den:Int));have h4:=VZ wS hs.1.sm hs.2.sm;have hg:Nat.gcd x.num.natAbs (x.den:Int).natAbs=1:=by rw[Ts];exact x.reduced
 have s1:Sm 1:=Gl;have h6:=up (jK s1 s1);have hd:=x.den_pos;have h7:sgn (x.den:Int)=1:=by unfold sgn;rw[if_neg (by omega),if_pos (by omega)]
 rw[hg]at h4;rw[h7]at h3;exact⟨_,Vn hs.1.sm,brb (λh=>by cases h) (λ_=>⟨_,Vn hs.2.sm,brb (λh=>by cases h) (λ_=>⟨_,h3,brb (λh=>by simp at h) (λ_=>⟨_,_,h4,_,_,QZ,_,h6,rfl⟩)⟩)⟩)⟩
end
end Eng
end
section
namespace Eng
open Rl
theorem mlQ {k c d Y L:Rat} (h3:c<=Y) (h4:Y<=d) (l1:L<=k*c) (l2:L<=k*d):L<=k*Y:=by
 by_cases h:0<=k
 .exact Rat.le_trans l1 (fg h3 h)
 .have h5:0<= -k:=by grind
  have:=fg h4 h5
  grind
theorem hulQ {X Y a b c d L:Rat} (h1:a<=X) (h2:X<=b) (h3:c<=Y) (h4:Y<=d) (l1:L<=a*c) (l2:L<=b*c) (l3:L<=a*d) (l4:L<=b*d):L<=X*Y:=by
 have e1:=mlQ h3 h4 l1 l3;have e2:=mlQ h3 h4 l2 l4;rw[ga]at e1 e2;have:=mlQ h1 h2 e1 e2
 rwa [ga]at this
def inQ (lo hi:Int) (x:Rat):Prop:=(lo:Rat)<=x*65536/\x*65536<=(hi:Rat)
theorem CE {a b c d:Int} {x y:Rat} (h:inQ a b x) (k:inQ c d y):inQ (a+c) (b+d) (x+y):=by
 obtain⟨h1,h2⟩:=h;obtain⟨k1,k2⟩:=k;unfold inQ;rw[fx,fx];constructor<;>grind
theorem Yq {a b:Int} {x:Rat} (h:inQ a b x):inQ (-b) (-a) (-x):=by
 obtain⟨h1,h2⟩:=h;unfold inQ;rw[ft,ft];constructor<;>grind
theorem CF {a b c d L H:Int} {x y:Rat} (h:inQ a b x) (k:inQ c d y) (hL:∀p q,(p=a\/p=b)->(q=c\/q=d)->L*65536<=p*q) (hH:∀p q,(p=a\/p=b)->(q=c\/q=d)->p*q<=H*65536):inQ L H (x*y):=by
 obtain⟨h1,h2⟩:=h;obtain⟨k1,k2⟩:=k;have cL:∀p q,(p=a\/p=b)->(q=c\/q=d)->(L:Rat)*65536<=(p:Rat)*(q:Rat):=λp q hp hq=>by
  have:=fy.2 (hL p q hp hq)
  rwa [eU,eU]at this
 have cH:∀p q,(p=a\/p=b)->(q=c\/q=d)-> -((H:Rat)*65536)<= -((p:Rat)*(q:Rat)):=λp q hp hq=>by
  have:=fy.2 (hH p q hp hq);rw[eU,eU]at this;have e:((65536:Int):Rat)=65536:=rfl;rw[e]at this
  grind
 have e1:=hulQ h1 h2 k1 k2 (cL _ _ (.inl rfl) (.inl rfl)) (cL _ _ (.inr rfl) (.inl rfl)) (cL _ _ (.inl rfl) (.inr rfl)) (cL _ _ (.inr rfl) (.inr rfl));have n1: -(b:Rat)<= -(x*65536):=by grind
 have n2: -(x*65536)<= -(a:Rat):=by grind
 have e2:=hulQ (L:= -((H:Rat)*65536)) n1 n2 k1 k2 (by have:=cH _ _ (.inr rfl) (.inl rfl);grind) (by have:=cH _ _ (.inl rfl) (.inl rfl);grind) (by have:=cH _ _ (.inr rfl) (.inr rfl);grind) (by have:=cH _ _ (.inl rfl) (.inr rfl);grind);constructor<;>grind
theorem ME {a b:Int} {x:Rat} (h:inQ a b x):(0<a->sr x=1)/\(b<0->sr x= -1)/\(a=0->b=0->sr x=0):=by
 obtain⟨h1,h2⟩:=h;refine⟨λk=>?_,λk=>?_,λk l=>?_⟩
 .have:=fe.2 k;unfold sr;rw[if_pos (by have e:((0:Int):Rat)=0:=rfl;rw[e]at this;grind)]
 .have:=fe.2 k;have e:((0:Int):Rat)=0:=rfl;rw[e]at this;unfold sr;rw[if_neg (by grind),if_pos (by grind)]
 .subst k;subst l;have e:((0:Int):Rat)=0:=rfl;rw[e]at h1 h2;have:x=0:=by grind
  subst this;simp[sr]
end Eng
end
section
open Go Go.Proofs Eng
namespace Eng
section
variable (Gv:Nat->List A->List A->Prop) (I0:List D->List D->Prop) (M0:List D->Nat) (I1:List D->List D->Prop) (M1:List D->Nat) (I2:List D->List D->Prop) (M2:List D->Nat) (I3:List D->List D->Prop) (M3:List D->Nat) (Q:List A->Prop)
theorem j9 (i0:Int) (i1:Int):wpF CC Gv an0 Tryz.f409 [.c (.int .i64 i0),.c (.int .i64 i1)] Q=(bB (decide (i0<(-2305843009213693952:Int))) (Q [F0 [dI (0:Int),dI (0:Int)],aB false]) (bB (decide (i1>2305843009213693952)) (Q [F0 [dI (0:Int),dI (0:Int)],aB false]) (Q [F0 [dI i0,dI i1],aB true]))):=by kernel_rfl
theorem jf (r0:R4):wpF CC Gv an0 Tryz.f374 [.ag (rk r0 [])] Q=(∃x,Gv 72 [aI (65536:Int)] [aR x]/\∃x1,Gv 157 [aR r0,aR x] [aR x1]/\∃b es,Gv 266 [aR x1] [aZ b es]/\∃i b1,Gv 123 [aZ b es] [aI i,aB b1]/\∃x,Gv 76 [aR x1] [aR x]/\∃b es,Gv 266 [aR x] [aZ b es]/\∃b2 e1,Gv 142 [aZ b es] [aZ b2 e1]/\∃i_1 b,Gv 123 [aZ b2 e1] [aI i_1,aB b]/\bB (!b1) (Q [F0 [dI (0:Int),dI (0:Int)],aB false]) (bB (!b) (Q [F0 [dI (0:Int),dI (0:Int)],aB false]) (∃i_2 i_3 b,Gv 409 [aI i,aI i_1] [F0 [dI i_2,dI i_3],aB b]/\Q [F0 [dI i_2,dI i_3],aB b]))):=by kernel_rfl
theorem CG (a0:Int) (b0:Int) (a1:Int) (b1:Int):wpF CC Gv an0 Tryz.f383 [.ag [.int .i64 a0,.int .i64 b0],.ag [.int .i64 a1,.int .i64 b1]] Q=(∃i i_1 b,Gv 409 [aI (Ls .i64 (a0+a1)),aI (Ls .i64 (b0+b1))] [F0 [dI i,dI i_1],aB b]/\Q [F0 [dI i,dI i_1],aB b]):=by kernel_rfl
theorem CH (a0:Int) (b0:Int):wpF CC Gv an0 Tryz.f390 [.ag [.int .i64 a0,.int .i64 b0]] Q=(Q [F0 [dI (Ls .i64 (0-b0)),dI (Ls .i64 (0-a0))]]):=by kernel_rfl
theorem CI (i0:Int):wpF CC Gv an0 Tryz.f442 [.c (.int .i64 i0)] Q=(bB (decide (i0<0)) (Q [Hu (Hv .u64 (Ls .u64 (0-Ls .u64 i0)))]) (Q [Hu (Hv .u64 (Ls .u64 i0))])):=by kernel_rfl
theorem jA (i0:Int) (i1:Int):wpF CC Gv an0 Tryz.f418 [.c (.int .i64 i0),.c (.int .i64 i1)] Q=(∃i,Gv 442 [aI i0] [Hu (Hv .u64 i)]/\∃i_1,Gv 442 [aI i1] [Hu (Hv .u64 i_1)]/\∃i_2 i_3,Gv 441 [Hu (Hv .u64 i),Hu (Hv .u64 i_1)] [Hu (Hv .u64 i_2),Hu (Hv .u64 i_3)]/\(0:Int)<=(16:Int)/\bB (Tk i_2 (65536:Int) !=(0:Int)) (Q [aI (0:Int),aI (0:Int),aB false]) ((0:Int)<=(48:Int)/\(0:Int)<=(16:Int)/\bB (decide (bits .or .u64 (Ls .u64 (i_2*281474976710656)) (Tk i_3 (65536:Int))>2305843009213693952)) (Q [aI (0:Int),aI (0:Int),aB false]) (bB (bits .and .u64 (i_3) (65535:Int) !=(0:Int)) (bB (!decide (i0<0)==decide (i1<0)) (bB (decide (Ls .i64 (0-Ls .i64 (Ls .i64 (bits .or .u64 (Ls .u64 (i_2*281474976710656)) (Tk i_3 (65536:Int)))+1))>=(-2305843009213693952:Int))) (Q [aI (Ls .i64 (0-Ls .i64 (Ls .i64 (bits .or .u64 (Ls .u64 (i_2*281474976710656)) (Tk i_3 (65536:Int)))+1))),aI (Ls .i64 (0-Ls .i64 (bits .or .u64 (Ls .u64 (i_2*281474976710656)) (Tk i_3 (65536:Int))))),aB (decide (Ls .i64 (0-Ls .i64 (bits .or .u64 (Ls .u64 (i_2*281474976710656)) (Tk i_3 (65536:Int))))<=2305843009213693952))]) (Q [aI (Ls .i64 (0-Ls .i64 (Ls .i64 (bits .or .u64 (Ls .u64 (i_2*281474976710656)) (Tk i_3 (65536:Int)))+1))),aI (Ls .i64 (0-Ls .i64 (bits .or .u64 (Ls .u64 (i_2*281474976710656)) (Tk i_3 (65536:Int))))),aB false])) (bB (decide (Ls .i64 (bits .or .u64 (Ls .u64 (i_2*281474976710656)) (Tk i_3 (65536:Int)))>=(-2305843009213693952:Int))) (Q [aI (Ls .i64 (bits .or .u64 (Ls .u64 (i_2*281474976710656)) (Tk i_3 (65536:Int)))),aI (Ls .i64 (Ls .i64 (bits .or .u64 (Ls .u64 (i_2*281474976710656)) (Tk i_3 (65536:Int)))+1)),aB (decide (Ls .i64 (Ls .i64 (bits .or .u64 (Ls .u64 (i_2*281474976710656)) (Tk i_3 (65536:Int)))+1)<=2305843009213693952))]) (Q [aI (Ls .i64 (bits .or .u64 (Ls .u64 (i_2*281474976710656)) (Tk i_3 (65536:Int)))),aI (Ls .i64 (Ls .i64 (bits .or .u64 (Ls .u64 (i_2*281474976710656)) (Tk i_3 (65536:Int)))+1)),aB false]))) (bB (!decide (i0<0)==decide (i1<0)) (bB (decide (Ls .i64 (0-Ls .i64 (bits .or .u64 (Ls .u64 (i_2*281474976710656)) (Tk i_3 (65536:Int))))>=(-2305843009213693952:Int))) (Q [aI (Ls .i64 (0-Ls .i64 (bits .or .u64 (Ls .u64 (i_2*281474976710656)) (Tk i_3 (65536:Int))))),aI (Ls .i64 (0-Ls .i64 (bits .or .u64 (Ls .u64 (i_2*281474976710656)) (Tk i_3 (65536:Int))))),aB (decide (Ls .i64 (0-Ls .i64 (bits .or .u64 (Ls .u64 (i_2*281474976710656)) (Tk i_3 (65536:Int))))<=2305843009213693952))]) (Q [aI (Ls .i64 (0-Ls .i64 (bits .or .u64 (Ls .u64 (i_2*281474976710656)) (Tk i_3 (65536:Int))))),aI (Ls .i64 (0-Ls .i64 (bits .or .u64 (Ls .u64 (i_2*281474976710656)) (Tk i_3 (65536:Int))))),aB false])) (bB (decide (Ls .i64 (bits .or .u64 (Ls .u64 (i_2*281474976710656)) (Tk i_3 (65536:Int)))>=(-2305843009213693952:Int))) (Q [aI (Ls .i64 (bits .or .u64 (Ls .u64 (i_2*281474976710656)) (Tk i_3 (65536:Int)))),aI (Ls .i64 (bits .or .u64 (Ls .u64 (i_2*281474976710656)) (Tk i_3 (65536:Int)))),aB (decide (Ls .i64 (bits .or .u64 (Ls .u64 (i_2*281474976710656)) (Tk i_3 (65536:Int)))<=2305843009213693952))]) (Q [aI (Ls .i64 (bits .or .u64 (Ls .u64 (i_2*281474976710656)) (Tk i_3 (65536:Int)))),aI (Ls .i64 (bits .or .u64 (Ls .u64 (i_2*281474976710656)) (Tk i_3 (65536:Int)))),aB false])))))):=by kernel_rfl
theorem G9 (r0:R4) (r1:R4) (r2:R4):wpF CC Gv an0 Tryz.f331 [.ag (rk r0 (rk r1 (rk r2 [])))] Q=(∃i i_1 b,Gv 374 [aR r0] [F0 [dI i,dI i_1],aB b]/\bB (!b) (Q [F0 [dI i,dI i_1],aB b]) (∃i_2,Gv 78 [aR r1] [aI i_2]/\bB (i_2==0) (Q [F0 [dI i,dI i_1],aB b]) (∃i_3 i_4 b,Gv 374 [aR r1] [F0 [dI i_3,dI i_4],aB b]/\∃i_5 i_6 b1,Gv 374 [aR r2] [F0 [dI i_5,dI i_6],aB b1]/\bB (!b) (Q [F0 [dI (0:Int),dI (0:Int)],aB false]) (bB (!b1) (Q [F0 [dI (0:Int),dI (0:Int)],aB false]) (∃i_7,Gv 78 [aR r2] [aI i_7]/\bB (decide (i_7<0)) (Q [F0 [dI (0:Int),dI (0:Int)],aB false]) (∃i_8 i_9 b,Gv 375 [F0 [dI i_5,dI i_6]] [F0 [dI i_8,dI i_9],aB b]/\bB (!b) (Q [F0 [dI (0:Int),dI (0:Int)],aB false]) (∃i_10 i_11 b,Gv 382 [F0 [dI i_3,dI i_4],F0 [dI i_8,dI i_9]] [F0 [dI i_10,dI i_11],aB b]/\bB (!b) (Q [F0 [dI (0:Int),dI (0:Int)],aB false]) (∃i_12 i_13 b,Gv 383 [F0 [dI i,dI i_1],F0 [dI i_10,dI i_11]] [F0 [dI i_12,dI i_13],aB b]/\Q [F0 [dI i_12,dI i_13],aB b])))))))):=by kernel_rfl
theorem Xe (a0:Int) (b0:Int):wpF CC Gv an0 Tryz.f385 [.ag [.int .i64 a0,.int .i64 b0]] Q=(bB (decide (a0>0)) (Q [aI (1:Int),aB true]) (bB (decide (b0<0)) (Q [aI (-1:Int),aB true]) (bB (a0==0) (Q [aI (0:Int),aB (b0==0)]) (Q [aI (0:Int),aB false])))):=by kernel_rfl
theorem MF (r0:R4):wpF CC Gv an0 Tryz.f266 [.ag (rk r0 [])] Q=(∃b es b1 e1 i,Gv 246 [aZ (Lr r0) (Lm r0),aZ (J4 r0) (J3 r0)] [aZ b es,aZ b1 e1,aI i]/\Q [aZ b es]):=by kernel_rfl
theorem dx (p0:P20):wpF CC Gv an0 Tryz.f133 [.ag (pk p0 [])] Q=(∃x x1 x2,Gv 204 [aR (P20.x p0),aR (P20.u p0),aR (P20.c p0)] [aT x x1 x2]/\Q [aT x x1 x2]):=by kernel_rfl
theorem dy (p0:P20):wpF CC Gv an0 Tryz.f134 [.ag (pk p0 [])] Q=(∃x x1 x2,Gv 204 [aR (P20.y p0),aR (P20.v p0),aR (P20.c p0)] [aT x x1 x2]/\Q [aT x x1 x2]):=by kernel_rfl
theorem MG (r0:R4) (r1:R4) (r2:R4):wpF CC Gv an0 Tryz.f204 [.ag (rk r0 []),.ag (rk r1 []),.ag (rk r2 [])] Q=(∃i,Gv 78 [aR r1] [aI i]/\bB (i==0) (∃x,Gv 260 [] [aR x]/\Q [aT r0 r1 x]) (Q [aT r0 r1 r2])):=by kernel_rfl
theorem Zy (r0:R4) (a0:Int) (b0:Int) (k0:Bool):wpF CC Gv an0 Tryz.f391 [.ag (rk r0 []),.ag [.int .i64 a0,.int .i64 b0],.c (.bool k0)] Q=(∃i i_1 b,Gv 374 [aR r0] [F0 [dI i,dI i_1],aB b]/\bB (!k0) (Q [F0 [dI (0:Int),dI (0:Int)],aB false]) (bB (!b) (Q [F0 [dI (0:Int),dI (0:Int)],aB false]) (∃i_2 i_3 b,Gv 382 [F0 [dI i,dI i_1],F0 [dI a0,dI b0]] [F0 [dI i_2,dI i_3],aB b]/\Q [F0 [dI i_2,dI i_3],aB b]))):=by kernel_rfl
theorem PH (r0:R4) (r1:R4) (r2:R4) (p0:P20):wpF CC Gv an0 Tryz.f364 [.ag (rk r0 (rk r1 (rk r2 []))),.ag (pk p0 [])] Q=(∃i i_1 b,Gv 331 [aT (P20.x p0) (P20.u p0) (P20.c p0)] [F0 [dI i,dI i_1],aB b]/\∃i_2 i_3 b1,Gv 391 [aR r0,F0 [dI i,dI i_1],aB b] [F0 [dI i_2,dI i_3],aB b1]/\∃i i_4 b,Gv 331 [aT (P20.y p0) (P20.v p0) (P20.c p0)] [F0 [dI i,dI i_4],aB b]/\∃i_5 i_6 b2,Gv 391 [aR r1,F0 [dI i,dI i_4],aB b] [F0 [dI i_5,dI i_6],aB b2]/\∃i i_7 b,Gv 374 [aR r2] [F0 [dI i,dI i_7],aB b]/\bB (!b1) (Q [aI (0:Int),aB false]) (bB (!b2) (Q [aI (0:Int),aB false]) (bB (!b) (Q [aI (0:Int),aB false]) (∃i_8 i_9 b,Gv 383 [F0 [dI i_2,dI i_3],F0 [dI i_5,dI i_6]] [F0 [dI i_8,dI i_9],aB b]/\bB (!b) (Q [aI (0:Int),aB false]) (∃i_10 i_11,Gv 390 [F0 [dI i,dI i_7]] [F0 [dI i_10,dI i_11]]/\∃i i_12 b,Gv 383 [F0 [dI i_8,dI i_9],F0 [dI i_10,dI i_11]] [F0 [dI i,dI i_12],aB b]/\bB (!b) (Q [aI (0:Int),aB false]) (∃i_13 b,Gv 385 [F0 [dI i,dI i_12]] [aI i_13,aB b]/\Q [aI i_13,aB b])))))):=by kernel_rfl
theorem CJ (r0:R4) (r1:R4):wpF CC Gv an0 Tryz.f362 [.ag (rk r0 []),.ag (rk r1 [])] Q=(∃x,Gv 75 [aR r0,aR r1] [aR x]/\Q [aR x]):=by kernel_rfl
theorem CK (r0:R4) (r1:R4):wpF CC Gv an0 Tryz.f361 [.ag (rk r0 []),.ag (rk r1 [])] Q=(∃x,Gv 33 [aR r0,aR r1] [aR x]/\Q [aR x]):=by kernel_rfl
theorem PI (r0:R4) (r1:R4):wpF CC Gv an0 Tryz.f330 [.ag (rk r0 []),.ag (rk r1 [])] Q=(∃x,Gv 157 [aR r0,aR r1] [aR x]/\Q [aR x]):=by kernel_rfl
theorem PJ (r0:R4) (r1:R4) (r2:R4):wpF CC Gv an0 Tryz.f363 [.ag (rk r0 []),.ag (rk r1 []),.ag (rk r2 [])] Q=(∃i,Gv 78 [aR r0] [aI i]/\∃i_1,Gv 78 [aR r1] [aI i_1]/\∃i_2,Gv 78 [aR r2] [aI i_2]/\bB (Ls .i64 (i_1*i_2)==0) (Q [aI i]) (bB (i==Ls .i64 (i_1*i_2)) (Q [aI i]) (bB (i==0) (Q [aI (Ls .i64 (i_1*i_2))]) (∃x,Gv 330 [aR r0,aR r0] [aR x]/\∃x1,Gv 330 [aR r1,aR r1] [aR x1]/\∃x2,Gv 330 [aR x1,aR r2] [aR x2]/\∃i_3,Gv 34 [aR x,aR x2] [aI i_3]/\Q [aI (Ls .i64 (i*i_3))])))):=by kernel_rfl
theorem PK (r0:R4) (r1:R4) (r2:R4) (p0:P20):wpF CC Gv an0 Tryz.f315 [.ag (rk r0 (rk r1 (rk r2 []))),.ag (pk p0 [])] Q=(∃i b,Gv 364 [aT r0 r1 r2,aP p0] [aI i,aB b]/\br b (Q [aI i]) (∃x,Gv 330 [aR r0,aR (P20.x p0)] [aR x]/\∃x1,Gv 330 [aR r1,aR (P20.y p0)] [aR x1]/\∃x2,Gv 362 [aR x,aR x1] [aR x2]/\∃x,Gv 361 [aR x2,aR r2] [aR x]/\∃x3,Gv 330 [aR r0,aR (P20.u p0)] [aR x3]/\∃x4,Gv 330 [aR r1,aR (P20.v p0)] [aR x4]/\∃x5,Gv 362 [aR x3,aR x4] [aR x5]/\∃i,Gv 363 [aR x,aR x5,aR (P20.c p0)] [aI i]/\Q [aI i])):=by kernel_rfl
theorem MH (z0:Bool) (l0:List (List D)):wpF CC Gv (λ_=>⟨[.slot 4 (.int .u64 0),.slot 5 (.int .i64 0)],[],I0,M0⟩) Tryz.f123 [.ag [.bool z0,.sl l0]] Q=(∃b es,Gv 132 [aI (-9223372036854775808:Int)] [aZ b es]/\∃i,Gv 79 [aZ z0 l0,aZ b es] [aI i]/\bB (decide (i<0)) (Q [aI (0:Int),aB false]) (∃b es,Gv 132 [aI (9223372036854775807:Int)] [aZ b es]/\∃i,Gv 79 [aZ z0 l0,aZ b es] [aI i]/\bB (decide (i>0)) (Q [aI (0:Int),aB false]) (I0 [] [Hv .u64 0,dI (Ls .i64 ((Pl l0.length)-1))]/\∀(i i_1:Int),I0 [] [Hv .u64 i,dI i_1]->bB (decide (i_1>=0)) ((0<=i_1/\i_1<(Pl l0.length)/\W2 (nth [] l0 (Sz i_1))=1)/\∃i_2,cut (nth [] l0 (Sz i_1)) 0 1 [Hv .u32 i_2]/\I0 [] [Hv .u64 (Ls .u64 (Ls .u64 (i*1000000000)+Ls .u64 i_2)),dI (Ls .i64 (i_1-1))]/\M0 [Hv .u64 (Ls .u64 (Ls .u64 (i*1000000000)+Ls .u64 i_2)),dI (Ls .i64 (i_1-1))]<M0 [Hv .u64 i,dI i_1]) (br z0 (Q [aI (Ls .i64 (Ls .u64 (0-i))),aB true]) (Q [aI (Ls .i64 i),aB true]))))):=by kernel_rfl
theorem CL (a0:Int) (b0:Int) (a1:Int) (b1:Int):wpF CC Gv (YR ⟨[.slot 21 (.int .i64 0),.slot 6 (.int .i64 0),.slot 7 (.int .i64 0)],[],I0,M0⟩ ⟨[.slot 31 (.int .i64 0),.slot 6 (.int .i64 0),.slot 7 (.int .i64 0)],[.slot 21 (.int .i64 0)],I1,M1⟩) Tryz.f382 [.ag [.int .i64 a0,.int .i64 b0],.ag [.int .i64 a1,.int .i64 b1]] Q=(I0 [] [dI (0:Int),dI (2305843009213693952:Int),dI (-2305843009213693952:Int)]/\∀(i i_1 i_2:Int),I0 [] [dI i,dI i_1,dI i_2]->bB (decide (i<2)) ((0<=i/\i<2)/\∃i_3,cut (nth [] [[dI a0],[dI b0]] (Sz i)) 0 1 [dI i_3]/\I1 [dI i] [dI (0:Int),dI i_1,dI i_2]/\∀(i_4 i_5 i_6:Int),I1 [dI i] [dI i_4,dI i_5,dI i_6]->bB (decide (i_4<2)) ((0<=i_4/\i_4<2)/\∃i_7,cut (nth [] [[dI a1],[dI b1]] (Sz i_4)) 0 1 [dI i_7]/\∃i_8 i_9 b,Gv 418 [aI i_3,aI i_7] [aI i_8,aI i_9,aB b]/\bB (!b) (Q [F0 [dI (0:Int),dI (0:Int)],aB false]) (I1 [dI i] [dI (Ls .i64 (i_4+1)),dI (match decide (i_8<i_5)with|true=>i_8|false=>i_5),dI (match decide (i_6<i_9)with|true=>i_9|false=>i_6)]/\M1 [dI (Ls .i64 (i_4+1)),dI (match decide (i_8<i_5)with|true=>i_8|false=>i_5),dI (match decide (i_6<i_9)with|true=>i_9|false=>i_6)]<M1 [dI i_4,dI i_5,dI i_6])) (I0 [] [dI (Ls .i64 (i+1)),dI i_5,dI i_6]/\M0 [dI (Ls .i64 (i+1)),dI i_5,dI i_6]<M0 [dI i,dI i_1,dI i_2])) (Q [F0 [dI i_1,dI i_2],aB true])):=by kernel_rfl
theorem MI (x0:Int) (y0:Int):wpF CC Gv an0 Tryz.f441 [.c (.int .u64 x0),.c (.int .u64 y0)] Q=((0:Int)<=(32:Int)/\(0:Int)<=(32:Int)/\(0:Int)<=(32:Int)/\(0:Int)<=(32:Int)/\(0:Int)<=(32:Int)/\Q [Hu (Hv .u64 (Ls .u64 (Ls .u64 (Ls .u64 (Tk x0 4294967296*Tk y0 (4294967296:Int))+Tk (Ls .u64 (Ls .u64 (Tk x0 4294967296*bits .and .u64 (y0) (4294967295:Int))+Tk (Ls .u64 (bits .and .u64 (x0) 4294967295*bits .and .u64 (y0) (4294967295:Int))) (4294967296:Int))) (4294967296:Int))+Tk (Ls .u64 (bits .and .u64 (Ls .u64 (Ls .u64 (Tk x0 4294967296*bits .and .u64 (y0) (4294967295:Int))+Tk (Ls .u64 (bits .and .u64 (x0) 4294967295*bits .and .u64 (y0) (4294967295:Int))) (4294967296:Int))) 4294967295+Ls .u64 (bits .and .u64 (x0) 4294967295*Tk y0 (4294967296:Int)))) (4294967296:Int)))),Hu (Hv .u64 (Ls .u64 (x0*y0)))]):=by kernel_rfl
theorem MJ (a0 a1 a2 a3:Int) (k0:Bool) (b0 b1 b2 b3:Int) (k1:Bool) (Q:List A->Prop):wpF CC Gv an0 Tryz.f327 [.ag [.int .i64 a0,.int .i64 a1,.int .i64 a2,.int .i64 a3,.bool k0],.ag [.int .i64 b0,.int .i64 b1,.int .i64 b2,.int .i64 b3,.bool k1]] Q=(br k0 (br k1 (bB (decide (a1<b0)) (Q [aB true]) (bB (decide (b1<a0)) (Q [aB true]) (bB (decide (a3<b2)) (Q [aB true]) (Q [aB (decide (b3<a2))])))) (Q [aB false])) (Q [aB false])):=by kernel_rfl
end
end Eng
end
