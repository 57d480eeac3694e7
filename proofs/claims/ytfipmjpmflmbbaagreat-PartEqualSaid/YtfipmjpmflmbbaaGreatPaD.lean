/- Chapter 11 of the document: monotone curves, their order. -/
import Derived.Test.YtfipmjpmflmbbaaGreatPaC
import Derived.Test.YtfipmjpmflmbbaaGreatPaA
import Derived.KernelRfl
open Bool renaming true_and→Aw, and_eq_true→Bx, false_eq_true→Dd, false_or→F0, not_eq_true'→F2, true_or→Hu
open Eng renaming room→Hv
open Eng.A renaming ag→Hx, c→Hy
open Eng.C66 renaming tt→I3, fr→J3, arc→J4, cw→Lm, cq→Lr, cy→Ls, cx→Lv, lc→M3, lb→No, la→Pl
open Eng.D renaming sl→P1, bool→Ts, int→T1
open Eng.D.int renaming injEq→U0
open Eng.D.sl renaming injEq→U3
open Eng.Hz renaming zero→V1
open Go.IntKind renaming wrap→W0, i64→W1
open Int renaming toNat→W2, ofNat_eq_natCast→ba, ofNat→bb, toNat_natCast→bc, le_refl→bd, tmod→be
open LawfulBEq renaming eq_of_beq→bh
open List renaming take→bm, getElem?_eq_getElem→bs, length→bv, getElem_mem→bw, take_succ_eq_append_getElem→bx, drop→b9, mem_singleton→ca, drop_eq_getElem_cons→cb, length_cons→cg, length_take→cp, length_append→cv, length_drop→c4, mem_cons→c5, take_of_length_le→c9, take_length→cH, length_filter_le→cL, drop_eq_nil_of_le→dc, length_nil→dk, mem_append→dl, append_nil→ea, append_assoc→eb, flatMap_append→ed, foldl_append→el, mem_filter→en, length_map→ey, set_append_right→ez, filter_append→e5, mem_map→e7, not_mem_nil→eH, range_succ→fg, nil_append→fs, mem_of_getElem?→ft, reverse_append→fx, mem_reverse→fz, getElem_map→fR, all_eq_true→fS, map_append→ga, length_set→gb, map_take→gm, map_drop→gr, range→gz
open List.cons renaming injEq→g0
open Nat renaming zero_le→g3, le_refl→g4, sub_self→g5, one_lt_pow→g7, mul_le_mul→g8, le_trans→hh
open Option.some renaming inj→h8
set_option maxRecDepth 1000000
section
namespace Eng
open Go Go.Proofs Rl
def Gd (c:Cu):Prop:=Gc c∧WD c=true
theorem Gd.sup {c:Cu} (h:Gd c):Jk c c.fr=true∧Jk c c.tt=true∧kO c.fr c.tt=false:=by
 have:=h.2;unfold WD at this;simp only[Bx,F2]at this;exact this.2
theorem Gd.cw {c:Cu} (h:Gd c) (ha:c.arc=false):c.cw=false:=by
 have:=h.2;unfold WD at this;rw[ha]at this;simp only[Bx]at this;have h1:=this.1;simp at h1;exact h1.1
theorem Gd.circ {c:Cu} (h:Gd c) (ha:c.arc=true):HC c.ci∧0<c.ci.q:=by
 rcases h.1.1.2 with k|k
 ·exact k.2
 ·rw[ha]at k;cases k.1
theorem Gd.line {c:Cu} (h:Gd c) (ha:c.arc=false):HL c.ln∧okLn c.ln:=by
 rcases h.1.1.2 with k|k
 ·rw[ha]at k;cases k.1
 ·exact k.2
theorem KM {c:Cu} {p:P5} (hc:Gc c) (hp:Gp p):qe CC 200 [.ag (ck (kU c) []),.ag (pk (kP p) [])] [.c (.bool (Wu c p))]:=by
 refine wpG Tryz.func200 ((L4 ..).mpr ?_);have h1:=wP hc.2.1 hp;have h2:=wP hc.2.2 hp;rw[←kH]at h1;rw[←vG]at h2;refine⟨_,yT hc hp,?_⟩;unfold Wu;refine zQ (fun h=>?_) (fun h=>?_)
 ·rw[h,Aw];refine⟨_,h1,?_⟩;refine brb (fun h=>?_) (fun h=>?_)
  ·rw[h,Aw];exact⟨_,h2,rfl⟩
  ·rw[h];rfl
 ·rw[h];rfl
theorem PH {c:Cu} (hc:Gc c):qe CC 67 [.ag (ck (kU c) [])] [.c (.bool (Pn c))]:=by
 refine wpG Tryz.func67 ((P9 ..).mpr ?_);have h1:=Xz c.fr;have h2:=Xz c.tt;rw[←kH]at h1;rw[←vG]at h2;have h3:=cj hc.2.1.tx.1 hc.2.2.tx.1 hc.2.1.tx.2 hc.2.2.tx.2;rw[WE,WE]at h3;rw[yx];unfold Pn;refine brb (fun h=>?_) (fun h=>?_)
 ·rw[h,Aw];exact⟨_,_,_,h1,_,_,_,h2,_,h3,rfl⟩
 ·rw[h];rfl
def kS (s:Int×Rt):List D:= .int .i64 s.1::(if s.1=0 then kT s.2 []else rk z4A (rk z4A (rk z4A [])))
theorem BB {c:Cu} (h:Gd c) (ha:c.arc=false) (hv:Pn c=false):c.ln.b≠0:=by
 intro hb;obtain⟨h1,h2,_⟩:=h.sup;unfold Jk at h1 h2;rw[ha]at h1 h2;simp only[Dd,if_false,beq_iff_eq]at h1 h2;rw[xT]at h1 h2;unfold lnv at h1 h2;rw[hb,xR,zml,ad0]at h1 h2;have e1:=ka h1;have e2:=ka h2;have e3:ofR c.ln.a*(px c.fr-px c.tt)=0:=by rw[show px c.fr-px c.tt=px c.fr+ -px c.tt from rfl,mld,HH,e1,e2];exact adn _
 have ha0:ofR c.ln.a≠0:=fun e=>(h.line ha).2 ⟨K2.1 e,hb⟩
 have e4:=(mul_eq_zero e3).resolve_left ha0;unfold Pn at hv;rw[ha,e4,zH]at hv;simp at hv
theorem Io {r:Rt} (hr:HT 1321 1300 1300 r) (ho:okT r) (h:rv r≠0):HT 7864 7843 1300 (eQ r):=by
 have hn:=N0 (m:=6543) hr (by omega);have hn0:ws r≠0:=ho.norm fun k=>h (ho.zero.2 k)
 have h1:=(Hz.one (k:=0)).div hn hn0 (l:=6543) (by omega);exact NA (hr.1.mul h1 (by omega)) (hr.2.1.mul h1 (by omega)).neg hr.2.2
def slX (c:Cu) (p:P5):Rt:=iQ (Bb (xP p) (-c.ci.x))
def slY (c:Cu) (p:P5):Rt:=Bb (yP p) (-c.ci.y)
theorem Ip {c:Cu} {p:P5} (hC:HC c.ci) (hp:Gp p):HT 1321 1300 1300 (slX c p)∧okT (slX c p)∧((slX c p).b=0∨(slX c p).c=p.c):=by
 refine⟨(hp.tx.1.add hC.1.neg (by omega)).neg,(hp.tx.2.add _).neg,?_⟩;rcases lk p with h|h
 ·left;show-(xP p).b=0;grind
 ·right;exact h
theorem Iq {c:Cu} {p:P5} (hC:HC c.ci) (hp:Gp p):HT 1321 1300 1300 (slY c p)∧okT (slY c p)∧((slY c p).b=0∨(slY c p).c=p.c)∧rv (slY c p)=py p-ofR c.ci.y:=by
 refine⟨hp.ty.1.add hC.2.1.neg (by omega),hp.ty.2.add _,?_,?_⟩
 ·rcases lw p with h|h
  ·left;exact h
  ·right;exact h
 ·unfold slY;rw[lf,Lc,v8];rfl
theorem NF {c:Cu} {p:P5} (h:Gd c) (hp:Gp p):HT 19700 18400 1300 (xC c p).2∧okT (xC c p).2:=by
 have hz:HT 19700 18400 1300 ⟨0,0,0⟩∧okT ⟨0,0,0⟩:=⟨⟨V1,V1,V1⟩,K3 0⟩;unfold xC;split
 ·exact hz
 rename_i hv;have hv:Pn c=false:=by simpa using hv
 split
 ·rename_i ha;have hl:=h.line ha;have hb:=BB h ha hv;exact⟨⟨hl.1.1.neg.div hl.1.2.1 hb (by omega),V1,V1⟩,K3 _⟩
 rename_i ha;have ha:c.arc=true:=by simpa using ha
 split
 ·exact hz
 rename_i h0;have hC:=(h.circ ha).1;obtain⟨x1,x2,x3⟩:=Ip hC hp;obtain⟨y1,y2,y3,y4⟩:=Iq hC hp;have hne:rv (slY c p)≠0:=fun e=>h0 (by rw[←y4,e,zH])
 exact⟨Ue x1 (Io y1 y2 hne) (by omega) (by omega),KC x2 (cr y2)⟩
theorem Um {c:Cu} {p:P5} (h0:(xC c p).1≠0) (h2:(xC c p).1≠2):c.arc=true:=by
 unfold xC at h0 h2;split at h2
 ·exact absurd rfl h2
 rename_i hv;rw[if_neg hv]at h0;split at h0
 ·exact absurd rfl h0
 ·rename_i ha;simpa using ha
theorem KN {c:Cu} {p:P5} (h:Gd c) (hp:Gp p):qe CC 256 [.ag (ck (kU c) []),.ag (pk (kP p) [])] [.ag (kS (xC c p))]:=by
 have hn:=fun ha hv=>BB h ha hv
 have hl:=fun ha=>h.line ha
 have hC:=fun ha=>h.circ ha
 have hx:=fun ha=>Ip (c:=c) (p:=p) (hC ha).1 hp
 have hy:=fun ha=>Iq (c:=c) (p:=p) (hC ha).1 hp
 refine wpG Tryz.func256 ((L5 ..).mpr ?_);refine⟨_,PH h.1,?_⟩;unfold xC;refine zQ (fun hv=>?_) (fun hv=>?_)
 ·rw[if_pos hv];rfl
 rw[if_neg (by rw[hv];simp),yx];cases ha:c.arc with
 |false=>refine brb (fun _=>?_) (fun h=>by cases h);rw[if_pos rfl];have hb:=hn ha hv;have hL:=(hl ha).1;clear hx hy hn hl hC h;obtain⟨arc,ln,ci,cw,fr,tt,jk⟩:=c;subst ha;exact⟨_,Nz hL.1,_,_,tO hL.1.neg hL.2.1 hb,_,_,_,jK _,rfl⟩
 |true=>
  refine brb (fun h=>by cases h) (fun _=>?_);rw[if_neg (by simp)];obtain⟨x1,x2,x3⟩:=hx ha;obtain⟨y1,y2,y3,y4⟩:=hy ha;have hc:=(hC ha).1;clear hx hy hn hl hC h;obtain⟨arc,ln,ci,cw,fr,tt,jk⟩:=c;subst ha;have hs:=Xx y1 y2;rw[y4]at hs;refine⟨_,_,_,Xz p,_,Nz hc.1,_,_,_,Q2 hp.tx.1 hc.1.neg,_,_,_,HX p,_,Nz hc.2.1,_,_,_,Q2 hp.ty.1 hc.2.1.neg,_,hs,?_⟩;refine brb (fun h0=>?_) (fun h0=>?_)
  ·rw[if_pos (bh h0)];cases cw with
   |true=>exact brb (fun _=>rfl) (fun h=>by cases h)
   |false=>exact brb (fun h=>by cases h) (fun _=>rfl)
  ·have h0:sg (py p-ofR ci.y)≠0:=by simpa using h0
   rw[if_neg h0];have a3:rv (slY ⟨true,ln,ci,cw,fr,tt,jk⟩ p)≠0:=fun e=>h0 (by rw[show py p-ofR ci.y=0 from y4▸e,zH])
   exact⟨_,_,_,_,Fo y1 y2 a3,_,_,_,Fl (hp.tx.1.add hc.1.neg (g4 _)),_,_,_,_,N1 x1 (Io y1 y2 a3) (Lt x3 (li y3)),rfl⟩
theorem Vw (c:Cu):qe CC 296 [.ag (ck (kU c) [])] [.c (.int .i64 (vT c))]:=by
 refine wpG Tryz.func296 ((PB ..).mpr ?_);rw[yx,ZY];unfold vT;cases c.arc with
 |false=>exact brb (fun _=>rfl) (fun h=>by cases h)
 |true=>
  refine brb (fun h=>by cases h) (fun _=>?_);cases c.cw with
  |true=>exact brb (fun _=>rfl) (fun h=>by cases h)
  |false=>exact brb (fun h=>by cases h) (fun _=>rfl)
theorem BC (c:Cu): -1≤vT c∧vT c≤1:=by
 unfold vT;split
 ·omega
 ·split<;>omega
theorem Un {c:Cu} (h:vT c≠0):c.arc=true:=by
 unfold vT at h;split at h
 ·exact absurd rfl h
 ·rename_i ha;simpa using ha
theorem F6 {c:Cu} (h:c.arc=true):Lr (kU c)=q4 c.ci.q:=by unfold kU;rw[h]
theorem PI {c d:Cu} (hc:Gd c) (hd:Gd d):qe CC 257 [.ag (ck (kU c) []),.ag (ck (kU d) [])] [.c (.int .i64 (bR c d))]:=by
 refine wpG Tryz.func257 ((PA ..).mpr ?_);refine⟨_,Vw c,_,Vw d,?_⟩;unfold bR;refine brb (fun h=>?_) (fun h=>?_)
 ·rw[if_neg (by simpa using h)];refine brd (fun h1=>?_) (fun h1=>?_)
  ·rw[if_pos h1]
  ·rw[if_neg h1]
 ·have e:vT c=vT d:=by simpa using h
  rw[if_pos e];refine brb (fun h1=>?_) (fun h1=>?_)
  ·rw[if_pos (bh h1)]
  ·have n1:vT c≠0:=by simpa using h1
   have a1:=Un n1;have a2:=Un (e▸n1);rw[if_neg n1,F6 a1,F6 a2];refine⟨_,Px (hc.circ a1).1.2.2 (hd.circ a2).1.2.2,?_⟩;have hw: -1≤ -vT c∧ -vT c≤1:=by have:=BC c;omega
   rw[YT (BC c),wx hw (HM _)]
theorem NG (s:Int×Rt):∃x y z,kS s= .int .i64 s.1::rk x (rk y (rk z []))∧(s.1=0→rk x (rk y (rk z []))=kT s.2 []):=by
 unfold kS;by_cases h:s.1=0
 ·rw[if_pos h];exact⟨_,_,_,rfl,fun _=>rfl⟩
 ·rw[if_neg h];exact⟨_,_,_,rfl,fun k=>absurd k h⟩
theorem cD (c:Cu) (p:P5): -1≤(xC c p).1∧(xC c p).1≤2:=by
 unfold xC;split
 ·omega
 split
 ·omega
 split
 ·split<;>omega
 ·omega
theorem L9 {c d:Cu} (hc:Gd c) (hd:Gd d):∃e,qe CC 199 [.ag (ck (kU c) []),.ag (ck (kU d) [])] [.c (.int .i64 (Vp c d)),.c (.int .i64 e)]:=by
 have go:∀e,wpF CC (qe CC) an0 Tryz.f199 [.ag (ck (kU c) []),.ag (ck (kU d) [])] (· =[.c (.int .i64 (Vp c d)),.c (.int .i64 e)])→qe CC 199 [.ag (ck (kU c) []),.ag (ck (kU d) [])] [.c (.int .i64 (Vp c d)),.c (.int .i64 e)]:=fun e h=>qw (anns:=an0) mixedT Tryz.func199 h
 refine⟨if kO c.fr d.fr=false then 1 else 0,go _ ((L6 ..).mpr ?_)⟩;have h1:=wP hc.1.2.1 hd.1.2.1;rw[←kH,←kH]at h1;have s1:=KN hc hc.1.2.1;have s2:=KN hd hd.1.2.1;rw[←kH]at s1 s2;obtain⟨x1,x2,x3,e1,k1⟩:=NG (xC c c.fr);obtain⟨y1,y2,y3,e2,k2⟩:=NG (xC d d.fr);rw[e1]at s1;rw[e2]at s2;refine⟨_,h1,?_⟩;unfold Vp;cases hb:kO c.fr d.fr with
 |false=>exact brb (fun _=>rfl) (fun h=>by cases h)
 |true=>
  refine brb (fun h=>by cases h) (fun _=>?_);rw[if_neg (show ¬(true=false)by simp),if_neg (show ¬(true=false)by simp)];refine⟨_,_,_,_,s1,_,_,_,_,s2,?_⟩;refine brb (fun h=>?_) (fun h=>?_)
  ·rw[if_neg (by simpa using h)];refine brd (fun h2=>?_) (fun h2=>?_)
   ·rw[if_pos h2]
   ·rw[if_neg h2]
  ·have e:(xC c c.fr).1=(xC d d.fr).1:=by simpa using h
   rw[if_pos e];refine brb (fun h2=>?_) (fun h2=>?_)
   ·rw[if_pos (bh h2)]
   have n2:(xC c c.fr).1≠2:=by simpa using h2
   rw[if_neg n2];refine brb (fun h3=>?_) (fun h3=>?_)
   ·have n3:(xC c c.fr).1≠0:=by simpa using h3
    have a1:=Um n3 n2;have a2:=Um (e▸n3) (e▸n2);rw[if_neg n3,F6 a1,F6 a2];refine⟨_,Px (hc.circ a1).1.2.2 (hd.circ a2).1.2.2,?_⟩;have hw: -1≤(xC c c.fr).1∧(xC c c.fr).1≤1:=by have:=cD c c.fr;omega
    rw[wx hw (HM _)]
   ·have n3:(xC c c.fr).1=0:=by simpa using h3
    rw[if_pos n3,aT,aT,k1 n3,k2 (e▸n3)];obtain⟨t1,o1⟩:=NF hc hc.1.2.1;obtain⟨t2,o2⟩:=NF hd hd.1.2.1;refine⟨_,Xy t1 t2 o1 o2,?_⟩;refine brb (fun h4=>?_) (fun h4=>?_)
    ·rw[if_neg (by simpa using h4)]
    ·rw[if_pos (by simpa using h4)];exact⟨_,PI hc hd,rfl⟩
theorem X4 {c d:Cu} (hc:Gd c) (hd:Gd d):qe CC 136 [.ag (ck (kU c) []),.ag (ck (kU d) [])] [.c (.int .i64 (ES c d))]:=by
 refine wpG Tryz.func136 ((YO ..).mpr ?_);have h1:=yy hc.1.2.1 hd.1.2.1;have h2:=yy hc.1.2.2 hd.1.2.2;rw[←kH,←kH]at h1;rw[←vG,←vG]at h2;obtain⟨e,h3⟩:=L9 hc hd;refine⟨_,h1,?_⟩;unfold ES;refine brb (fun h=>?_) (fun h=>?_)
 ·rw[if_neg (by simpa using h)]
 rw[if_pos (by simpa using h)];refine⟨_,_,h3,?_⟩;refine brb (fun h=>?_) (fun h=>?_)
 ·rw[if_neg (by simpa using h)]
 rw[if_pos (by simpa using h)];exact⟨_,h2,rfl⟩
theorem vI {c:Cu} (h:c.arc=false→c.cw=false):qe CC 201 [.ag (ck (kU c) [])] [.ag (ck (kU (La c)) [])]:=by
 rw[lD c h];refine qw (anns:=an0) mixedT Tryz.func201 ?_;rw[YN,yx,ZY,kH,vG];cases ha:c.arc with
 |true=>exact brb (fun _=>rfl) (fun h=>by cases h)
 |false=>exact brb (fun h=>by cases h) (fun _=>rfl)
end Eng
end
section
open Go Go.Proofs Eng
namespace Eng
theorem Uo (Gv:Nat→List A→List A→Prop) (I0:List D→List D→Prop) (M0:List D→Nat) (I1:List D→List D→Prop) (M1:List D→Nat) (J8:List D→List D→Prop) (J9:List D→List D→Prop) (c0:C66) (l0:List (List D)) (Q:List A→Prop):wpF CC Gv (Ta (Ta (Vd ⟨[.slot 6 (.int .i64 0),.slot 5 (.slice none 0 0)],[],I0,M0⟩ ⟨[.slot 7 (.int .i64 0)],[.slot 6 (.int .i64 0),.slot 5 (.slice none 0 0)],I1,M1⟩) 8 ⟨[.slot 7 (.int .i64 0)],[.slot 6 (.int .i64 0),.slot 5 (.slice none 0 0)],J8,fun _=>0⟩) 9 ⟨[.slot 7 (.int .i64 0)],[.slot 6 (.int .i64 0),.slot 5 (.slice none 0 0)],J9,fun _=>0⟩) Tryz.f203 [.ag (ck c0 []),.c (.sl l0)] Q=(I0 [] [dI (0:Int),P1 []]∧∀(i:Int) (es:List (List D)),I0 [] [dI i,P1 es]→bB (decide (i<(bb l0.length))) ((I1 [dI i,P1 es] [dI (0:Int)]∧∀(i_1:Int),I1 [dI i,P1 es] [dI i_1]→bB (decide (i_1<(bb es.length))) (rO es i_1 20∧∃x,cU es i_1 0 20 (pk x [])∧rO l0 i 20∧∃x1,cU l0 i 0 20 (pk x1 [])∧∃i_2,Gv 186 [aC c0,aP x,aP x1] [aI i_2]∧bB (decide (i_2<0)) (I1 [dI i,P1 es] [dI (W0 .i64 (i_1+1))]∧M1 [dI (W0 .i64 (i_1+1))]<M1 [dI i_1]) (J8 [dI i,P1 es] [dI i_1])) (J8 [dI i,P1 es] [dI i_1]))∧∀(i_1:Int),J8 [dI i,P1 es] [dI i_1]→bB (decide (i_1<(bb es.length))) (rO es i_1 20∧∃x,cU es i_1 0 20 (pk x [])∧rO l0 i 20∧∃x1,cU l0 i 0 20 (pk x1 [])∧∃b,Gv 106 [aP x,aP x1] [aB b]∧br b (I0 [] [dI (W0 .i64 (i+1)),P1 es]∧M0 [dI (W0 .i64 (i+1)),P1 es]<M0 [dI i,P1 es]) (J9 [dI i,P1 es] [dI i_1])) (J9 [dI i,P1 es] [dI i_1])∧∀(i_2:Int),J9 [dI i,P1 es] [dI i_2]→((0:Int)≤(0:Int)∧0≤i_2∧i_2≤(bb es.length)∧lens 20 es)∧(room (0+bv (b9 0 (bm (W2 i_2) es)))∧lens 20 (b9 0 (bm (W2 i_2) es)))∧rO l0 i 20∧∃x,cU l0 i 0 20 (pk x [])∧(room (bv ([]++b9 0 (bm (W2 i_2) es))+1)∧lens 20 [(pk x [])])∧(0≤i_2∧i_2≤(bb es.length)∧(bb es.length)≤(bb es.length)∧lens 20 es)∧(room (bv ([]++b9 0 (bm (W2 i_2) es)++[(pk x [])])+bv (b9 (W2 i_2) (bm (W2 (bb es.length)) es)))∧lens 20 (b9 (W2 i_2) (bm (W2 (bb es.length)) es)))∧I0 [] [dI (W0 .i64 (i+1)),P1 ([]++b9 0 (bm (W2 i_2) es)++[(pk x [])]++b9 (W2 i_2) (bm (W2 (bb es.length)) es))]∧M0 [dI (W0 .i64 (i+1)),P1 ([]++b9 0 (bm (W2 i_2) es)++[(pk x [])]++b9 (W2 i_2) (bm (W2 (bb es.length)) es))]<M0 [dI i,P1 es]) (Q [aL es])):=by kernel_rfl
theorem LA (Gv:Nat→List A→List A→Prop) (I0:List D→List D→Prop) (M0:List D→Nat) (I1:List D→List D→Prop) (M1:List D→Nat) (c0:C66) (l0:List (List D)) (Q:List A→Prop):wpF CC Gv (Vd ⟨[.slot 6 (.int .i64 0)],[],I0,M0⟩ ⟨[.slot 9 (.int .i64 0),.own 8 56 66],[],I1,M1⟩) Tryz.f139 [.ag (ck c0 []),.c (.sl l0)] Q=(I0 [] [dI (0:Int)]∧∀(i:Int),I0 [] [dI i]→bB (decide (i<(bb l0.length))) (rO l0 i 20∧∃x,cU l0 i 0 20 (pk x [])∧∃b,Gv 121 [aC c0,aP x] [aB b]∧bB (!b) (Q [aL [],aI (1:Int)]) (I0 [] [dI (W0 .i64 (i+1))]∧M0 [dI (W0 .i64 (i+1))]<M0 [dI i])) ((room (2+l0.length)∧lens 20 l0)∧∃es,Gv 203 [aC c0,aL ((pk (J3 c0) [])::(pk (I3 c0) [])::l0)] [aL es]∧I1 [] [dI (1:Int),P1 []]∧∀(i:Int) (e1:List (List D)),I1 [] [dI i,P1 e1]→bB (decide (i<(bb es.length))) ((0≤W0 .i64 (i-1)∧W0 .i64 (i-1)<(bb es.length)∧bv (nth [] es (W2 (W0 .i64 (i-1))))=20)∧∃x,cut (nth [] es (W2 (W0 .i64 (i-1)))) 0 20 (pk x [])∧rO es i 20∧∃x1,cU es i 0 20 (pk x1 [])∧(room (e1.length+1)∧lens 66 [(Ts (J4 c0)::(rk (Pl c0) (rk (No c0) (rk (M3 c0) (rk (Lv c0) (rk (Ls c0) (rk (Lr c0) (Ts (Lm c0)::(pk x (pk x1 []))))))))))])∧I1 [] [dI (W0 .i64 (i+1)),P1 (e1++[(Ts (J4 c0)::(rk (Pl c0) (rk (No c0) (rk (M3 c0) (rk (Lv c0) (rk (Ls c0) (rk (Lr c0) (Ts (Lm c0)::(pk x (pk x1 []))))))))))])]∧M1 [dI (W0 .i64 (i+1)),P1 (e1++[(Ts (J4 c0)::(rk (Pl c0) (rk (No c0) (rk (M3 c0) (rk (Lv c0) (rk (Ls c0) (rk (Lr c0) (Ts (Lm c0)::(pk x (pk x1 []))))))))))])]<M1 [dI i,P1 e1]) (Q [aL e1,aI (0:Int)]))):=by kernel_rfl
theorem PJ (Gv:Nat→List A→List A→Prop) (I0:List D→List D→Prop) (M0:List D→Nat) (I1:List D→List D→Prop) (M1:List D→Nat) (I2:List D→List D→Prop) (M2:List D→Nat) (l0:List (List D)) (Q:List A→Prop):wpF CC Gv (eM ⟨[.slot 3 (.int .i64 0)],[],I0,M0⟩ ⟨[.slot 5 (.int .i64 0)],[.slot 3 (.int .i64 0)],I1,M1⟩ ⟨[.slot 7 (.int .i64 0),.slot 6 (.int .i64 0)],[.slot 3 (.int .i64 0),.slot 5 (.int .i64 0)],I2,M2⟩) Tryz.f74 [.c (.sl l0)] Q=(I0 [] [dI (0:Int)]∧∀(i:Int),I0 [] [dI i]→bB (decide (i<(bb l0.length))) (rO l0 i 66∧∃x,cU l0 i 26 20 (pk x [])∧rO l0 i 66∧∃x1,cU l0 i 46 20 (pk x1 [])∧I1 [dI i] [dI (0:Int)]∧∀(i_1:Int),I1 [dI i] [dI i_1]→bB (decide (i_1<2)) (I2 [dI i,dI i_1] [dI (0:Int),dI (0:Int)]∧∀(i_2 i_3:Int),I2 [dI i,dI i_1] [dI i_2,dI i_3]→bB (decide (i_2<(bb l0.length))) (rO l0 i_2 66∧∃x2,cU l0 i_2 26 20 (pk x2 [])∧(0≤i_1∧i_1<2)∧∃x3,cut (nth [] [(pk x []),(pk x1 [])] (W2 i_1)) 0 20 (pk x3 [])∧∃b,Gv 106 [aP x2,aP x3] [aB b]∧br b (rO l0 i_2 66∧∃x4,cU l0 i_2 46 20 (pk x4 [])∧(0≤i_1∧i_1<2)∧∃x5,cut (nth [] [(pk x []),(pk x1 [])] (W2 i_1)) 0 20 (pk x5 [])∧∃b,Gv 106 [aP x4,aP x5] [aB b]∧br b (I2 [dI i,dI i_1] [dI (W0 .i64 (i_2+1)),dI (W0 .i64 (W0 .i64 (i_3+1)+1))]∧M2 [dI (W0 .i64 (i_2+1)),dI (W0 .i64 (W0 .i64 (i_3+1)+1))]<M2 [dI i_2,dI i_3]) (I2 [dI i,dI i_1] [dI (W0 .i64 (i_2+1)),dI (W0 .i64 (i_3+1))]∧M2 [dI (W0 .i64 (i_2+1)),dI (W0 .i64 (i_3+1))]<M2 [dI i_2,dI i_3])) (rO l0 i_2 66∧∃x4,cU l0 i_2 46 20 (pk x4 [])∧(0≤i_1∧i_1<2)∧∃x5,cut (nth [] [(pk x []),(pk x1 [])] (W2 i_1)) 0 20 (pk x5 [])∧∃b,Gv 106 [aP x4,aP x5] [aB b]∧br b (I2 [dI i,dI i_1] [dI (W0 .i64 (i_2+1)),dI (W0 .i64 (i_3+1))]∧M2 [dI (W0 .i64 (i_2+1)),dI (W0 .i64 (i_3+1))]<M2 [dI i_2,dI i_3]) (I2 [dI i,dI i_1] [dI (W0 .i64 (i_2+1)),dI i_3]∧M2 [dI (W0 .i64 (i_2+1)),dI i_3]<M2 [dI i_2,dI i_3]))) ((2:Int)≠(0:Int)∧bB (be i_3 (2:Int)==(1:Int)) (Q [aB true]) (I1 [dI i] [dI (W0 .i64 (i_1+1))]∧M1 [dI (W0 .i64 (i_1+1))]<M1 [dI i_1]))) (I0 [] [dI (W0 .i64 (i+1))]∧M0 [dI (W0 .i64 (i+1))]<M0 [dI i])) (Q [aB false])):=by kernel_rfl
theorem PK (Gv:Nat→List A→List A→Prop) (I0:List D→List D→Prop) (M0:List D→Nat) (l0:List (List D)) (Q:List A→Prop):wpF CC Gv (fun _=>⟨[.slot 4 (.int .i64 0)],[],I0,M0⟩) Tryz.f41 [.c (.sl l0)] Q=(bB (decide ((bb l0.length)>400)) (Q [Hx [P1 []],aI (3:Int)]) (I0 [] [dI (0:Int)]∧∀(i:Int),I0 [] [dI i]→bB (decide (i<(bb l0.length))) (rO l0 i 66∧∃x,cU l0 i 0 66 (ck x [])∧∃b,Gv 73 [aC x] [aB b]∧bB (!b) (Q [Hx [P1 []],aI (1:Int)]) (I0 [] [dI (W0 .i64 (i+1))]∧M0 [dI (W0 .i64 (i+1))]<M0 [dI i])) (∃b,Gv 74 [aL l0] [aB b]∧br b (Q [Hx [P1 []],aI (8:Int)]) (∃es,Gv 78 [aL l0] [aL es]∧∃e1,Gv 77 [aL es] [aL e1]∧∃es,Gv 76 [aL e1] [aL es]∧∃e2,Gv 75 [aL es] [aL e2]∧bB (decide ((bb e2.length)>400)) (Q [Hx [P1 []],aI (3:Int)]) (Q [Hx [P1 e2],aI (0:Int)]))))):=by kernel_rfl
end Eng
end
section
open Go Go.Proofs Eng
namespace Eng
theorem PL (Gv:Nat→List A→List A→Prop) (I0:List D→List D→Prop) (M0:List D→Nat) (I1:List D→List D→Prop) (M1:List D→Nat) (J15:List D→List D→Prop) (c0:C66) (c1:C66) (Q:List A→Prop):wpF CC Gv (Ta (Vd ⟨[.slot 9 (.int .i64 0),.own 8 121 20],[],I0,M0⟩ ⟨[.slot 11 (.int .i64 0),.slot 10 (.bool false)],[],I1,M1⟩) 15 ⟨[.box 3 zC],[],J15,fun _=>0⟩) Tryz.f138 [.ag (ck c0 []),.ag (ck c1 [])] Q=(∃b,Gv 105 [aC c0,aC c1] [aB b]∧bB (!b) (∃es i,Gv 202 [aC c0,aC c1] [aL es,aI i]∧I0 [] [dI (0:Int),P1 []]∧∀(i:Int) (e1:List (List D)),I0 [] [dI i,P1 e1]→bB (decide (i<(bb es.length))) (rO es i 20∧∃x,cU es i 0 20 (pk x [])∧∃b,Gv 121 [aC c0,aP x] [aB b]∧br b (rO es i 20∧∃x,cU es i 0 20 (pk x [])∧∃b,Gv 121 [aC c1,aP x] [aB b]∧br b (rO es i 20∧∃x,cU es i 0 20 (pk x [])∧(room (e1.length+1)∧lens 20 [(pk x [])])∧I0 [] [dI (W0 .i64 (i+1)),P1 (e1++[(pk x [])])]∧M0 [dI (W0 .i64 (i+1)),P1 (e1++[(pk x [])])]<M0 [dI i,P1 e1]) (I0 [] [dI (W0 .i64 (i+1)),P1 e1]∧M0 [dI (W0 .i64 (i+1)),P1 e1]<M0 [dI i,P1 e1])) (I0 [] [dI (W0 .i64 (i+1)),P1 e1]∧M0 [dI (W0 .i64 (i+1)),P1 e1]<M0 [dI i,P1 e1])) (∃es,Gv 203 [aC c0,aL e1] [aL es]∧bB (J4 c0) (bB (J4 c1) (bB (!Lm c0==Lm c1) (∃x,Gv 201 [aC c1] [aC x]∧J15 [] (ck x [])) (bB (!J4 c0) (∃i,Gv 164 [aP (J3 c0),aP (I3 c0)] [aI i]∧∃i_1,Gv 164 [aP (J3 c1),aP (I3 c1)] [aI i_1]∧bB (i !=i_1) (∃x,Gv 201 [aC c1] [aC x]∧J15 [] (ck x [])) (J15 [] (ck c1 []))) (J15 [] (ck c1 [])))) (bB (!J4 c0) (∃i,Gv 164 [aP (J3 c0),aP (I3 c0)] [aI i]∧∃i_1,Gv 164 [aP (J3 c1),aP (I3 c1)] [aI i_1]∧bB (i !=i_1) (∃x,Gv 201 [aC c1] [aC x]∧J15 [] (ck x [])) (J15 [] (ck c1 []))) (J15 [] (ck c1 [])))) (bB (!J4 c0) (∃i,Gv 164 [aP (J3 c0),aP (I3 c0)] [aI i]∧∃i_1,Gv 164 [aP (J3 c1),aP (I3 c1)] [aI i_1]∧bB (i !=i_1) (∃x,Gv 201 [aC c1] [aC x]∧J15 [] (ck x [])) (J15 [] (ck c1 []))) (J15 [] (ck c1 [])))∧∀(x:C66),J15 [] (ck x [])→I1 [] [dI (1:Int),Ts false]∧∀(i:Int) (b1:Bool),I1 [] [dI i,Ts b1]→br b (bB (decide (i<(bb es.length))) (br b1 (I1 [] [dI (W0 .i64 (i+1)),Ts true]∧M1 [dI (W0 .i64 (i+1)),Ts true]<M1 [dI i,Ts b1]) ((0≤W0 .i64 (i-1)∧W0 .i64 (i-1)<(bb es.length)∧bv (nth [] es (W2 (W0 .i64 (i-1))))=20)∧∃x1,cut (nth [] es (W2 (W0 .i64 (i-1)))) 0 20 (pk x1 [])∧rO es i 20∧∃x2,cU es i 0 20 (pk x2 [])∧∃i_1,Gv 186 [aC x,aP x1,aP x2] [aI i_1]∧I1 [] [dI (W0 .i64 (i+1)),Ts (decide (i_1<0))]∧M1 [dI (W0 .i64 (i+1)),Ts (decide (i_1<0))]<M1 [dI i,Ts b1])) (Q [aL es,aB b1])) (Q [aL es,aB b1]))) (I0 [] [dI (0:Int),P1 []]∧∀(i:Int) (es:List (List D)),I0 [] [dI i,P1 es]→bB (decide (i<4)) ((0≤i∧i<4)∧∃x,cut (nth [] [(pk (J3 c0) []),(pk (I3 c0) []),(pk (J3 c1) []),(pk (I3 c1) [])] (W2 i)) 0 20 (pk x [])∧∃b,Gv 121 [aC c0,aP x] [aB b]∧br b ((0≤i∧i<4)∧∃x,cut (nth [] [(pk (J3 c0) []),(pk (I3 c0) []),(pk (J3 c1) []),(pk (I3 c1) [])] (W2 i)) 0 20 (pk x [])∧∃b,Gv 121 [aC c1,aP x] [aB b]∧br b ((0≤i∧i<4)∧∃x,cut (nth [] [(pk (J3 c0) []),(pk (I3 c0) []),(pk (J3 c1) []),(pk (I3 c1) [])] (W2 i)) 0 20 (pk x [])∧(room (es.length+1)∧lens 20 [(pk x [])])∧I0 [] [dI (W0 .i64 (i+1)),P1 (es++[(pk x [])])]∧M0 [dI (W0 .i64 (i+1)),P1 (es++[(pk x [])])]<M0 [dI i,P1 es]) (I0 [] [dI (W0 .i64 (i+1)),P1 es]∧M0 [dI (W0 .i64 (i+1)),P1 es]<M0 [dI i,P1 es])) (I0 [] [dI (W0 .i64 (i+1)),P1 es]∧M0 [dI (W0 .i64 (i+1)),P1 es]<M0 [dI i,P1 es])) (∃e1,Gv 203 [aC c0,aL es] [aL e1]∧bB (J4 c0) (bB (J4 c1) (bB (!Lm c0==Lm c1) (∃x,Gv 201 [aC c1] [aC x]∧J15 [] (ck x [])) (bB (!J4 c0) (∃i,Gv 164 [aP (J3 c0),aP (I3 c0)] [aI i]∧∃i_1,Gv 164 [aP (J3 c1),aP (I3 c1)] [aI i_1]∧bB (i !=i_1) (∃x,Gv 201 [aC c1] [aC x]∧J15 [] (ck x [])) (J15 [] (ck c1 []))) (J15 [] (ck c1 [])))) (bB (!J4 c0) (∃i,Gv 164 [aP (J3 c0),aP (I3 c0)] [aI i]∧∃i_1,Gv 164 [aP (J3 c1),aP (I3 c1)] [aI i_1]∧bB (i !=i_1) (∃x,Gv 201 [aC c1] [aC x]∧J15 [] (ck x [])) (J15 [] (ck c1 []))) (J15 [] (ck c1 [])))) (bB (!J4 c0) (∃i,Gv 164 [aP (J3 c0),aP (I3 c0)] [aI i]∧∃i_1,Gv 164 [aP (J3 c1),aP (I3 c1)] [aI i_1]∧bB (i !=i_1) (∃x,Gv 201 [aC c1] [aC x]∧J15 [] (ck x [])) (J15 [] (ck c1 []))) (J15 [] (ck c1 [])))∧∀(x:C66),J15 [] (ck x [])→I1 [] [dI (1:Int),Ts false]∧∀(i:Int) (b1:Bool),I1 [] [dI i,Ts b1]→br b (bB (decide (i<(bb e1.length))) (br b1 (I1 [] [dI (W0 .i64 (i+1)),Ts true]∧M1 [dI (W0 .i64 (i+1)),Ts true]<M1 [dI i,Ts b1]) ((0≤W0 .i64 (i-1)∧W0 .i64 (i-1)<(bb e1.length)∧bv (nth [] e1 (W2 (W0 .i64 (i-1))))=20)∧∃x1,cut (nth [] e1 (W2 (W0 .i64 (i-1)))) 0 20 (pk x1 [])∧rO e1 i 20∧∃x2,cU e1 i 0 20 (pk x2 [])∧∃i_1,Gv 186 [aC x,aP x1,aP x2] [aI i_1]∧I1 [] [dI (W0 .i64 (i+1)),Ts (decide (i_1<0))]∧M1 [dI (W0 .i64 (i+1)),Ts (decide (i_1<0))]<M1 [dI i,Ts b1])) (Q [aL e1,aB b1])) (Q [aL e1,aB b1])))):=by kernel_rfl
end Eng
end
section
namespace Eng
open Go Go.Proofs Rl
set_option maxRecDepth 100000
theorem gOk {f:Nat} {fn:Func} {args res:List A} {anns:Nat→Ann} {P:Prop} (hf:Tryz.prog.funcs[f]? =some fn) (hv:wpF CC (qe CC) anns fn args (fun r=>r=res)=P) (h:P):qe CC f args res:=
 qw mixedT hf (hv.mpr h)
theorem xi (l:List P5):(kPs l).length=l.length:=by unfold kPs;rw[ey]
theorem BD {l:List P5} {i:Nat} (h:i<l.length):nth [] (kPs l) i=pk (kP l[i]) []:=by
 rw[qF];unfold kPs;simp[h]
theorem yU (l:List P5):lens 20 (kPs l):=by
 intro e he;unfold kPs at he;obtain⟨p,_,rfl⟩:=e7.1 he;rfl
theorem lE (x:P20):cut (pk x []) 0 20 (pk x []):=⟨rfl,g4 20⟩
theorem KO (l m:List P5):kPs (l++m)=kPs l++kPs m:=by unfold kPs;rw[ga]
theorem F7 (l:List P5) (k:Nat):(kPs l).take k=kPs (l.take k):=by unfold kPs;rw[gm]
theorem F8 (l:List P5) (k:Nat):(kPs l).drop k=kPs (l.drop k):=by unfold kPs;rw[gr]
theorem KP {n k:Nat} {l:List (List D)} (h:lens n l):lens n (l.take k):=fun e he=>h e (List.mem_of_mem_take he)
theorem KQ {n k:Nat} {l:List (List D)} (h:lens n l):lens n (l.drop k):=fun e he=>h e (List.mem_of_mem_drop he)
theorem wI {n:Int} (_: -9000000000000000000≤n∧n≤9000000000000000000:=by omega):W0 .i64 n=n:=zJ
def gK (gs:List D):Nat:=(toI (nth .undef gs 0)).toNat
theorem kK {l:List P5} {k:Nat} (h:k<l.length):((0:Int)≤(k:Int)∧(k:Int)<bb (kPs l).length∧bv (nth [] (kPs l) (W2 (k:Int)))=20):=by
 rw[bc,BD h,xi];exact⟨by omega,by simp only[ba];omega,rfl⟩
theorem zf {l:List P5} {k:Nat} (h:k<l.length):cut (nth [] (kPs l) (W2 (k:Int))) 0 20 (pk (kP l[k]) []):=by
 rw[bc,BD h];exact lE _
theorem NH (c:Cu):∀(l:List P5) (p:P5),(Qz c l p).length≤l.length+1
 |[],p=>by simp[Qz]
 |q::r,p=>by
  have:=NH c r p;unfold Qz;split
  ·simp only[cg];omega
  ·split<;>simp
theorem YW (c:Cu) {x:P5}:∀{l:List P5} {p:P5},x∈Qz c l p→x∈l∨x=p
 |[],p,h=>by simp[Qz]at h;exact .inr h
 |q::r,p,h=>by
  unfold Qz at h;split at h
  ·rcases c5.1 h with h|h
   ·exact .inl (by simp[h])
   ·rcases YW c h with h|h
    ·exact .inl (by simp[h])
    ·exact .inr h
  ·split at h
   ·exact .inl h
   ·rcases c5.1 h with h|h
    ·exact .inr h
    ·exact .inl h
noncomputable def soO (c:Cu) (l:List P5) (k:Nat):List P5:=(l.take k).foldl (Qz c) []
theorem X5 (c:Cu) (l:List P5):soO c l 0=[]:=by simp[soO]
theorem yV (c:Cu) {l:List P5} {k:Nat} (h:k<l.length):soO c l (k+1)=Qz c (soO c l k) l[k]:=by
 unfold soO;rw[bx h,el];rfl
theorem Zk (c:Cu) (l:List P5):soO c l l.length=yr c l:=by unfold soO yr;rw[cH]
theorem LB (c:Cu) (l:List P5):∀k,k≤l.length→(soO c l k).length≤k
 |0,_=>by rw[X5];simp
 |k+1,h=>by rw[yV c (by omega)];have h1:=LB c l k (by omega);have h2:=NH c (soO c l k) l[k];omega
theorem YX (c:Cu) (l:List P5):∀k,k≤l.length→∀x∈soO c l k,x∈l
 |0,_,x,hx=>by rw[X5]at hx;simp at hx
 |k+1,h,x,hx=>by
  rw[yV c (by omega)]at hx;rcases YW c hx with hx|hx
  ·exact YX c l k (by omega) x hx
  ·rw[hx];exact bw _
theorem wQ {c:Cu} {l:List P5} {x:P5} (h:x∈yr c l):x∈l:=by
 rw[←Zk]at h;exact YX c l _ (g4 _) x h
theorem X6 (c:Cu) (l:List P5):(yr c l).length≤l.length:=by
 rw[←Zk];exact LB c l _ (g4 _)
def inP (c:Cu) (out:List P5) (p:P5) (j:Nat):Prop:=j≤out.length∧Qz c out p=out.take j++Qz c (out.drop j) p
theorem F9 {c:Cu} {out:List P5} {p:P5} {j:Nat} (h:inP c out p j) (hj:j<out.length) (ho:jn c out[j] p<0):inP c out p (j+1):=by
 refine⟨hj,?_⟩;rw[h.2,cb hj,Qz,if_pos ho,bx hj,eb];rfl
def soI0 (c:Cu) (l:List P5) (_ ds:List D):Prop:=∃k:Nat,k≤l.length∧ds=[.int .i64 (k:Int),.sl (kPs (soO c l k))]
def soI1 (c:Cu) (l:List P5) (gs ds:List D):Prop:=∃j:Nat,ds=[.int .i64 (j:Int)]∧∀p,l[gK gs]? =some p→inP c (soO c l (gK gs)) p j
def soJ8 (c:Cu) (l:List P5) (gs ds:List D):Prop:=∃j:Nat,ds=[.int .i64 (j:Int)]∧∀p,l[gK gs]? =some p→inP c (soO c l (gK gs)) p j∧∀q,(soO c l (gK gs))[j]? =some q→¬jn c q p<0
def soJ9 (c:Cu) (l:List P5) (gs ds:List D):Prop:=∃j:Nat,ds=[.int .i64 (j:Int)]∧∀p,l[gK gs]? =some p→j≤(soO c l (gK gs)).length∧Qz c (soO c l (gK gs)) p=(soO c l (gK gs)).take j++p::(soO c l (gK gs)).drop j
def zP (n:Nat) (ds:List D):Nat:=n-(toI (nth .undef ds 0)).toNat
theorem YY (n:Nat) (z:Int) (t:List D):zP n (.int .i64 z::t)=n-z.toNat:=rfl
theorem qt {n k:Nat} {r s:List D} (h:k<n:=by omega) (hn:n≤1000000000:=by omega):zP n (.int .i64 (W0 .i64 ((k:Int)+1))::r)<zP n (.int .i64 (k:Int)::s):=by
 rw[YY,YY,wI];omega
theorem yz {c:Cu} (hc:Gc c) {l:List P5} (hl:∀p∈l,Gp p) (hn:l.length≤1000000):qe CC 203 [.ag (ck (kU c) []),.c (.sl (kPs l))] [.c (.sl (kPs (yr c l)))]:=by
 have hv:=Uo (qe CC) (soI0 c l) (zP l.length) (soI1 c l) (zP l.length) (soJ8 c l) (soJ9 c l) (kU c) (kPs l) (· =[.c (.sl (kPs (yr c l)))]);refine gOk Tryz.func203 hv ?_;clear hv;have a8:∀k,k≤l.length→∀x∈soO c l k,Gp x:=fun k hk x hx=>hl x (YX c l k hk x hx)
 have next:∀k:Nat,∀hk:k<l.length,∀a7,Qz c (soO c l k) l[k]=a7→soI0 c l [] [.int .i64 (W0 .i64 ((k:Int)+1)),.sl (kPs a7)]:=by intro k hk a7 ho;refine⟨k+1,hk,?_⟩;rw[wI,yV c hk,ho];rfl
 refine⟨⟨0,g3 _,by rw[X5];rfl⟩,?_⟩;rintro _ _ ⟨k,hk,he⟩;simp only[g0,U0,U3,and_true,true_and]at he;obtain⟨rfl,rfl⟩:=he;have hlen:=LB c l k hk;refine brd (fun h=>?_) (fun h=>?_)
 ·have a3:k<l.length:=by rw[xi]at h;simp only[ba]at h;omega
  have a5:l[k]? =some l[k]:=bs a3;have ad:=hl l[k] (bw a3);refine⟨⟨⟨0,rfl,fun p hp=>⟨g3 _,by simp⟩⟩,?_⟩,?_⟩
  ·rintro _ ⟨j,he,hj⟩;simp only[g0,U0,and_true,true_and]at he;subst he;have hj:inP c (soO c l k) l[k] j:=hj _ a5;refine brd (fun h1=>?_) (fun h1=>?_)
   ·have a4:j<(soO c l k).length:=by rw[xi]at h1;simp only[ba]at h1;omega
    refine⟨kK a4,_,zf a4,kK a3,_,zf a3,_,kJ hc (a8 k hk _ (bw a4)) ad,?_⟩;refine brd (fun h2=>?_) (fun h2=>?_)
    ·refine⟨⟨j+1,by rw[wI];rfl,fun p hp=>?_⟩,qt⟩;have e:p=l[k]:=by have:l[k]? =some p:=hp;rw[a5]at this;exact(h8 this).symm
     rw[e];exact F9 hj a4 h2
    ·refine⟨j,rfl,fun p hp=>?_⟩;have e:p=l[k]:=by have:l[k]? =some p:=hp;rw[a5]at this;exact(h8 this).symm
     rw[e];refine⟨hj,fun q hq=>?_⟩;have:(soO c l k)[j]? =some q:=hq;rw[bs a4]at this;rw[←h8 this];exact h2
   ·refine⟨j,rfl,fun p hp=>?_⟩;have e:p=l[k]:=by have:l[k]? =some p:=hp;rw[a5]at this;exact(h8 this).symm
    rw[e];refine⟨hj,fun q hq=>?_⟩;have:(soO c l k)[j]? =some q:=hq;rw[xi]at h1;simp only[ba]at h1;rw[List.getElem?_eq_none (by omega)]at this;cases this
  ·rintro _ ⟨j,he,hj⟩;simp only[g0,U0,and_true,true_and]at he;subst he;have hj:inP c (soO c l k) l[k] j∧∀q,(soO c l k)[j]? =some q→¬jn c q l[k]<0:=hj _ a5;refine⟨brd (fun h1=>?_) (fun h1=>?_),?_⟩
   ·have a4:j<(soO c l k).length:=by rw[xi]at h1;simp only[ba]at h1;omega
    have a9:=hj.2 _ (bs a4);refine⟨kK a4,_,zf a4,kK a3,_,zf a3,_,wP (a8 k hk _ (bw a4)) ad,?_⟩;refine zQ (fun h2=>?_) (fun h2=>?_)
    ·refine⟨next k a3 _ ?_,qt a3⟩;rw[hj.1.2,cb a4,Qz,if_neg a9,if_pos h2,←cb a4,List.take_append_drop]
    ·refine⟨j,rfl,fun p hp=>?_⟩;have e:p=l[k]:=by have:l[k]? =some p:=hp;rw[a5]at this;exact(h8 this).symm
     rw[e];refine⟨hj.1.1,?_⟩;show Qz c (soO c l k) l[k]=(soO c l k).take j++l[k]::(soO c l k).drop j;rw[hj.1.2,cb a4,Qz,if_neg a9,if_neg (by rw[h2];simp)]
   ·refine⟨j,rfl,fun p hp=>?_⟩;have e:p=l[k]:=by have:l[k]? =some p:=hp;rw[a5]at this;exact(h8 this).symm
    rw[e];refine⟨hj.1.1,?_⟩;show Qz c (soO c l k) l[k]=(soO c l k).take j++l[k]::(soO c l k).drop j;rw[xi]at h1;simp only[ba]at h1;rw[hj.1.2,dc (show(soO c l k).length≤j by omega)];rfl
   ·rintro _ ⟨i,he,hi⟩;simp only[g0,U0,and_true,true_and]at he;subst he;have hi:i≤(soO c l k).length∧Qz c (soO c l k) l[k]=(soO c l k).take i++l[k]::(soO c l k).drop i:=hi _ a5;have e1:([]:List (List D))++b9 0 (bm (W2 (i:Int)) (kPs (soO c l k)))++[pk (kP l[k]) []]++b9 (W2 (i:Int)) (bm (W2 (bb (bv (kPs (soO c l k))))) (kPs (soO c l k)))=kPs ((soO c l k).take i++l[k]::(soO c l k).drop i):=by rw[bc,List.drop_zero,fs,F7,ba,bc,cH,F8,KO,eb];rfl
    have a6:(0:Int)≤(i:Int)∧(i:Int)≤bb (bv (kPs (soO c l k))):=by rw[xi];simp only[ba];omega
    have hi2:=hi.1;refine⟨⟨bd _,a6.1,a6.2,yU _⟩,⟨?_,KQ (KP (yU _))⟩,kK a3,_,zf a3,⟨?_,fun e he=>by rw[ca.1 he];rfl⟩,⟨a6.1,a6.2,bd _,yU _⟩,⟨?_,KQ (KP (yU _))⟩,?_⟩
    ·unfold Hv;simp only[bc,c4,cp,xi];omega
    ·unfold Hv;simp only[bc,cv,dk,c4,cp,xi];omega
    ·unfold Hv;simp only[bc,ba,cv,dk,cg,c4,cp,xi];omega
    ·rw[e1];exact⟨next k a3 _ hi.2,qt a3⟩
 ·have a3:k=l.length:=by rw[xi]at h;simp only[ba]at h;omega
  rw[a3,Zk]
end Eng
end
section
namespace Eng
open Go Go.Proofs Rl
set_option maxRecDepth 100000
theorem qu (l:List Cu):(kUs l).length=l.length:=by unfold kUs;rw[ey]
theorem y5 {l:List Cu} {i:Nat} (h:i<l.length):nth [] (kUs l) i=ck (kU l[i]) []:=by
 rw[qF];unfold kUs;simp[h]
theorem vJ (l:List Cu):lens 66 (kUs l):=by
 intro e he;unfold kUs at he;obtain⟨p,_,rfl⟩:=e7.1 he;rfl
theorem lF (x:C66):cut (ck x []) 0 66 (ck x []):=⟨rfl,g4 66⟩
theorem wy (l m:List Cu):kUs (l++m)=kUs l++kUs m:=by unfold kUs;rw[ga]
theorem NI (l:List Cu) (k:Nat):(kUs l).take k=kUs (l.take k):=by unfold kUs;rw[gm]
theorem NJ (l:List Cu) (k:Nat):(kUs l).drop k=kUs (l.drop k):=by unfold kUs;rw[gr]
theorem xj {l:List Cu} {k:Nat} (h:k<l.length):((0:Int)≤(k:Int)∧(k:Int)<bb (kUs l).length∧bv (nth [] (kUs l) (W2 (k:Int)))=66):=by
 rw[bc,y5 h,qu];exact⟨by omega,by simp only[ba];omega,rfl⟩
theorem jj {l:List Cu} {k:Nat} (h:k<l.length):((0:Int)≤(k:Int)∧(k:Int)<bb (kUs l).length):=⟨(xj h).1,(xj h).2.1⟩
theorem xf {l:List Cu} {k:Nat} (h:k<l.length):cut (nth [] (kUs l) (W2 (k:Int))) 0 66 (ck (kU l[k]) []):=by
 rw[bc,y5 h];exact lF _
theorem BE (c:Cu) (p q:P5):(.bool (J4 (kU c))::(rk (Pl (kU c)) (rk (No (kU c)) (rk (M3 (kU c)) (rk (Lv (kU c)) (rk (Ls (kU c)) (rk (Lr (kU c)) (.bool (Lm (kU c))::(pk (kP p) (pk (kP q) []))))))))):List D)=ck (kU {c with fr:=p,tt:=q}) []:=by
 obtain⟨arc,ln,ci,cw,fr,tt,jk⟩:=c;cases arc<;>rfl
theorem Zl (c:Cu):∀l:List P5,(jg c l).length=l.length-1
 |[]=>rfl
 |[_]=>rfl
 |p::q::r=>by have:=Zl c (q::r);simp only[jg,cg]at this ⊢;omega
theorem Vx (c:Cu):∀(l:List P5) (k:Nat) (h:k+1<l.length),(jg c l)[k]? =some {c with fr:=l[k],tt:=l[k+1]}
 |[],k,h=>by simp at h
 |[_],k,h=>by simp at h
 |p::q::r,0,h=>rfl
 |p::q::r,k+1,h=>by
  have:=Vx c (q::r) k (by simpa using h)
  simpa [jg]using this
def spI0 (c:Cu) (l:List P5) (_ ds:List D):Prop:=∃k:Nat,k≤l.length∧ds=[.int .i64 (k:Int)]∧(l.take k).all (Xt c)=true
def spI1 (c:Cu) (m:List P5) (_ ds:List D):Prop:=∃k:Nat,1≤k∧k≤m.length+1∧ds=[.int .i64 (k:Int),.sl (kUs ((jg c m).take (k-1)))]
theorem vK {α:Type} {f:α→Bool} {l:List α} {k:Nat} (h:(l.take k).all f=true) (hk:k<l.length) (hf:f l[k]=true):(l.take (k+1)).all f=true:=by
 rw[bx hk,List.all_append,h,Aw];simp[hf]
theorem cE {α:Type} {f:α→Bool} {l:List α} {k:Nat} (hk:k<l.length) (hf:f l[k]=false):¬l.all f=true:=by
 intro h;rw[fS]at h;have:=h _ (bw hk);rw[hf]at this;cases this
theorem KR {c:Cu} (hc:Gc c) {l:List P5} (hl:∀p∈l,Gp p) (hn:l.length≤900000):∃e,qe CC 139 [.ag (ck (kU c) []),.c (.sl (kPs l))] [.c (.sl (kUs (jh c l))),.c (.int .i64 e)]:=by
 refine⟨if l.all (Xt c)=true then 0 else 1,?_⟩;have hv:=LA (qe CC) (spI0 c l) (zP l.length) (spI1 c (yr c (c.fr::c.tt::l))) (zP (l.length+3)) (kU c) (kPs l) (· =[.c (.sl (kUs (jh c l))),.c (.int .i64 (if l.all (Xt c)=true then 0 else 1))]);refine gOk Tryz.func139 hv ?_;clear hv;refine⟨⟨0,g3 _,rfl,by simp⟩,?_⟩;rintro _ ⟨k,hk,he,a3⟩;simp only[g0,U0,and_true,true_and]at he;subst he;refine brd (fun h=>?_) (fun h=>?_)
 ·have a4:k<l.length:=by rw[xi]at h;simp only[ba]at h;omega
  refine⟨kK a4,_,zf a4,_,yT hc (hl _ (bw a4)),?_⟩;refine brb (fun h1=>?_) (fun h1=>?_)
  ·have h2:Xt c l[k]=false:=by simpa using h1
   have h3:=cE a4 h2;unfold jh;rw[if_neg h3,if_neg h3];rfl
  ·have h2:Xt c l[k]=true:=by simpa using h1
   exact⟨⟨k+1,a4,by rw[wI];rfl,vK a3 a4 h2⟩,qt a4⟩
 ·have a4:k=l.length:=by rw[xi]at h;simp only[ba]at h;omega
  rw[a4,cH]at a3;have hm:∀p∈c.fr::c.tt::l,Gp p:=by
   intro p hp;simp only[c5]at hp;rcases hp with rfl|rfl|hp
   ·exact hc.2.1
   ·exact hc.2.2
   ·exact hl p hp
  have hs:=yz hc (l:=c.fr::c.tt::l) hm (by simp only[cg];omega);have hsp:jh c l=jg c (yr c (c.fr::c.tt::l)):=by unfold jh;rw[if_pos a3]
  have hml:(yr c (c.fr::c.tt::l)).length≤l.length+2:=by have:=X6 c (c.fr::c.tt::l);simpa using this
  rw[hsp,if_pos a3,kH,vG];refine⟨⟨by unfold Hv;rw[xi];omega,yU _⟩,_,hs,?_⟩;generalize yr c (c.fr::c.tt::l)=m at *;refine⟨⟨1,g4 1,by omega,by simp;rfl⟩,?_⟩;rintro _ _ ⟨k,hk1,hk2,he⟩;simp only[g0,U0,U3,and_true,true_and]at he;obtain⟨rfl,rfl⟩:=he;refine brd (fun h=>?_) (fun h=>?_)
  ·have a5:k<m.length:=by rw[xi]at h;simp only[ba]at h;omega
   have e1:W0 .i64 ((k:Int)-1)=((k-1:Nat):Int):=by rw[wI];omega
   have a7:k-1<m.length:=by omega
   have a6:(jg c m)[k-1]? =some {c with fr:=m[k-1],tt:=m[k]}:=by
    have:=Vx c m (k-1) (by omega);have e:k-1+1=k:=by omega
    simp only[e]at this;exact this
   obtain⟨hkc,a6⟩:=List.getElem?_eq_some_iff.1 a6;have e3:kUs ((jg c m).take (k-1))++[ck (kU {c with fr:=m[k-1],tt:=m[k]}) []]=kUs ((jg c m).take (k+1-1)):=by
    have e:k+1-1=(k-1)+1:=by omega
    rw[e,bx hkc,wy,a6];rfl
   rw[e1];refine⟨kK a7,_,zf a7,kK a5,_,zf a5,?_⟩;rw[BE,e3];refine⟨⟨?_,fun e he=>by rw[ca.1 he];rfl⟩,⟨k+1,by omega,by omega,by rw[wI];rfl⟩,qt⟩;unfold Hv;rw[qu,cp];omega
  ·have a5:m.length≤k:=by rw[xi]at h;simp only[ba]at h;omega
   rw[c9 (by rw[Zl];omega)]
end Eng
end
section
namespace Eng
open Go Go.Proofs Rl
set_option maxRecDepth 100000
theorem KS {l:Ln} {c:Ci} (hl:HL l) (hc:HC c) (h:okLn l):∀p∈Xs l c,Gp p:=by
 intro p hp;unfold Xs at hp;split at hp
 ·simp at hp
 rename_i h1;split at hp
 ·rw[ca.1 hp];obtain⟨hx,hy,_⟩:=YU hl hc h;exact⟨⟨hx.mono (by omega),V1,hy.mono (by omega),V1,V1⟩,Nw _⟩
 rename_i h2;have h3:0<WC l c:=by grind
 have hP:=Im hl hc h;have oP:=In (c:=c) h h3;split at hp
 ·simp only[c5,eH,or_false]at hp;rcases hp with rfl|rfl
  ·exact⟨hP.2,oP.2⟩
  ·exact⟨hP.1,oP.1⟩
 ·simp only[c5,eH,or_false]at hp;rcases hp with rfl|rfl
  ·exact⟨hP.1,oP.1⟩
  ·exact⟨hP.2,oP.2⟩
theorem Zm (l:Ln) (c:Ci):(Xs l c).length≤2:=by
 unfold Xs;split
 ·simp
 split
 ·simp
 split<;>simp
theorem BF {l m:Ln} (hl:HL l) (hm:HL m):∀p∈ZL l m,Gp p:=by
 intro p hp;unfold ZL at hp;split at hp
 ·rename_i h;rw[ca.1 hp];exact⟨⟨(Uf hl hm).div (KH hl hm) h (by omega),V1,(Ug hl hm).div (KH hl hm) h (by omega),V1,V1⟩,Nw _⟩
 ·simp at hp
theorem FA {c d:Cu} (hc:Gs c) (hd:Gs d):(∀p∈Qy c d,Gp p)∧(Qy c d).length≤2:=by
 unfold Qy;rcases hc.2 with⟨a1,h1⟩|⟨a1,h1⟩<;>rcases hd.2 with⟨a2,h2⟩|⟨a2,h2⟩
 ·rw[if_pos a1,if_pos a2];unfold yQ;split
  ·exact⟨by simp,by simp⟩
  ·rename_i h;exact⟨KS (NE h1.1 h2.1) h1.1 (ND h),Zm _ _⟩
 ·rw[if_pos a1,if_neg (by rw[a2];simp)];exact⟨KS h2.1 h1.1 h2.2,Zm _ _⟩
 ·rw[if_neg (by rw[a1];simp),if_pos a2];exact⟨KS h1.1 h2.1 h1.2,Zm _ _⟩
 ·rw[if_neg (by rw[a1];simp),if_neg (by rw[a2];simp)];refine⟨BF h1.1 h2.1,?_⟩;unfold ZL;split<;>simp
theorem NK {c d:Cu} (hc:Gc c) (hd:Gc d):(∀p∈Xu c d,Gp p)∧(Xu c d).length≤4:=by
 unfold Xu;split
 ·refine⟨fun p hp=>?_,by simp⟩;simp only[c5,eH,or_false]at hp;rcases hp with rfl|rfl|rfl|rfl
  ·exact hc.2.1
  ·exact hc.2.2
  ·exact hd.2.1
  ·exact hd.2.2
 ·have:=FA hc.1 hd.1;exact⟨this.1,by omega⟩
noncomputable def Zn (c d:Cu):Bool:=(c.arc&&(d.arc&&!(c.cw==d.cw)))||(!c.arc&&!(ja c.fr c.tt==ja d.fr d.tt))
noncomputable def mtD (c d:Cu):Cu:=if Zn c d=true then La d else d
noncomputable def mtB (d:Cu) (m:List P5):Nat→Bool
 |0=>false
 |t+1=>mtB d m t||(match m[t]?,m[t+1]? with
  |some p,some q=>decide (jn d p q<0)
  |_,_=>false)
noncomputable def PM (c d:Cu):Bool:=if zL c d=true then mtB (mtD c d) (zM c d) ((zM c d).length-1)else false
noncomputable def jL (c d:Cu) (p:P5):Bool:=Xt c p&&Xt d p
def mtI0 (c d:Cu) (L:List P5) (_ ds:List D):Prop:=∃k:Nat,k≤L.length∧ds=[.int .i64 (k:Int),.sl (kPs ((L.take k).filter (jL c d)))]
def tR (n:Nat) (d:Cu) (m:List P5) (_ ds:List D):Prop:=∃t:Nat,t≤n∧ds=[.int .i64 ((t+1:Nat):Int),.bool (mtB d m t)]
def mtJ (c d:Cu) (_ ds:List D):Prop:=ds=ck (kU (mtD c d)) []
theorem BG {x y:C66} (h:ck x []=ck y []):x=y:=by
 obtain⟨a1,a2,a3,a4,a5,a6,a7,a8,⟨⟨_,_,_,_⟩,⟨_,_,_,_⟩,⟨_,_,_,_⟩,⟨_,_,_,_⟩,⟨_,_,_,_⟩⟩,⟨⟨_,_,_,_⟩,⟨_,_,_,_⟩,⟨_,_,_,_⟩,⟨_,_,_,_⟩,⟨_,_,_,_⟩⟩⟩:=x;obtain⟨b1,b2,b3,b4,b5,b6,b7,b8,⟨⟨_,_,_,_⟩,⟨_,_,_,_⟩,⟨_,_,_,_⟩,⟨_,_,_,_⟩,⟨_,_,_,_⟩⟩,⟨⟨_,_,_,_⟩,⟨_,_,_,_⟩,⟨_,_,_,_⟩,⟨_,_,_,_⟩,⟨_,_,_,_⟩⟩⟩:=y;obtain⟨_,_,_,_⟩:=a2;obtain⟨_,_,_,_⟩:=a3;obtain⟨_,_,_,_⟩:=a4;obtain⟨_,_,_,_⟩:=a5;obtain⟨_,_,_,_⟩:=a6;obtain⟨_,_,_,_⟩:=a7;obtain⟨_,_,_,_⟩:=b2;obtain⟨_,_,_,_⟩:=b3;obtain⟨_,_,_,_⟩:=b4;obtain⟨_,_,_,_⟩:=b5;obtain⟨_,_,_,_⟩:=b6;obtain⟨_,_,_,_⟩:=b7;simp only[ck,pk,rk,g0,D.bool.injEq,U3,and_true]at h;simp only[C66.mk.injEq,R4.mk.injEq,P20.mk.injEq];simp only[h,and_self]
theorem xG {α:Type} {f:α→Bool} {l:List α} {k:Nat} (hk:k<l.length):(l.take (k+1)).filter f=(l.take k).filter f++(if f l[k]=true then [l[k]]else []):=by
 rw[bx hk,e5];congr 1;by_cases h:f l[k]=true<;>simp[h]
theorem PN {c d:Cu} (hc:Gc c) (hd:Gc d) (hcw:d.arc=false→d.cw=false):qe CC 138 [.ag (ck (kU c) []),.ag (ck (kU d) [])] [.c (.sl (kPs (zM c d))),.c (.bool (PM c d))]:=by
 have hL:=NK hc hd;have hv:=PL (qe CC) (mtI0 c d (Xu c d)) (zP (Xu c d).length) (tR (if zL c d=true then(zM c d).length-1 else 0) (mtD c d) (zM c d)) (zP 1000000) (mtJ c d) (kU c) (kU d) (· =[.c (.sl (kPs (zM c d))),.c (.bool (PM c d))]);refine gOk Tryz.func138 hv ?_;clear hv;have hm:(zM c d).length≤4:=by have h1:=X6 c ((Xu c d).filter fun p=>Xt c p&&Xt d p);have h2:=cL (fun p=>Xt c p&&Xt d p) (Xu c d);have h3:=hL.2;unfold zM;omega
 have a9:∀p∈zM c d,Gp p:=fun p hp=>hL.1 p (en.1 (wQ hp)).1
 have hD:Gc (mtD c d):=by
  unfold mtD;split
  ·exact hd.rev
  ·exact hd
 have ad:=yy hc.2.1 hc.2.2;have al:=yy hd.2.1 hd.2.2;rw[←kH,←vG]at ad al;have a5:Zn c d=true→mtJ c d [] (ck (kU (La d)) []):=fun h=>by unfold mtJ mtD;rw[if_pos h]
 have a3:Zn c d=false→mtJ c d [] (ck (kU d) []):=fun h=>by unfold mtJ mtD;rw[if_neg (by rw[h];simp)]
 have rv:=vI hcw
 --the points again
 have a8:∀(b:Bool),b=zL c d→∀(x:C66),mtJ c d [] (ck x [])→tR (if zL c d=true then(zM c d).length-1 else 0) (mtD c d) (zM c d) [] [T1 W1 (1:Int),Ts false]∧
  (∀(i:Int) (b_1:Bool),tR (if zL c d=true then(zM c d).length-1 else 0) (mtD c d) (zM c d) [] [T1 W1 i,Ts b_1]→∃t:Nat,i=((t+1:Nat):Int)∧t≤(if zL c d=true then(zM c d).length-1 else 0)∧b_1=mtB (mtD c d) (zM c d) t)∧x=kU (mtD c d):=by
  intro b hb x hx;refine⟨⟨0,g3 _,rfl⟩,?_,BG hx⟩;rintro i b1 ⟨t,ht,he⟩;simp only[g0,U0,D.bool.injEq,and_true,true_and]at he;exact⟨t,he.1,ht,he.2⟩
 refine⟨_,Zj hc.1 hd.1,?_⟩;refine brb (fun hsm=>?_) (fun hsm=>?_)
 ·have ap:zL c d=false:=by simpa using hsm
  obtain⟨e,hsu⟩:=YV hc.1 hd.1;have a7:Xu c d=Qy c d:=by unfold Xu;rw[if_neg (by rw[ap];simp)]
  rw[a7]at hL;obtain⟨hG,hG2⟩:=hL;rw[a7];refine⟨_,_,hsu,?_⟩;refine⟨⟨0,g3 _,rfl⟩,?_⟩;rintro _ _ ⟨k,hkl,he⟩;simp only[g0,U0,U3,and_true,true_and]at he;obtain⟨rfl,rfl⟩:=he;refine brd (fun h=>?_) (fun h=>?_)
  ·have hk:k<(Qy c d).length:=by rw[xi]at h;simp only[ba]at h;omega
   have hp:=hG _ (bw hk);have an:=cL (jL c d) (bm k (Qy c d));rw[cp]at an;refine⟨kK hk,_,zf hk,_,yT hc hp,?_⟩;refine zQ (fun h1=>?_) (fun h1=>?_)
   ·refine⟨kK hk,_,zf hk,_,yT hd hp,?_⟩;refine zQ (fun h2=>?_) (fun h2=>?_)
    ·refine⟨kK hk,_,zf hk,⟨?_,fun e he=>by rw[ca.1 he];rfl⟩,⟨k+1,hk,?_⟩,qt hk⟩
     ·unfold Hv;rw[xi];omega
     ·rw[wI,xG hk,if_pos (by unfold jL;rw[h1,h2];rfl),KO];rfl
    ·refine⟨⟨k+1,hk,?_⟩,qt hk⟩;rw[wI,xG hk,if_neg (by unfold jL;rw[h1,h2];simp),ea];rfl
   ·refine⟨⟨k+1,hk,?_⟩,qt hk⟩;rw[wI,xG hk,if_neg (by unfold jL;rw[h1];simp),ea];rfl
  ·have hk:(Qy c d).length≤k:=by rw[xi]at h;simp only[ba]at h;omega
   rw[c9 hk];have hs:=yz hc (l:=(Qy c d).filter (jL c d)) (fun p hp=>hG p (en.1 hp).1) (by have:=cL (jL c d) (Qy c d);omega);have hP:yr c ((Qy c d).filter (jL c d))=zM c d:=by unfold zM jL;rw[a7]
   rw[hP]at hs;refine⟨_,hs,?_,?_⟩
   ·rw[yx,yx,ZY,ZY];have b2:c.arc=false→∃i,qe CC 164 [Hx (pk (J3 (kU c)) []),Hx (pk (I3 (kU c)) [])] [Hy (T1 W1 i)]∧∃i_1,qe CC 164 [Hx (pk (J3 (kU d)) []),Hx (pk (I3 (kU d)) [])] [Hy (T1 W1 i_1)]∧
     br (toB (Ts (i !=i_1))) (∃x,qe CC 201 [Hx (ck (kU d) [])] [Hx (ck x [])]∧mtJ c d [] (ck x [])) (mtJ c d [] (ck (kU d) [])):=fun ha=>by
     refine⟨_,ad,_,al,?_⟩;refine brb (fun h1=>⟨_,rv,a5 ?_⟩) (fun h1=>a3 ?_)
     ·unfold Zn;rw[ha];simpa using h1
     ·unfold Zn;rw[ha];simpa using h1
    cases ha:c.arc with
    |true=>
     refine brb (fun _=>?_) (fun h=>by cases h);cases hb:d.arc with
     |true=>
      refine brb (fun _=>?_) (fun h=>by cases h);refine brb (fun h1=>⟨_,rv,a5 ?_⟩) (fun h1=>?_)
      ·unfold Zn;rw[ha,hb];simpa using h1
      ·refine brb (fun h=>by cases h) (fun _=>a3 ?_);unfold Zn;rw[ha,hb];simpa using h1
     |false=>refine brb (fun h=>by cases h) (fun _=>?_);refine brb (fun h=>by cases h) (fun _=>a3 ?_);unfold Zn;rw[ha,hb];rfl
    |false=>refine brb (fun h=>by cases h) (fun _=>?_);exact brb (fun _=>b2 ha) (fun h=>by cases h)
   ·intro x hx;obtain⟨t1,t2,rfl⟩:=a8 _ rfl x hx;refine⟨t1,?_⟩;intro i b1 hi;obtain⟨t,rfl,ht,rfl⟩:=t2 i b1 hi;refine zQ (fun hsm=>?_) (fun hsm=>?_)
    ·rw[if_pos hsm]at ht;refine brd (fun h1=>?_) (fun h1=>?_)
     ·have a4:t+1<(zM c d).length:=by rw[xi]at h1;simp only[ba]at h1;omega
      have dn:∀r s:List D,zP 1000000 (.int .i64 (W0 .i64 (((t+1:Nat):Int)+1))::r)<zP 1000000 (.int .i64 ((t+1:Nat):Int)::s):=fun r s=>qt
      refine zQ (fun h2=>?_) (fun h2=>?_)
      ·refine⟨⟨t+1,by rw[if_pos hsm];omega,?_⟩,dn _ _⟩;rw[wI,mtB,h2,Hu];rfl
      ·have e1:W0 .i64 (((t+1:Nat):Int)-1)=((t:Nat):Int):=by rw[wI];omega
       have a6:t<(zM c d).length:=by omega
       rw[e1];refine⟨kK a6,_,zf a6,kK a4,_,zf a4,_,kJ hD (a9 _ (bw a6)) (a9 _ (bw a4)),⟨t+1,by rw[if_pos hsm];omega,?_⟩,dn _ _⟩;rw[wI,mtB,h2,F0,bs a6,bs a4];rfl
     ·have a4:t=(zM c d).length-1:=by rw[xi]at h1;simp only[ba]at h1;omega
      unfold PM;rw[if_pos hsm,a4]
    ·rw[if_neg (by rw[hsm];simp)]at ht;obtain rfl:t=0:=by omega
     unfold PM;rw[if_neg (by rw[hsm];simp)];rfl
 ·have ap:zL c d=true:=by simpa using hsm
  have a7:Xu c d=[c.fr,c.tt,d.fr,d.tt]:=by unfold Xu;rw[if_pos ap]
  rw[a7]at hL;obtain⟨hG,hG2⟩:=hL;have e4:[pk (J3 (kU c)) [],pk (I3 (kU c)) [],pk (J3 (kU d)) [],pk (I3 (kU d)) []]=kPs [c.fr,c.tt,d.fr,d.tt]:=by rw[kH,kH,vG,vG];rfl
  rw[a7,e4];refine⟨⟨0,g3 _,rfl⟩,?_⟩;rintro _ _ ⟨k,hkl,he⟩;simp only[g0,U0,U3,and_true,true_and]at he;obtain⟨rfl,rfl⟩:=he;refine brd (fun h=>?_) (fun h=>?_)
  ·have hk:k<([c.fr,c.tt,d.fr,d.tt]).length:=by simp only[cg,dk];omega
   have hp:=hG _ (bw hk);have an:=cL (jL c d) (bm k ([c.fr,c.tt,d.fr,d.tt]));rw[cp]at an;refine⟨⟨by omega,by omega⟩,_,zf hk,_,yT hc hp,?_⟩;refine zQ (fun h1=>?_) (fun h1=>?_)
   ·refine⟨⟨by omega,by omega⟩,_,zf hk,_,yT hd hp,?_⟩;refine zQ (fun h2=>?_) (fun h2=>?_)
    ·refine⟨⟨by omega,by omega⟩,_,zf hk,⟨?_,fun e he=>by rw[ca.1 he];rfl⟩,⟨k+1,hk,?_⟩,qt hk⟩
     ·unfold Hv;rw[xi];omega
     ·rw[wI,xG hk,if_pos (by unfold jL;rw[h1,h2];rfl),KO];rfl
    ·refine⟨⟨k+1,hk,?_⟩,qt hk⟩;rw[wI,xG hk,if_neg (by unfold jL;rw[h1,h2];simp),ea];rfl
   ·refine⟨⟨k+1,hk,?_⟩,qt hk⟩;rw[wI,xG hk,if_neg (by unfold jL;rw[h1];simp),ea];rfl
  ·have hk:([c.fr,c.tt,d.fr,d.tt]).length≤k:=by simp only[cg,dk];omega
   rw[c9 hk];have hs:=yz hc (l:=([c.fr,c.tt,d.fr,d.tt]).filter (jL c d)) (fun p hp=>hG p (en.1 hp).1) (by have:=cL (jL c d) ([c.fr,c.tt,d.fr,d.tt]);omega);have hP:yr c (([c.fr,c.tt,d.fr,d.tt]).filter (jL c d))=zM c d:=by unfold zM jL;rw[a7]
   rw[hP]at hs;refine⟨_,hs,?_,?_⟩
   ·rw[yx,yx,ZY,ZY];have b2:c.arc=false→∃i,qe CC 164 [Hx (pk (J3 (kU c)) []),Hx (pk (I3 (kU c)) [])] [Hy (T1 W1 i)]∧∃i_1,qe CC 164 [Hx (pk (J3 (kU d)) []),Hx (pk (I3 (kU d)) [])] [Hy (T1 W1 i_1)]∧
     br (toB (Ts (i !=i_1))) (∃x,qe CC 201 [Hx (ck (kU d) [])] [Hx (ck x [])]∧mtJ c d [] (ck x [])) (mtJ c d [] (ck (kU d) [])):=fun ha=>by
     refine⟨_,ad,_,al,?_⟩;refine brb (fun h1=>⟨_,rv,a5 ?_⟩) (fun h1=>a3 ?_)
     ·unfold Zn;rw[ha];simpa using h1
     ·unfold Zn;rw[ha];simpa using h1
    cases ha:c.arc with
    |true=>
     refine brb (fun _=>?_) (fun h=>by cases h);cases hb:d.arc with
     |true=>
      refine brb (fun _=>?_) (fun h=>by cases h);refine brb (fun h1=>⟨_,rv,a5 ?_⟩) (fun h1=>?_)
      ·unfold Zn;rw[ha,hb];simpa using h1
      ·refine brb (fun h=>by cases h) (fun _=>a3 ?_);unfold Zn;rw[ha,hb];simpa using h1
     |false=>refine brb (fun h=>by cases h) (fun _=>?_);refine brb (fun h=>by cases h) (fun _=>a3 ?_);unfold Zn;rw[ha,hb];rfl
    |false=>refine brb (fun h=>by cases h) (fun _=>?_);exact brb (fun _=>b2 ha) (fun h=>by cases h)
   ·intro x hx;obtain⟨t1,t2,rfl⟩:=a8 _ rfl x hx;refine⟨t1,?_⟩;intro i b1 hi;obtain⟨t,rfl,ht,rfl⟩:=t2 i b1 hi;refine zQ (fun hsm=>?_) (fun hsm=>?_)
    ·rw[if_pos hsm]at ht;refine brd (fun h1=>?_) (fun h1=>?_)
     ·have a4:t+1<(zM c d).length:=by rw[xi]at h1;simp only[ba]at h1;omega
      have dn:∀r s:List D,zP 1000000 (.int .i64 (W0 .i64 (((t+1:Nat):Int)+1))::r)<zP 1000000 (.int .i64 ((t+1:Nat):Int)::s):=fun r s=>qt
      refine zQ (fun h2=>?_) (fun h2=>?_)
      ·refine⟨⟨t+1,by rw[if_pos hsm];omega,?_⟩,dn _ _⟩;rw[wI,mtB,h2,Hu];rfl
      ·have e1:W0 .i64 (((t+1:Nat):Int)-1)=((t:Nat):Int):=by rw[wI];omega
       have a6:t<(zM c d).length:=by omega
       rw[e1];refine⟨kK a6,_,zf a6,kK a4,_,zf a4,_,kJ hD (a9 _ (bw a6)) (a9 _ (bw a4)),⟨t+1,by rw[if_pos hsm];omega,?_⟩,dn _ _⟩;rw[wI,mtB,h2,F0,bs a6,bs a4];rfl
     ·have a4:t=(zM c d).length-1:=by rw[xi]at h1;simp only[ba]at h1;omega
      unfold PM;rw[if_pos hsm,a4]
    ·rw[if_neg (by rw[hsm];simp)]at ht;obtain rfl:t=0:=by omega
     unfold PM;rw[if_neg (by rw[hsm];simp)];rfl
end Eng
end
section
open Go Go.Proofs Eng
namespace Eng
theorem Up (Gv:Nat→List A→List A→Prop) (I0:List D→List D→Prop) (M0:List D→Nat) (I1:List D→List D→Prop) (M1:List D→Nat) (J7:List D→List D→Prop) (J9:List D→List D→Prop) (J17:List D→List D→Prop) (c0:C66) (Q:List A→Prop):wpF CC Gv (Ta (Ta (Ta (Vd ⟨[.slot 8 (.int .i64 0),.own 7 85 66],[],I0,M0⟩ ⟨[.slot 10 (.int .i64 0)],[.slot 8 (.int .i64 0)],I1,M1⟩) 7 ⟨[.own 6 86 20],[],J7,fun _=>0⟩) 9 ⟨[.own 6 86 20],[],J9,fun _=>0⟩) 17 ⟨[.box 9 zC],[.slot 8 (.int .i64 0)],J17,fun _=>0⟩) Tryz.f137 [.ag (ck c0 [])] Q=(bB (J4 c0) (∃x x1,Gv 79 [aT (Lv c0) (Ls c0) (Lr c0)] [aP x,aP x1]∧(∃b,Gv 200 [aC c0,aP x] [aB b]∧br b ((room 1∧lens 20 [(pk x [])])∧J7 [] [P1 [(pk x [])]]) (J7 [] [P1 []]))∧∀(es:List (List D)),J7 [] [P1 es]→(∃b,Gv 200 [aC c0,aP x1] [aB b]∧br b ((room (es.length+1)∧lens 20 [(pk x1 [])])∧J9 [] [P1 (es++[(pk x1 [])])]) (J9 [] [P1 es]))∧∀(es:List (List D)),J9 [] [P1 es]→∃e1 i,Gv 139 [aC c0,aL es] [aL e1,aI i]∧I0 [] [dI (0:Int),P1 []]∧∀(i:Int) (es:List (List D)),I0 [] [dI i,P1 es]→bB (decide (i<(bb e1.length))) (rO e1 i 66∧∃x,cU e1 i 0 66 (ck x [])∧(∃i_1,Gv 164 [aP (J3 x),aP (I3 x)] [aI i_1]∧bB (decide (i_1>0)) (∃x2,Gv 201 [aC x] [aC x2]∧J17 [dI i] (ck x2 [])) (J17 [dI i] (ck x [])))∧∀(x:C66),J17 [dI i] (ck x [])→I1 [dI i] [dI (0:Int)]∧∀(i_1:Int),I1 [dI i] [dI i_1]→bB (decide (i_1<(bb es.length))) ((0≤i_1∧i_1<(bb es.length))∧∃x2,cU es i_1 0 66 (ck x2 [])∧∃i_2,Gv 136 [aC x2,aC x] [aI i_2]∧bB (decide (i_2≤0)) (I1 [dI i] [dI (W0 .i64 (i_1+1))]∧M1 [dI (W0 .i64 (i_1+1))]<M1 [dI i_1]) ((0≤i_1∧i_1≤(bb es.length))∧(0≤i_1∧i_1≤(bb es.length)∧(bb es.length)≤(bb es.length))∧(room (1+bv (bm (W2 (bb es.length)-W2 i_1) (b9 (W2 i_1) es)))∧lens 66 (bm (W2 (bb es.length)-W2 i_1) (b9 (W2 i_1) es)))∧(room (bv (bm (W2 i_1) es)+bv ((ck x [])::(([])++(bm (W2 (bb es.length)-W2 i_1) (b9 (W2 i_1) es)))))∧lens 66 ((ck x [])::(([])++(bm (W2 (bb es.length)-W2 i_1) (b9 (W2 i_1) es)))))∧I0 [] [dI (W0 .i64 (i+1)),P1 (bm (W2 i_1) es++(ck x [])::(([])++(bm (W2 (bb es.length)-W2 i_1) (b9 (W2 i_1) es))))]∧M0 [dI (W0 .i64 (i+1)),P1 (bm (W2 i_1) es++(ck x [])::(([])++(bm (W2 (bb es.length)-W2 i_1) (b9 (W2 i_1) es))))]<M0 [dI i,P1 es])) ((0≤i_1∧i_1≤(bb es.length))∧(0≤i_1∧i_1≤(bb es.length)∧(bb es.length)≤(bb es.length))∧(room (1+bv (bm (W2 (bb es.length)-W2 i_1) (b9 (W2 i_1) es)))∧lens 66 (bm (W2 (bb es.length)-W2 i_1) (b9 (W2 i_1) es)))∧(room (bv (bm (W2 i_1) es)+bv ((ck x [])::(([])++(bm (W2 (bb es.length)-W2 i_1) (b9 (W2 i_1) es)))))∧lens 66 ((ck x [])::(([])++(bm (W2 (bb es.length)-W2 i_1) (b9 (W2 i_1) es)))))∧I0 [] [dI (W0 .i64 (i+1)),P1 (bm (W2 i_1) es++(ck x [])::(([])++(bm (W2 (bb es.length)-W2 i_1) (b9 (W2 i_1) es))))]∧M0 [dI (W0 .i64 (i+1)),P1 (bm (W2 i_1) es++(ck x [])::(([])++(bm (W2 (bb es.length)-W2 i_1) (b9 (W2 i_1) es))))]<M0 [dI i,P1 es])) (Q [aL es])) (I0 [] [dI (0:Int),P1 []]∧∀(i:Int) (es:List (List D)),I0 [] [dI i,P1 es]→bB (decide (i<1)) ((0≤i∧i<1)∧∃x,cut (nth [] [(ck c0 [])] (W2 i)) 0 66 (ck x [])∧(∃i_1,Gv 164 [aP (J3 x),aP (I3 x)] [aI i_1]∧bB (decide (i_1>0)) (∃x1,Gv 201 [aC x] [aC x1]∧J17 [dI i] (ck x1 [])) (J17 [dI i] (ck x [])))∧∀(x:C66),J17 [dI i] (ck x [])→I1 [dI i] [dI (0:Int)]∧∀(i_1:Int),I1 [dI i] [dI i_1]→bB (decide (i_1<(bb es.length))) ((0≤i_1∧i_1<(bb es.length))∧∃x1,cU es i_1 0 66 (ck x1 [])∧∃i_2,Gv 136 [aC x1,aC x] [aI i_2]∧bB (decide (i_2≤0)) (I1 [dI i] [dI (W0 .i64 (i_1+1))]∧M1 [dI (W0 .i64 (i_1+1))]<M1 [dI i_1]) ((0≤i_1∧i_1≤(bb es.length))∧(0≤i_1∧i_1≤(bb es.length)∧(bb es.length)≤(bb es.length))∧(room (1+bv (bm (W2 (bb es.length)-W2 i_1) (b9 (W2 i_1) es)))∧lens 66 (bm (W2 (bb es.length)-W2 i_1) (b9 (W2 i_1) es)))∧(room (bv (bm (W2 i_1) es)+bv ((ck x [])::(([])++(bm (W2 (bb es.length)-W2 i_1) (b9 (W2 i_1) es)))))∧lens 66 ((ck x [])::(([])++(bm (W2 (bb es.length)-W2 i_1) (b9 (W2 i_1) es)))))∧I0 [] [dI (W0 .i64 (i+1)),P1 (bm (W2 i_1) es++(ck x [])::(([])++(bm (W2 (bb es.length)-W2 i_1) (b9 (W2 i_1) es))))]∧M0 [dI (W0 .i64 (i+1)),P1 (bm (W2 i_1) es++(ck x [])::(([])++(bm (W2 (bb es.length)-W2 i_1) (b9 (W2 i_1) es))))]<M0 [dI i,P1 es])) ((0≤i_1∧i_1≤(bb es.length))∧(0≤i_1∧i_1≤(bb es.length)∧(bb es.length)≤(bb es.length))∧(room (1+bv (bm (W2 (bb es.length)-W2 i_1) (b9 (W2 i_1) es)))∧lens 66 (bm (W2 (bb es.length)-W2 i_1) (b9 (W2 i_1) es)))∧(room (bv (bm (W2 i_1) es)+bv ((ck x [])::(([])++(bm (W2 (bb es.length)-W2 i_1) (b9 (W2 i_1) es)))))∧lens 66 ((ck x [])::(([])++(bm (W2 (bb es.length)-W2 i_1) (b9 (W2 i_1) es)))))∧I0 [] [dI (W0 .i64 (i+1)),P1 (bm (W2 i_1) es++(ck x [])::(([])++(bm (W2 (bb es.length)-W2 i_1) (b9 (W2 i_1) es))))]∧M0 [dI (W0 .i64 (i+1)),P1 (bm (W2 i_1) es++(ck x [])::(([])++(bm (W2 (bb es.length)-W2 i_1) (b9 (W2 i_1) es))))]<M0 [dI i,P1 es])) (Q [aL es]))):=by kernel_rfl
end Eng
end
section
namespace Eng
open Go Go.Proofs Rl
set_option maxRecDepth 100000
theorem KT {p q:P5} (h:ZJ p q):ZJ q p:=⟨h.1.symm,h.2.symm⟩
theorem X7 (p q:P5):kO p q=kO q p:=by
 rw[Bool.eq_iff_iff,jf,jf];exact⟨KT,KT⟩
theorem NL {p q:P5} (h:ZJ p q):ja p q=0:=ym.2 h
theorem BH {c:Ci} {p q:P5} (h:ZJ p q):upB c p=upB c q:=by unfold upB;rw[h.1,h.2]
theorem Uq {c:Ci} {p q:P5} (h:ZJ p q):qx c p q=0:=by
 unfold qx;rw[if_pos (BH h),h.1,sbs,zH];split<;>rfl
theorem Q6 {c:Ci} {p q:P5} (f:P5) (h:ZJ p q):qx c p f=qx c q f:=by
 unfold qx;rw[BH h,h.1]
theorem BI {c:Ci} {f p q:P5} (h:ZJ p q):vF c f p q=0:=by
 unfold vF;rw[Q6 f h,if_pos rfl,Uq h]
theorem NM {p q:P5} (h:ZJ p q):ZJ (QD p) (QD q):=⟨by rw[K7,K7,h.1],by rw[AZ,AZ,h.2]⟩
theorem KU {c:Cu} {p q:P5} (h:ZJ p q):jn c p q=0:=by
 unfold jn;split
 ·split
  ·exact BI (NM h)
  ·exact BI h
 ·rw[NL h];split<;>rfl
theorem lG {c:Cu} {p q:P5} (h:jn c p q<0):kO p q=false:=by
 cases he:kO p q with
 |false=>rfl
 |true=>rw[KU (jf.1 he)]at h;omega
def nbr:List P5→Prop
 |p::q::r=>kO p q=false∧nbr (q::r)
 |_=>True
theorem FC {p:P5} {l:List P5} (h:nbr (p::l)):nbr l:=by
 cases l with
 |nil=>trivial
 |cons q r=>exact h.2
theorem BJ (c:Cu) (l:List P5) (p:P5):(∃r,Qz c l p=p::r)∨(∃q r s,l=q::r∧Qz c l p=q::s):=by
 cases l with
 |nil=>exact .inl ⟨[],rfl⟩
 |cons q r=>
  unfold Qz;split
  ·exact .inr ⟨q,r,_,rfl,rfl⟩
  ·split
   ·exact .inr ⟨q,r,_,rfl,rfl⟩
   ·exact .inl ⟨_,rfl⟩
theorem NN (c:Cu) (p:P5):∀{l:List P5},nbr l→nbr (Qz c l p)
 |[],_=>trivial
 |q::r,h=>by
  unfold Qz;split
  ·rename_i ho;have h1:=NN c p (FC h);rcases BJ c r p with⟨s,e⟩|⟨a,b,s,e1,e2⟩
   ·rw[e]at h1 ⊢;exact⟨lG ho,h1⟩
   ·rw[e2]at h1 ⊢;rw[e1]at h;exact⟨h.1,h1⟩
  ·split
   ·exact h
   ·rename_i h2;exact⟨by rw[X7];simpa using h2,h⟩
theorem BK (c:Cu) (l:List P5):nbr (yr c l):=by
 rw[←Zk];have:∀k,k≤l.length→nbr (soO c l k):=by
  intro k
  induction k with
  |zero=>intro _;rw[X5];trivial
  |succ k ih=>intro h;rw[yV c (by omega)];exact NN c _ (ih (by omega))
 exact this _ (g4 _)
theorem Vy {c x:Cu}:∀{l:List P5},nbr l→x∈jg c l→∃p q,p∈l∧q∈l∧kO p q=false∧x={c with fr:=p,tt:=q}
 |[],_,h=>by simp[jg]at h
 |[_],_,h=>by simp[jg]at h
 |p::q::r,hn,h=>by
  simp only[jg,c5]at h;rcases h with h|h
  ·exact⟨p,q,by simp,by simp,hn.1,h⟩
  ·obtain⟨a,b,h1,h2,h3⟩:=Vy hn.2 h;exact⟨a,b,by simp[h1],by simp[h2],h3⟩
theorem FD {c:Cu} (h:WD c=true) {p q:P5} (hp:Jk c p=true) (hq:Jk c q=true) (hne:kO p q=false):WD {c with fr:=p,tt:=q}=true:=by
 unfold WD at h ⊢;simp only[Bx,F2]at h ⊢;exact⟨h.1,hp,hq,hne⟩
theorem Gd.ends {c:Cu} (h:Gd c) {p q:P5} (gp:Gp p) (gq:Gp q) (hp:Jk c p=true) (hq:Jk c q=true) (hne:kO p q=false):Gd {c with fr:=p,tt:=q}:=
 ⟨⟨h.1.1,gp,gq⟩,FD h.2 hp hq hne⟩
theorem YZ {c:Cu} {p:P5} (h:Xt c p=true):Jk c p=true:=by
 unfold Xt at h;simp only[Bx]at h;exact h.1
theorem Ur {c x:Cu} {l:List P5} (hx:x∈jh c l):l.all (Xt c)=true∧∃p q,p∈c.fr::c.tt::l∧q∈c.fr::c.tt::l∧kO p q=false∧x={c with fr:=p,tt:=q}:=by
 unfold jh at hx;split at hx
 ·rename_i a3;obtain⟨p,q,h1,h2,h3,h4⟩:=Vy (BK c _) hx;exact⟨a3,p,q,wQ h1,wQ h2,h3,h4⟩
 ·simp at hx
theorem Ga {c:Cu} (h:Gd c) {l:List P5} (hl:∀p∈l,Gp p):∀x∈jh c l,Gd x:=by
 intro x hx;obtain⟨a4,p,q,hp,hq,hne,rfl⟩:=Ur hx;have a3:∀p∈c.fr::c.tt::l,Gp p∧Jk c p=true:=by
  intro p hp;simp only[c5]at hp;rcases hp with rfl|rfl|hp
  ·exact⟨h.1.2.1,h.sup.1⟩
  ·exact⟨h.1.2.2,h.sup.2.1⟩
  ·exact⟨hl p hp,YZ (fS.1 a4 p hp)⟩
 exact h.ends (a3 p hp).1 (a3 q hq).1 (a3 p hp).2 (a3 q hq).2 hne
theorem Us (c:Cu) (l:List P5):(jh c l).length≤l.length+1:=by
 unfold jh;split
 ·rw[Zl];have:=X6 c (c.fr::c.tt::l);simp only[cg]at this;omega
 ·simp
theorem Gd.rev {c:Cu} (h:Gd c):Gd (La c):=by
 refine⟨h.1.rev,?_⟩;obtain⟨h1,h2,h3⟩:=h.sup;have h4:=h.2;have hs:∀p,Jk (La c) p=Jk c p:=fun p=>rfl
 unfold WD at h4 ⊢;rw[show kO (La c).fr (La c).tt=false by rw[X7];exact h3,hs,hs,show(La c).fr=c.tt from rfl,show(La c).tt=c.fr from rfl,h1,h2];rw[h1,h2,h3]at h4;show((if c.arc=true then decide (0<c.ci.q)else !(c.arc&&!c.cw)&&decide (¬(c.ln.a=0∧c.ln.b=0)))&&_)=true;cases ha:c.arc with
 |true=>rw[ha]at h4;exact h4
 |false=>rw[ha]at h4;simp only[Dd,if_false,Bx]at h4;simp only[Dd,if_false,Bool.false_and,Aw];rw[h4.1.2];rfl
theorem NO {c:Cu} (h:Gd c):Gd (qB c):=by
 unfold qB;split
 ·exact h.rev
 ·exact h
theorem NP:∀(l:List Cu) (p:Cu),(G8 l p).length=l.length+1
 |[],p=>rfl
 |q::r,p=>by
  unfold G8;split
  ·simp only[cg,NP r p]
  ·rfl
theorem NQ {x:Cu}:∀{l:List Cu} {p:Cu},x∈G8 l p→x∈l∨x=p
 |[],p,h=>by simp[G8]at h;exact .inr h
 |q::r,p,h=>by
  unfold G8 at h;split at h
  ·rcases c5.1 h with h|h
   ·exact .inl (by simp[h])
   ·rcases NQ h with h|h
    ·exact .inl (by simp[h])
    ·exact .inr h
  ·rcases c5.1 h with h|h
   ·exact .inr h
   ·exact .inl h
noncomputable def pcO (l:List Cu) (k:Nat):List Cu:=(l.take k).foldl G8 []
theorem Jv (l:List Cu):pcO l 0=[]:=by simp[pcO]
theorem Gb {l:List Cu} {k:Nat} (h:k<l.length):pcO l (k+1)=G8 (pcO l k) l[k]:=by
 unfold pcO;rw[bx h,el];rfl
theorem cF (l:List Cu):pcO l l.length=l.foldl G8 []:=by unfold pcO;rw[cH]
theorem KV (l:List Cu):∀k,k≤l.length→(pcO l k).length=k
 |0,_=>by rw[Jv];rfl
 |k+1,h=>by rw[Gb (by omega),NP,KV l k (by omega)]
theorem Ge (l:List Cu):∀k,k≤l.length→∀x∈pcO l k,x∈l
 |0,_,x,hx=>by rw[Jv]at hx;simp at hx
 |k+1,h,x,hx=>by
  rw[Gb (by omega)]at hx;rcases NQ hx with hx|hx
  ·exact Ge l k (by omega) x hx
  ·rw[hx];exact bw _
noncomputable def xk (c:Cu):List Cu:=if c.arc=true then jh c ((if Wu c (jp c.ci)=true then [jp c.ci]else [])++(if Wu c (xU c.ci)=true then [xU c.ci]else []))else [c]
theorem Zo (c:Cu):ze c=pcO ((xk c).map qB) ((xk c).map qB).length:=by rw[cF];rfl
theorem BL {c:Cu} (h:Gd c):(∀x∈xk c,Gd x)∧(xk c).length≤3:=by
 unfold xk;split
 ·rename_i ha;obtain⟨hc,hq⟩:=h.circ ha;obtain⟨⟨l1,l2⟩,⟨r1,r2⟩⟩:=Ju hc hq;refine⟨Ga h (fun p hp=>?_),?_⟩
  ·rcases dl.1 hp with hp|hp
   ·split at hp
    ·rw[ca.1 hp];exact⟨l1,l2⟩
    ·simp at hp
   ·split at hp
    ·rw[ca.1 hp];exact⟨r1,r2⟩
    ·simp at hp
  ·refine hh (Us _ _) ?_;rw[cv];split<;>split<;>simp
 ·exact⟨fun x hx=>by rw[ca.1 hx];exact h,by simp⟩
theorem Vz {c:Cu} (h:Gd c):(∀x∈ze c,Gd x)∧(ze c).length≤3:=by
 obtain⟨h1,h2⟩:=BL h;rw[Zo];refine⟨fun x hx=>?_,?_⟩
 ·have:=Ge _ _ (g4 _) x hx;obtain⟨y,hy,rfl⟩:=e7.1 this;exact NO (h1 y hy)
 ·rw[KV _ _ (g4 _),ey];exact h2
end Eng
end
section
namespace Eng
open Go Go.Proofs Rl
set_option maxRecDepth 100000
def inC (out:List Cu) (p:Cu) (j:Nat):Prop:=j≤out.length∧G8 out p=out.take j++G8 (out.drop j) p
theorem NR {out:List Cu} {p:Cu} {j:Nat} (h:inC out p j) (hj:j<out.length) (ho:ES out[j] p≤0):inC out p (j+1):=by
 refine⟨hj,?_⟩;rw[h.2,cb hj,G8,if_pos ho,bx hj,eb];rfl
theorem NS {out:List Cu} {p:Cu} {j:Nat} (h:inC out p j) (hj:j<out.length) (ho:¬ES out[j] p≤0):G8 out p=out.take j++p::out.drop j:=by
 rw[h.2,cb hj,G8,if_neg ho]
theorem BM {out:List Cu} {p:Cu} {j:Nat} (h:inC out p j) (hj:out.length≤j):G8 out p=out.take j++p::out.drop j:=by
 rw[h.2,dc hj];rfl
def tS (l:List Cu) (_ ds:List D):Prop:=∃k:Nat,k≤l.length∧ds=[.int .i64 (k:Int),.sl (kUs (pcO l k))]
def pcI1 (l:List Cu) (gs ds:List D):Prop:=∃j:Nat,ds=[.int .i64 (j:Int)]∧∀p,l[gK gs]? =some p→inC (pcO l (gK gs)) p j
def pcJ (l:List Cu) (gs ds:List D):Prop:=∃p,l[gK gs]? =some p∧ds=ck (kU p) []
def pc7 (c:Cu) (_ ds:List D):Prop:=ds=[.sl (kPs (if Wu c (jp c.ci)=true then [jp c.ci]else []))]
def pc9 (c:Cu) (_ ds:List D):Prop:=ds=[.sl (kPs ((if Wu c (jp c.ci)=true then [jp c.ci]else [])++(if Wu c (xU c.ci)=true then [xU c.ci]else [])))]
theorem NT {l:List Cu} {k:Nat} (h:k<l.length):(l.map qB)[k]? =some (qB l[k]):=by simp[h]
theorem Ut {c:Cu} (hc:Gd c):qe CC 137 [.ag (ck (kU c) [])] [.c (.sl (kUs (ze c)))]:=by
 have hv:=Up (qe CC) (tS ((xk c).map qB)) (zP 1000000) (pcI1 ((xk c).map qB)) (zP 1000000) (pc7 c) (pc9 c) (pcJ ((xk c).map qB)) (kU c) (· =[.c (.sl (kUs (ze c)))]);refine gOk Tryz.func137 hv ?_;clear hv;obtain⟨hG,hN⟩:=BL hc;have hN2:((xk c).map qB).length=(xk c).length:=ey ..;have hT:∀x∈(xk c).map qB,Gd x:=fun x hx=>by obtain⟨y,hy,rfl⟩:=e7.1 hx;exact NO (hG y hy)
 rw[Zo]
 --the a8 loop,the insertion
 have a8:∀(k:Nat) (hk:k<((xk c).map qB).length) (j:Nat),inC (pcO ((xk c).map qB) k) ((xk c).map qB)[k] j→
  (∀hj:j<(pcO ((xk c).map qB) k).length,qe CC 136 [.ag (ck (kU (pcO ((xk c).map qB) k)[j]) []),.ag (ck (kU ((xk c).map qB)[k]) [])] [.c (.int .i64 (ES (pcO ((xk c).map qB) k)[j] ((xk c).map qB)[k]))]):=fun k hk j _ hj=>
  X4 (hT _ (Ge _ k (by omega) _ (bw hj))) (hT _ (bw hk))
 have next:∀(k:Nat) (hk:k<((xk c).map qB).length) (a4:List Cu),G8 (pcO ((xk c).map qB) k) ((xk c).map qB)[k]=a4→
  tS ((xk c).map qB) [] [.int .i64 (W0 .i64 ((k:Int)+1)),.sl (kUs a4)]:=by
  intro k hk a4 ho;refine⟨k+1,hk,?_⟩;rw[wI,Gb hk,ho];rfl
 have al:∀(k:Nat) (hk:k<((xk c).map qB).length) (j:Nat),j≤(pcO ((xk c).map qB) k).length→G8 (pcO ((xk c).map qB) k) ((xk c).map qB)[k]=(pcO ((xk c).map qB) k).take j++((xk c).map qB)[k]::(pcO ((xk c).map qB) k).drop j→
  ((0:Int)≤(j:Int)∧(j:Int)≤(bb (bv (kUs (pcO ((xk c).map qB) k)))))∧
    ((0:Int)≤(j:Int)∧(j:Int)≤(bb (bv (kUs (pcO ((xk c).map qB) k))))∧(bb (bv (kUs (pcO ((xk c).map qB) k))))≤(bb (bv (kUs (pcO ((xk c).map qB) k)))))∧
      (room ((1:Nat)+bv (bm (W2 (bb (bv (kUs (pcO ((xk c).map qB) k))))-W2 (j:Int)) (b9 (W2 (j:Int)) (kUs (pcO ((xk c).map qB) k)))))∧
       lens (66:Nat) (bm (W2 (bb (bv (kUs (pcO ((xk c).map qB) k))))-W2 (j:Int)) (b9 (W2 (j:Int)) (kUs (pcO ((xk c).map qB) k)))))∧
       (room (bv (bm (W2 (j:Int)) (kUs (pcO ((xk c).map qB) k)))+bv ((ck (kU ((xk c).map qB)[k]) [])::(([])++(bm (W2 (bb (bv (kUs (pcO ((xk c).map qB) k))))-W2 (j:Int)) (b9 (W2 (j:Int)) (kUs (pcO ((xk c).map qB) k)))))))∧
        lens (66:Nat) ((ck (kU ((xk c).map qB)[k]) [])::(([])++(bm (W2 (bb (bv (kUs (pcO ((xk c).map qB) k))))-W2 (j:Int)) (b9 (W2 (j:Int)) (kUs (pcO ((xk c).map qB) k)))))))∧
        tS ((xk c).map qB) [] [T1 W1 (W0 W1 ((k:Int)+(1:Int))),P1 (bm (W2 (j:Int)) (kUs (pcO ((xk c).map qB) k))++(ck (kU ((xk c).map qB)[k]) [])::(([])++(bm (W2 (bb (bv (kUs (pcO ((xk c).map qB) k))))-W2 (j:Int)) (b9 (W2 (j:Int)) (kUs (pcO ((xk c).map qB) k))))))]∧
         zP 1000000 [T1 W1 (W0 W1 ((k:Int)+(1:Int))),P1 (bm (W2 (j:Int)) (kUs (pcO ((xk c).map qB) k))++(ck (kU ((xk c).map qB)[k]) [])::(([])++(bm (W2 (bb (bv (kUs (pcO ((xk c).map qB) k))))-W2 (j:Int)) (b9 (W2 (j:Int)) (kUs (pcO ((xk c).map qB) k))))))]<
          zP 1000000 [T1 W1 (k:Int),P1 (kUs (pcO ((xk c).map qB) k))]:=by
  intro k hk j hj he;have hlen:=KV ((xk c).map qB) k (by omega);generalize hout:pcO ((xk c).map qB) k=a4 at *;have e0:W2 (bb (bv (kUs a4)))-W2 (j:Int)=a4.length-j:=by rw[qu];simp
  have e1:bm (W2 (bb (bv (kUs a4)))-W2 (j:Int)) (b9 (W2 (j:Int)) (kUs a4))=kUs (a4.drop j):=by rw[e0,bc,NJ,c9 (by rw[qu,c4];omega)]
  have ap:(0:Int)≤(j:Int)∧(j:Int)≤bb (bv (kUs a4)):=by rw[qu];simp only[ba];omega
  rw[e1,bc,NI,fs];have e2:kUs (a4.take j)++ck (kU ((xk c).map qB)[k]) []::kUs (a4.drop j)=kUs (a4.take j++((xk c).map qB)[k]::a4.drop j):=by rw[wy];rfl
  rw[e2];refine⟨ap,⟨ap.1,ap.2,bd _⟩,⟨?_,vJ _⟩,⟨?_,?_⟩,next k hk _ (by rw[hout];exact he),qt⟩
  ·unfold Hv;rw[qu,c4];omega
  ·unfold Hv;rw[qu,cg,qu,cp,c4];omega
  ·exact vJ (((xk c).map qB)[k]::a4.drop j)
 have hR0:xk c=xk c:=rfl;rw[yx];cases ha:c.arc with
 |true=>
  refine brb (fun _=>?_) (fun h=>by cases h);obtain⟨hC,hq⟩:=hc.circ ha;obtain⟨hl,hr⟩:=Ju hC hq;have ag:[Lv (kU c),Ls (kU c),Lr (kU c)]=[q4 c.ci.x,q4 c.ci.y,q4 c.ci.q]:=by unfold kU;rw[ha]
  simp only[g0,and_true]at ag;rw[ag.1,ag.2.1,ag.2.2];refine⟨_,_,X3 hC hq,⟨_,KM hc.1 hl,?_⟩,?_⟩
  ·refine zQ (fun h=>⟨⟨by unfold Hv;omega,fun e he=>by rw[ca.1 he];rfl⟩,?_⟩) (fun h=>?_)
   ·unfold pc7;rw[if_pos h];rfl
   ·unfold pc7;rw[if_neg (by rw[h];simp)];rfl
  rintro es he;simp only[pc7,g0,U3,and_true]at he;subst he;refine⟨⟨_,KM hc.1 hr,?_⟩,?_⟩
  ·refine zQ (fun h=>⟨⟨?_,fun e he=>by rw[ca.1 he];rfl⟩,?_⟩) (fun h=>?_)
   ·unfold Hv;rw[xi];split<;>simp
   ·unfold pc9;rw[if_pos h,KO];rfl
   ·have h':¬Wu c (xU c.ci)=true:=by rw[h];simp
    unfold pc9;rw[if_neg h',ea]
  rintro es he;simp only[pc9,g0,U3,and_true]at he;subst he;have b1:∀p∈((if Wu c (jp c.ci)=true then [jp c.ci]else [])++(if Wu c (xU c.ci)=true then [xU c.ci]else [])),Gp p:=by
   intro p hp;rcases dl.1 hp with hp|hp
   ·split at hp
    ·rw[ca.1 hp];exact hl
    ·simp at hp
   ·split at hp
    ·rw[ca.1 hp];exact hr
    ·simp at hp
  obtain⟨e,b3⟩:=KR hc.1 b1 (by rw[cv];split<;>split<;>simp);have hR:jh c ((if Wu c (jp c.ci)=true then [jp c.ci]else [])++(if Wu c (xU c.ci)=true then [xU c.ci]else []))=xk c:=by unfold xk;rw[if_pos ha]
  rw[hR]at b3;refine⟨_,_,b3,?_⟩;refine⟨⟨0,g3 _,by rw[Jv];rfl⟩,?_⟩;rintro _ _ ⟨k,hk,he⟩;simp only[g0,U0,U3,and_true,true_and]at he;obtain⟨rfl,rfl⟩:=he;refine brd (fun h=>?_) (fun h=>?_)
  ·have a6:k<(xk c).length:=by rw[qu]at h;simp only[ba]at h;omega
   have a5:k<((xk c).map qB).length:=by omega
   have hx:=hG _ (bw a6);have a7:((xk c).map qB)[k]? =some (qB (xk c)[k]):=NT a6;have an:((xk c).map qB)[k]=qB (xk c)[k]:=fR ..;have cc:=yy hx.1.2.1 hx.1.2.2;rw[←kH,←vG]at cc;refine⟨xj a6,_,xf a6,⟨_,cc,?_⟩,?_⟩
   ·refine brd (fun h1=>⟨_,vI hx.cw,_,a7,?_⟩) (fun h1=>⟨_,a7,?_⟩)
    ·unfold qB;rw[if_pos (show 0<ja (xk c)[k].fr (xk c)[k].tt from h1)]
    ·unfold qB;rw[if_neg (show ¬0<ja (xk c)[k].fr (xk c)[k].tt from h1)]
   ·rintro x ⟨p,hp,b2⟩;have a9:((xk c).map qB)[k]? =some p:=hp;rw[bs a5]at a9;obtain rfl:=h8 a9;rw[BG b2];refine⟨⟨0,rfl,fun p hp=>⟨g3 _,by simp⟩⟩,?_⟩;rintro _ ⟨j,he,hj⟩;simp only[g0,U0,and_true,true_and]at he;subst he;have hj:inC (pcO ((xk c).map qB) k) ((xk c).map qB)[k] j:=hj _ (bs a5);have ad:=KV ((xk c).map qB) k hk;refine brd (fun h1=>?_) (fun h1=>?_)
    ·have a3:j<(pcO ((xk c).map qB) k).length:=by rw[qu]at h1;simp only[ba]at h1;omega
     refine⟨jj a3,_,xf a3,_,a8 k a5 j hj a3,?_⟩;refine brd (fun h2=>?_) (fun h2=>?_)
     ·refine⟨⟨j+1,by rw[wI];rfl,fun p hp=>?_⟩,qt⟩;have e:p=((xk c).map qB)[k]:=by have:((xk c).map qB)[k]? =some p:=hp;rw[bs a5]at this;exact(h8 this).symm
      rw[e];exact NR hj a3 h2
     ·exact al k a5 j hj.1 (NS hj a3 h2)
    ·have a3:(pcO ((xk c).map qB) k).length≤j:=by rw[qu]at h1;simp only[ba]at h1;omega
     exact al k a5 j hj.1 (BM hj a3)
  ·have a6:k=((xk c).map qB).length:=by rw[qu]at h;simp only[ba]at h;omega
   rw[a6]
 |false=>
  refine brb (fun h=>by cases h) (fun _=>?_);have hR:xk c=[c]:=by unfold xk;rw[if_neg (by rw[ha];simp)]
  have hRk:[ck (kU c) []]=kUs (xk c):=by rw[hR];rfl
  rw[hRk];refine⟨⟨0,g3 _,by rw[Jv];rfl⟩,?_⟩;rintro _ _ ⟨k,hk,he⟩;simp only[g0,U0,U3,and_true,true_and]at he;obtain⟨rfl,rfl⟩:=he;refine brd (fun h=>?_) (fun h=>?_)
  ·have a6:k<(xk c).length:=by rw[hR];simp only[cg,dk];omega
   have a5:k<((xk c).map qB).length:=by omega
   have hx:=hG _ (bw a6);have a7:((xk c).map qB)[k]? =some (qB (xk c)[k]):=NT a6;have an:((xk c).map qB)[k]=qB (xk c)[k]:=fR ..;have cc:=yy hx.1.2.1 hx.1.2.2;rw[←kH,←vG]at cc;refine⟨⟨by omega,by omega⟩,_,xf a6,⟨_,cc,?_⟩,?_⟩
   ·refine brd (fun h1=>⟨_,vI hx.cw,_,a7,?_⟩) (fun h1=>⟨_,a7,?_⟩)
    ·unfold qB;rw[if_pos (show 0<ja (xk c)[k].fr (xk c)[k].tt from h1)]
    ·unfold qB;rw[if_neg (show ¬0<ja (xk c)[k].fr (xk c)[k].tt from h1)]
   ·rintro x ⟨p,hp,b2⟩;have a9:((xk c).map qB)[k]? =some p:=hp;rw[bs a5]at a9;obtain rfl:=h8 a9;rw[BG b2];refine⟨⟨0,rfl,fun p hp=>⟨g3 _,by simp⟩⟩,?_⟩;rintro _ ⟨j,he,hj⟩;simp only[g0,U0,and_true,true_and]at he;subst he;have hj:inC (pcO ((xk c).map qB) k) ((xk c).map qB)[k] j:=hj _ (bs a5);have ad:=KV ((xk c).map qB) k hk;refine brd (fun h1=>?_) (fun h1=>?_)
    ·have a3:j<(pcO ((xk c).map qB) k).length:=by rw[qu]at h1;simp only[ba]at h1;omega
     refine⟨jj a3,_,xf a3,_,a8 k a5 j hj a3,?_⟩;refine brd (fun h2=>?_) (fun h2=>?_)
     ·refine⟨⟨j+1,by rw[wI];rfl,fun p hp=>?_⟩,qt⟩;have e:p=((xk c).map qB)[k]:=by have:((xk c).map qB)[k]? =some p:=hp;rw[bs a5]at this;exact(h8 this).symm
      rw[e];exact NR hj a3 h2
     ·exact al k a5 j hj.1 (NS hj a3 h2)
    ·have a3:(pcO ((xk c).map qB) k).length≤j:=by rw[qu]at h1;simp only[ba]at h1;omega
     exact al k a5 j hj.1 (BM hj a3)
  ·have a6:k=((xk c).map qB).length:=by have e:(xk c).length=1:=(by rw[hR];rfl);omega
   rw[a6]
end Eng
end
section
open Go Go.Proofs Eng
namespace Eng
theorem LC (Gv:Nat→List A→List A→Prop) (I0:List D→List D→Prop) (M0:List D→Nat) (I1:List D→List D→Prop) (M1:List D→Nat) (I2:List D→List D→Prop) (M2:List D→Nat) (l0:List (List D)) (Q:List A→Prop):wpF CC Gv (eM ⟨[.slot 4 (.int .i64 0),.own 3 69 66],[],I0,M0⟩ ⟨[.slot 6 (.int .i64 0),.own 5 70 66],[],I1,M1⟩ ⟨[.slot 8 (.int .i64 0),.own 7 56 20],[.slot 6 (.int .i64 0)],I2,M2⟩) Tryz.f78 [.c (.sl l0)] Q=(I0 [] [dI (0:Int),P1 []]∧∀(i:Int) (es:List (List D)),I0 [] [dI i,P1 es]→bB (decide (i<(bb l0.length))) (rO l0 i 66∧∃x,cU l0 i 0 66 (ck x [])∧∃e1,Gv 137 [aC x] [aL e1]∧(room (es.length+e1.length)∧lens 66 e1)∧I0 [] [dI (W0 .i64 (i+1)),P1 (es++e1)]∧M0 [dI (W0 .i64 (i+1)),P1 (es++e1)]<M0 [dI i,P1 es]) (I1 [] [dI (0:Int),P1 []]∧∀(i:Int) (e1:List (List D)),I1 [] [dI i,P1 e1]→bB (decide (i<(bb es.length))) (I2 [dI i] [dI (0:Int),P1 []]∧∀(i_1:Int) (e2:List (List D)),I2 [dI i] [dI i_1,P1 e2]→bB (decide (i_1<(bb es.length))) (bB (i_1 !=i) ((0≤i∧i<(bb es.length))∧∃x,cU es i 0 66 (ck x [])∧(0≤i_1∧i_1<(bb es.length))∧∃x1,cU es i_1 0 66 (ck x1 [])∧∃es b,Gv 138 [aC x,aC x1] [aL es,aB b]∧(room (e2.length+es.length)∧lens 20 es)∧I2 [dI i] [dI (W0 .i64 (i_1+1)),P1 (e2++es)]∧M2 [dI (W0 .i64 (i_1+1)),P1 (e2++es)]<M2 [dI i_1,P1 e2]) (I2 [dI i] [dI (W0 .i64 (i_1+1)),P1 e2]∧M2 [dI (W0 .i64 (i_1+1)),P1 e2]<M2 [dI i_1,P1 e2])) ((0≤i∧i<(bb es.length))∧∃x,cU es i 0 66 (ck x [])∧∃es i_2,Gv 139 [aC x,aL e2] [aL es,aI i_2]∧(room (e1.length+es.length)∧lens 66 es)∧I1 [] [dI (W0 .i64 (i+1)),P1 (e1++es)]∧M1 [dI (W0 .i64 (i+1)),P1 (e1++es)]<M1 [dI i,P1 e1])) (Q [aL e1]))):=by kernel_rfl
end Eng
end
section
namespace Eng
open Go Go.Proofs Rl
set_option maxRecDepth 100000
theorem NU {c d:Cu} (hc:Gc c) (hd:Gc d):(∀p∈zM c d,Gp p)∧(zM c d).length≤4:=by
 have hL:=NK hc hd;refine⟨fun p hp=>hL.1 p (en.1 (wQ hp)).1,?_⟩;have h1:=X6 c ((Xu c d).filter fun p=>Xt c p&&Xt d p);have h2:=cL (fun p=>Xt c p&&Xt d p) (Xu c d);have h3:=hL.2;unfold zM;omega
noncomputable def V0 (all:List Cu) (c:Cu) (k:Nat):List P5:=match all[k]? with
 |some d=>zM c d
 |none=>[]
noncomputable def kM (all:List Cu) (c:Cu) (i n:Nat):List P5:=((gz n).filter (· ≠i)).flatMap (V0 all c)
theorem KW (all:List Cu) (c:Cu) (i:Nat):kM all c i 0=[]:=rfl
theorem Uu {all:List Cu} {c:Cu} {i n:Nat} (h:n≠i):kM all c i (n+1)=kM all c i n++V0 all c n:=by
 unfold kM;rw[fg,e5,ed];simp[h]
theorem Uv {all:List Cu} {c:Cu} {n:Nat}:kM all c n (n+1)=kM all c n n:=by
 unfold kM;rw[fg,e5,ed];simp
noncomputable def X8 (all:List Cu) (i:Nat):List Cu:=match all[i]? with
 |some c=>jh c (kM all c i all.length)
 |none=>[]
noncomputable def vL (all:List Cu) (n:Nat):List Cu:=(gz n).flatMap (X8 all)
theorem ZS (all:List Cu) (n:Nat):vL all (n+1)=vL all n++X8 all n:=by
 unfold vL;rw[fg,ed];simp
theorem KX (l:List Cu):Xv l=vL (l.flatMap ze) (l.flatMap ze).length:=rfl
theorem BN {all:List Cu} (ha:∀x∈all,Gd x) {c:Cu} (hc:Gd c) (k:Nat):(∀p∈V0 all c k,Gp p)∧(V0 all c k).length≤4:=by
 unfold V0;split
 ·rename_i d hd;exact NU hc.1 (ha d (ft hd)).1
 ·simp
theorem X9 {all:List Cu} (ha:∀x∈all,Gd x) {c:Cu} (hc:Gd c) (i:Nat):∀n,(∀p∈kM all c i n,Gp p)∧(kM all c i n).length≤4*n
 |0=>by rw[KW];simp
 |n+1=>by
  obtain⟨h1,h2⟩:=X9 ha hc i n;by_cases h:n=i
  ·subst h;rw[Uv];exact⟨h1,by omega⟩
  ·obtain⟨h3,h4⟩:=BN ha hc n;rw[Uu h];refine⟨fun p hp=>?_,by rw[cv];omega⟩;rcases dl.1 hp with hp|hp
   ·exact h1 p hp
   ·exact h3 p hp
theorem Uw {all:List Cu} (ha:∀x∈all,Gd x) (i:Nat):(∀x∈X8 all i,Gd x)∧(X8 all i).length≤4*all.length+1:=by
 unfold X8;split
 ·rename_i c hc;have hg:=ha c (ft hc);obtain⟨h1,h2⟩:=X9 ha hg i all.length;refine⟨Ga hg h1,?_⟩;have:=Us c (kM all c i all.length);omega
 ·simp
theorem Zp {all:List Cu} (ha:∀x∈all,Gd x):∀n,(∀x∈vL all n,Gd x)∧(vL all n).length≤n*(4*all.length+1)
 |0=>by simp[vL]
 |n+1=>by
  obtain⟨h1,h2⟩:=Zp ha n;obtain⟨h3,h4⟩:=Uw ha n;rw[ZS];refine⟨fun x hx=>?_,by rw[cv,Nat.succ_mul];omega⟩;rcases dl.1 hx with hx|hx
  ·exact h1 x hx
  ·exact h3 x hx
noncomputable def FE (l:List Cu) (k:Nat):List Cu:=(l.take k).flatMap ze
theorem Ux {l:List Cu} {k:Nat} (h:k<l.length):FE l (k+1)=FE l k++ze l[k]:=by
 unfold FE;rw[bx h,ed];simp
theorem LF {l:List Cu} (hl:∀c∈l,Gd c):∀k,k≤l.length→(∀x∈FE l k,Gd x)∧(FE l k).length≤3*k
 |0,_=>by simp[FE]
 |k+1,h=>by
  obtain⟨h1,h2⟩:=LF hl k (by omega);obtain⟨h3,h4⟩:=Vz (hl l[k] (bw (by omega)));rw[Ux (by omega)];refine⟨fun x hx=>?_,by rw[cv];omega⟩;rcases dl.1 hx with hx|hx
  ·exact h1 x hx
  ·exact h3 x hx
theorem NV (l:List Cu):FE l l.length=l.flatMap ze:=by unfold FE;rw[cH]
theorem BO {l:List Cu} (hl:∀c∈l,Gd c) (hn:l.length≤400):(∀x∈Xv l,Gd x)∧(Xv l).length≤6000000:=by
 obtain⟨h1,h2⟩:=LF hl l.length (g4 _);rw[NV]at h1 h2;rw[KX];obtain⟨h3,h4⟩:=Zp h1 (l.flatMap ze).length;refine⟨h3,hh h4 ?_⟩;have h5:(l.flatMap ze).length≤1200:=by omega
 have h6:=g8 h5 (show 4*(l.flatMap ze).length+1≤4801 by omega);omega
def paI0 (l:List Cu) (_ ds:List D):Prop:=∃k:Nat,k≤l.length∧ds=[.int .i64 (k:Int),.sl (kUs (FE l k))]
def paI1 (all:List Cu) (_ ds:List D):Prop:=∃k:Nat,k≤all.length∧ds=[.int .i64 (k:Int),.sl (kUs (vL all k))]
def paI2 (all:List Cu) (gs ds:List D):Prop:=∃j:Nat,j≤all.length∧∃m,ds=[.int .i64 (j:Int),.sl (kPs m)]∧∀c,all[gK gs]? =some c→m=kM all c (gK gs) j
theorem LG {l:List Cu} (hl:∀c∈l,Gd c) (hn:l.length≤400):qe CC 78 [.c (.sl (kUs l))] [.c (.sl (kUs (Xv l)))]:=by
 have hv:=LC (qe CC) (paI0 l) (zP 1000000) (paI1 (l.flatMap ze)) (zP 1000000) (paI2 (l.flatMap ze)) (zP 1000000) (kUs l) (· =[.c (.sl (kUs (Xv l)))]);refine gOk Tryz.func78 hv ?_;clear hv;refine⟨⟨0,g3 _,rfl⟩,?_⟩;rintro _ _ ⟨k,hk,he⟩;simp only[g0,U0,U3,and_true,true_and]at he;obtain⟨rfl,rfl⟩:=he;obtain⟨g1,g2⟩:=LF hl k hk;refine brd (fun h=>?_) (fun h=>?_)
 ·have a3:k<l.length:=by rw[qu]at h;simp only[ba]at h;omega
  have hx:=hl _ (bw a3);have hp:=(Vz hx).2;refine⟨xj a3,_,xf a3,_,Ut hx,⟨?_,vJ _⟩,⟨k+1,a3,?_⟩,qt⟩
  ·unfold Hv;rw[qu,qu];omega
  ·rw[wI,Ux a3,wy];rfl
 have a3:k=l.length:=by rw[qu]at h;simp only[ba]at h;omega
 rw[a3,NV]at g1 g2 ⊢;rw[KX];generalize l.flatMap ze=all at *;clear hk a3 h k;refine⟨⟨0,g3 _,rfl⟩,?_⟩;rintro _ _ ⟨k,hk,he⟩;simp only[g0,U0,U3,and_true,true_and]at he;obtain⟨rfl,rfl⟩:=he;refine brd (fun h=>?_) (fun h=>?_)
 ·have a3:k<all.length:=by rw[qu]at h;simp only[ba]at h;omega
  have a6:all[k]? =some all[k]:=bs a3;have hc:=g1 _ (bw a3);refine⟨⟨0,g3 _,[],rfl,fun c _=>by rw[KW]⟩,?_⟩;rintro _ _ ⟨j,hj,m,he,hm⟩;simp only[g0,U0,U3,and_true,true_and]at he;obtain⟨rfl,rfl⟩:=he;have hm:m=kM all all[k] k j:=hm _ a6;obtain⟨c1,c2⟩:=X9 g1 hc k j;rw[←hm]at c1 c2;refine brd (fun h1=>?_) (fun h1=>?_)
  ·have a4:j<all.length:=by rw[qu]at h1;simp only[ba]at h1;omega
   refine brb (fun h2=>?_) (fun h2=>?_)
   ·have a7:j≠k:=by intro e;rw[e]at h2;simp at h2
    have hd:=g1 _ (bw a4);have ml:=(NU hc.1 hd.1).2;refine⟨jj a3,_,xf a3,jj a4,_,xf a4,_,_,PN hc.1 hd.1 hd.cw,⟨?_,yU _⟩,⟨j+1,a4,m++zM all[k] all[j],?_,fun c hc2=>?_⟩,qt⟩
    ·unfold Hv;rw[xi,xi];omega
    ·rw[wI,KO];rfl
    ·have a5:all[k]? =some c:=hc2;rw[a6]at a5;obtain rfl:=h8 a5;show m++zM all[k] all[j]=kM all all[k] k (j+1);rw[Uu a7,←hm];unfold V0;rw[bs a4]
   ·have a7:j=k:=by
     have:¬((j:Int) !=(k:Int))=true:=by rw[h2];simp
     simp at this;omega
    subst a7;refine⟨⟨j+1,a4,m,by rw[wI];rfl,fun c hc2=>?_⟩,qt⟩;have a5:all[j]? =some c:=hc2;rw[a6]at a5;obtain rfl:=h8 a5;show m=kM all all[j] j (j+1);rw[Uv,hm]
  ·have a4:j=all.length:=by rw[qu]at h1;simp only[ba]at h1;omega
   obtain⟨e,a8⟩:=KR hc.1 c1 (by omega);have hpa:jh all[k] m=X8 all k:=by unfold X8;rw[a6,hm,a4]
   rw[hpa]at a8;obtain⟨_,p1⟩:=Zp g1 k;obtain⟨_,p2⟩:=Uw g1 k;have p3:=g8 (show k≤1200 by omega) (show 4*all.length+1≤4801 by omega);refine⟨jj a3,_,xf a3,_,_,a8,⟨?_,vJ _⟩,⟨k+1,a3,?_⟩,qt⟩
   ·unfold Hv;rw[qu,qu];omega
   ·rw[wI,ZS,wy];rfl
 ·have a3:k=all.length:=by rw[qu]at h;simp only[ba]at h;omega
  rw[a3]
end Eng
end
section
open Go Go.Proofs Eng
namespace Eng
theorem BP (Gv:Nat→List A→List A→Prop) (I0:List D→List D→Prop) (M0:List D→Nat) (I1:List D→List D→Prop) (M1:List D→Nat) (l0:List (List D)) (Q:List A→Prop):wpF CC Gv (Vd ⟨[.slot 4 (.int .i64 0),.own 3 47 66],[],I0,M0⟩ ⟨[.slot 6 (.int .i64 0),.slot 5 (.int .i64 0)],[.slot 4 (.int .i64 0)],I1,M1⟩) Tryz.f77 [.c (.sl l0)] Q=(I0 [] [dI (0:Int),P1 []]∧∀(i:Int) (es:List (List D)),I0 [] [dI i,P1 es]→bB (decide (i<(bb l0.length))) (I1 [dI i] [dI (0:Int),dI (-1:Int)]∧∀(i_1 i_2:Int),I1 [dI i] [dI i_1,dI i_2]→bB (decide (i_1<(bb es.length))) ((0≤i_1∧i_1<(bb es.length))∧∃x,cU es i_1 0 66 (ck x [])∧rO l0 i 66∧∃x1,cU l0 i 0 66 (ck x1 [])∧∃b,Gv 58 [aC x,aC x1] [aB b]∧br b (I1 [dI i] [dI (W0 .i64 (i_1+1)),dI i_1]∧M1 [dI (W0 .i64 (i_1+1)),dI i_1]<M1 [dI i_1,dI i_2]) (I1 [dI i] [dI (W0 .i64 (i_1+1)),dI i_2]∧M1 [dI (W0 .i64 (i_1+1)),dI i_2]<M1 [dI i_1,dI i_2])) (bB (decide (i_2<0)) (rO l0 i 66∧∃x,cU l0 i 0 66 (ck x [])∧(room (es.length+1)∧lens 66 [(ck x [])])∧I0 [] [dI (W0 .i64 (i+1)),P1 (es++[(ck x [])])]∧M0 [dI (W0 .i64 (i+1)),P1 (es++[(ck x [])])]<M0 [dI i,P1 es]) ((0≤i_2∧i_2≤(bb es.length))∧(0≤W0 .i64 (i_2+1)∧W0 .i64 (i_2+1)≤(bb es.length)∧(bb es.length)≤(bb es.length))∧(room (bv (bm (W2 i_2) es)+bv (bm (W2 (bb es.length)-W2 (W0 .i64 (i_2+1))) (b9 (W2 (W0 .i64 (i_2+1))) es)))∧lens 66 (bm (W2 (bb es.length)-W2 (W0 .i64 (i_2+1))) (b9 (W2 (W0 .i64 (i_2+1))) es)))∧I0 [] [dI (W0 .i64 (i+1)),P1 (bm (W2 i_2) es++bm (W2 (bb es.length)-W2 (W0 .i64 (i_2+1))) (b9 (W2 (W0 .i64 (i_2+1))) es))]∧M0 [dI (W0 .i64 (i+1)),P1 (bm (W2 i_2) es++bm (W2 (bb es.length)-W2 (W0 .i64 (i_2+1))) (b9 (W2 (W0 .i64 (i_2+1))) es))]<M0 [dI i,P1 es]))) (Q [aL es])):=by kernel_rfl
end Eng
end
section
open Go Go.Proofs Eng
namespace Eng
theorem Uy (Gv:Nat→List A→List A→Prop) (I0:List D→List D→Prop) (M0:List D→Nat) (I1:List D→List D→Prop) (M1:List D→Nat) (l0:List (List D)) (Q:List A→Prop):wpF CC Gv (Vd ⟨[.slot 4 (.int .i64 0),.own 3 50 66],[],I0,M0⟩ ⟨[.slot 5 (.int .i64 0),.own 3 9 66],[.slot 4 (.int .i64 0)],I1,M1⟩) Tryz.f75 [.c (.sl l0)] Q=((room (0+l0.length)∧lens 66 l0)∧I0 [] [dI (0:Int),P1 l0]∧∀(i:Int) (es:List (List D)),I0 [] [dI i,P1 es]→bB (decide (i<(bb es.length))) (I1 [dI i] [dI i,P1 es]∧∀(i_1:Int) (e1:List (List D)),I1 [dI i] [dI i_1,P1 e1]→bB (decide (i_1>0)) ((0≤i_1∧i_1<(bb e1.length))∧∃x,cU e1 i_1 0 66 (ck x [])∧(0≤W0 .i64 (i_1-1)∧W0 .i64 (i_1-1)<(bb e1.length))∧∃x1,cut (nth [] e1 (W2 (W0 .i64 (i_1-1)))) 0 66 (ck x1 [])∧∃i_2,Gv 136 [aC x,aC x1] [aI i_2]∧bB (decide (i_2<0)) ((0≤W0 .i64 (i_1-1)∧W0 .i64 (i_1-1)<(bb e1.length))∧∃x,cut (nth [] e1 (W2 (W0 .i64 (i_1-1)))) 0 66 (ck x [])∧(0≤i_1∧i_1<(bb e1.length))∧∃x2,cU e1 i_1 0 66 (ck x2 [])∧(0≤i_1∧i_1<(bb e1.length))∧66≤66∧(0≤W0 .i64 (i_1-1)∧W0 .i64 (i_1-1)<(bb (bv (upd e1 (W2 i_1) (vR (nth [] e1 (W2 i_1)) 0 (ck x []))))))∧66≤66∧I1 [dI i] [dI (W0 .i64 (i_1-1)),P1 (upd (upd e1 (W2 i_1) (vR (nth [] e1 (W2 i_1)) 0 (ck x []))) (W2 (W0 .i64 (i_1-1))) (vR (nth [] (upd e1 (W2 i_1) (vR (nth [] e1 (W2 i_1)) 0 (ck x []))) (W2 (W0 .i64 (i_1-1)))) 0 (ck x2 [])))]∧M1 [dI (W0 .i64 (i_1-1)),P1 (upd (upd e1 (W2 i_1) (vR (nth [] e1 (W2 i_1)) 0 (ck x []))) (W2 (W0 .i64 (i_1-1))) (vR (nth [] (upd e1 (W2 i_1) (vR (nth [] e1 (W2 i_1)) 0 (ck x []))) (W2 (W0 .i64 (i_1-1)))) 0 (ck x2 [])))]<M1 [dI i_1,P1 e1]) (I0 [] [dI (W0 .i64 (i+1)),P1 e1]∧M0 [dI (W0 .i64 (i+1)),P1 e1]<M0 [dI i,P1 es])) (I0 [] [dI (W0 .i64 (i+1)),P1 e1]∧M0 [dI (W0 .i64 (i+1)),P1 e1]<M0 [dI i,P1 es])) (Q [aL es])):=by kernel_rfl
end Eng
end
section
namespace Eng
open Go Go.Proofs Rl
set_option maxRecDepth 100000
theorem Gf (f:Nat→Bool):∀n, -1≤kE f n∧kE f n<(n:Int)
 |0=>by simp[kE]
 |n+1=>by have:=Gf f n;unfold kE;split<;>omega
theorem wR (f:Nat→Bool) (n:Nat):kE f (n+1)=if f n=true then(n:Int)else kE f n:=rfl
theorem V3 {f:Nat→Bool}:∀{n:Nat},0≤kE f n→f (kE f n).toNat=true
 |0,h=>by simp[kE]at h
 |n+1,h=>by
  rw[wR]at h ⊢;split
  ·rename_i h1;simpa using h1
  ·rename_i h1;rw[if_neg h1]at h;exact V3 h
theorem LH {out:List Cu} {c x:Cu} (h:x∈wt out c):x∈out∨x=c:=by
 unfold wt at h;split at h
 ·rcases dl.1 h with h|h
  ·exact .inl h
  ·exact .inr (ca.1 h)
 ·exact .inl (List.mem_of_mem_eraseIdx h)
theorem LI (out:List Cu) (c:Cu):(wt out c).length≤out.length+1:=by
 unfold wt;split
 ·simp
 ·have:=List.length_eraseIdx_le out (kE (D7 out c) out.length).toNat;omega
noncomputable def odO (l:List Cu) (k:Nat):List Cu:=(l.take k).foldl wt []
theorem Gg (l:List Cu):odO l 0=[]:=by simp[odO]
theorem Gh {l:List Cu} {k:Nat} (h:k<l.length):odO l (k+1)=wt (odO l k) l[k]:=by
 unfold odO;rw[bx h,el];rfl
theorem LJ (l:List Cu):odO l l.length=AY l:=by unfold odO AY;rw[cH]
theorem LK (l:List Cu):∀k,k≤l.length→(odO l k).length≤k
 |0,_=>by rw[Gg];simp
 |k+1,h=>by rw[Gh (by omega)];have h1:=LK l k (by omega);have h2:=LI (odO l k) l[k];omega
theorem LL (l:List Cu):∀k,k≤l.length→∀x∈odO l k,x∈l
 |0,_,x,hx=>by rw[Gg]at hx;simp at hx
 |k+1,h,x,hx=>by
  rw[Gh (by omega)]at hx;rcases LH hx with hx|hx
  ·exact LL l k (by omega) x hx
  ·rw[hx];exact bw _
theorem NW {l:List Cu} {x:Cu} (h:x∈AY l):x∈l:=by rw[←LJ]at h;exact LL l _ (g4 _) x h
theorem FF (l:List Cu):(AY l).length≤l.length:=by rw[←LJ];exact LK l _ (g4 _)
def odI0 (l:List Cu) (_ ds:List D):Prop:=∃k:Nat,k≤l.length∧ds=[.int .i64 (k:Int),.sl (kUs (odO l k))]
def odI1 (l:List Cu) (gs ds:List D):Prop:=∃j:Nat,j≤(odO l (gK gs)).length∧∃z,ds=[.int .i64 (j:Int),.int .i64 z]∧∀c,l[gK gs]? =some c→z=kE (D7 (odO l (gK gs)) c) j
theorem BQ {l:List Cu} (hl:∀c∈l,Gd c) (hn:l.length≤6000000):qe CC 77 [.c (.sl (kUs l))] [.c (.sl (kUs (AY l)))]:=by
 have hv:=BP (qe CC) (odI0 l) (zP 10000000) (odI1 l) (zP 10000000) (kUs l) (· =[.c (.sl (kUs (AY l)))]);refine gOk Tryz.func77 hv ?_;clear hv;refine⟨⟨0,g3 _,by rw[Gg];rfl⟩,?_⟩;rintro _ _ ⟨k,hk,he⟩;simp only[g0,U0,U3,and_true,true_and]at he;obtain⟨rfl,rfl⟩:=he;have hlen:=LK l k hk;have hgd:∀x∈odO l k,Gd x:=fun x hx=>hl x (LL l k hk x hx)
 refine brd (fun h=>?_) (fun h=>?_)
 ·have a3:k<l.length:=by rw[qu]at h;simp only[ba]at h;omega
  have a6:l[k]? =some l[k]:=bs a3;have hx:=hl _ (bw a3);have next:∀a7,wt (odO l k) l[k]=a7→odI0 l [] [.int .i64 (W0 .i64 ((k:Int)+1)),.sl (kUs a7)]:=by intro a7 ho;refine⟨k+1,a3,?_⟩;rw[wI,Gh a3,ho];rfl
  refine⟨⟨0,g3 _, -1,rfl,fun c _=>rfl⟩,?_⟩;rintro _ z ⟨j,hj,z',he,hz⟩;simp only[g0,U0,and_true,true_and]at he;obtain⟨rfl,rfl⟩:=he;have hz:=hz _ a6;have hj:j≤(odO l k).length:=hj;have hz:z=kE (D7 (odO l k) l[k]) j:=hz;refine brd (fun h1=>?_) (fun h1=>?_)
  ·have a4:j<(odO l k).length:=by rw[qu]at h1;simp only[ba]at h1;omega
   have a8:D7 (odO l k) l[k] j=eqC (odO l k)[j] l[k]:=by unfold D7;rw[bs a4]
   refine⟨jj a4,_,xf a4,xj a3,_,xf a3,_,KL (hgd _ (bw a4)).1 hx.1,?_⟩;refine zQ (fun h2=>?_) (fun h2=>?_)
   ·refine⟨⟨j+1,a4,_,by rw[wI];rfl,fun c hc=>?_⟩,qt⟩;have hc:l[k]? =some c:=hc;rw[a6]at hc;obtain rfl:=h8 hc;show(j:Int)=kE (D7 (odO l k) l[k]) (j+1);rw[wR,a8,if_pos h2]
   ·refine⟨⟨j+1,a4,_,by rw[wI];rfl,fun c hc=>?_⟩,qt⟩;have hc:l[k]? =some c:=hc;rw[a6]at hc;obtain rfl:=h8 hc;show z=kE (D7 (odO l k) l[k]) (j+1);rw[wR,a8,if_neg (by rw[h2];simp),hz]
  ·have a4:j=(odO l k).length:=by rw[qu]at h1;simp only[ba]at h1;omega
   rw[a4]at hz;have hb:=Gf (D7 (odO l k) l[k]) (odO l k).length;rw[←hz]at hb;refine brd (fun h2=>?_) (fun h2=>?_)
   ·refine⟨xj a3,_,xf a3,⟨by unfold Hv;rw[qu];omega,fun e he=>by rw[ca.1 he];rfl⟩,?_⟩;have e1:kUs (odO l k)++[ck (kU l[k]) []]=kUs (odO l k++[l[k]]):=by rw[wy];rfl
    rw[e1];exact⟨next _ (by unfold wt;rw[←hz,if_pos h2]),qt⟩
   ·obtain⟨n,rfl⟩:∃n:Nat,z=(n:Int):=⟨z.toNat,by omega⟩;have hnl:n<(odO l k).length:=by omega
    have w1:W0 .i64 ((n:Int)+1)=((n+1:Nat):Int):=by rw[wI];rfl
    have e1:bm (W2 (n:Int)) (kUs (odO l k))++bm (W2 (bb (bv (kUs (odO l k))))-W2 (((n+1:Nat):Int))) (b9 (W2 (((n+1:Nat):Int))) (kUs (odO l k)))=kUs ((odO l k).eraseIdx n):=by
     have e2:bm (W2 (bb (bv (kUs (odO l k))))-W2 (((n+1:Nat):Int))) (b9 (W2 (((n+1:Nat):Int))) (kUs (odO l k)))=kUs ((odO l k).drop (n+1)):=by rw[bc,NJ,c9 (by rw[qu,qu,c4];simp only[ba,bc];omega)]
     rw[e2,bc,NI,←wy,List.eraseIdx_eq_take_drop_succ]
    have hle:(0:Int)≤(n:Int)∧(n:Int)≤bb (bv (kUs (odO l k))):=by rw[qu];simp only[ba];omega
    have a5:(0:Int)≤((n+1:Nat):Int)∧((n+1:Nat):Int)≤bb (bv (kUs (odO l k))):=by rw[qu];simp only[ba];omega
    rw[w1,e1];refine⟨hle,⟨a5.1,a5.2,bd _⟩,⟨?_,KP (KQ (vJ _))⟩,next _ (by unfold wt;rw[←hz,if_neg h2,bc]),qt⟩;unfold Hv;simp only[cp,c4,qu,bc,ba];omega
 ·have a3:k=l.length:=by rw[qu]at h;simp only[ba]at h;omega
  rw[a3,LJ]
end Eng
end
section
namespace Eng
open Go Go.Proofs Rl
set_option maxRecDepth 100000
theorem Uz:∀(ds pre cs:List D),cs.length=ds.length→vR (pre++cs) pre.length ds=pre++ds
 |[],pre,cs,h=>by have:cs=[]:=List.eq_nil_of_length_eq_zero h;subst this;rfl
 |d::ds,pre,[],h=>by simp at h
 |d::ds,pre,c::cs,h=>by
  have e:upd (pre++c::cs) pre.length d=(pre++[d])++cs:=by rw[xm,ez _ _ (g4 _),g5];simp
  have:=Uz ds (pre++[d]) cs (by simpa using h);rw[cv]at this;rw[vR,e];simp only[cg,dk,Nat.zero_add]at this;rw[this];simp
theorem BR (a b:C66):vR (ck a []) 0 (ck b [])=ck b []:=Uz (ck b []) [] (ck a []) rfl
theorem BS {l:List Cu} {i:Nat} (h:i<l.length) (c:Cu):upd (kUs l) i (vR (nth [] (kUs l) i) 0 (ck (kU c) []))=kUs (l.set i c):=by
 rw[y5 h,BR,xm];unfold kUs;rw[List.map_set]
theorem NX (c:Cu):∀v:List Cu,(Tf c v).length=v.length+1
 |[]=>rfl
 |q::r=>by
  unfold Tf;split
  ·simp only[cg,NX c r]
  ·rfl
theorem NY {c x:Cu}:∀{v:List Cu},x∈Tf c v→x∈v∨x=c
 |[],h=>by simp[Tf]at h;exact .inr h
 |q::r,h=>by
  unfold Tf at h;split at h
  ·rcases c5.1 h with h|h
   ·exact .inl (by simp[h])
   ·rcases NY h with h|h
    ·exact .inl (by simp[h])
    ·exact .inr h
  ·rcases c5.1 h with h|h
   ·exact .inr h
   ·exact .inl h
noncomputable def srP (l:List Cu) (k:Nat):List Cu:=(HK (l.take k)).reverse
theorem Zq {l:List Cu} {k:Nat} (h:k<l.length):HK (l.take (k+1))=Tf l[k] (HK (l.take k)):=by
 unfold HK;rw[bx h,el];rfl
theorem jl (l:List Cu):∀k,k≤l.length→(srP l k).length=k
 |0,_=>by simp[srP,HK]
 |k+1,h=>by have:=jl l k (by omega);unfold srP at *;rw[List.length_reverse]at *;rw[Zq (by omega),NX,this]
theorem LM (l:List Cu):∀k,k≤l.length→∀x∈srP l k,x∈l
 |0,_,x,hx=>by simp[srP,HK]at hx
 |k+1,h,x,hx=>by
  have ih:=LM l k (by omega);unfold srP at *;rw[fz,Zq (by omega)]at hx;rcases NY hx with hx|hx
  ·exact ih x (fz.2 hx)
  ·rw[hx];exact bw _
theorem BT (l:List Cu):srP l l.length=Zi l:=by unfold srP Zi;rw[cH]
theorem LN {l:List Cu} {x:Cu} (h:x∈Zi l):x∈l:=by rw[←BT]at h;exact LM l _ (g4 _) x h
noncomputable def srE (l:List Cu) (c:Cu) (k j:Nat):List Cu:=(srP l k).take j++c::((srP l k).drop j++l.drop (k+1))
def srQ (l:List Cu) (c:Cu) (k j:Nat):Prop:=j≤k∧Tf c (srP l k).reverse=((srP l k).drop j).reverse++Tf c ((srP l k).take j).reverse
theorem BU {l:List Cu} {k:Nat} (h:k<l.length):srE l l[k] k k=srP l k++l.drop k:=by
 unfold srE;rw[c9 (by rw[jl l k (by omega)];omega),dc (by rw[jl l k (by omega)];omega),fs,←cb h]
theorem LO {l:List Cu} {c:Cu} {k j:Nat} (h:k<l.length) (hj:j≤k):(srE l c k j).length=l.length:=by
 unfold srE;have:=jl l k (by omega);simp only[cv,cp,cg,c4,this];omega
theorem lH {l:List Cu} {c:Cu} {k j:Nat} (h:k<l.length) (hj:j≤k):(srE l c k j)[j]'(by rw[LO h hj];omega)=c:=by
 unfold srE;have:=jl l k (by omega);rw[List.getElem_append_right (by rw[cp];omega)];simp only[cp,this,Nat.min_eq_left hj,g5,List.getElem_cons_zero]
theorem BV {l:List Cu} {c:Cu} {k j:Nat} (h:k<l.length) (hj:j+1≤k):(srE l c k (j+1))[j]'(by rw[LO h hj];omega)=(srP l k)[j]'(by rw[jl l k (by omega)];omega):=by
 unfold srE;have:=jl l k (by omega);rw[List.getElem_append_left (by rw[cp];omega),List.getElem_take]
theorem FG {l:List Cu} {c:Cu} {k j:Nat} (h:k<l.length) (hj:j+1≤k):((srE l c k (j+1)).set (j+1) ((srP l k)[j]'(by rw[jl l k (by omega)];omega))).set j c=srE l c k j:=by
 have hl:=jl l k (by omega);unfold srE;have a3:j<(srP l k).length:=by omega
 have e1:(srP l k).take (j+1)=(srP l k).take j++[(srP l k)[j]]:=bx a3;have e2:(srP l k).drop j=(srP l k)[j]::(srP l k).drop (j+1):=cb a3;have lt:((srP l k).take j).length=j:=by rw[cp];omega
 rw[e1,e2,eb];rw[ez _ _ (by omega),lt,show j+1-j=1 by omega];rw[ez _ _ (by omega),lt,g5];rfl
theorem BW (l:List Cu) (c:Cu) {k:Nat} (h:k≤l.length):srQ l c k k:=by
 refine⟨g4 _,?_⟩;rw[dc (by rw[jl l k h];omega),c9 (by rw[jl l k h];omega)];rfl
theorem FH {l:List Cu} {c:Cu} {k j:Nat} (h:k≤l.length) (hq:srQ l c k (j+1)) (hc:ES c ((srP l k)[j]'(by rw[jl l k h];have:=hq.1;omega))<0):srQ l c k j:=by
 have hj:=hq.1;have a3:j<(srP l k).length:=by rw[jl l k h];omega
 refine⟨by omega,?_⟩;rw[hq.2,bx a3,fx,cb a3];show _++Tf c ((srP l k)[j]::((srP l k).take j).reverse)=_;rw[Tf,if_pos hc,List.reverse_cons,eb];rfl
theorem BX {l:List Cu} {k j:Nat} (h:k<l.length) (hq:srQ l l[k] k j) (hc:j=0∨∃i,∃hi:i<(srP l k).length,j=i+1∧¬ES l[k] (srP l k)[i]<0):srE l l[k] k j=srP l (k+1)++l.drop (k+1):=by
 have e:Tf l[k] ((srP l k).take j).reverse=l[k]::((srP l k).take j).reverse:=by
  rcases hc with rfl|⟨i,hi,rfl,hn⟩
  ·rfl
  ·rw[bx hi,fx];show Tf l[k] ((srP l k)[i]::_)=_;rw[Tf,if_neg hn];rfl
 have e2:srP l (k+1)=(srP l k).take j++l[k]::(srP l k).drop j:=by
  have h1:srP l (k+1)=(Tf l[k] (srP l k).reverse).reverse:=by unfold srP;rw[List.reverse_reverse,Zq h]
  rw[h1,hq.2,e];simp
 rw[e2];unfold srE;simp
def srI0 (l:List Cu) (_ ds:List D):Prop:=∃k:Nat,k≤l.length∧ds=[.int .i64 (k:Int),.sl (kUs (srP l k++l.drop k))]
def srI1 (l:List Cu) (gs ds:List D):Prop:=∃j:Nat,∃E,ds=[.int .i64 (j:Int),.sl (kUs E)]∧∀c,l[gK gs]? =some c→srQ l c (gK gs) j∧E=srE l c (gK gs) j
def upto (ds:List D):Nat:=(toI (nth .undef ds 0)).toNat
theorem BY (z:Int) (t:List D):upto (.int .i64 z::t)=z.toNat:=rfl
theorem U1 {l:List Cu} (hl:∀c∈l,Gd c) (hn:l.length≤6000000):qe CC 75 [.c (.sl (kUs l))] [.c (.sl (kUs (Zi l)))]:=by
 have hv:=Uy (qe CC) (srI0 l) (zP 10000000) (srI1 l) upto (kUs l) (· =[.c (.sl (kUs (Zi l)))]);refine gOk Tryz.func75 hv ?_;clear hv;refine⟨⟨by unfold Hv;rw[qu];omega,vJ _⟩,⟨0,g3 _,by simp[srP,HK]⟩,?_⟩;rintro _ _ ⟨k,hk,he⟩;simp only[g0,U0,U3,and_true,true_and]at he;obtain⟨rfl,rfl⟩:=he;have hpl:=jl l k hk;have a6:(srP l k++l.drop k).length=l.length:=by rw[cv,c4,hpl];omega
 refine brd (fun h=>?_) (fun h=>?_)
 ·have a3:k<l.length:=by rw[qu,a6]at h;simp only[ba]at h;omega
  have a5:l[k]? =some l[k]:=bs a3;have hx:=hl _ (bw a3);have next:srI0 l [] [.int .i64 (W0 .i64 ((k:Int)+1)),.sl (kUs (srP l (k+1)++l.drop (k+1)))]:=⟨k+1,a3,by rw[wI];rfl⟩
  refine⟨⟨k,_,rfl,fun c hc=>?_⟩,?_⟩
  ·have hc:l[k]? =some c:=hc;rw[a5]at hc;obtain rfl:=h8 hc;exact⟨BW l _ hk,(BU a3).symm⟩
  rintro _ _ ⟨j,E,he,hE⟩;simp only[g0,U0,U3,and_true,true_and]at he;obtain⟨rfl,rfl⟩:=he;have hE:srQ l l[k] k j∧E=srE l l[k] k j:=hE _ a5;obtain⟨hq,rfl⟩:=hE;have a4:=hq.1;have hlen:=LO (c:=l[k]) a3 a4;refine brd (fun h1=>?_) (fun h1=>?_)
  ·obtain⟨i,rfl⟩:∃i,j=i+1:=⟨j-1,by omega⟩;have w1:W0 .i64 (((i+1:Nat):Int)-1)=(i:Int):=by rw[wI];omega
   have h2:i+1<(srE l l[k] k (i+1)).length:=by omega
   have h3:i<(srE l l[k] k (i+1)).length:=by omega
   have a7:i<(srP l k).length:=by omega
   have c2:=xf h2;have c3:=xf h3;rw[lH a3 a4]at c2;rw[BV a3 a4]at c3;have hP:=hl _ (LM l k hk _ (bw a7));rw[w1];refine⟨jj h2,_,c2,jj h3,_,c3,_,X4 hx hP,?_⟩;refine brd (fun h4=>?_) (fun h4=>?_)
   ·have u1:upd (kUs (srE l l[k] k (i+1))) (W2 ((i+1:Nat):Int)) (vR (nth [] (kUs (srE l l[k] k (i+1))) (W2 ((i+1:Nat):Int))) 0 (ck (kU (srP l k)[i]) []))=kUs ((srE l l[k] k (i+1)).set (i+1) (srP l k)[i]):=BS h2 _;have u2:upd (kUs ((srE l l[k] k (i+1)).set (i+1) (srP l k)[i])) (W2 (i:Int)) (vR (nth [] (kUs ((srE l l[k] k (i+1)).set (i+1) (srP l k)[i])) (W2 (i:Int))) 0 (ck (kU l[k]) []))=kUs (srE l l[k] k i):=by rw[bc,BS (by rw[gb];omega),FG a3 a4]
    refine⟨jj h3,_,c3,jj h2,_,c2,jj h2,g4 _,?_,g4 _,?_⟩
    ·rw[u1,qu,gb];simp only[ba];omega
    ·rw[u1,u2];refine⟨⟨i,_,rfl,fun c hc=>?_⟩,?_⟩
     ·have hc:l[k]? =some c:=hc;rw[a5]at hc;obtain rfl:=h8 hc;exact⟨FH hk hq h4,rfl⟩
     ·rw[BY,BY];omega
   ·rw[BX a3 hq (.inr ⟨i,a7,rfl,h4⟩)];exact⟨next,qt⟩
  ·rw[BX a3 hq (.inl (by omega))];exact⟨next,qt⟩
 ·have a3:k=l.length:=by rw[qu,a6]at h;simp only[ba]at h;omega
  rw[a3,dc (g4 _),ea,BT]
end Eng
end
section
namespace Eng
open Go Go.Proofs Rl
set_option maxRecDepth 100000
theorem lI (x:C66):cut (ck x []) 26 20 (pk (J3 x) []):=⟨rfl,by show 26+20≤66;omega⟩
theorem lJ (x:C66):cut (ck x []) 46 20 (pk (I3 x) []):=⟨rfl,by show 46+20≤66;omega⟩
theorem LP {l:List Cu} {k:Nat} (h:k<l.length):cut (nth [] (kUs l) (W2 (k:Int))) 26 20 (pk (kP l[k].fr) []):=by
 rw[bc,y5 h,←kH];exact lI _
theorem Q7 {l:List Cu} {k:Nat} (h:k<l.length):cut (nth [] (kUs l) (W2 (k:Int))) 46 20 (pk (kP l[k].tt) []):=by
 rw[bc,y5 h,←vG];exact lJ _
theorem LQ (l:List Cu) (p:P5):∀j,Ns l p j≤2*j
 |0=>by simp[Ns]
 |j+1=>by
  have:=LQ l p j;unfold Ns;split
  ·split<;>split<;>simp<;>omega
  ·omega
theorem U2 {l:List Cu} (p:P5) {j:Nat} (h:j<l.length):Ns l p (j+1)=Ns l p j+((if kO l[j].fr p=true then 1 else 0)+(if kO l[j].tt p=true then 1 else 0)):=by
 show Ns l p j+_=_;rw[bs h]
theorem PO {n:Nat} (h:n≤100000000):W0 .i64 ((n:Int)+1)=((n+1:Nat):Int):=by rw[wI];rfl
noncomputable def eV (l:List Cu) (c:Cu):Bool:=decide (wb l c.fr%2=1)||decide (wb l c.tt%2=1)
theorem FI (l:List Cu):Bf l=l.any (eV l):=rfl
def KY (c:Cu) (j:Nat):P5:=if j=0 then c.fr else c.tt
def opI0 (l:List Cu) (_ ds:List D):Prop:=∃k:Nat,k≤l.length∧ds=[.int .i64 (k:Int)]∧(l.take k).any (eV l)=false
def opI1 (l:List Cu) (gs ds:List D):Prop:=∃j:Nat,j≤2∧ds=[.int .i64 (j:Int)]∧∀c,l[gK gs]? =some c→∀i,i<j→¬wb l (KY c i)%2=1
def gK2 (gs:List D):Nat:=(toI (nth .undef gs 1)).toNat
def opI2 (l:List Cu) (gs ds:List D):Prop:=∃m:Nat,m≤l.length∧∃n:Nat,ds=[.int .i64 (m:Int),.int .i64 (n:Int)]∧∀c,l[gK gs]? =some c→n=Ns l (KY c (gK2 gs)) m
theorem Gi {α:Type} {f:α→Bool} {l:List α} {k:Nat} (h:(l.take k).any f=false) (hk:k<l.length) (hf:f l[k]=false):(l.take (k+1)).any f=false:=by
 rw[bx hk,List.any_append,h,F0];simp[hf]
theorem PP {l:List Cu} (hl:∀c∈l,Gc c) (hn:l.length≤6000000):qe CC 74 [.c (.sl (kUs l))] [.c (.bool (Bf l))]:=by
 have hv:=PJ (qe CC) (opI0 l) (zP 10000000) (opI1 l) (zP 10) (opI2 l) (zP 10000000) (kUs l) (· =[.c (.bool (Bf l))]);refine gOk Tryz.func74 hv ?_;clear hv;rw[FI];refine⟨⟨0,g3 _,rfl,rfl⟩,?_⟩;rintro _ ⟨k,hk,he,a9⟩;simp only[g0,U0,and_true,true_and]at he;subst he;refine brd (fun h=>?_) (fun h=>?_)
 ·have a3:k<l.length:=by rw[qu]at h;simp only[ba]at h;omega
  have al:l[k]? =some l[k]:=bs a3;have hx:=hl _ (bw a3);refine⟨xj a3,_,LP a3,xj a3,_,Q7 a3,⟨0,by omega,rfl,fun c _ i hi=>by omega⟩,?_⟩;have ag:[pk (kP l[k].fr) [],pk (kP l[k].tt) []]=kPs [l[k].fr,l[k].tt]:=rfl;rw[ag];rintro _ ⟨j,hj,he,a5⟩;simp only[g0,U0,and_true,true_and]at he;subst he;have a5:∀i,i<j→¬wb l (KY l[k] i)%2=1:=a5 _ al;refine brd (fun h1=>?_) (fun h1=>?_)
  ·have b1:j<[l[k].fr,l[k].tt].length:=by simp only[cg,dk];omega
   have ap:[l[k].fr,l[k].tt][j]=KY l[k] j:=by
    have:j=0∨j=1:=by omega
    rcases this with rfl|rfl<;>rfl
   have a8:Gp (KY l[k] j):=by
    unfold KY;split
    ·exact hx.2.1
    ·exact hx.2.2
   have a6:=zf b1;rw[ap]at a6;have an:(0:Int)≤(j:Int)∧(j:Int)<2:=by omega
   refine⟨⟨0,g3 _,0,rfl,fun c _=>rfl⟩,?_⟩;rintro _ _ ⟨m,hm,n,he,ad⟩;simp only[g0,U0,and_true,true_and]at he;obtain⟨rfl,rfl⟩:=he;have ad:n=Ns l (KY l[k] j) m:=ad _ al;have hnb:=LQ l (KY l[k] j) m;rw[←ad]at hnb;refine brd (fun h2=>?_) (fun h2=>?_)
   ·have a4:m<l.length:=by rw[qu]at h2;simp only[ba]at h2;omega
    have b2:=hl _ (bw a4);have cs:=U2 (KY l[k] j) a4;rw[←ad]at cs;have nx:∀z:Nat,z=Ns l (KY l[k] j) (m+1)→opI2 l [.int .i64 (k:Int),.int .i64 (j:Int)] [.int .i64 (W0 .i64 ((m:Int)+1)),.int .i64 (z:Int)]:=by intro z hz;refine⟨m+1,a4,z,by rw[wI];rfl,fun c hc=>?_⟩;have hc:l[k]? =some c:=hc;rw[al]at hc;obtain rfl:=h8 hc;exact hz
    refine⟨xj a4,_,LP a4,an,_,a6,_,wP b2.2.1 a8,?_⟩;refine zQ (fun h3=>?_) (fun h3=>?_)
    ·refine⟨xj a4,_,Q7 a4,an,_,a6,_,wP b2.2.2 a8,?_⟩;rw[PO (show n≤100000000 by omega),PO (show n+1≤100000000 by omega)];refine zQ (fun h4=>?_) (fun h4=>?_)
     ·exact⟨nx _ (by rw[cs,if_pos h3,if_pos h4]),qt⟩
     ·exact⟨nx _ (by rw[cs,if_pos h3,if_neg (by rw[h4];simp)]),qt⟩
    ·refine⟨xj a4,_,Q7 a4,an,_,a6,_,wP b2.2.2 a8,?_⟩;rw[PO (show n≤100000000 by omega)];refine zQ (fun h4=>?_) (fun h4=>?_)
     ·exact⟨nx _ (by rw[cs,if_neg (by rw[h3];simp),if_pos h4]),qt⟩
     ·exact⟨nx _ (by rw[cs,if_neg (by rw[h3];simp),if_neg (by rw[h4];simp)];omega),qt⟩
   ·have a4:m=l.length:=by rw[qu]at h2;simp only[ba]at h2;omega
    have a7:n=wb l (KY l[k] j):=by rw[ad,a4];rfl
    refine⟨by omega,?_⟩;have tm:be (n:Int) 2=((n%2:Nat):Int):=rfl;rw[tm];refine brb (fun h3=>?_) (fun h3=>?_)
    ·have h4:n%2=1:=by simp only[beq_iff_eq]at h3;omega
     have:l.any (eV l)=true:=by
      rw[List.any_eq_true];refine⟨l[k],bw a3,?_⟩;unfold eV;rw[a7]at h4;have:j=0∨j=1:=by omega
      rcases this with rfl|rfl
      ·rw[decide_eq_true (show wb l l[k].fr%2=1 from h4)];rfl
      ·rw[decide_eq_true (show wb l l[k].tt%2=1 from h4),Bool.or_true]
     rw[this]
    ·have h4:¬n%2=1:=by simp only[beq_eq_false_iff_ne,ne_eq]at h3;omega
     refine⟨⟨j+1,by omega,by rw[wI];rfl,fun c hc i hi=>?_⟩,qt⟩;have hc:l[k]? =some c:=hc;rw[al]at hc;obtain rfl:=h8 hc;by_cases hij:i=j
     ·rw[hij,←a7];exact h4
     ·exact a5 i (by omega)
  ·have b1:j=2:=by omega
   subst b1;have o1:=a5 0 (by omega);have o2:=a5 1 (by omega);have hf:eV l l[k]=false:=by unfold eV;rw[decide_eq_false (show ¬wb l l[k].fr%2=1 from o1),decide_eq_false (show ¬wb l l[k].tt%2=1 from o2)];rfl
   exact⟨⟨k+1,a3,by rw[wI];rfl,Gi a9 a3 hf⟩,qt⟩
 ·have a3:k=l.length:=by rw[qu]at h;simp only[ba]at h;omega
  rw[a3,cH]at a9;rw[a9]
end Eng
end
section
open Go Go.Proofs Eng
namespace Eng
theorem BZ (Gv:Nat→List A→List A→Prop) (I0:List D→List D→Prop) (M0:List D→Nat) (z0:Bool) (l0:List (List D)) (Q:List A→Prop):wpF CC Gv (fun _=>⟨[.slot 3 (.int .i64 0)],[],I0,M0⟩) Tryz.f131 [.ag [.bool z0,.sl l0]] Q=(I0 [] [dI (0:Int)]∧∀(i:Int),I0 [] [dI i]→bB (decide (i<(bb l0.length))) ((0≤i∧i<(bb l0.length)∧bv (nth [] l0 (W2 i))=1)∧∃i_1,cut (nth [] l0 (W2 i)) 0 1 [T1 .u32 i_1]∧bB (decide (i_1≥1000000000)) (Q [aB false]) (I0 [] [dI (W0 .i64 (i+1))]∧M0 [dI (W0 .i64 (i+1))]<M0 [dI i])) (∃es,Gv 142 [aL l0] [aL es]∧bB ((bb es.length)==(bb l0.length)) (bB (!z0) (Q [aB true]) (Q [aB (decide ((bb l0.length)>0))])) (Q [aB false]))):=by kernel_rfl
end Eng
end
section
namespace Eng
open Go Go.Proofs Rl
set_option maxRecDepth 100000
theorem FJ {l:List Nat} {k:Nat} (h:k<l.length):nth [] (raw l) k=[T1 .u32 (l[k]:Int)]:=by
 rw[qF];unfold raw;simp[h]
theorem U4 {z:Int} (hz:Sm z):qe CC 131 [qS z] [.c (.bool true)]:=by
 have a4:=qh z.natAbs;have hv:=BZ (qe CC) (fun _ ds=>∃k:Nat,k≤(lim z.natAbs).length∧ds=[.int .i64 (k:Int)]) (zP 10000000) (decide (z<0)) (raw (lim z.natAbs)) (· =[.c (.bool true)]);rw[xF];refine gOk Tryz.func131 hv ?_;clear hv;have hlen:=hz.len;rw[YQ];refine⟨⟨0,g3 _,rfl⟩,?_⟩;rintro _ ⟨k,hk,he⟩;simp only[g0,U0,and_true,true_and]at he;subst he;refine brd (fun h=>?_) (fun h=>?_)
 ·have a3:k<(lim z.natAbs).length:=by simp only[ba]at h;omega
  have h9:=a4.get a3;rw[bc,FJ a3];refine⟨⟨by omega,by simp only[ba];omega,rfl⟩,_,⟨rfl,by simp⟩,brd (fun h2=>?_) (fun h2=>?_)⟩
  ·omega
  ·exact⟨⟨k+1,a3,by rw[wI];rfl⟩,qt⟩
 ·have ht:=jY a4 (by omega);rw[qj]at ht;refine⟨_,ht,?_⟩;rw[YQ];refine brb (fun _=>?_) (fun h2=>by simp at h2);refine brb (fun _=>rfl) (fun h3=>?_);have hn:z<0:=by simpa using h3
  have:0<(lim z.natAbs).length:=qK.2 (by omega);rw[decide_eq_true (by simp only[ba];omega)]
theorem z6 {x:Rat} {k:Nat} (hx:Hz k x) (hk:k<360000:=by omega):qe CC 71 [.ag (rk (q4 x) [])] [.c (.bool true)]:=by
 refine wpG Tryz.func71 ((Ud ..).mpr ?_);have hs:=hx.sr hk;have h1:=U4 hs.1.sm;have h2:=U4 hs.2.sm;have h3:=Xp (x.den:Int);have h4:=TT j8 hs.1.sm hs.2.sm;have h5:=Y7;have hg:Nat.gcd x.num.natAbs (x.den:Int).natAbs=1:=by rw[Int.natAbs_natCast];exact x.reduced
 have h6:=N9 (x:=1) (y:=1) (ji (n:=1) (g7 (by omega) (by omega))) (ji (n:=1) (g7 (by omega) (by omega)));have hd:=x.den_pos;have h7:sgn (x.den:Int)=1:=by unfold sgn;rw[if_neg (by omega),if_pos (by omega)]
 rw[hg]at h4;rw[h7]at h3;exact⟨_,h1,brb (fun h=>by cases h) (fun _=>⟨_,h2,brb (fun h=>by cases h) (fun _=>⟨_,h3,brb (fun h=>by cases h) (fun _=>⟨_,_,h4,_,_,h5,_,h6,rfl⟩)⟩)⟩)⟩
theorem V4 {p:P5} (hp:Gp p):qe CC 133 [.ag (pk (kP p) [])] [.c (.bool true)]:=by
 refine wpG Tryz.func133 ((Pu ..).mpr ?_);obtain⟨⟨h1,h2,h3,h4,h5⟩,ho⟩:=hp;refine⟨_,z6 h1,brb (fun h=>by cases h) (fun _=>⟨_,z6 h3,brb (fun h=>by cases h) (fun _=>⟨_,z6 h2,brb (fun h=>by cases h) (fun _=>⟨_,z6 h4,brb (fun h=>by cases h) (fun _=>⟨_,z6 h5,brb (fun h=>by cases h) (fun _=>?_)⟩)⟩)⟩)⟩)⟩;have sq:(¬(p.u=0∧p.v=0))→∃x b,qe CC 198 [Hx (rk (P20.c (kP p)) [])] [Hx (rk x []),Hy (Ts b)]∧∃i,qe CC 72 [Hx (rk (P20.c (kP p)) [])] [Hy (T1 W1 i)]∧
  br (toB (Ts (decide (i>(0:Int))))) ([Hy (Ts !b)]=[.c (.bool true)]) ([Hy (Ts false)]=[.c (.bool true)]):=by
  intro a3;rcases ho with⟨a,b,_⟩|⟨_,hc,hn⟩
  ·exact absurd ⟨a,b⟩ a3
  ·refine⟨_,_,Q3 h5 (Rat.le_of_lt hc) hn,_,zO _,?_⟩;exact brd (fun _=>rfl) (fun h=>absurd (Nu.2 hc) h)
 refine⟨_,zO _,?_⟩;rw[QE];refine brd (fun hu=>⟨_,zO _,?_⟩) (fun hu=>sq (fun k=>hu k.1));rw[QE];refine brd (fun hv=>⟨_,zO _,?_⟩) (fun hv=>sq (fun k=>hv k.2));rw[QE];have:p.c=0:=by
  rcases ho with⟨_,_,c⟩|⟨a3,_⟩
  ·exact c
  ·exact absurd ⟨hu,hv⟩ a3
 rw[decide_eq_true this]
theorem PQ {l:Ln} (hl:HL l) (h:okLn l):qe CC 134 [.ag (kL l [])] [.c (.bool true)]:=by
 refine wpG Tryz.func134 ((Py ..).mpr ?_);refine⟨_,z6 hl.1,zQ (fun _=>⟨_,z6 hl.2.1,zQ (fun _=>⟨_,z6 hl.2.2,zQ (fun _=>⟨_,zO _,?_⟩) (fun h=>by cases h)⟩) (fun h=>by cases h)⟩) (fun h=>by cases h)⟩;rw[bne,QE];refine brb (fun _=>rfl) (fun h1=>⟨_,zO _,?_⟩);have ha:l.a=0:=by simpa using h1
 rw[bne,QE,decide_eq_false (fun hb=>h ⟨ha,hb⟩)];rfl
theorem ZT {c:Ci} (hc:HC c) (h:0<c.q):qe CC 40 [.ag (kC c [])] [.c (.bool true)]:=by
 refine wpG Tryz.func40 ((HY ..).mpr ?_);refine⟨_,z6 hc.1,zQ (fun _=>⟨_,z6 hc.2.1,zQ (fun _=>⟨_,z6 hc.2.2,zQ (fun _=>⟨_,zO _,?_⟩) (fun h=>by cases h)⟩) (fun h=>by cases h)⟩) (fun h=>by cases h)⟩;rw[decide_eq_true (Nu.2 h)]
theorem LR {c:Cu} (hc:Gc c):qe CC 73 [.ag (ck (kU c) [])] [.c (.bool (WD c))]:=by
 refine wpG Tryz.func73 ((Lx ..).mpr ?_);have v1:=V4 hc.2.1;have v2:=V4 hc.2.2;have s1:=vH hc.1 hc.2.1;have s2:=vH hc.1 hc.2.2;have e1:=wP hc.2.1 hc.2.2;rw[←kH]at v1;rw[←vG]at v2;have a4:∀a7:Bool,a7=true→WD c=(a7&&(Jk c c.fr&&(Jk c c.tt&&!kO c.fr c.tt)))→∃b,qe CC 135 [Hx (ck (kU c) []),Hx (pk (J3 (kU c)) [])] [Hy (Ts b)]∧
  br b (∃b,qe CC 135 [Hx (ck (kU c) []),Hx (pk (I3 (kU c)) [])] [Hy (Ts b)]∧br b (∃b,qe CC 106 [Hx (pk (J3 (kU c)) []),Hx (pk (I3 (kU c)) [])] [Hy (Ts b)]∧[Hy (Ts !b)]=[.c (.bool (WD c))]) ([Hy (Ts false)]=[.c (.bool (WD c))])) ([Hy (Ts false)]=[.c (.bool (WD c))]):=by
  intro a7 hp he;rw[kH,vG,he,hp,Aw];refine⟨_,s1,zQ (fun h=>?_) (fun h=>?_)⟩
  ·rw[h,Aw];refine⟨_,s2,zQ (fun h=>?_) (fun h=>?_)⟩
   ·rw[h,Aw];exact⟨_,e1,rfl⟩
   ·rw[h];rfl
  ·rw[h];rfl
 refine⟨_,v1,brb (fun h=>by cases h) (fun _=>⟨_,v2,brb (fun h=>by cases h) (fun _=>?_)⟩)⟩;rw[yx,ZY];rcases hc.1.2 with⟨ha,hC,hq⟩|⟨ha,hL,a8⟩
 ·have t1:=a4 (decide (0<c.ci.q)) (decide_eq_true hq) (by unfold WD;rw[if_pos ha]);have a5:Lv (kU c)=q4 c.ci.x∧Ls (kU c)=q4 c.ci.y∧Lr (kU c)=q4 c.ci.q:=by unfold kU;rw[ha];exact⟨rfl,rfl,rfl⟩
  rw[ha,a5.1,a5.2.1,a5.2.2];refine brb (fun _=>⟨_,ZT hC hq,brb (fun h=>by cases h) (fun _=>brb (fun h=>by cases h) (fun _=>t1))⟩) (fun h=>by cases h)
 ·have a6:Pl (kU c)=q4 c.ln.a∧No (kU c)=q4 c.ln.b∧M3 (kU c)=q4 c.ln.c:=by unfold kU;rw[ha];exact⟨rfl,rfl,rfl⟩
  have a3:WD c=((!c.cw&&decide (¬(c.ln.a=0∧c.ln.b=0)))&&(Jk c c.fr&&(Jk c c.tt&&!kO c.fr c.tt))):=by unfold WD;rw[if_neg (by rw[ha];simp)]
  rw[ha,a6.1,a6.2.1,a6.2.2];refine brb (fun h=>by cases h) (fun _=>brb (fun _=>?_) (fun h=>by cases h));refine brb (fun h=>?_) (fun h=>?_)
  ·have h:c.cw=true:=h;rw[a3,h];rfl
  ·have h:c.cw=false:=h;have t1:=a4 (!c.cw&&decide (¬(c.ln.a=0∧c.ln.b=0))) (by rw[h,decide_eq_true (show ¬(c.ln.a=0∧c.ln.b=0)from a8)];rfl) a3;exact⟨_,PQ hL a8,brb (fun h=>by cases h) (fun _=>t1)⟩
end Eng
end
section
namespace Eng
open Rl
theorem XA {x y:Rl}:sg (x-y)<0↔x<y:=by
 rw[←Np];rcases zd (x-y)with⟨h,e⟩|⟨h,e⟩|⟨h,e⟩<;>rw[e]
 ·exact⟨fun k=>by omega,fun k=>absurd k (vE h)⟩
 ·exact⟨fun k=>by omega,fun k=>by rw[h]at k;exact absurd k (kB _)⟩
 ·exact⟨fun _=>h,fun _=>by omega⟩
theorem KZ {x y:Rl}:0<sg (x-y)↔y<x:=by
 rw[←HG];rcases zd (x-y)with⟨h,e⟩|⟨h,e⟩|⟨h,e⟩<;>rw[e]
 ·exact⟨fun _=>h,fun _=>by omega⟩
 ·exact⟨fun k=>by omega,fun k=>by rw[h]at k;exact absurd k (kB _)⟩
 ·exact⟨fun k=>by omega,fun k=>absurd k (vE h)⟩
theorem Ca {x y:Rl}:sg (x-y)=0↔x=y:=by
 rw[xT];exact⟨ka,fun h=>by rw[h,sbs]⟩
theorem U5 {x y:Rl} (h:x<y):sg (x-y)= -1:=by
 have:=XA.2 h;rcases zd (x-y)with⟨_,e⟩|⟨_,e⟩|⟨_,e⟩<;>omega
theorem V5 {x y:Rl} (h:y<x):sg (x-y)=1:=by
 have:=KZ.2 h;rcases zd (x-y)with⟨_,e⟩|⟨_,e⟩|⟨_,e⟩<;>omega
theorem Gj (x y:Rl):sg (y-x)= -sg (x-y):=by
 rcases ZF x y with h|h|h
 ·rw[U5 h,V5 h];rfl
 ·rw[h,sbs,zH];rfl
 ·rw[V5 h,U5 h]
theorem tT (z:Rl) {x y:Rl}:x-z<y-z↔x<y:=AU (-z)
theorem lK {z x y:Rl} (h:x-z=y-z):x=y:=by
 have e:∀x:Rl,x=(x-z)+z:=fun x=>by obtain⟨x,rfl⟩:=x.rep;obtain⟨z,rfl⟩:=z.rep;exact xD fun n=>by simp only[zi,zF];grind
 rw[e x,e y,h]
theorem lL (x y:Rl):y*y-x*x=(y-x)*(y+x):=by
 obtain⟨x,rfl⟩:=x.rep;obtain⟨y,rfl⟩:=y.rep;exact xD fun n=>by simp only[zi,zF,kA];grind
theorem NZ {x y x' y':Rl} (h:x*x+y*y=x'*x'+y'*y') (hy:y=0) (hx:0<x):x'≤x:=by
 rw[←Rl.not_lt];intro a3;have h1:0<x'*x'-x*x:=by rw[lL];exact mul_pos (HG.2 a3) (TZ (lt_trans hx a3) hx)
 have h2:x'*x'-x*x= -(y'*y'):=by rw[hy,ml0,ad0]at h;rw[h];generalize x'*x'=a;generalize y'*y'=b;obtain⟨a,rfl⟩:=a.rep;obtain⟨b,rfl⟩:=b.rep;exact xD fun n=>by simp only[zi,zF];grind
 rw[h2,xB]at h1;exact tG y' h1
theorem U6 {x y y':Rl} (h:x*x+y*y=x*x+y'*y'):y*y=y'*y':=by
 generalize x*x=a at h;have e:∀b:Rl,b=(a+b)-a:=fun b=>by obtain⟨a,rfl⟩:=a.rep;obtain⟨b,rfl⟩:=b.rep;exact xD fun n=>by simp only[zi,zF];grind
 rw[e (y*y),e (y'*y'),h]
theorem Gk {y:Rl} (h:y*y=0):y=0:=by rcases mul_eq_zero h with h|h<;>exact h
theorem cG {y y':Rl} (h:y*y=y'*y') (hs:(0≤y∧0≤y')∨(y≤0∧y'≤0)):y=y':=by
 rcases hs with⟨h1,h2⟩|⟨h1,h2⟩
 ·exact Nr h1 h2 h
 ·have e:∀z:Rl, -z* -z=z*z:=fun z=>by rw[Pj,HH,WB]
  have n1:0≤ -y:=by rw[←Rl.not_lt];intro k;exact h1 (j7.1 k)
  have n2:0≤ -y':=by rw[←Rl.not_lt];intro k;exact h2 (j7.1 k)
  have:=Nr n1 n2 (by rw[e,e,h]);rw[←WB y,this,WB]
noncomputable def cX (c:Ci) (p:P5):Rl:=px p-ofR c.x
noncomputable def cY (c:Ci) (p:P5):Rl:=py p-ofR c.y
def onC (c:Ci) (p:P5):Prop:=cX c p*cX c p+cY c p*cY c p=ofR c.q
theorem cJ {c:Ci} {p:P5}:sg (civ c p)=0↔onC c p:=by
 rw[xT];exact⟨ka,fun h=>by unfold civ;rw[show(px p-ofR c.x)*(px p-ofR c.x)+(py p-ofR c.y)*(py p-ofR c.y)=ofR c.q from h,sbs]⟩
theorem lM {c:Ci} {p q:P5}:cX c p<cX c q↔px p<px q:=tT _
theorem lN {c:Ci} {p q:P5} (h:cY c p=cY c q):py p=py q:=lK h
theorem Zr {c:Ci} {p:P5}:upB c p=true↔0<cY c p∨(cY c p=0∧0<cX c p):=by
 unfold upB cY cX;rw[Bool.or_eq_true,Bx,decide_eq_true_eq,decide_eq_true_eq,beq_iff_eq,KZ,KZ,Ca,HG,HG];constructor
 ·rintro(h|⟨h1,h2⟩)
  ·exact .inl h
  ·exact .inr ⟨by rw[h1,sbs],h2⟩
 ·rintro(h|⟨h1,h2⟩)
  ·exact .inl h
  ·exact .inr ⟨ka h1,h2⟩
theorem U7 {c:Ci} {p:P5} (h:upB c p=false):cY c p≤0∧(cY c p=0→cX c p≤0):=by
 have h1:¬(0<cY c p∨(cY c p=0∧0<cX c p)):=fun k=>by rw[Zr.2 k]at h;cases h
 exact⟨fun k=>h1 (.inl k),fun e k=>h1 (.inr ⟨e,k⟩)⟩
theorem Zs {c:Ci} {p:P5} (h:upB c p=true):0≤cY c p:=by
 rcases Zr.1 h with h|h
 ·exact le_of_lt h
 ·rw[h.1];exact jH
theorem Gl {c:Ci} {p q:P5} (hp:onC c p) (hq:onC c q) (hx:px p=px q) (hs:(0≤cY c p∧0≤cY c q)∨(cY c p≤0∧cY c q≤0)):ZJ p q:=by
 refine⟨hx,lN (cG ?_ hs)⟩;have e:cX c p=cX c q:=by unfold cX;rw[hx]
 unfold onC at hp hq;rw[e]at hp;exact U6 (hp.trans hq.symm)
theorem Zt {c:Ci} {p q:P5} (hp:onC c p) (hq:onC c q) (h:qx c p q=0):ZJ p q:=by
 unfold qx at h;split at h
 ·rename_i hu;have hx:px p=px q:=by
   split at h
   ·exact Ca.1 (by omega)
   ·exact Ca.1 h
  refine Gl hp hq hx ?_;cases hb:upB c p with
  |true=>rw[hb]at hu;exact .inl ⟨Zs hb,Zs hu.symm⟩
  |false=>rw[hb]at hu;exact .inr ⟨(U7 hb).1,(U7 hu.symm).1⟩
 ·split at h<;>omega
theorem V6 (c:Ci) (p q:P5):qx c q p= -qx c p q:=by
 unfold qx;by_cases h:upB c p=upB c q
 ·rw[if_pos h,if_pos h.symm,←h,Gj];split<;>omega
 ·rw[if_neg h,if_neg (fun k=>h k.symm)];cases h1:upB c p<;>cases h2:upB c q<;>rw[h1,h2]at h<;>simp at h ⊢
theorem XB {c:Ci} {p q r:P5} (h1:qx c p q≤0) (h2:qx c q r<0):qx c p r<0:=by
 unfold qx at *;cases hp:upB c p<;>cases hq:upB c q<;>cases hr:upB c r<;>simp only[hp,hq,hr,Dd,Bool.true_eq_false,if_true,if_false]at h1 h2 ⊢
 ·rw[XA]at h2 ⊢;have h3:¬px q<px p:=fun k=>by have:=KZ.2 k;omega
  exact lt_of_le_of_lt h3 h2
 all_goals first|omega|skip
 ·have h3:px r<px q:=KZ.1 (by omega);have h4:¬px p<px q:=fun k=>by have:=XA.2 k;omega
  have:=KZ.2 (lt_of_lt_of_le h3 h4);omega
end Eng
end
