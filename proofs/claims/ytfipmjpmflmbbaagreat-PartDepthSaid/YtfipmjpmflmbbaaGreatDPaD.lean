/- Chapter 11 of the document: monotone curves, their order. -/
import Derived.Test.YtfipmjpmflmbbaaGreatDPaC
import Derived.Test.YtfipmjpmflmbbaaGreatDPaA
import Derived.KernelRfl
open Bool renaming true_and→Aw, and_eq_true→Bx, false_eq_true→Dd, false_or→F0, not_eq_true'→F2, true_or→Hu
open Eng renaming room→Hv
open Eng.C66 renaming tt→Hx, fr→Hy, arc→I3, cw→J3, cq→J4, cy→Lm, cx→Lr, lc→Ls, lb→Lv, la→M3
open Eng.D renaming sl→No, bool→Pl, int→P1
open Eng.D.int renaming injEq→Ts
open Eng.D.sl renaming injEq→T1
open Eng.Hz renaming zero→U0
open Go.IntKind renaming wrap→U3, i64→V1
open Int renaming toNat→W0, ofNat_eq_natCast→W1, ofNat→W2, toNat_natCast→ba, le_refl→bb, tmod→bc
open LawfulBEq renaming eq_of_beq→bd
open List renaming take→be, getElem?_eq_getElem→bh, length→bm, getElem_mem→bs, take_succ_eq_append_getElem→bv, drop→bw, mem_singleton→bx, drop_eq_getElem_cons→b9, length_cons→ca, length_take→cb, length_append→cg, length_drop→cp, mem_cons→cr, take_of_length_le→cv, take_length→cH, length_filter_le→cL, drop_eq_nil_of_le→dc, length_nil→dl, mem_append→ea, append_nil→eb, append_assoc→ed, flatMap_append→el, foldl_append→en, mem_filter→er, length_map→ey, set_append_right→ez, filter_append→e5, mem_map→e7, not_mem_nil→e8, range_succ→eH, nil_append→fg, mem_of_getElem?→fl, reverse_append→fs, mem_reverse→ft, getElem_map→fw, all_eq_true→fx, map_append→fz, length_set→fR, map_take→fS, map_drop→ga, range→gb
open List.cons renaming injEq→gm
open Nat renaming zero_le→gr, le_refl→gz, sub_self→g0, one_lt_pow→g3, mul_le_mul→g4, le_trans→g5
open Option.some renaming inj→g7
set_option maxRecDepth 1000000
section
namespace Eng
open Go Go.Proofs Rl
def Gd (c:Cu):Prop:=Gc c∧WL c=true
theorem Gd.sup {c:Cu} (h:Gd c):Zl c c.fr=true∧Zl c c.tt=true∧wC c.fr c.tt=false:=by
 have:=h.2;unfold WL at this;simp only[Bx,F2]at this;exact this.2
theorem Gd.cw {c:Cu} (h:Gd c) (ha:c.arc=false):c.cw=false:=by
 have:=h.2;unfold WL at this;rw[ha]at this;simp only[Bx]at this;have h1:=this.1;simp at h1;exact h1.1
theorem Gd.circ {c:Cu} (h:Gd c) (ha:c.arc=true):HC c.ci∧0<c.ci.q:=by
 rcases h.1.1.2 with k|k
 ·exact k.2
 ·rw[ha]at k;cases k.1
theorem Gd.line {c:Cu} (h:Gd c) (ha:c.arc=false):HL c.ln∧okLn c.ln:=by
 rcases h.1.1.2 with k|k
 ·rw[ha]at k;cases k.1
 ·exact k.2
theorem KT {c:Cu} {p:P5} (hc:Gc c) (hp:Gp p):qc CC 200 [aC (kU c),aP (kP p)] [aB (W3 c p)]:=by
 refine wpG Tryz.func200 ((LA ..).mpr ?_);have h1:=wW hc.2.1 hp;have h2:=wW hc.2.2 hp;rw[←jv]at h1;rw[←kj]at h2;refine⟨_,vJ hc hp,?_⟩;unfold W3;refine zH (fun h=>?_) (fun h=>?_)
 ·rw[h,Aw];refine⟨_,h1,?_⟩;refine brb (fun h=>?_) (fun h=>?_)
  ·rw[h,Aw];exact⟨_,h2,rfl⟩
  ·rw[h];rfl
 ·rw[h];rfl
theorem Zp {c:Cu} (hc:Gc c):qc CC 67 [aC (kU c)] [aB (ya c)]:=by
 refine wpG Tryz.func67 ((PM ..).mpr ?_);have h1:=kM c.fr;have h2:=kM c.tt;rw[←jv]at h1;rw[←kj]at h2;have h3:=cG hc.2.1.tx.1 hc.2.2.tx.1 hc.2.1.tx.2 hc.2.2.tx.2;rw[X2,X2]at h3;rw[wt];unfold ya;refine brb (fun h=>?_) (fun h=>?_)
 ·rw[h,Aw];exact⟨_,_,_,h1,_,_,_,h2,_,h3,rfl⟩
 ·rw[h];rfl
theorem Us {c:Cu} {r:Rt} (hc:Gc c) (hr:HT 1300 1300 1300 r) (ho:okT r):qc CC 126 [aC (kU c),.ag (kT r [])] [aB (Qb c (rv r))]:=by
 refine wpG Tryz.func126 ((Uh ..).mpr ?_);have h1:=kM c.fr;have h2:=kM c.tt;rw[←jv]at h1;rw[←kj]at h2;have h3:=wq hc.2.1.tx.1 hr hc.2.1.tx.2 ho;have h4:=wq hr hc.2.2.tx.1 ho hc.2.2.tx.2;rw[X2]at h3 h4;refine⟨_,_,_,h1,_,h3,?_⟩;unfold Qb;refine brd (fun h=>?_) (fun h=>?_)
 ·rw[decide_eq_true h,Aw];exact⟨_,_,_,h2,_,h4,rfl⟩
 ·rw[decide_eq_false h];rfl
theorem LI {c:Cu} {p:P5} (hc:Gc c) (hp:Gp p):∃e,qc CC 69 [aC (kU c),aP (kP p)] [.c (dI (xG c p).1),aI e]:=by
 have go:∀e,wpF CC (qc CC) an0 Tryz.f69 [aC (kU c),aP (kP p)] (· =[.c (dI (xG c p).1),aI e])→qc CC 69 [aC (kU c),aP (kP p)] [.c (dI (xG c p).1),aI e]:=fun e h=>qu (anns:=an0) mixedT Tryz.func69 h
 refine⟨if Qb c (px p)=false then 1 else 0,go _ ((LB ..).mpr ?_)⟩;have hw:=Us hc hp.tx.1 hp.tx.2;rw[X2]at hw;refine⟨_,_,_,kM p,_,hw,?_⟩;unfold xG;cases hb:Qb c (px p)with
 |false=>exact brb (fun _=>rfl) (fun h=>by cases h)
 |true=>
  refine brb (fun h=>by cases h) (fun _=>?_);rw[if_neg (show ¬(true=false)by simp),if_neg (show ¬(true=false)by simp)];refine⟨_,Zp hc,?_⟩;have h1:=Qo c.fr;have h2:=Qo c.tt;rw[←jv]at h1;rw[←kj]at h2;refine zH (fun h=>?_) (fun h=>?_)
  ·rw[if_pos h];refine⟨_,_,_,Qo p,_,_,_,h2,_,BQ hp hc.2.2,?_⟩;refine brd (fun h3=>?_) (fun h3=>?_)
   ·rw[if_pos (show 0<sg (py p-py c.tt)from h3)]
   ·rw[if_neg (show ¬0<sg (py p-py c.tt)from h3)];refine⟨_,_,_,Qo p,_,_,_,h1,_,BQ hp hc.2.1,?_⟩;refine brd (fun h4=>?_) (fun h4=>?_)
    ·rw[if_pos h4]
    ·rw[if_neg h4]
  ·rw[if_neg (by rw[h];simp),wt];cases ha:c.arc with
   |false=>
    refine brb (fun _=>?_) (fun h=>by cases h);obtain⟨arc,ln,ci,cw,fr,tt,jk⟩:=c;subst ha;have hl:HL ln:=by rcases hc.1.2 with h|h;cases h.1;exact h.2.1
    refine⟨_,Uk hl hp.1 hp.2,_,zM _,?_⟩;rw[jm (Bw _) (KB _),if_pos rfl]
   |true=>
    refine brb (fun h=>by cases h) (fun _=>?_);obtain⟨arc,ln,ci,cw,fr,tt,jk⟩:=c;subst ha;have hC:HC ci:=by rcases hc.1.2 with h|h;exact h.2.1;cases h.1
    have h5:=L0 hp.ty.1 hp.ty.2 hC.2.1;rw[KC]at h5;refine⟨_,_,_,Qo p,_,h5,_,KN hC hp.1 hp.2,?_⟩;rw[if_neg (by simp)];cases cw with
    |true=>
     refine brb (fun _=>?_) (fun h=>by cases h);rw[if_pos rfl];refine brd (fun h3=>?_) (fun h3=>?_)
     ·rw[if_pos h3]
     ·rw[if_neg h3];have hw2: -1≤ -sg (civ ci p)∧ -sg (civ ci p)≤1:=by have:=Bw (civ ci p);omega
      rw[KM hw2,Int.neg_neg]
    |false=>
     refine brb (fun h=>by cases h) (fun _=>?_);rw[if_neg (by simp)];refine brd (fun h3=>?_) (fun h3=>?_)
     ·rw[if_pos (show 0<sg (py p-ofR ci.y)from h3)]
     ·rw[if_neg (show ¬0<sg (py p-ofR ci.y)from h3)]
def kS (s:Int×Rt):List D:=dI s.1::(if s.1=0 then kT s.2 []else rk z4A (rk z4A (rk z4A [])))
theorem LJ {c:Cu} (h:Gd c) (ha:c.arc=false) (hv:ya c=false):c.ln.b≠0:=by
 intro hb;obtain⟨h1,h2,_⟩:=h.sup;unfold Zl at h1 h2;rw[ha]at h1 h2;simp only[Dd,if_false,beq_iff_eq]at h1 h2;rw[xe]at h1 h2;unfold lnv at h1 h2;rw[hb,xH,zml,ad0]at h1 h2;have e1:=jg h1;have e2:=jg h2;have e3:ofR c.ln.a*(px c.fr-px c.tt)=0:=by rw[show px c.fr-px c.tt=px c.fr+ -px c.tt from rfl,mld,HN,e1,e2];exact adn _
 have ha0:ofR c.ln.a≠0:=fun e=>(h.line ha).2 ⟨Q4.1 e,hb⟩
 have e4:=(mul_eq_zero e3).resolve_left ha0;unfold ya at hv;rw[ha,e4,zL]at hv;simp at hv
theorem ID {r:Rt} (hr:HT 1321 1300 1300 r) (ho:okT r) (h:rv r≠0):HT 7864 7843 1300 (eS r):=by
 have hn:=NC (m:=6543) hr (by omega);have hn0:w5 r≠0:=ho.norm fun k=>h (ho.zero.2 k)
 have h1:=(Hz.one (k:=0)).div hn hn0 (l:=6543) (by omega);exact NM (hr.1.mul h1 (by omega)) (hr.2.1.mul h1 (by omega)).neg hr.2.2
def slX (c:Cu) (p:P5):Rt:=iX (Bq (xP p) (-c.ci.x))
def slY (c:Cu) (p:P5):Rt:=Bq (yP p) (-c.ci.y)
theorem IE {c:Cu} {p:P5} (hC:HC c.ci) (hp:Gp p):HT 1321 1300 1300 (slX c p)∧okT (slX c p)∧((slX c p).b=0∨(slX c p).c=p.c):=by
 refine⟨(hp.tx.1.add hC.1.neg (by omega)).neg,(hp.tx.2.add _).neg,?_⟩;rcases l9 p with h|h
 ·left;show-(xP p).b=0;grind
 ·right;exact h
theorem IF {c:Cu} {p:P5} (hC:HC c.ci) (hp:Gp p):HT 1321 1300 1300 (slY c p)∧okT (slY c p)∧((slY c p).b=0∨(slY c p).c=p.c)∧rv (slY c p)=py p-ofR c.ci.y:=by
 refine⟨hp.ty.1.add hC.2.1.neg (by omega),hp.ty.2.add _,?_,?_⟩
 ·rcases lC p with h|h
  ·left;exact h
  ·right;exact h
 ·unfold slY;rw[Ix,KC,jW];rfl
theorem NR {c:Cu} {p:P5} (h:Gd c) (hp:Gp p):HT 19700 18400 1300 (xF c p).2∧okT (xF c p).2:=by
 have hz:HT 19700 18400 1300 ⟨0,0,0⟩∧okT ⟨0,0,0⟩:=⟨⟨U0,U0,U0⟩,K9 0⟩;unfold xF;split
 ·exact hz
 rename_i hv;have hv:ya c=false:=by simpa using hv
 split
 ·rename_i ha;have hl:=h.line ha;have hb:=LJ h ha hv;exact⟨⟨hl.1.1.neg.div hl.1.2.1 hb (by omega),U0,U0⟩,K9 _⟩
 rename_i ha;have ha:c.arc=true:=by simpa using ha
 split
 ·exact hz
 rename_i h0;have hC:=(h.circ ha).1;obtain⟨x1,x2,x3⟩:=IE hC hp;obtain⟨y1,y2,y3,y4⟩:=IF hC hp;have hne:rv (slY c p)≠0:=fun e=>h0 (by rw[←y4,e,zL])
 exact⟨Uj x1 (ID y1 y2 hne) (by omega) (by omega),KH x2 (cN y2)⟩
theorem Ut {c:Cu} {p:P5} (h0:(xF c p).1≠0) (h2:(xF c p).1≠2):c.arc=true:=by
 unfold xF at h0 h2;split at h2
 ·exact absurd rfl h2
 rename_i hv;rw[if_neg hv]at h0;split at h0
 ·exact absurd rfl h0
 ·rename_i ha;simpa using ha
theorem KU {c:Cu} {p:P5} (h:Gd c) (hp:Gp p):qc CC 256 [aC (kU c),aP (kP p)] [.ag (kS (xF c p))]:=by
 have hn:=fun ha hv=>LJ h ha hv
 have hl:=fun ha=>h.line ha
 have hC:=fun ha=>h.circ ha
 have hx:=fun ha=>IE (c:=c) (p:=p) (hC ha).1 hp
 have hy:=fun ha=>IF (c:=c) (p:=p) (hC ha).1 hp
 refine wpG Tryz.func256 ((LC ..).mpr ?_);refine⟨_,Zp h.1,?_⟩;unfold xF;refine zH (fun hv=>?_) (fun hv=>?_)
 ·rw[if_pos hv];rfl
 rw[if_neg (by rw[hv];simp),wt];cases ha:c.arc with
 |false=>refine brb (fun _=>?_) (fun h=>by cases h);rw[if_pos rfl];have hb:=hn ha hv;have hL:=(hl ha).1;clear hx hy hn hl hC h;obtain⟨arc,ln,ci,cw,fr,tt,jk⟩:=c;subst ha;exact⟨_,Lz hL.1,_,_,tJ hL.1.neg hL.2.1 hb,_,_,_,jQ _,rfl⟩
 |true=>
  refine brb (fun h=>by cases h) (fun _=>?_);rw[if_neg (by simp)];obtain⟨x1,x2,x3⟩:=hx ha;obtain⟨y1,y2,y3,y4⟩:=hy ha;have hc:=(hC ha).1;clear hx hy hn hl hC h;obtain⟨arc,ln,ci,cw,fr,tt,jk⟩:=c;subst ha;have hs:=yz y1 y2;rw[y4]at hs;refine⟨_,_,_,kM p,_,Lz hc.1,_,_,_,vH hp.tx.1 hc.1.neg,_,_,_,Qo p,_,Lz hc.2.1,_,_,_,vH hp.ty.1 hc.2.1.neg,_,hs,?_⟩;refine brb (fun h0=>?_) (fun h0=>?_)
  ·rw[if_pos (bd h0)];cases cw with
   |true=>exact brb (fun _=>rfl) (fun h=>by cases h)
   |false=>exact brb (fun h=>by cases h) (fun _=>rfl)
  ·have h0:sg (py p-ofR ci.y)≠0:=by simpa using h0
   rw[if_neg h0];have a3:rv (slY ⟨true,ln,ci,cw,fr,tt,jk⟩ p)≠0:=fun e=>h0 (by rw[show py p-ofR ci.y=0 from y4▸e,zL])
   exact⟨_,_,_,_,F9 y1 y2 a3,_,_,_,F8 (hp.tx.1.add hc.1.neg (gz _)),_,_,_,_,ND x1 (ID y1 y2 a3) (L2 x3 (l7 y3)),rfl⟩
theorem V3 (c:Cu):qc CC 296 [aC (kU c)] [aI (yb c)]:=by
 refine wpG Tryz.func296 ((PO ..).mpr ?_);rw[wt,WM];unfold yb;cases c.arc with
 |false=>exact brb (fun _=>rfl) (fun h=>by cases h)
 |true=>
  refine brb (fun h=>by cases h) (fun _=>?_);cases c.cw with
  |true=>exact brb (fun _=>rfl) (fun h=>by cases h)
  |false=>exact brb (fun h=>by cases h) (fun _=>rfl)
theorem BR (c:Cu): -1≤yb c∧yb c≤1:=by
 unfold yb;split
 ·omega
 ·split<;>omega
theorem Uu {c:Cu} (h:yb c≠0):c.arc=true:=by
 unfold yb at h;split at h
 ·exact absurd rfl h
 ·rename_i ha;simpa using ha
theorem FP {c:Cu} (h:c.arc=true):J4 (kU c)=q4 c.ci.q:=by unfold kU;rw[h]
theorem PU {c d:Cu} (hc:Gd c) (hd:Gd d):qc CC 257 [aC (kU c),aC (kU d)] [aI (cz c d)]:=by
 refine wpG Tryz.func257 ((PN ..).mpr ?_);refine⟨_,V3 c,_,V3 d,?_⟩;unfold cz;refine brb (fun h=>?_) (fun h=>?_)
 ·rw[if_neg (by simpa using h)];refine brd (fun h1=>?_) (fun h1=>?_)
  ·rw[if_pos h1]
  ·rw[if_neg h1]
 ·have e:yb c=yb d:=by simpa using h
  rw[if_pos e];refine brb (fun h1=>?_) (fun h1=>?_)
  ·rw[if_pos (bd h1)]
  ·have n1:yb c≠0:=by simpa using h1
   have a1:=Uu n1;have a2:=Uu (e▸n1);rw[if_neg n1,FP a1,FP a2];refine⟨_,PC (hc.circ a1).1.2.2 (hd.circ a2).1.2.2,?_⟩;have hw: -1≤ -yb c∧ -yb c≤1:=by have:=BR c;omega
   rw[KM (BR c),jm hw (KB _)]
theorem NS (s:Int×Rt):∃x y z,kS s=dI s.1::rk x (rk y (rk z []))∧(s.1=0→rk x (rk y (rk z []))=kT s.2 []):=by
 unfold kS;by_cases h:s.1=0
 ·rw[if_pos h];exact⟨_,_,_,rfl,fun _=>rfl⟩
 ·rw[if_neg h];exact⟨_,_,_,rfl,fun k=>absurd k h⟩
theorem cZ (c:Cu) (p:P5): -1≤(xF c p).1∧(xF c p).1≤2:=by
 unfold xF;split
 ·omega
 split
 ·omega
 split
 ·split<;>omega
 ·omega
theorem LK {c d:Cu} (hc:Gd c) (hd:Gd d):∃e,qc CC 199 [aC (kU c),aC (kU d)] [aI (Vu c d),aI e]:=by
 have go:∀e,wpF CC (qc CC) an0 Tryz.f199 [aC (kU c),aC (kU d)] (· =[aI (Vu c d),aI e])→qc CC 199 [aC (kU c),aC (kU d)] [aI (Vu c d),aI e]:=fun e h=>qu (anns:=an0) mixedT Tryz.func199 h
 refine⟨if wC c.fr d.fr=false then 1 else 0,go _ ((LF ..).mpr ?_)⟩;have h1:=wW hc.1.2.1 hd.1.2.1;rw[←jv,←jv]at h1;have s1:=KU hc hc.1.2.1;have s2:=KU hd hd.1.2.1;rw[←jv]at s1 s2;obtain⟨x1,x2,x3,e1,k1⟩:=NS (xF c c.fr);obtain⟨y1,y2,y3,e2,k2⟩:=NS (xF d d.fr);rw[e1]at s1;rw[e2]at s2;refine⟨_,h1,?_⟩;unfold Vu;cases hb:wC c.fr d.fr with
 |false=>exact brb (fun _=>rfl) (fun h=>by cases h)
 |true=>
  refine brb (fun h=>by cases h) (fun _=>?_);rw[if_neg (show ¬(true=false)by simp),if_neg (show ¬(true=false)by simp)];refine⟨_,_,_,_,s1,_,_,_,_,s2,?_⟩;refine brb (fun h=>?_) (fun h=>?_)
  ·rw[if_neg (by simpa using h)];refine brd (fun h2=>?_) (fun h2=>?_)
   ·rw[if_pos h2]
   ·rw[if_neg h2]
  ·have e:(xF c c.fr).1=(xF d d.fr).1:=by simpa using h
   rw[if_pos e];refine brb (fun h2=>?_) (fun h2=>?_)
   ·rw[if_pos (bd h2)]
   have n2:(xF c c.fr).1≠2:=by simpa using h2
   rw[if_neg n2];refine brb (fun h3=>?_) (fun h3=>?_)
   ·have n3:(xF c c.fr).1≠0:=by simpa using h3
    have a1:=Ut n3 n2;have a2:=Ut (e▸n3) (e▸n2);rw[if_neg n3,FP a1,FP a2];refine⟨_,PC (hc.circ a1).1.2.2 (hd.circ a2).1.2.2,?_⟩;have hw: -1≤(xF c c.fr).1∧(xF c c.fr).1≤1:=by have:=cZ c c.fr;omega
    rw[jm hw (KB _)]
   ·have n3:(xF c c.fr).1=0:=by simpa using h3
    rw[if_pos n3,aT,aT,k1 n3,k2 (e▸n3)];obtain⟨t1,o1⟩:=NR hc hc.1.2.1;obtain⟨t2,o2⟩:=NR hd hd.1.2.1;refine⟨_,wq t1 t2 o1 o2,?_⟩;refine brb (fun h4=>?_) (fun h4=>?_)
    ·rw[if_neg (by simpa using h4)]
    ·rw[if_pos (by simpa using h4)];exact⟨_,PU hc hd,rfl⟩
theorem X8 {c d:Cu} (hc:Gd c) (hd:Gd d):qc CC 136 [aC (kU c),aC (kU d)] [aI (Fk c d)]:=by
 refine wpG Tryz.func136 ((YR ..).mpr ?_);have h1:=y7 hc.1.2.1 hd.1.2.1;have h2:=y7 hc.1.2.2 hd.1.2.2;rw[←jv,←jv]at h1;rw[←kj,←kj]at h2;obtain⟨e,h3⟩:=LK hc hd;refine⟨_,h1,?_⟩;unfold Fk;refine brb (fun h=>?_) (fun h=>?_)
 ·rw[if_neg (by simpa using h)]
 rw[if_pos (by simpa using h)];refine⟨_,_,h3,?_⟩;refine brb (fun h=>?_) (fun h=>?_)
 ·rw[if_neg (by simpa using h)]
 rw[if_pos (by simpa using h)];exact⟨_,h2,rfl⟩
theorem vK {c:Cu} (h:c.arc=false→c.cw=false):qc CC 201 [aC (kU c)] [aC (kU (Lf c))]:=by
 rw[aC,aC,lJ c h];refine qu (anns:=an0) mixedT Tryz.func201 ?_;rw[YQ,wt,WM,jv,kj];cases ha:c.arc with
 |true=>exact brb (fun _=>rfl) (fun h=>by cases h)
 |false=>exact brb (fun h=>by cases h) (fun _=>rfl)
end Eng
end
section
open Go Go.Proofs Eng
namespace Eng
theorem Uv (Gv:Nat→List A→List A→Prop) (I0:List D→List D→Prop) (M0:List D→Nat) (I1:List D→List D→Prop) (M1:List D→Nat) (J8:List D→List D→Prop) (J9:List D→List D→Prop) (c0:C66) (l0:List (List D)) (Q:List A→Prop):wpF CC Gv (Tf (Tf (G7 ⟨[.slot 6 (.int .i64 0),.slot 5 (.slice none 0 0)],[],I0,M0⟩ ⟨[.slot 7 (.int .i64 0)],[.slot 6 (.int .i64 0),.slot 5 (.slice none 0 0)],I1,M1⟩) 8 ⟨[.slot 7 (.int .i64 0)],[.slot 6 (.int .i64 0),.slot 5 (.slice none 0 0)],J8,fun _=>0⟩) 9 ⟨[.slot 7 (.int .i64 0)],[.slot 6 (.int .i64 0),.slot 5 (.slice none 0 0)],J9,fun _=>0⟩) Tryz.f203 [.ag (ck c0 []),.c (.sl l0)] Q=(I0 [] [dI (0:Int),No []]∧∀(i:Int) (es:List (List D)),I0 [] [dI i,No es]→bB (decide (i<(W2 l0.length))) ((I1 [dI i,No es] [dI (0:Int)]∧∀(i_1:Int),I1 [dI i,No es] [dI i_1]→bB (decide (i_1<(W2 es.length))) (rO es i_1 20∧∃x,cU es i_1 0 20 (pk x [])∧rO l0 i 20∧∃x1,cU l0 i 0 20 (pk x1 [])∧∃i_2,Gv 186 [aC c0,aP x,aP x1] [aI i_2]∧bB (decide (i_2<0)) (I1 [dI i,No es] [dI (U3 .i64 (i_1+1))]∧M1 [dI (U3 .i64 (i_1+1))]<M1 [dI i_1]) (J8 [dI i,No es] [dI i_1])) (J8 [dI i,No es] [dI i_1]))∧∀(i_1:Int),J8 [dI i,No es] [dI i_1]→bB (decide (i_1<(W2 es.length))) (rO es i_1 20∧∃x,cU es i_1 0 20 (pk x [])∧rO l0 i 20∧∃x1,cU l0 i 0 20 (pk x1 [])∧∃b,Gv 106 [aP x,aP x1] [aB b]∧br b (I0 [] [dI (U3 .i64 (i+1)),No es]∧M0 [dI (U3 .i64 (i+1)),No es]<M0 [dI i,No es]) (J9 [dI i,No es] [dI i_1])) (J9 [dI i,No es] [dI i_1])∧∀(i_2:Int),J9 [dI i,No es] [dI i_2]→((0:Int)≤(0:Int)∧0≤i_2∧i_2≤(W2 es.length)∧lens 20 es)∧(room (0+bm (bw 0 (be (W0 i_2) es)))∧lens 20 (bw 0 (be (W0 i_2) es)))∧rO l0 i 20∧∃x,cU l0 i 0 20 (pk x [])∧(room (bm ([]++bw 0 (be (W0 i_2) es))+1)∧lens 20 [(pk x [])])∧(0≤i_2∧i_2≤(W2 es.length)∧(W2 es.length)≤(W2 es.length)∧lens 20 es)∧(room (bm ([]++bw 0 (be (W0 i_2) es)++[(pk x [])])+bm (bw (W0 i_2) (be (W0 (W2 es.length)) es)))∧lens 20 (bw (W0 i_2) (be (W0 (W2 es.length)) es)))∧I0 [] [dI (U3 .i64 (i+1)),No ([]++bw 0 (be (W0 i_2) es)++[(pk x [])]++bw (W0 i_2) (be (W0 (W2 es.length)) es))]∧M0 [dI (U3 .i64 (i+1)),No ([]++bw 0 (be (W0 i_2) es)++[(pk x [])]++bw (W0 i_2) (be (W0 (W2 es.length)) es))]<M0 [dI i,No es]) (Q [aL es])):=by kernel_rfl
theorem LL (Gv:Nat→List A→List A→Prop) (I0:List D→List D→Prop) (M0:List D→Nat) (I1:List D→List D→Prop) (M1:List D→Nat) (c0:C66) (l0:List (List D)) (Q:List A→Prop):wpF CC Gv (G7 ⟨[.slot 6 (.int .i64 0)],[],I0,M0⟩ ⟨[.slot 9 (.int .i64 0),.own 8 56 66],[],I1,M1⟩) Tryz.f139 [.ag (ck c0 []),.c (.sl l0)] Q=(I0 [] [dI (0:Int)]∧∀(i:Int),I0 [] [dI i]→bB (decide (i<(W2 l0.length))) (rO l0 i 20∧∃x,cU l0 i 0 20 (pk x [])∧∃b,Gv 121 [aC c0,aP x] [aB b]∧bB (!b) (Q [aL [],aI (1:Int)]) (I0 [] [dI (U3 .i64 (i+1))]∧M0 [dI (U3 .i64 (i+1))]<M0 [dI i])) ((room (2+l0.length)∧lens 20 l0)∧∃es,Gv 203 [aC c0,aL ((pk (Hy c0) [])::(pk (Hx c0) [])::l0)] [aL es]∧I1 [] [dI (1:Int),No []]∧∀(i:Int) (e1:List (List D)),I1 [] [dI i,No e1]→bB (decide (i<(W2 es.length))) ((0≤U3 .i64 (i-1)∧U3 .i64 (i-1)<(W2 es.length)∧bm (nth [] es (W0 (U3 .i64 (i-1))))=20)∧∃x,cut (nth [] es (W0 (U3 .i64 (i-1)))) 0 20 (pk x [])∧rO es i 20∧∃x1,cU es i 0 20 (pk x1 [])∧(room (e1.length+1)∧lens 66 [(Pl (I3 c0)::(rk (M3 c0) (rk (Lv c0) (rk (Ls c0) (rk (Lr c0) (rk (Lm c0) (rk (J4 c0) (Pl (J3 c0)::(pk x (pk x1 []))))))))))])∧I1 [] [dI (U3 .i64 (i+1)),No (e1++[(Pl (I3 c0)::(rk (M3 c0) (rk (Lv c0) (rk (Ls c0) (rk (Lr c0) (rk (Lm c0) (rk (J4 c0) (Pl (J3 c0)::(pk x (pk x1 []))))))))))])]∧M1 [dI (U3 .i64 (i+1)),No (e1++[(Pl (I3 c0)::(rk (M3 c0) (rk (Lv c0) (rk (Ls c0) (rk (Lr c0) (rk (Lm c0) (rk (J4 c0) (Pl (J3 c0)::(pk x (pk x1 []))))))))))])]<M1 [dI i,No e1]) (Q [aL e1,aI (0:Int)]))):=by kernel_rfl
theorem PV (Gv:Nat→List A→List A→Prop) (I0:List D→List D→Prop) (M0:List D→Nat) (I1:List D→List D→Prop) (M1:List D→Nat) (I2:List D→List D→Prop) (M2:List D→Nat) (l0:List (List D)) (Q:List A→Prop):wpF CC Gv (eO ⟨[.slot 3 (.int .i64 0)],[],I0,M0⟩ ⟨[.slot 5 (.int .i64 0)],[.slot 3 (.int .i64 0)],I1,M1⟩ ⟨[.slot 7 (.int .i64 0),.slot 6 (.int .i64 0)],[.slot 3 (.int .i64 0),.slot 5 (.int .i64 0)],I2,M2⟩) Tryz.f74 [.c (.sl l0)] Q=(I0 [] [dI (0:Int)]∧∀(i:Int),I0 [] [dI i]→bB (decide (i<(W2 l0.length))) (rO l0 i 66∧∃x,cU l0 i 26 20 (pk x [])∧rO l0 i 66∧∃x1,cU l0 i 46 20 (pk x1 [])∧I1 [dI i] [dI (0:Int)]∧∀(i_1:Int),I1 [dI i] [dI i_1]→bB (decide (i_1<2)) (I2 [dI i,dI i_1] [dI (0:Int),dI (0:Int)]∧∀(i_2 i_3:Int),I2 [dI i,dI i_1] [dI i_2,dI i_3]→bB (decide (i_2<(W2 l0.length))) (rO l0 i_2 66∧∃x2,cU l0 i_2 26 20 (pk x2 [])∧(0≤i_1∧i_1<2)∧∃x3,cut (nth [] [(pk x []),(pk x1 [])] (W0 i_1)) 0 20 (pk x3 [])∧∃b,Gv 106 [aP x2,aP x3] [aB b]∧br b (rO l0 i_2 66∧∃x4,cU l0 i_2 46 20 (pk x4 [])∧(0≤i_1∧i_1<2)∧∃x5,cut (nth [] [(pk x []),(pk x1 [])] (W0 i_1)) 0 20 (pk x5 [])∧∃b,Gv 106 [aP x4,aP x5] [aB b]∧br b (I2 [dI i,dI i_1] [dI (U3 .i64 (i_2+1)),dI (U3 .i64 (U3 .i64 (i_3+1)+1))]∧M2 [dI (U3 .i64 (i_2+1)),dI (U3 .i64 (U3 .i64 (i_3+1)+1))]<M2 [dI i_2,dI i_3]) (I2 [dI i,dI i_1] [dI (U3 .i64 (i_2+1)),dI (U3 .i64 (i_3+1))]∧M2 [dI (U3 .i64 (i_2+1)),dI (U3 .i64 (i_3+1))]<M2 [dI i_2,dI i_3])) (rO l0 i_2 66∧∃x4,cU l0 i_2 46 20 (pk x4 [])∧(0≤i_1∧i_1<2)∧∃x5,cut (nth [] [(pk x []),(pk x1 [])] (W0 i_1)) 0 20 (pk x5 [])∧∃b,Gv 106 [aP x4,aP x5] [aB b]∧br b (I2 [dI i,dI i_1] [dI (U3 .i64 (i_2+1)),dI (U3 .i64 (i_3+1))]∧M2 [dI (U3 .i64 (i_2+1)),dI (U3 .i64 (i_3+1))]<M2 [dI i_2,dI i_3]) (I2 [dI i,dI i_1] [dI (U3 .i64 (i_2+1)),dI i_3]∧M2 [dI (U3 .i64 (i_2+1)),dI i_3]<M2 [dI i_2,dI i_3]))) ((2:Int)≠(0:Int)∧bB (bc i_3 (2:Int)==(1:Int)) (Q [aB true]) (I1 [dI i] [dI (U3 .i64 (i_1+1))]∧M1 [dI (U3 .i64 (i_1+1))]<M1 [dI i_1]))) (I0 [] [dI (U3 .i64 (i+1))]∧M0 [dI (U3 .i64 (i+1))]<M0 [dI i])) (Q [aB false])):=by kernel_rfl
theorem PW (Gv:Nat→List A→List A→Prop) (I0:List D→List D→Prop) (M0:List D→Nat) (l0:List (List D)) (Q:List A→Prop):wpF CC Gv (fun _=>⟨[.slot 4 (.int .i64 0)],[],I0,M0⟩) Tryz.f41 [.c (.sl l0)] Q=(bB (decide ((W2 l0.length)>400)) (Q [A.ag [No []],aI (3:Int)]) (I0 [] [dI (0:Int)]∧∀(i:Int),I0 [] [dI i]→bB (decide (i<(W2 l0.length))) (rO l0 i 66∧∃x,cU l0 i 0 66 (ck x [])∧∃b,Gv 73 [aC x] [aB b]∧bB (!b) (Q [A.ag [No []],aI (1:Int)]) (I0 [] [dI (U3 .i64 (i+1))]∧M0 [dI (U3 .i64 (i+1))]<M0 [dI i])) (∃b,Gv 74 [aL l0] [aB b]∧br b (Q [A.ag [No []],aI (8:Int)]) (∃es,Gv 78 [aL l0] [aL es]∧∃e1,Gv 77 [aL es] [aL e1]∧∃es,Gv 76 [aL e1] [aL es]∧∃e2,Gv 75 [aL es] [aL e2]∧bB (decide ((W2 e2.length)>400)) (Q [A.ag [No []],aI (3:Int)]) (Q [A.ag [No e2],aI (0:Int)]))))):=by kernel_rfl
end Eng
end
section
open Go Go.Proofs Eng
namespace Eng
theorem PX (Gv:Nat→List A→List A→Prop) (I0:List D→List D→Prop) (M0:List D→Nat) (I1:List D→List D→Prop) (M1:List D→Nat) (J15:List D→List D→Prop) (c0:C66) (c1:C66) (Q:List A→Prop):wpF CC Gv (Tf (G7 ⟨[.slot 9 (.int .i64 0),.own 8 121 20],[],I0,M0⟩ ⟨[.slot 11 (.int .i64 0),.slot 10 (.bool false)],[],I1,M1⟩) 15 ⟨[.box 3 zC],[],J15,fun _=>0⟩) Tryz.f138 [.ag (ck c0 []),.ag (ck c1 [])] Q=(∃b,Gv 105 [aC c0,aC c1] [aB b]∧bB (!b) (∃es i,Gv 202 [aC c0,aC c1] [aL es,aI i]∧I0 [] [dI (0:Int),No []]∧∀(i:Int) (e1:List (List D)),I0 [] [dI i,No e1]→bB (decide (i<(W2 es.length))) (rO es i 20∧∃x,cU es i 0 20 (pk x [])∧∃b,Gv 121 [aC c0,aP x] [aB b]∧br b (rO es i 20∧∃x,cU es i 0 20 (pk x [])∧∃b,Gv 121 [aC c1,aP x] [aB b]∧br b (rO es i 20∧∃x,cU es i 0 20 (pk x [])∧(room (e1.length+1)∧lens 20 [(pk x [])])∧I0 [] [dI (U3 .i64 (i+1)),No (e1++[(pk x [])])]∧M0 [dI (U3 .i64 (i+1)),No (e1++[(pk x [])])]<M0 [dI i,No e1]) (I0 [] [dI (U3 .i64 (i+1)),No e1]∧M0 [dI (U3 .i64 (i+1)),No e1]<M0 [dI i,No e1])) (I0 [] [dI (U3 .i64 (i+1)),No e1]∧M0 [dI (U3 .i64 (i+1)),No e1]<M0 [dI i,No e1])) (∃es,Gv 203 [aC c0,aL e1] [aL es]∧bB (I3 c0) (bB (I3 c1) (bB (!J3 c0==J3 c1) (∃x,Gv 201 [aC c1] [aC x]∧J15 [] (ck x [])) (bB (!I3 c0) (∃i,Gv 164 [aP (Hy c0),aP (Hx c0)] [aI i]∧∃i_1,Gv 164 [aP (Hy c1),aP (Hx c1)] [aI i_1]∧bB (i !=i_1) (∃x,Gv 201 [aC c1] [aC x]∧J15 [] (ck x [])) (J15 [] (ck c1 []))) (J15 [] (ck c1 [])))) (bB (!I3 c0) (∃i,Gv 164 [aP (Hy c0),aP (Hx c0)] [aI i]∧∃i_1,Gv 164 [aP (Hy c1),aP (Hx c1)] [aI i_1]∧bB (i !=i_1) (∃x,Gv 201 [aC c1] [aC x]∧J15 [] (ck x [])) (J15 [] (ck c1 []))) (J15 [] (ck c1 [])))) (bB (!I3 c0) (∃i,Gv 164 [aP (Hy c0),aP (Hx c0)] [aI i]∧∃i_1,Gv 164 [aP (Hy c1),aP (Hx c1)] [aI i_1]∧bB (i !=i_1) (∃x,Gv 201 [aC c1] [aC x]∧J15 [] (ck x [])) (J15 [] (ck c1 []))) (J15 [] (ck c1 [])))∧∀(x:C66),J15 [] (ck x [])→I1 [] [dI (1:Int),Pl false]∧∀(i:Int) (b1:Bool),I1 [] [dI i,Pl b1]→br b (bB (decide (i<(W2 es.length))) (br b1 (I1 [] [dI (U3 .i64 (i+1)),Pl true]∧M1 [dI (U3 .i64 (i+1)),Pl true]<M1 [dI i,Pl b1]) ((0≤U3 .i64 (i-1)∧U3 .i64 (i-1)<(W2 es.length)∧bm (nth [] es (W0 (U3 .i64 (i-1))))=20)∧∃x1,cut (nth [] es (W0 (U3 .i64 (i-1)))) 0 20 (pk x1 [])∧rO es i 20∧∃x2,cU es i 0 20 (pk x2 [])∧∃i_1,Gv 186 [aC x,aP x1,aP x2] [aI i_1]∧I1 [] [dI (U3 .i64 (i+1)),Pl (decide (i_1<0))]∧M1 [dI (U3 .i64 (i+1)),Pl (decide (i_1<0))]<M1 [dI i,Pl b1])) (Q [aL es,aB b1])) (Q [aL es,aB b1]))) (I0 [] [dI (0:Int),No []]∧∀(i:Int) (es:List (List D)),I0 [] [dI i,No es]→bB (decide (i<4)) ((0≤i∧i<4)∧∃x,cut (nth [] [(pk (Hy c0) []),(pk (Hx c0) []),(pk (Hy c1) []),(pk (Hx c1) [])] (W0 i)) 0 20 (pk x [])∧∃b,Gv 121 [aC c0,aP x] [aB b]∧br b ((0≤i∧i<4)∧∃x,cut (nth [] [(pk (Hy c0) []),(pk (Hx c0) []),(pk (Hy c1) []),(pk (Hx c1) [])] (W0 i)) 0 20 (pk x [])∧∃b,Gv 121 [aC c1,aP x] [aB b]∧br b ((0≤i∧i<4)∧∃x,cut (nth [] [(pk (Hy c0) []),(pk (Hx c0) []),(pk (Hy c1) []),(pk (Hx c1) [])] (W0 i)) 0 20 (pk x [])∧(room (es.length+1)∧lens 20 [(pk x [])])∧I0 [] [dI (U3 .i64 (i+1)),No (es++[(pk x [])])]∧M0 [dI (U3 .i64 (i+1)),No (es++[(pk x [])])]<M0 [dI i,No es]) (I0 [] [dI (U3 .i64 (i+1)),No es]∧M0 [dI (U3 .i64 (i+1)),No es]<M0 [dI i,No es])) (I0 [] [dI (U3 .i64 (i+1)),No es]∧M0 [dI (U3 .i64 (i+1)),No es]<M0 [dI i,No es])) (∃e1,Gv 203 [aC c0,aL es] [aL e1]∧bB (I3 c0) (bB (I3 c1) (bB (!J3 c0==J3 c1) (∃x,Gv 201 [aC c1] [aC x]∧J15 [] (ck x [])) (bB (!I3 c0) (∃i,Gv 164 [aP (Hy c0),aP (Hx c0)] [aI i]∧∃i_1,Gv 164 [aP (Hy c1),aP (Hx c1)] [aI i_1]∧bB (i !=i_1) (∃x,Gv 201 [aC c1] [aC x]∧J15 [] (ck x [])) (J15 [] (ck c1 []))) (J15 [] (ck c1 [])))) (bB (!I3 c0) (∃i,Gv 164 [aP (Hy c0),aP (Hx c0)] [aI i]∧∃i_1,Gv 164 [aP (Hy c1),aP (Hx c1)] [aI i_1]∧bB (i !=i_1) (∃x,Gv 201 [aC c1] [aC x]∧J15 [] (ck x [])) (J15 [] (ck c1 []))) (J15 [] (ck c1 [])))) (bB (!I3 c0) (∃i,Gv 164 [aP (Hy c0),aP (Hx c0)] [aI i]∧∃i_1,Gv 164 [aP (Hy c1),aP (Hx c1)] [aI i_1]∧bB (i !=i_1) (∃x,Gv 201 [aC c1] [aC x]∧J15 [] (ck x [])) (J15 [] (ck c1 []))) (J15 [] (ck c1 [])))∧∀(x:C66),J15 [] (ck x [])→I1 [] [dI (1:Int),Pl false]∧∀(i:Int) (b1:Bool),I1 [] [dI i,Pl b1]→br b (bB (decide (i<(W2 e1.length))) (br b1 (I1 [] [dI (U3 .i64 (i+1)),Pl true]∧M1 [dI (U3 .i64 (i+1)),Pl true]<M1 [dI i,Pl b1]) ((0≤U3 .i64 (i-1)∧U3 .i64 (i-1)<(W2 e1.length)∧bm (nth [] e1 (W0 (U3 .i64 (i-1))))=20)∧∃x1,cut (nth [] e1 (W0 (U3 .i64 (i-1)))) 0 20 (pk x1 [])∧rO e1 i 20∧∃x2,cU e1 i 0 20 (pk x2 [])∧∃i_1,Gv 186 [aC x,aP x1,aP x2] [aI i_1]∧I1 [] [dI (U3 .i64 (i+1)),Pl (decide (i_1<0))]∧M1 [dI (U3 .i64 (i+1)),Pl (decide (i_1<0))]<M1 [dI i,Pl b1])) (Q [aL e1,aB b1])) (Q [aL e1,aB b1])))):=by kernel_rfl
end Eng
end
section
namespace Eng
open Go Go.Proofs Rl
set_option maxRecDepth 100000
theorem gOk {f:Nat} {fn:Func} {args res:List A} {anns:Nat→Ann} {P:Prop} (hf:Tryz.prog.funcs[f]? =some fn) (hv:wpF CC (qc CC) anns fn args (fun r=>r=res)=P) (h:P):qc CC f args res:=
 qu mixedT hf (hv.mpr h)
theorem xk (l:List P5):(kPs l).length=l.length:=by unfold kPs;rw[ey]
theorem BS {l:List P5} {i:Nat} (h:i<l.length):nth [] (kPs l) i=pk (kP l[i]) []:=by
 rw[qI];unfold kPs;simp[h]
theorem yX (l:List P5):lens 20 (kPs l):=by
 intro e he;unfold kPs at he;obtain⟨p,_,rfl⟩:=e7.1 he;rfl
theorem lK (x:P20):cut (pk x []) 0 20 (pk x []):=⟨rfl,gz 20⟩
theorem KV (l m:List P5):kPs (l++m)=kPs l++kPs m:=by unfold kPs;rw[fz]
theorem FQ (l:List P5) (k:Nat):(kPs l).take k=kPs (l.take k):=by unfold kPs;rw[fS]
theorem FR (l:List P5) (k:Nat):(kPs l).drop k=kPs (l.drop k):=by unfold kPs;rw[ga]
theorem KW {n k:Nat} {l:List (List D)} (h:lens n l):lens n (l.take k):=fun e he=>h e (List.mem_of_mem_take he)
theorem KX {n k:Nat} {l:List (List D)} (h:lens n l):lens n (l.drop k):=fun e he=>h e (List.mem_of_mem_drop he)
theorem wI {n:Int} (_: -9000000000000000000≤n∧n≤9000000000000000000:=by omega):U3 .i64 n=n:=zr
def gK (gs:List D):Nat:=(toI (nth .undef gs 0)).toNat
theorem kQ {l:List P5} {k:Nat} (h:k<l.length):((0:Int)≤(k:Int)∧(k:Int)<W2 (kPs l).length∧bm (nth [] (kPs l) (W0 (k:Int)))=20):=by
 rw[ba,BS h,xk];exact⟨by omega,by simp only[W1];omega,rfl⟩
theorem zj {l:List P5} {k:Nat} (h:k<l.length):cut (nth [] (kPs l) (W0 (k:Int))) 0 20 (pk (kP l[k]) []):=by
 rw[ba,BS h];exact lK _
theorem NT (c:Cu):∀(l:List P5) (p:P5),(Q6 c l p).length≤l.length+1
 |[],p=>by simp[Q6]
 |q::r,p=>by
  have:=NT c r p;unfold Q6;split
  ·simp only[ca];omega
  ·split<;>simp
theorem YY (c:Cu) {x:P5}:∀{l:List P5} {p:P5},x∈Q6 c l p→x∈l∨x=p
 |[],p,h=>by simp[Q6]at h;exact .inr h
 |q::r,p,h=>by
  unfold Q6 at h;split at h
  ·rcases cr.1 h with h|h
   ·exact .inl (by simp[h])
   ·rcases YY c h with h|h
    ·exact .inl (by simp[h])
    ·exact .inr h
  ·split at h
   ·exact .inl h
   ·rcases cr.1 h with h|h
    ·exact .inr h
    ·exact .inl h
noncomputable def soO (c:Cu) (l:List P5) (k:Nat):List P5:=(l.take k).foldl (Q6 c) []
theorem X9 (c:Cu) (l:List P5):soO c l 0=[]:=by simp[soO]
theorem yY (c:Cu) {l:List P5} {k:Nat} (h:k<l.length):soO c l (k+1)=Q6 c (soO c l k) l[k]:=by
 unfold soO;rw[bv h,en];rfl
theorem Zq (c:Cu) (l:List P5):soO c l l.length=yw c l:=by unfold soO yw;rw[cH]
theorem LM (c:Cu) (l:List P5):∀k,k≤l.length→(soO c l k).length≤k
 |0,_=>by rw[X9];simp
 |k+1,h=>by rw[yY c (by omega)];have h1:=LM c l k (by omega);have h2:=NT c (soO c l k) l[k];omega
theorem YZ (c:Cu) (l:List P5):∀k,k≤l.length→∀x∈soO c l k,x∈l
 |0,_,x,hx=>by rw[X9]at hx;simp at hx
 |k+1,h,x,hx=>by
  rw[yY c (by omega)]at hx;rcases YY c hx with hx|hx
  ·exact YZ c l k (by omega) x hx
  ·rw[hx];exact bs _
theorem wX {c:Cu} {l:List P5} {x:P5} (h:x∈yw c l):x∈l:=by
 rw[←Zq]at h;exact YZ c l _ (gz _) x h
theorem XA (c:Cu) (l:List P5):(yw c l).length≤l.length:=by
 rw[←Zq];exact LM c l _ (gz _)
def inP (c:Cu) (out:List P5) (p:P5) (j:Nat):Prop:=j≤out.length∧Q6 c out p=out.take j++Q6 c (out.drop j) p
theorem FS {c:Cu} {out:List P5} {p:P5} {j:Nat} (h:inP c out p j) (hj:j<out.length) (ho:zS c out[j] p<0):inP c out p (j+1):=by
 refine⟨hj,?_⟩;rw[h.2,b9 hj,Q6,if_pos ho,bv hj,ed];rfl
def soI0 (c:Cu) (l:List P5) (_ ds:List D):Prop:=∃k:Nat,k≤l.length∧ds=[dI (k:Int),.sl (kPs (soO c l k))]
def soI1 (c:Cu) (l:List P5) (gs ds:List D):Prop:=∃j:Nat,ds=[dI (j:Int)]∧∀p,l[gK gs]? =some p→inP c (soO c l (gK gs)) p j
def soJ8 (c:Cu) (l:List P5) (gs ds:List D):Prop:=∃j:Nat,ds=[dI (j:Int)]∧∀p,l[gK gs]? =some p→inP c (soO c l (gK gs)) p j∧∀q,(soO c l (gK gs))[j]? =some q→¬zS c q p<0
def soJ9 (c:Cu) (l:List P5) (gs ds:List D):Prop:=∃j:Nat,ds=[dI (j:Int)]∧∀p,l[gK gs]? =some p→j≤(soO c l (gK gs)).length∧Q6 c (soO c l (gK gs)) p=(soO c l (gK gs)).take j++p::(soO c l (gK gs)).drop j
def zo (n:Nat) (ds:List D):Nat:=n-(toI (nth .undef ds 0)).toNat
theorem Ga (n:Nat) (z:Int) (t:List D):zo n (dI z::t)=n-z.toNat:=rfl
theorem qy {n k:Nat} {r s:List D} (h:k<n:=by omega) (hn:n≤1000000000:=by omega):zo n (dI (U3 .i64 ((k:Int)+1))::r)<zo n (dI (k:Int)::s):=by
 rw[Ga,Ga,wI];omega
theorem y8 {c:Cu} (hc:Gc c) {l:List P5} (hl:∀p∈l,Gp p) (hn:l.length≤1000000):qc CC 203 [aC (kU c),aL (kPs l)] [aL (kPs (yw c l))]:=by
 have hv:=Uv (qc CC) (soI0 c l) (zo l.length) (soI1 c l) (zo l.length) (soJ8 c l) (soJ9 c l) (kU c) (kPs l) (· =[aL (kPs (yw c l))]);refine gOk Tryz.func203 hv ?_;clear hv;have a8:∀k,k≤l.length→∀x∈soO c l k,Gp x:=fun k hk x hx=>hl x (YZ c l k hk x hx)
 have next:∀k:Nat,∀hk:k<l.length,∀a7,Q6 c (soO c l k) l[k]=a7→soI0 c l [] [dI (U3 .i64 ((k:Int)+1)),.sl (kPs a7)]:=by intro k hk a7 ho;refine⟨k+1,hk,?_⟩;rw[wI,yY c hk,ho];rfl
 refine⟨⟨0,gr _,by rw[X9];rfl⟩,?_⟩;rintro _ _ ⟨k,hk,he⟩;simp only[gm,Ts,T1,and_true,true_and]at he;obtain⟨rfl,rfl⟩:=he;have hlen:=LM c l k hk;refine brd (fun h=>?_) (fun h=>?_)
 ·have a3:k<l.length:=by rw[xk]at h;simp only[W1]at h;omega
  have a5:l[k]? =some l[k]:=bh a3;have ag:=hl l[k] (bs a3);refine⟨⟨⟨0,rfl,fun p hp=>⟨gr _,by simp⟩⟩,?_⟩,?_⟩
  ·rintro _ ⟨j,he,hj⟩;simp only[gm,Ts,and_true,true_and]at he;subst he;have hj:inP c (soO c l k) l[k] j:=hj _ a5;refine brd (fun h1=>?_) (fun h1=>?_)
   ·have a4:j<(soO c l k).length:=by rw[xk]at h1;simp only[W1]at h1;omega
    refine⟨kQ a4,_,zj a4,kQ a3,_,zj a3,_,kO hc (a8 k hk _ (bs a4)) ag,?_⟩;refine brd (fun h2=>?_) (fun h2=>?_)
    ·refine⟨⟨j+1,by rw[wI];rfl,fun p hp=>?_⟩,qy⟩;have e:p=l[k]:=by have:l[k]? =some p:=hp;rw[a5]at this;exact(g7 this).symm
     rw[e];exact FS hj a4 h2
    ·refine⟨j,rfl,fun p hp=>?_⟩;have e:p=l[k]:=by have:l[k]? =some p:=hp;rw[a5]at this;exact(g7 this).symm
     rw[e];refine⟨hj,fun q hq=>?_⟩;have:(soO c l k)[j]? =some q:=hq;rw[bh a4]at this;rw[←g7 this];exact h2
   ·refine⟨j,rfl,fun p hp=>?_⟩;have e:p=l[k]:=by have:l[k]? =some p:=hp;rw[a5]at this;exact(g7 this).symm
    rw[e];refine⟨hj,fun q hq=>?_⟩;have:(soO c l k)[j]? =some q:=hq;rw[xk]at h1;simp only[W1]at h1;rw[List.getElem?_eq_none (by omega)]at this;cases this
  ·rintro _ ⟨j,he,hj⟩;simp only[gm,Ts,and_true,true_and]at he;subst he;have hj:inP c (soO c l k) l[k] j∧∀q,(soO c l k)[j]? =some q→¬zS c q l[k]<0:=hj _ a5;refine⟨brd (fun h1=>?_) (fun h1=>?_),?_⟩
   ·have a4:j<(soO c l k).length:=by rw[xk]at h1;simp only[W1]at h1;omega
    have ad:=hj.2 _ (bh a4);refine⟨kQ a4,_,zj a4,kQ a3,_,zj a3,_,wW (a8 k hk _ (bs a4)) ag,?_⟩;refine zH (fun h2=>?_) (fun h2=>?_)
    ·refine⟨next k a3 _ ?_,qy a3⟩;rw[hj.1.2,b9 a4,Q6,if_neg ad,if_pos h2,←b9 a4,List.take_append_drop]
    ·refine⟨j,rfl,fun p hp=>?_⟩;have e:p=l[k]:=by have:l[k]? =some p:=hp;rw[a5]at this;exact(g7 this).symm
     rw[e];refine⟨hj.1.1,?_⟩;show Q6 c (soO c l k) l[k]=(soO c l k).take j++l[k]::(soO c l k).drop j;rw[hj.1.2,b9 a4,Q6,if_neg ad,if_neg (by rw[h2];simp)]
   ·refine⟨j,rfl,fun p hp=>?_⟩;have e:p=l[k]:=by have:l[k]? =some p:=hp;rw[a5]at this;exact(g7 this).symm
    rw[e];refine⟨hj.1.1,?_⟩;show Q6 c (soO c l k) l[k]=(soO c l k).take j++l[k]::(soO c l k).drop j;rw[xk]at h1;simp only[W1]at h1;rw[hj.1.2,dc (show(soO c l k).length≤j by omega)];rfl
   ·rintro _ ⟨i,he,hi⟩;simp only[gm,Ts,and_true,true_and]at he;subst he;have hi:i≤(soO c l k).length∧Q6 c (soO c l k) l[k]=(soO c l k).take i++l[k]::(soO c l k).drop i:=hi _ a5;have e1:([]:List (List D))++bw 0 (be (W0 (i:Int)) (kPs (soO c l k)))++[pk (kP l[k]) []]++bw (W0 (i:Int)) (be (W0 (W2 (bm (kPs (soO c l k))))) (kPs (soO c l k)))=kPs ((soO c l k).take i++l[k]::(soO c l k).drop i):=by rw[ba,List.drop_zero,fg,FQ,W1,ba,cH,FR,KV,ed];rfl
    have a6:(0:Int)≤(i:Int)∧(i:Int)≤W2 (bm (kPs (soO c l k))):=by rw[xk];simp only[W1];omega
    have hi2:=hi.1;refine⟨⟨bb _,a6.1,a6.2,yX _⟩,⟨?_,KX (KW (yX _))⟩,kQ a3,_,zj a3,⟨?_,fun e he=>by rw[bx.1 he];rfl⟩,⟨a6.1,a6.2,bb _,yX _⟩,⟨?_,KX (KW (yX _))⟩,?_⟩
    ·unfold Hv;simp only[ba,cp,cb,xk];omega
    ·unfold Hv;simp only[ba,cg,dl,cp,cb,xk];omega
    ·unfold Hv;simp only[ba,W1,cg,dl,ca,cp,cb,xk];omega
    ·rw[e1];exact⟨next k a3 _ hi.2,qy a3⟩
 ·have a3:k=l.length:=by rw[xk]at h;simp only[W1]at h;omega
  rw[a3,Zq]
end Eng
end
section
namespace Eng
open Go Go.Proofs Rl
set_option maxRecDepth 100000
theorem qt (l:List Cu):(kUs l).length=l.length:=by unfold kUs;rw[ey]
theorem y9 {l:List Cu} {i:Nat} (h:i<l.length):nth [] (kUs l) i=ck (kU l[i]) []:=by
 rw[qI];unfold kUs;simp[h]
theorem vL (l:List Cu):lens 66 (kUs l):=by
 intro e he;unfold kUs at he;obtain⟨p,_,rfl⟩:=e7.1 he;rfl
theorem lL (x:C66):cut (ck x []) 0 66 (ck x []):=⟨rfl,gz 66⟩
theorem wA (l m:List Cu):kUs (l++m)=kUs l++kUs m:=by unfold kUs;rw[fz]
theorem NU (l:List Cu) (k:Nat):(kUs l).take k=kUs (l.take k):=by unfold kUs;rw[fS]
theorem NV (l:List Cu) (k:Nat):(kUs l).drop k=kUs (l.drop k):=by unfold kUs;rw[ga]
theorem xf {l:List Cu} {k:Nat} (h:k<l.length):((0:Int)≤(k:Int)∧(k:Int)<W2 (kUs l).length∧bm (nth [] (kUs l) (W0 (k:Int)))=66):=by
 rw[ba,y9 h,qt];exact⟨by omega,by simp only[W1];omega,rfl⟩
theorem jo {l:List Cu} {k:Nat} (h:k<l.length):((0:Int)≤(k:Int)∧(k:Int)<W2 (kUs l).length):=⟨(xf h).1,(xf h).2.1⟩
theorem xa {l:List Cu} {k:Nat} (h:k<l.length):cut (nth [] (kUs l) (W0 (k:Int))) 0 66 (ck (kU l[k]) []):=by
 rw[ba,y9 h];exact lL _
theorem BT (c:Cu) (p q:P5):(.bool (I3 (kU c))::(rk (M3 (kU c)) (rk (Lv (kU c)) (rk (Ls (kU c)) (rk (Lr (kU c)) (rk (Lm (kU c)) (rk (J4 (kU c)) (.bool (J3 (kU c))::(pk (kP p) (pk (kP q) []))))))))):List D)=ck (kU {c with fr:=p,tt:=q}) []:=by
 obtain⟨arc,ln,ci,cw,fr,tt,jk⟩:=c;cases arc<;>rfl
theorem Zr (c:Cu):∀l:List P5,(ji c l).length=l.length-1
 |[]=>rfl
 |[_]=>rfl
 |p::q::r=>by have:=Zr c (q::r);simp only[ji,ca]at this ⊢;omega
theorem V4 (c:Cu):∀(l:List P5) (k:Nat) (h:k+1<l.length),(ji c l)[k]? =some {c with fr:=l[k],tt:=l[k+1]}
 |[],k,h=>by simp at h
 |[_],k,h=>by simp at h
 |p::q::r,0,h=>rfl
 |p::q::r,k+1,h=>by
  have:=V4 c (q::r) k (by simpa using h)
  simpa [ji]using this
def spI0 (c:Cu) (l:List P5) (_ ds:List D):Prop:=∃k:Nat,k≤l.length∧ds=[dI (k:Int)]∧(l.take k).all (yU c)=true
def spI1 (c:Cu) (m:List P5) (_ ds:List D):Prop:=∃k:Nat,1≤k∧k≤m.length+1∧ds=[dI (k:Int),.sl (kUs ((ji c m).take (k-1)))]
theorem vM {α:Type} {f:α→Bool} {l:List α} {k:Nat} (h:(l.take k).all f=true) (hk:k<l.length) (hf:f l[k]=true):(l.take (k+1)).all f=true:=by
 rw[bv hk,List.all_append,h,Aw];simp[hf]
theorem da {α:Type} {f:α→Bool} {l:List α} {k:Nat} (hk:k<l.length) (hf:f l[k]=false):¬l.all f=true:=by
 intro h;rw[fx]at h;have:=h _ (bs hk);rw[hf]at this;cases this
theorem KY {c:Cu} (hc:Gc c) {l:List P5} (hl:∀p∈l,Gp p) (hn:l.length≤900000):∃e,qc CC 139 [aC (kU c),aL (kPs l)] [aL (kUs (jj c l)),aI e]:=by
 refine⟨if l.all (yU c)=true then 0 else 1,?_⟩;have hv:=LL (qc CC) (spI0 c l) (zo l.length) (spI1 c (yw c (c.fr::c.tt::l))) (zo (l.length+3)) (kU c) (kPs l) (· =[aL (kUs (jj c l)),aI (if l.all (yU c)=true then 0 else 1)]);refine gOk Tryz.func139 hv ?_;clear hv;refine⟨⟨0,gr _,rfl,by simp⟩,?_⟩;rintro _ ⟨k,hk,he,a3⟩;simp only[gm,Ts,and_true,true_and]at he;subst he;refine brd (fun h=>?_) (fun h=>?_)
 ·have a4:k<l.length:=by rw[xk]at h;simp only[W1]at h;omega
  refine⟨kQ a4,_,zj a4,_,vJ hc (hl _ (bs a4)),?_⟩;refine brb (fun h1=>?_) (fun h1=>?_)
  ·have h2:yU c l[k]=false:=by simpa using h1
   have h3:=da a4 h2;unfold jj;rw[if_neg h3,if_neg h3];rfl
  ·have h2:yU c l[k]=true:=by simpa using h1
   exact⟨⟨k+1,a4,by rw[wI];rfl,vM a3 a4 h2⟩,qy a4⟩
 ·have a4:k=l.length:=by rw[xk]at h;simp only[W1]at h;omega
  rw[a4,cH]at a3;have hm:∀p∈c.fr::c.tt::l,Gp p:=by
   intro p hp;simp only[cr]at hp;rcases hp with rfl|rfl|hp
   ·exact hc.2.1
   ·exact hc.2.2
   ·exact hl p hp
  have hs:=y8 hc (l:=c.fr::c.tt::l) hm (by simp only[ca];omega);have hsp:jj c l=ji c (yw c (c.fr::c.tt::l)):=by unfold jj;rw[if_pos a3]
  have hml:(yw c (c.fr::c.tt::l)).length≤l.length+2:=by have:=XA c (c.fr::c.tt::l);simpa using this
  rw[hsp,if_pos a3,jv,kj];refine⟨⟨by unfold Hv;rw[xk];omega,yX _⟩,_,hs,?_⟩;generalize yw c (c.fr::c.tt::l)=m at *;refine⟨⟨1,gz 1,by omega,by simp;rfl⟩,?_⟩;rintro _ _ ⟨k,hk1,hk2,he⟩;simp only[gm,Ts,T1,and_true,true_and]at he;obtain⟨rfl,rfl⟩:=he;refine brd (fun h=>?_) (fun h=>?_)
  ·have a5:k<m.length:=by rw[xk]at h;simp only[W1]at h;omega
   have e1:U3 .i64 ((k:Int)-1)=((k-1:Nat):Int):=by rw[wI];omega
   have a7:k-1<m.length:=by omega
   have a6:(ji c m)[k-1]? =some {c with fr:=m[k-1],tt:=m[k]}:=by
    have:=V4 c m (k-1) (by omega);have e:k-1+1=k:=by omega
    simp only[e]at this;exact this
   obtain⟨hkc,a6⟩:=List.getElem?_eq_some_iff.1 a6;have e3:kUs ((ji c m).take (k-1))++[ck (kU {c with fr:=m[k-1],tt:=m[k]}) []]=kUs ((ji c m).take (k+1-1)):=by
    have e:k+1-1=(k-1)+1:=by omega
    rw[e,bv hkc,wA,a6];rfl
   rw[e1];refine⟨kQ a7,_,zj a7,kQ a5,_,zj a5,?_⟩;rw[BT,e3];refine⟨⟨?_,fun e he=>by rw[bx.1 he];rfl⟩,⟨k+1,by omega,by omega,by rw[wI];rfl⟩,qy⟩;unfold Hv;rw[qt,cb];omega
  ·have a5:m.length≤k:=by rw[xk]at h;simp only[W1]at h;omega
   rw[cv (by rw[Zr];omega)]
end Eng
end
section
namespace Eng
open Go Go.Proofs Rl
set_option maxRecDepth 100000
theorem KZ {l:Ln} {c:Ci} (hl:HL l) (hc:HC c) (h:okLn l):∀p∈Xx l c,Gp p:=by
 intro p hp;unfold Xx at hp;split at hp
 ·simp at hp
 rename_i h1;split at hp
 ·rw[bx.1 hp];obtain⟨hx,hy,_⟩:=YW hl hc h;exact⟨⟨hx.mono (by omega),U0,hy.mono (by omega),U0,U0⟩,N9 _⟩
 rename_i h2;have h3:0<WK l c:=by grind
 have hP:=IB hl hc h;have oP:=IC (c:=c) h h3;split at hp
 ·simp only[cr,e8,or_false]at hp;rcases hp with rfl|rfl
  ·exact⟨hP.2,oP.2⟩
  ·exact⟨hP.1,oP.1⟩
 ·simp only[cr,e8,or_false]at hp;rcases hp with rfl|rfl
  ·exact⟨hP.1,oP.1⟩
  ·exact⟨hP.2,oP.2⟩
theorem Zs (l:Ln) (c:Ci):(Xx l c).length≤2:=by
 unfold Xx;split
 ·simp
 split
 ·simp
 split<;>simp
theorem BU {l m:Ln} (hl:HL l) (hm:HL m):∀p∈ZP l m,Gp p:=by
 intro p hp;unfold ZP at hp;split at hp
 ·rename_i h;rw[bx.1 hp];exact⟨⟨(Ul hl hm).div (KO hl hm) h (by omega),U0,(Um hl hm).div (KO hl hm) h (by omega),U0,U0⟩,N9 _⟩
 ·simp at hp
theorem FT {c d:Cu} (hc:Gs c) (hd:Gs d):(∀p∈Q5 c d,Gp p)∧(Q5 c d).length≤2:=by
 unfold Q5;rcases hc.2 with⟨a1,h1⟩|⟨a1,h1⟩<;>rcases hd.2 with⟨a2,h2⟩|⟨a2,h2⟩
 ·rw[if_pos a1,if_pos a2];unfold yT;split
  ·exact⟨by simp,by simp⟩
  ·rename_i h;exact⟨KZ (NQ h1.1 h2.1) h1.1 (NP h),Zs _ _⟩
 ·rw[if_pos a1,if_neg (by rw[a2];simp)];exact⟨KZ h2.1 h1.1 h2.2,Zs _ _⟩
 ·rw[if_neg (by rw[a1];simp),if_pos a2];exact⟨KZ h1.1 h2.1 h1.2,Zs _ _⟩
 ·rw[if_neg (by rw[a1];simp),if_neg (by rw[a2];simp)];refine⟨BU h1.1 h2.1,?_⟩;unfold ZP;split<;>simp
theorem NW {c d:Cu} (hc:Gc c) (hd:Gc d):(∀p∈Xy c d,Gp p)∧(Xy c d).length≤4:=by
 unfold Xy;split
 ·refine⟨fun p hp=>?_,by simp⟩;simp only[cr,e8,or_false]at hp;rcases hp with rfl|rfl|rfl|rfl
  ·exact hc.2.1
  ·exact hc.2.2
  ·exact hd.2.1
  ·exact hd.2.2
 ·have:=FT hc.1 hd.1;exact⟨this.1,by omega⟩
noncomputable def Zt (c d:Cu):Bool:=(c.arc&&(d.arc&&!(c.cw==d.cw)))||(!c.arc&&!(jb c.fr c.tt==jb d.fr d.tt))
noncomputable def mtD (c d:Cu):Cu:=if Zt c d=true then Lf d else d
noncomputable def mtB (d:Cu) (m:List P5):Nat→Bool
 |0=>false
 |t+1=>mtB d m t||(match m[t]?,m[t+1]? with
  |some p,some q=>decide (zS d p q<0)
  |_,_=>false)
noncomputable def PY (c d:Cu):Bool:=if jw c d=true then mtB (mtD c d) (zO c d) ((zO c d).length-1)else false
noncomputable def jR (c d:Cu) (p:P5):Bool:=yU c p&&yU d p
def mtI0 (c d:Cu) (L:List P5) (_ ds:List D):Prop:=∃k:Nat,k≤L.length∧ds=[dI (k:Int),.sl (kPs ((L.take k).filter (jR c d)))]
def tM (n:Nat) (d:Cu) (m:List P5) (_ ds:List D):Prop:=∃t:Nat,t≤n∧ds=[dI ((t+1:Nat):Int),.bool (mtB d m t)]
def mtJ (c d:Cu) (_ ds:List D):Prop:=ds=ck (kU (mtD c d)) []
theorem BV {x y:C66} (h:ck x []=ck y []):x=y:=by
 obtain⟨a1,a2,a3,a4,a5,a6,a7,a8,⟨⟨_,_,_,_⟩,⟨_,_,_,_⟩,⟨_,_,_,_⟩,⟨_,_,_,_⟩,⟨_,_,_,_⟩⟩,⟨⟨_,_,_,_⟩,⟨_,_,_,_⟩,⟨_,_,_,_⟩,⟨_,_,_,_⟩,⟨_,_,_,_⟩⟩⟩:=x;obtain⟨b1,b2,b3,b4,b5,b6,b7,b8,⟨⟨_,_,_,_⟩,⟨_,_,_,_⟩,⟨_,_,_,_⟩,⟨_,_,_,_⟩,⟨_,_,_,_⟩⟩,⟨⟨_,_,_,_⟩,⟨_,_,_,_⟩,⟨_,_,_,_⟩,⟨_,_,_,_⟩,⟨_,_,_,_⟩⟩⟩:=y;obtain⟨_,_,_,_⟩:=a2;obtain⟨_,_,_,_⟩:=a3;obtain⟨_,_,_,_⟩:=a4;obtain⟨_,_,_,_⟩:=a5;obtain⟨_,_,_,_⟩:=a6;obtain⟨_,_,_,_⟩:=a7;obtain⟨_,_,_,_⟩:=b2;obtain⟨_,_,_,_⟩:=b3;obtain⟨_,_,_,_⟩:=b4;obtain⟨_,_,_,_⟩:=b5;obtain⟨_,_,_,_⟩:=b6;obtain⟨_,_,_,_⟩:=b7;simp only[ck,pk,rk,gm,D.bool.injEq,T1,and_true]at h;simp only[C66.mk.injEq,R4.mk.injEq,P20.mk.injEq];simp only[h,and_self]
theorem xK {α:Type} {f:α→Bool} {l:List α} {k:Nat} (hk:k<l.length):(l.take (k+1)).filter f=(l.take k).filter f++(if f l[k]=true then [l[k]]else []):=by
 rw[bv hk,e5];congr 1;by_cases h:f l[k]=true<;>simp[h]
theorem PZ {c d:Cu} (hc:Gc c) (hd:Gc d) (hcw:d.arc=false→d.cw=false):qc CC 138 [aC (kU c),aC (kU d)] [aL (kPs (zO c d)),aB (PY c d)]:=by
 have hL:=NW hc hd;have hv:=PX (qc CC) (mtI0 c d (Xy c d)) (zo (Xy c d).length) (tM (if jw c d=true then(zO c d).length-1 else 0) (mtD c d) (zO c d)) (zo 1000000) (mtJ c d) (kU c) (kU d) (· =[aL (kPs (zO c d)),aB (PY c d)]);refine gOk Tryz.func138 hv ?_;clear hv;have hm:(zO c d).length≤4:=by have h1:=XA c ((Xy c d).filter fun p=>yU c p&&yU d p);have h2:=cL (fun p=>yU c p&&yU d p) (Xy c d);have h3:=hL.2;unfold zO;omega
 have ad:∀p∈zO c d,Gp p:=fun p hp=>hL.1 p (er.1 (wX hp)).1
 have hD:Gc (mtD c d):=by
  unfold mtD;split
  ·exact hd.rev
  ·exact hd
 have ag:=y7 hc.2.1 hc.2.2;have al:=y7 hd.2.1 hd.2.2;rw[←jv,←kj]at ag al;have a5:Zt c d=true→mtJ c d [] (ck (kU (Lf d)) []):=fun h=>by unfold mtJ mtD;rw[if_pos h]
 have a3:Zt c d=false→mtJ c d [] (ck (kU d) []):=fun h=>by unfold mtJ mtD;rw[if_neg (by rw[h];simp)]
 have rv:=vK hcw
 --the points again
 have a8:∀(b:Bool),b=jw c d→∀(x:C66),mtJ c d [] (ck x [])→tM (if jw c d=true then(zO c d).length-1 else 0) (mtD c d) (zO c d) [] [P1 V1 (1:Int),Pl false]∧
  (∀(i:Int) (b_1:Bool),tM (if jw c d=true then(zO c d).length-1 else 0) (mtD c d) (zO c d) [] [P1 V1 i,Pl b_1]→∃t:Nat,i=((t+1:Nat):Int)∧t≤(if jw c d=true then(zO c d).length-1 else 0)∧b_1=mtB (mtD c d) (zO c d) t)∧x=kU (mtD c d):=by
  intro b hb x hx;refine⟨⟨0,gr _,rfl⟩,?_,BV hx⟩;rintro i b1 ⟨t,ht,he⟩;simp only[gm,Ts,D.bool.injEq,and_true,true_and]at he;exact⟨t,he.1,ht,he.2⟩
 refine⟨_,Zo hc.1 hd.1,?_⟩;refine brb (fun hsm=>?_) (fun hsm=>?_)
 ·have ap:jw c d=false:=by simpa using hsm
  obtain⟨e,hsu⟩:=YX hc.1 hd.1;have a7:Xy c d=Q5 c d:=by unfold Xy;rw[if_neg (by rw[ap];simp)]
  rw[a7]at hL;obtain⟨hG,hG2⟩:=hL;rw[a7];refine⟨_,_,hsu,?_⟩;refine⟨⟨0,gr _,rfl⟩,?_⟩;rintro _ _ ⟨k,hkl,he⟩;simp only[gm,Ts,T1,and_true,true_and]at he;obtain⟨rfl,rfl⟩:=he;refine brd (fun h=>?_) (fun h=>?_)
  ·have hk:k<(Q5 c d).length:=by rw[xk]at h;simp only[W1]at h;omega
   have hp:=hG _ (bs hk);have an:=cL (jR c d) (be k (Q5 c d));rw[cb]at an;refine⟨kQ hk,_,zj hk,_,vJ hc hp,?_⟩;refine zH (fun h1=>?_) (fun h1=>?_)
   ·refine⟨kQ hk,_,zj hk,_,vJ hd hp,?_⟩;refine zH (fun h2=>?_) (fun h2=>?_)
    ·refine⟨kQ hk,_,zj hk,⟨?_,fun e he=>by rw[bx.1 he];rfl⟩,⟨k+1,hk,?_⟩,qy hk⟩
     ·unfold Hv;rw[xk];omega
     ·rw[wI,xK hk,if_pos (by unfold jR;rw[h1,h2];rfl),KV];rfl
    ·refine⟨⟨k+1,hk,?_⟩,qy hk⟩;rw[wI,xK hk,if_neg (by unfold jR;rw[h1,h2];simp),eb];rfl
   ·refine⟨⟨k+1,hk,?_⟩,qy hk⟩;rw[wI,xK hk,if_neg (by unfold jR;rw[h1];simp),eb];rfl
  ·have hk:(Q5 c d).length≤k:=by rw[xk]at h;simp only[W1]at h;omega
   rw[cv hk];have hs:=y8 hc (l:=(Q5 c d).filter (jR c d)) (fun p hp=>hG p (er.1 hp).1) (by have:=cL (jR c d) (Q5 c d);omega);have hP:yw c ((Q5 c d).filter (jR c d))=zO c d:=by unfold zO jR;rw[a7]
   rw[hP]at hs;refine⟨_,hs,?_,?_⟩
   ·rw[wt,wt,WM,WM];have b2:c.arc=false→∃i,qc CC 164 [aP (Hy (kU c)),aP (Hx (kU c))] [A.c (P1 V1 i)]∧∃i_1,qc CC 164 [aP (Hy (kU d)),aP (Hx (kU d))] [A.c (P1 V1 i_1)]∧
     br (toB (Pl (i !=i_1))) (∃x,qc CC 201 [aC (kU d)] [aC x]∧mtJ c d [] (ck x [])) (mtJ c d [] (ck (kU d) [])):=fun ha=>by
     refine⟨_,ag,_,al,?_⟩;refine brb (fun h1=>⟨_,rv,a5 ?_⟩) (fun h1=>a3 ?_)
     ·unfold Zt;rw[ha];simpa using h1
     ·unfold Zt;rw[ha];simpa using h1
    cases ha:c.arc with
    |true=>
     refine brb (fun _=>?_) (fun h=>by cases h);cases hb:d.arc with
     |true=>
      refine brb (fun _=>?_) (fun h=>by cases h);refine brb (fun h1=>⟨_,rv,a5 ?_⟩) (fun h1=>?_)
      ·unfold Zt;rw[ha,hb];simpa using h1
      ·refine brb (fun h=>by cases h) (fun _=>a3 ?_);unfold Zt;rw[ha,hb];simpa using h1
     |false=>refine brb (fun h=>by cases h) (fun _=>?_);refine brb (fun h=>by cases h) (fun _=>a3 ?_);unfold Zt;rw[ha,hb];rfl
    |false=>refine brb (fun h=>by cases h) (fun _=>?_);exact brb (fun _=>b2 ha) (fun h=>by cases h)
   ·intro x hx;obtain⟨t1,t2,rfl⟩:=a8 _ rfl x hx;refine⟨t1,?_⟩;intro i b1 hi;obtain⟨t,rfl,ht,rfl⟩:=t2 i b1 hi;refine zH (fun hsm=>?_) (fun hsm=>?_)
    ·rw[if_pos hsm]at ht;refine brd (fun h1=>?_) (fun h1=>?_)
     ·have a4:t+1<(zO c d).length:=by rw[xk]at h1;simp only[W1]at h1;omega
      have dn:∀r s:List D,zo 1000000 (dI (U3 .i64 (((t+1:Nat):Int)+1))::r)<zo 1000000 (dI ((t+1:Nat):Int)::s):=fun r s=>qy
      refine zH (fun h2=>?_) (fun h2=>?_)
      ·refine⟨⟨t+1,by rw[if_pos hsm];omega,?_⟩,dn _ _⟩;rw[wI,mtB,h2,Hu];rfl
      ·have e1:U3 .i64 (((t+1:Nat):Int)-1)=((t:Nat):Int):=by rw[wI];omega
       have a6:t<(zO c d).length:=by omega
       rw[e1];refine⟨kQ a6,_,zj a6,kQ a4,_,zj a4,_,kO hD (ad _ (bs a6)) (ad _ (bs a4)),⟨t+1,by rw[if_pos hsm];omega,?_⟩,dn _ _⟩;rw[wI,mtB,h2,F0,bh a6,bh a4];rfl
     ·have a4:t=(zO c d).length-1:=by rw[xk]at h1;simp only[W1]at h1;omega
      unfold PY;rw[if_pos hsm,a4]
    ·rw[if_neg (by rw[hsm];simp)]at ht;obtain rfl:t=0:=by omega
     unfold PY;rw[if_neg (by rw[hsm];simp)];rfl
 ·have ap:jw c d=true:=by simpa using hsm
  have a7:Xy c d=[c.fr,c.tt,d.fr,d.tt]:=by unfold Xy;rw[if_pos ap]
  rw[a7]at hL;obtain⟨hG,hG2⟩:=hL;have e4:[pk (Hy (kU c)) [],pk (Hx (kU c)) [],pk (Hy (kU d)) [],pk (Hx (kU d)) []]=kPs [c.fr,c.tt,d.fr,d.tt]:=by rw[jv,jv,kj,kj];rfl
  rw[a7,e4];refine⟨⟨0,gr _,rfl⟩,?_⟩;rintro _ _ ⟨k,hkl,he⟩;simp only[gm,Ts,T1,and_true,true_and]at he;obtain⟨rfl,rfl⟩:=he;refine brd (fun h=>?_) (fun h=>?_)
  ·have hk:k<([c.fr,c.tt,d.fr,d.tt]).length:=by simp only[ca,dl];omega
   have hp:=hG _ (bs hk);have an:=cL (jR c d) (be k ([c.fr,c.tt,d.fr,d.tt]));rw[cb]at an;refine⟨⟨by omega,by omega⟩,_,zj hk,_,vJ hc hp,?_⟩;refine zH (fun h1=>?_) (fun h1=>?_)
   ·refine⟨⟨by omega,by omega⟩,_,zj hk,_,vJ hd hp,?_⟩;refine zH (fun h2=>?_) (fun h2=>?_)
    ·refine⟨⟨by omega,by omega⟩,_,zj hk,⟨?_,fun e he=>by rw[bx.1 he];rfl⟩,⟨k+1,hk,?_⟩,qy hk⟩
     ·unfold Hv;rw[xk];omega
     ·rw[wI,xK hk,if_pos (by unfold jR;rw[h1,h2];rfl),KV];rfl
    ·refine⟨⟨k+1,hk,?_⟩,qy hk⟩;rw[wI,xK hk,if_neg (by unfold jR;rw[h1,h2];simp),eb];rfl
   ·refine⟨⟨k+1,hk,?_⟩,qy hk⟩;rw[wI,xK hk,if_neg (by unfold jR;rw[h1];simp),eb];rfl
  ·have hk:([c.fr,c.tt,d.fr,d.tt]).length≤k:=by simp only[ca,dl];omega
   rw[cv hk];have hs:=y8 hc (l:=([c.fr,c.tt,d.fr,d.tt]).filter (jR c d)) (fun p hp=>hG p (er.1 hp).1) (by have:=cL (jR c d) ([c.fr,c.tt,d.fr,d.tt]);omega);have hP:yw c (([c.fr,c.tt,d.fr,d.tt]).filter (jR c d))=zO c d:=by unfold zO jR;rw[a7]
   rw[hP]at hs;refine⟨_,hs,?_,?_⟩
   ·rw[wt,wt,WM,WM];have b2:c.arc=false→∃i,qc CC 164 [aP (Hy (kU c)),aP (Hx (kU c))] [A.c (P1 V1 i)]∧∃i_1,qc CC 164 [aP (Hy (kU d)),aP (Hx (kU d))] [A.c (P1 V1 i_1)]∧
     br (toB (Pl (i !=i_1))) (∃x,qc CC 201 [aC (kU d)] [aC x]∧mtJ c d [] (ck x [])) (mtJ c d [] (ck (kU d) [])):=fun ha=>by
     refine⟨_,ag,_,al,?_⟩;refine brb (fun h1=>⟨_,rv,a5 ?_⟩) (fun h1=>a3 ?_)
     ·unfold Zt;rw[ha];simpa using h1
     ·unfold Zt;rw[ha];simpa using h1
    cases ha:c.arc with
    |true=>
     refine brb (fun _=>?_) (fun h=>by cases h);cases hb:d.arc with
     |true=>
      refine brb (fun _=>?_) (fun h=>by cases h);refine brb (fun h1=>⟨_,rv,a5 ?_⟩) (fun h1=>?_)
      ·unfold Zt;rw[ha,hb];simpa using h1
      ·refine brb (fun h=>by cases h) (fun _=>a3 ?_);unfold Zt;rw[ha,hb];simpa using h1
     |false=>refine brb (fun h=>by cases h) (fun _=>?_);refine brb (fun h=>by cases h) (fun _=>a3 ?_);unfold Zt;rw[ha,hb];rfl
    |false=>refine brb (fun h=>by cases h) (fun _=>?_);exact brb (fun _=>b2 ha) (fun h=>by cases h)
   ·intro x hx;obtain⟨t1,t2,rfl⟩:=a8 _ rfl x hx;refine⟨t1,?_⟩;intro i b1 hi;obtain⟨t,rfl,ht,rfl⟩:=t2 i b1 hi;refine zH (fun hsm=>?_) (fun hsm=>?_)
    ·rw[if_pos hsm]at ht;refine brd (fun h1=>?_) (fun h1=>?_)
     ·have a4:t+1<(zO c d).length:=by rw[xk]at h1;simp only[W1]at h1;omega
      have dn:∀r s:List D,zo 1000000 (dI (U3 .i64 (((t+1:Nat):Int)+1))::r)<zo 1000000 (dI ((t+1:Nat):Int)::s):=fun r s=>qy
      refine zH (fun h2=>?_) (fun h2=>?_)
      ·refine⟨⟨t+1,by rw[if_pos hsm];omega,?_⟩,dn _ _⟩;rw[wI,mtB,h2,Hu];rfl
      ·have e1:U3 .i64 (((t+1:Nat):Int)-1)=((t:Nat):Int):=by rw[wI];omega
       have a6:t<(zO c d).length:=by omega
       rw[e1];refine⟨kQ a6,_,zj a6,kQ a4,_,zj a4,_,kO hD (ad _ (bs a6)) (ad _ (bs a4)),⟨t+1,by rw[if_pos hsm];omega,?_⟩,dn _ _⟩;rw[wI,mtB,h2,F0,bh a6,bh a4];rfl
     ·have a4:t=(zO c d).length-1:=by rw[xk]at h1;simp only[W1]at h1;omega
      unfold PY;rw[if_pos hsm,a4]
    ·rw[if_neg (by rw[hsm];simp)]at ht;obtain rfl:t=0:=by omega
     unfold PY;rw[if_neg (by rw[hsm];simp)];rfl
end Eng
end
section
open Go Go.Proofs Eng
namespace Eng
theorem Uw (Gv:Nat→List A→List A→Prop) (I0:List D→List D→Prop) (M0:List D→Nat) (I1:List D→List D→Prop) (M1:List D→Nat) (J7:List D→List D→Prop) (J9:List D→List D→Prop) (J17:List D→List D→Prop) (c0:C66) (Q:List A→Prop):wpF CC Gv (Tf (Tf (Tf (G7 ⟨[.slot 8 (.int .i64 0),.own 7 85 66],[],I0,M0⟩ ⟨[.slot 10 (.int .i64 0)],[.slot 8 (.int .i64 0)],I1,M1⟩) 7 ⟨[.own 6 86 20],[],J7,fun _=>0⟩) 9 ⟨[.own 6 86 20],[],J9,fun _=>0⟩) 17 ⟨[.box 9 zC],[.slot 8 (.int .i64 0)],J17,fun _=>0⟩) Tryz.f137 [.ag (ck c0 [])] Q=(bB (I3 c0) (∃x x1,Gv 79 [aT (Lr c0) (Lm c0) (J4 c0)] [aP x,aP x1]∧(∃b,Gv 200 [aC c0,aP x] [aB b]∧br b ((room 1∧lens 20 [(pk x [])])∧J7 [] [No [(pk x [])]]) (J7 [] [No []]))∧∀(es:List (List D)),J7 [] [No es]→(∃b,Gv 200 [aC c0,aP x1] [aB b]∧br b ((room (es.length+1)∧lens 20 [(pk x1 [])])∧J9 [] [No (es++[(pk x1 [])])]) (J9 [] [No es]))∧∀(es:List (List D)),J9 [] [No es]→∃e1 i,Gv 139 [aC c0,aL es] [aL e1,aI i]∧I0 [] [dI (0:Int),No []]∧∀(i:Int) (es:List (List D)),I0 [] [dI i,No es]→bB (decide (i<(W2 e1.length))) (rO e1 i 66∧∃x,cU e1 i 0 66 (ck x [])∧(∃i_1,Gv 164 [aP (Hy x),aP (Hx x)] [aI i_1]∧bB (decide (i_1>0)) (∃x2,Gv 201 [aC x] [aC x2]∧J17 [dI i] (ck x2 [])) (J17 [dI i] (ck x [])))∧∀(x:C66),J17 [dI i] (ck x [])→I1 [dI i] [dI (0:Int)]∧∀(i_1:Int),I1 [dI i] [dI i_1]→bB (decide (i_1<(W2 es.length))) ((0≤i_1∧i_1<(W2 es.length))∧∃x2,cU es i_1 0 66 (ck x2 [])∧∃i_2,Gv 136 [aC x2,aC x] [aI i_2]∧bB (decide (i_2≤0)) (I1 [dI i] [dI (U3 .i64 (i_1+1))]∧M1 [dI (U3 .i64 (i_1+1))]<M1 [dI i_1]) ((0≤i_1∧i_1≤(W2 es.length))∧(0≤i_1∧i_1≤(W2 es.length)∧(W2 es.length)≤(W2 es.length))∧(room (1+bm (be (W0 (W2 es.length)-W0 i_1) (bw (W0 i_1) es)))∧lens 66 (be (W0 (W2 es.length)-W0 i_1) (bw (W0 i_1) es)))∧(room (bm (be (W0 i_1) es)+bm ((ck x [])::(([])++(be (W0 (W2 es.length)-W0 i_1) (bw (W0 i_1) es)))))∧lens 66 ((ck x [])::(([])++(be (W0 (W2 es.length)-W0 i_1) (bw (W0 i_1) es)))))∧I0 [] [dI (U3 .i64 (i+1)),No (be (W0 i_1) es++(ck x [])::(([])++(be (W0 (W2 es.length)-W0 i_1) (bw (W0 i_1) es))))]∧M0 [dI (U3 .i64 (i+1)),No (be (W0 i_1) es++(ck x [])::(([])++(be (W0 (W2 es.length)-W0 i_1) (bw (W0 i_1) es))))]<M0 [dI i,No es])) ((0≤i_1∧i_1≤(W2 es.length))∧(0≤i_1∧i_1≤(W2 es.length)∧(W2 es.length)≤(W2 es.length))∧(room (1+bm (be (W0 (W2 es.length)-W0 i_1) (bw (W0 i_1) es)))∧lens 66 (be (W0 (W2 es.length)-W0 i_1) (bw (W0 i_1) es)))∧(room (bm (be (W0 i_1) es)+bm ((ck x [])::(([])++(be (W0 (W2 es.length)-W0 i_1) (bw (W0 i_1) es)))))∧lens 66 ((ck x [])::(([])++(be (W0 (W2 es.length)-W0 i_1) (bw (W0 i_1) es)))))∧I0 [] [dI (U3 .i64 (i+1)),No (be (W0 i_1) es++(ck x [])::(([])++(be (W0 (W2 es.length)-W0 i_1) (bw (W0 i_1) es))))]∧M0 [dI (U3 .i64 (i+1)),No (be (W0 i_1) es++(ck x [])::(([])++(be (W0 (W2 es.length)-W0 i_1) (bw (W0 i_1) es))))]<M0 [dI i,No es])) (Q [aL es])) (I0 [] [dI (0:Int),No []]∧∀(i:Int) (es:List (List D)),I0 [] [dI i,No es]→bB (decide (i<1)) ((0≤i∧i<1)∧∃x,cut (nth [] [(ck c0 [])] (W0 i)) 0 66 (ck x [])∧(∃i_1,Gv 164 [aP (Hy x),aP (Hx x)] [aI i_1]∧bB (decide (i_1>0)) (∃x1,Gv 201 [aC x] [aC x1]∧J17 [dI i] (ck x1 [])) (J17 [dI i] (ck x [])))∧∀(x:C66),J17 [dI i] (ck x [])→I1 [dI i] [dI (0:Int)]∧∀(i_1:Int),I1 [dI i] [dI i_1]→bB (decide (i_1<(W2 es.length))) ((0≤i_1∧i_1<(W2 es.length))∧∃x1,cU es i_1 0 66 (ck x1 [])∧∃i_2,Gv 136 [aC x1,aC x] [aI i_2]∧bB (decide (i_2≤0)) (I1 [dI i] [dI (U3 .i64 (i_1+1))]∧M1 [dI (U3 .i64 (i_1+1))]<M1 [dI i_1]) ((0≤i_1∧i_1≤(W2 es.length))∧(0≤i_1∧i_1≤(W2 es.length)∧(W2 es.length)≤(W2 es.length))∧(room (1+bm (be (W0 (W2 es.length)-W0 i_1) (bw (W0 i_1) es)))∧lens 66 (be (W0 (W2 es.length)-W0 i_1) (bw (W0 i_1) es)))∧(room (bm (be (W0 i_1) es)+bm ((ck x [])::(([])++(be (W0 (W2 es.length)-W0 i_1) (bw (W0 i_1) es)))))∧lens 66 ((ck x [])::(([])++(be (W0 (W2 es.length)-W0 i_1) (bw (W0 i_1) es)))))∧I0 [] [dI (U3 .i64 (i+1)),No (be (W0 i_1) es++(ck x [])::(([])++(be (W0 (W2 es.length)-W0 i_1) (bw (W0 i_1) es))))]∧M0 [dI (U3 .i64 (i+1)),No (be (W0 i_1) es++(ck x [])::(([])++(be (W0 (W2 es.length)-W0 i_1) (bw (W0 i_1) es))))]<M0 [dI i,No es])) ((0≤i_1∧i_1≤(W2 es.length))∧(0≤i_1∧i_1≤(W2 es.length)∧(W2 es.length)≤(W2 es.length))∧(room (1+bm (be (W0 (W2 es.length)-W0 i_1) (bw (W0 i_1) es)))∧lens 66 (be (W0 (W2 es.length)-W0 i_1) (bw (W0 i_1) es)))∧(room (bm (be (W0 i_1) es)+bm ((ck x [])::(([])++(be (W0 (W2 es.length)-W0 i_1) (bw (W0 i_1) es)))))∧lens 66 ((ck x [])::(([])++(be (W0 (W2 es.length)-W0 i_1) (bw (W0 i_1) es)))))∧I0 [] [dI (U3 .i64 (i+1)),No (be (W0 i_1) es++(ck x [])::(([])++(be (W0 (W2 es.length)-W0 i_1) (bw (W0 i_1) es))))]∧M0 [dI (U3 .i64 (i+1)),No (be (W0 i_1) es++(ck x [])::(([])++(be (W0 (W2 es.length)-W0 i_1) (bw (W0 i_1) es))))]<M0 [dI i,No es])) (Q [aL es]))):=by kernel_rfl
end Eng
end
section
namespace Eng
open Go Go.Proofs Rl
set_option maxRecDepth 100000
theorem Wa {p q:P5} (h:Zk p q):Zk q p:=⟨h.1.symm,h.2.symm⟩
theorem XB (p q:P5):wC p q=wC q p:=by
 rw[Bool.eq_iff_iff,zR,zR];exact⟨Wa,Wa⟩
theorem NX {p q:P5} (h:Zk p q):jb p q=0:=yu.2 h
theorem BW {c:Ci} {p q:P5} (h:Zk p q):upB c p=upB c q:=by unfold upB;rw[h.1,h.2]
theorem Ux {c:Ci} {p q:P5} (h:Zk p q):qw c p q=0:=by
 unfold qw;rw[if_pos (BW h),h.1,sbs,zL];split<;>rfl
theorem QC {c:Ci} {p q:P5} (f:P5) (h:Zk p q):qw c p f=qw c q f:=by
 unfold qw;rw[BW h,h.1]
theorem BX {c:Ci} {f p q:P5} (h:Zk p q):wV c f p q=0:=by
 unfold wV;rw[QC f h,if_pos rfl,Ux h]
theorem NY {p q:P5} (h:Zk p q):Zk (vZ p) (vZ q):=⟨by rw[KD,KD,h.1],by rw[Is,Is,h.2]⟩
theorem Wb {c:Cu} {p q:P5} (h:Zk p q):zS c p q=0:=by
 unfold zS;split
 ·split
  ·exact BX (NY h)
  ·exact BX h
 ·rw[NX h];split<;>rfl
theorem lM {c:Cu} {p q:P5} (h:zS c p q<0):wC p q=false:=by
 cases he:wC p q with
 |false=>rfl
 |true=>rw[Wb (zR.1 he)]at h;omega
def nbr:List P5→Prop
 |p::q::r=>wC p q=false∧nbr (q::r)
 |_=>True
theorem FU {p:P5} {l:List P5} (h:nbr (p::l)):nbr l:=by
 cases l with
 |nil=>trivial
 |cons q r=>exact h.2
theorem BY (c:Cu) (l:List P5) (p:P5):(∃r,Q6 c l p=p::r)∨(∃q r s,l=q::r∧Q6 c l p=q::s):=by
 cases l with
 |nil=>exact .inl ⟨[],rfl⟩
 |cons q r=>
  unfold Q6;split
  ·exact .inr ⟨q,r,_,rfl,rfl⟩
  ·split
   ·exact .inr ⟨q,r,_,rfl,rfl⟩
   ·exact .inl ⟨_,rfl⟩
theorem NZ (c:Cu) (p:P5):∀{l:List P5},nbr l→nbr (Q6 c l p)
 |[],_=>trivial
 |q::r,h=>by
  unfold Q6;split
  ·rename_i ho;have h1:=NZ c p (FU h);rcases BY c r p with⟨s,e⟩|⟨a,b,s,e1,e2⟩
   ·rw[e]at h1 ⊢;exact⟨lM ho,h1⟩
   ·rw[e2]at h1 ⊢;rw[e1]at h;exact⟨h.1,h1⟩
  ·split
   ·exact h
   ·rename_i h2;exact⟨by rw[XB];simpa using h2,h⟩
theorem BZ (c:Cu) (l:List P5):nbr (yw c l):=by
 rw[←Zq];have:∀k,k≤l.length→nbr (soO c l k):=by
  intro k
  induction k with
  |zero=>intro _;rw[X9];trivial
  |succ k ih=>intro h;rw[yY c (by omega)];exact NZ c _ (ih (by omega))
 exact this _ (gz _)
theorem V5 {c x:Cu}:∀{l:List P5},nbr l→x∈ji c l→∃p q,p∈l∧q∈l∧wC p q=false∧x={c with fr:=p,tt:=q}
 |[],_,h=>by simp[ji]at h
 |[_],_,h=>by simp[ji]at h
 |p::q::r,hn,h=>by
  simp only[ji,cr]at h;rcases h with h|h
  ·exact⟨p,q,by simp,by simp,hn.1,h⟩
  ·obtain⟨a,b,h1,h2,h3⟩:=V5 hn.2 h;exact⟨a,b,by simp[h1],by simp[h2],h3⟩
theorem FV {c:Cu} (h:WL c=true) {p q:P5} (hp:Zl c p=true) (hq:Zl c q=true) (hne:wC p q=false):WL {c with fr:=p,tt:=q}=true:=by
 unfold WL at h ⊢;simp only[Bx,F2]at h ⊢;exact⟨h.1,hp,hq,hne⟩
theorem Gd.ends {c:Cu} (h:Gd c) {p q:P5} (gp:Gp p) (gq:Gp q) (hp:Zl c p=true) (hq:Zl c q=true) (hne:wC p q=false):Gd {c with fr:=p,tt:=q}:=
 ⟨⟨h.1.1,gp,gq⟩,FV h.2 hp hq hne⟩
theorem Gb {c:Cu} {p:P5} (h:yU c p=true):Zl c p=true:=by
 unfold yU at h;simp only[Bx]at h;exact h.1
theorem Uy {c x:Cu} {l:List P5} (hx:x∈jj c l):l.all (yU c)=true∧∃p q,p∈c.fr::c.tt::l∧q∈c.fr::c.tt::l∧wC p q=false∧x={c with fr:=p,tt:=q}:=by
 unfold jj at hx;split at hx
 ·rename_i a3;obtain⟨p,q,h1,h2,h3,h4⟩:=V5 (BZ c _) hx;exact⟨a3,p,q,wX h1,wX h2,h3,h4⟩
 ·simp at hx
theorem Ge {c:Cu} (h:Gd c) {l:List P5} (hl:∀p∈l,Gp p):∀x∈jj c l,Gd x:=by
 intro x hx;obtain⟨a4,p,q,hp,hq,hne,rfl⟩:=Uy hx;have a3:∀p∈c.fr::c.tt::l,Gp p∧Zl c p=true:=by
  intro p hp;simp only[cr]at hp;rcases hp with rfl|rfl|hp
  ·exact⟨h.1.2.1,h.sup.1⟩
  ·exact⟨h.1.2.2,h.sup.2.1⟩
  ·exact⟨hl p hp,Gb (fx.1 a4 p hp)⟩
 exact h.ends (a3 p hp).1 (a3 q hq).1 (a3 p hp).2 (a3 q hq).2 hne
theorem Uz (c:Cu) (l:List P5):(jj c l).length≤l.length+1:=by
 unfold jj;split
 ·rw[Zr];have:=XA c (c.fr::c.tt::l);simp only[ca]at this;omega
 ·simp
theorem Gd.rev {c:Cu} (h:Gd c):Gd (Lf c):=by
 refine⟨h.1.rev,?_⟩;obtain⟨h1,h2,h3⟩:=h.sup;have h4:=h.2;have hs:∀p,Zl (Lf c) p=Zl c p:=fun p=>rfl
 unfold WL at h4 ⊢;rw[show wC (Lf c).fr (Lf c).tt=false by rw[XB];exact h3,hs,hs,show(Lf c).fr=c.tt from rfl,show(Lf c).tt=c.fr from rfl,h1,h2];rw[h1,h2,h3]at h4;show((if c.arc=true then decide (0<c.ci.q)else !(c.arc&&!c.cw)&&decide (¬(c.ln.a=0∧c.ln.b=0)))&&_)=true;cases ha:c.arc with
 |true=>rw[ha]at h4;exact h4
 |false=>rw[ha]at h4;simp only[Dd,if_false,Bx]at h4;simp only[Dd,if_false,Bool.false_and,Aw];rw[h4.1.2];rfl
theorem Oa {c:Cu} (h:Gd c):Gd (qB c):=by
 unfold qB;split
 ·exact h.rev
 ·exact h
theorem Ob:∀(l:List Cu) (p:Cu),(G9 l p).length=l.length+1
 |[],p=>rfl
 |q::r,p=>by
  unfold G9;split
  ·simp only[ca,Ob r p]
  ·rfl
theorem Oc {x:Cu}:∀{l:List Cu} {p:Cu},x∈G9 l p→x∈l∨x=p
 |[],p,h=>by simp[G9]at h;exact .inr h
 |q::r,p,h=>by
  unfold G9 at h;split at h
  ·rcases cr.1 h with h|h
   ·exact .inl (by simp[h])
   ·rcases Oc h with h|h
    ·exact .inl (by simp[h])
    ·exact .inr h
  ·rcases cr.1 h with h|h
   ·exact .inr h
   ·exact .inl h
noncomputable def pcO (l:List Cu) (k:Nat):List Cu:=(l.take k).foldl G9 []
theorem Ju (l:List Cu):pcO l 0=[]:=by simp[pcO]
theorem Gf {l:List Cu} {k:Nat} (h:k<l.length):pcO l (k+1)=G9 (pcO l k) l[k]:=by
 unfold pcO;rw[bv h,en];rfl
theorem db (l:List Cu):pcO l l.length=l.foldl G9 []:=by unfold pcO;rw[cH]
theorem Wc (l:List Cu):∀k,k≤l.length→(pcO l k).length=k
 |0,_=>by rw[Ju];rfl
 |k+1,h=>by rw[Gf (by omega),Ob,Wc l k (by omega)]
theorem Gg (l:List Cu):∀k,k≤l.length→∀x∈pcO l k,x∈l
 |0,_,x,hx=>by rw[Ju]at hx;simp at hx
 |k+1,h,x,hx=>by
  rw[Gf (by omega)]at hx;rcases Oc hx with hx|hx
  ·exact Gg l k (by omega) x hx
  ·rw[hx];exact bs _
noncomputable def xl (c:Cu):List Cu:=if c.arc=true then jj c ((if W3 c (ju c.ci)=true then [ju c.ci]else [])++(if W3 c (xW c.ci)=true then [xW c.ci]else []))else [c]
theorem Zu (c:Cu):zi c=pcO ((xl c).map qB) ((xl c).map qB).length:=by rw[db];rfl
theorem Ca {c:Cu} (h:Gd c):(∀x∈xl c,Gd x)∧(xl c).length≤3:=by
 unfold xl;split
 ·rename_i ha;obtain⟨hc,hq⟩:=h.circ ha;obtain⟨⟨l1,l2⟩,⟨r1,r2⟩⟩:=Jt hc hq;refine⟨Ge h (fun p hp=>?_),?_⟩
  ·rcases ea.1 hp with hp|hp
   ·split at hp
    ·rw[bx.1 hp];exact⟨l1,l2⟩
    ·simp at hp
   ·split at hp
    ·rw[bx.1 hp];exact⟨r1,r2⟩
    ·simp at hp
  ·refine g5 (Uz _ _) ?_;rw[cg];split<;>split<;>simp
 ·exact⟨fun x hx=>by rw[bx.1 hx];exact h,by simp⟩
theorem V6 {c:Cu} (h:Gd c):(∀x∈zi c,Gd x)∧(zi c).length≤3:=by
 obtain⟨h1,h2⟩:=Ca h;rw[Zu];refine⟨fun x hx=>?_,?_⟩
 ·have:=Gg _ _ (gz _) x hx;obtain⟨y,hy,rfl⟩:=e7.1 this;exact Oa (h1 y hy)
 ·rw[Wc _ _ (gz _),ey];exact h2
end Eng
end
section
namespace Eng
open Go Go.Proofs Rl
set_option maxRecDepth 100000
def inC (out:List Cu) (p:Cu) (j:Nat):Prop:=j≤out.length∧G9 out p=out.take j++G9 (out.drop j) p
theorem Od {out:List Cu} {p:Cu} {j:Nat} (h:inC out p j) (hj:j<out.length) (ho:Fk out[j] p≤0):inC out p (j+1):=by
 refine⟨hj,?_⟩;rw[h.2,b9 hj,G9,if_pos ho,bv hj,ed];rfl
theorem Oe {out:List Cu} {p:Cu} {j:Nat} (h:inC out p j) (hj:j<out.length) (ho:¬Fk out[j] p≤0):G9 out p=out.take j++p::out.drop j:=by
 rw[h.2,b9 hj,G9,if_neg ho]
theorem Cb {out:List Cu} {p:Cu} {j:Nat} (h:inC out p j) (hj:out.length≤j):G9 out p=out.take j++p::out.drop j:=by
 rw[h.2,dc hj];rfl
def tO (l:List Cu) (_ ds:List D):Prop:=∃k:Nat,k≤l.length∧ds=[dI (k:Int),.sl (kUs (pcO l k))]
def pcI1 (l:List Cu) (gs ds:List D):Prop:=∃j:Nat,ds=[dI (j:Int)]∧∀p,l[gK gs]? =some p→inC (pcO l (gK gs)) p j
def pcJ (l:List Cu) (gs ds:List D):Prop:=∃p,l[gK gs]? =some p∧ds=ck (kU p) []
def pc7 (c:Cu) (_ ds:List D):Prop:=ds=[.sl (kPs (if W3 c (ju c.ci)=true then [ju c.ci]else []))]
def pc9 (c:Cu) (_ ds:List D):Prop:=ds=[.sl (kPs ((if W3 c (ju c.ci)=true then [ju c.ci]else [])++(if W3 c (xW c.ci)=true then [xW c.ci]else [])))]
theorem Of {l:List Cu} {k:Nat} (h:k<l.length):(l.map qB)[k]? =some (qB l[k]):=by simp[h]
theorem U1 {c:Cu} (hc:Gd c):qc CC 137 [aC (kU c)] [aL (kUs (zi c))]:=by
 have hv:=Uw (qc CC) (tO ((xl c).map qB)) (zo 1000000) (pcI1 ((xl c).map qB)) (zo 1000000) (pc7 c) (pc9 c) (pcJ ((xl c).map qB)) (kU c) (· =[aL (kUs (zi c))]);refine gOk Tryz.func137 hv ?_;clear hv;obtain⟨hG,hN⟩:=Ca hc;have hN2:((xl c).map qB).length=(xl c).length:=ey ..;have hT:∀x∈(xl c).map qB,Gd x:=fun x hx=>by obtain⟨y,hy,rfl⟩:=e7.1 hx;exact Oa (hG y hy)
 rw[Zu]
 --the a8 loop,the insertion
 have a8:∀(k:Nat) (hk:k<((xl c).map qB).length) (j:Nat),inC (pcO ((xl c).map qB) k) ((xl c).map qB)[k] j→
  (∀hj:j<(pcO ((xl c).map qB) k).length,qc CC 136 [aC (kU (pcO ((xl c).map qB) k)[j]),aC (kU ((xl c).map qB)[k])] [aI (Fk (pcO ((xl c).map qB) k)[j] ((xl c).map qB)[k])]):=fun k hk j _ hj=>
  X8 (hT _ (Gg _ k (by omega) _ (bs hj))) (hT _ (bs hk))
 have next:∀(k:Nat) (hk:k<((xl c).map qB).length) (a4:List Cu),G9 (pcO ((xl c).map qB) k) ((xl c).map qB)[k]=a4→
  tO ((xl c).map qB) [] [dI (U3 .i64 ((k:Int)+1)),.sl (kUs a4)]:=by
  intro k hk a4 ho;refine⟨k+1,hk,?_⟩;rw[wI,Gf hk,ho];rfl
 have an:∀(k:Nat) (hk:k<((xl c).map qB).length) (j:Nat),j≤(pcO ((xl c).map qB) k).length→G9 (pcO ((xl c).map qB) k) ((xl c).map qB)[k]=(pcO ((xl c).map qB) k).take j++((xl c).map qB)[k]::(pcO ((xl c).map qB) k).drop j→
  ((0:Int)≤(j:Int)∧(j:Int)≤(W2 (bm (kUs (pcO ((xl c).map qB) k)))))∧
    ((0:Int)≤(j:Int)∧(j:Int)≤(W2 (bm (kUs (pcO ((xl c).map qB) k))))∧(W2 (bm (kUs (pcO ((xl c).map qB) k))))≤(W2 (bm (kUs (pcO ((xl c).map qB) k)))))∧
      (room ((1:Nat)+bm (be (W0 (W2 (bm (kUs (pcO ((xl c).map qB) k))))-W0 (j:Int)) (bw (W0 (j:Int)) (kUs (pcO ((xl c).map qB) k)))))∧
       lens (66:Nat) (be (W0 (W2 (bm (kUs (pcO ((xl c).map qB) k))))-W0 (j:Int)) (bw (W0 (j:Int)) (kUs (pcO ((xl c).map qB) k)))))∧
       (room (bm (be (W0 (j:Int)) (kUs (pcO ((xl c).map qB) k)))+bm ((ck (kU ((xl c).map qB)[k]) [])::(([])++(be (W0 (W2 (bm (kUs (pcO ((xl c).map qB) k))))-W0 (j:Int)) (bw (W0 (j:Int)) (kUs (pcO ((xl c).map qB) k)))))))∧
        lens (66:Nat) ((ck (kU ((xl c).map qB)[k]) [])::(([])++(be (W0 (W2 (bm (kUs (pcO ((xl c).map qB) k))))-W0 (j:Int)) (bw (W0 (j:Int)) (kUs (pcO ((xl c).map qB) k)))))))∧
        tO ((xl c).map qB) [] [P1 V1 (U3 V1 ((k:Int)+(1:Int))),No (be (W0 (j:Int)) (kUs (pcO ((xl c).map qB) k))++(ck (kU ((xl c).map qB)[k]) [])::(([])++(be (W0 (W2 (bm (kUs (pcO ((xl c).map qB) k))))-W0 (j:Int)) (bw (W0 (j:Int)) (kUs (pcO ((xl c).map qB) k))))))]∧
         zo 1000000 [P1 V1 (U3 V1 ((k:Int)+(1:Int))),No (be (W0 (j:Int)) (kUs (pcO ((xl c).map qB) k))++(ck (kU ((xl c).map qB)[k]) [])::(([])++(be (W0 (W2 (bm (kUs (pcO ((xl c).map qB) k))))-W0 (j:Int)) (bw (W0 (j:Int)) (kUs (pcO ((xl c).map qB) k))))))]<
          zo 1000000 [P1 V1 (k:Int),No (kUs (pcO ((xl c).map qB) k))]:=by
  intro k hk j hj he;have hlen:=Wc ((xl c).map qB) k (by omega);generalize hout:pcO ((xl c).map qB) k=a4 at *;have e0:W0 (W2 (bm (kUs a4)))-W0 (j:Int)=a4.length-j:=by rw[qt];simp
  have e1:be (W0 (W2 (bm (kUs a4)))-W0 (j:Int)) (bw (W0 (j:Int)) (kUs a4))=kUs (a4.drop j):=by rw[e0,ba,NV,cv (by rw[qt,cp];omega)]
  have b1:(0:Int)≤(j:Int)∧(j:Int)≤W2 (bm (kUs a4)):=by rw[qt];simp only[W1];omega
  rw[e1,ba,NU,fg];have e2:kUs (a4.take j)++ck (kU ((xl c).map qB)[k]) []::kUs (a4.drop j)=kUs (a4.take j++((xl c).map qB)[k]::a4.drop j):=by rw[wA];rfl
  rw[e2];refine⟨b1,⟨b1.1,b1.2,bb _⟩,⟨?_,vL _⟩,⟨?_,?_⟩,next k hk _ (by rw[hout];exact he),qy⟩
  ·unfold Hv;rw[qt,cp];omega
  ·unfold Hv;rw[qt,ca,qt,cb,cp];omega
  ·exact vL (((xl c).map qB)[k]::a4.drop j)
 have hR0:xl c=xl c:=rfl;rw[wt];cases ha:c.arc with
 |true=>
  refine brb (fun _=>?_) (fun h=>by cases h);obtain⟨hC,hq⟩:=hc.circ ha;obtain⟨hl,hr⟩:=Jt hC hq;have al:[Lr (kU c),Lm (kU c),J4 (kU c)]=[q4 c.ci.x,q4 c.ci.y,q4 c.ci.q]:=by unfold kU;rw[ha]
  simp only[gm,and_true]at al;rw[al.1,al.2.1,al.2.2];refine⟨_,_,X7 hC hq,⟨_,KT hc.1 hl,?_⟩,?_⟩
  ·refine zH (fun h=>⟨⟨by unfold Hv;omega,fun e he=>by rw[bx.1 he];rfl⟩,?_⟩) (fun h=>?_)
   ·unfold pc7;rw[if_pos h];rfl
   ·unfold pc7;rw[if_neg (by rw[h];simp)];rfl
  rintro es he;simp only[pc7,gm,T1,and_true]at he;subst he;refine⟨⟨_,KT hc.1 hr,?_⟩,?_⟩
  ·refine zH (fun h=>⟨⟨?_,fun e he=>by rw[bx.1 he];rfl⟩,?_⟩) (fun h=>?_)
   ·unfold Hv;rw[xk];split<;>simp
   ·unfold pc9;rw[if_pos h,KV];rfl
   ·have h':¬W3 c (xW c.ci)=true:=by rw[h];simp
    unfold pc9;rw[if_neg h',eb]
  rintro es he;simp only[pc9,gm,T1,and_true]at he;subst he;have b2:∀p∈((if W3 c (ju c.ci)=true then [ju c.ci]else [])++(if W3 c (xW c.ci)=true then [xW c.ci]else [])),Gp p:=by
   intro p hp;rcases ea.1 hp with hp|hp
   ·split at hp
    ·rw[bx.1 hp];exact hl
    ·simp at hp
   ·split at hp
    ·rw[bx.1 hp];exact hr
    ·simp at hp
  obtain⟨e,b4⟩:=KY hc.1 b2 (by rw[cg];split<;>split<;>simp);have hR:jj c ((if W3 c (ju c.ci)=true then [ju c.ci]else [])++(if W3 c (xW c.ci)=true then [xW c.ci]else []))=xl c:=by unfold xl;rw[if_pos ha]
  rw[hR]at b4;refine⟨_,_,b4,?_⟩;refine⟨⟨0,gr _,by rw[Ju];rfl⟩,?_⟩;rintro _ _ ⟨k,hk,he⟩;simp only[gm,Ts,T1,and_true,true_and]at he;obtain⟨rfl,rfl⟩:=he;refine brd (fun h=>?_) (fun h=>?_)
  ·have a6:k<(xl c).length:=by rw[qt]at h;simp only[W1]at h;omega
   have a5:k<((xl c).map qB).length:=by omega
   have hx:=hG _ (bs a6);have a7:((xl c).map qB)[k]? =some (qB (xl c)[k]):=Of a6;have ap:((xl c).map qB)[k]=qB (xl c)[k]:=fw ..;have cc:=y7 hx.1.2.1 hx.1.2.2;rw[←jv,←kj]at cc;refine⟨xf a6,_,xa a6,⟨_,cc,?_⟩,?_⟩
   ·refine brd (fun h1=>⟨_,vK hx.cw,_,a7,?_⟩) (fun h1=>⟨_,a7,?_⟩)
    ·unfold qB;rw[if_pos (show 0<jb (xl c)[k].fr (xl c)[k].tt from h1)]
    ·unfold qB;rw[if_neg (show ¬0<jb (xl c)[k].fr (xl c)[k].tt from h1)]
   ·rintro x ⟨p,hp,b3⟩;have ad:((xl c).map qB)[k]? =some p:=hp;rw[bh a5]at ad;obtain rfl:=g7 ad;rw[BV b3];refine⟨⟨0,rfl,fun p hp=>⟨gr _,by simp⟩⟩,?_⟩;rintro _ ⟨j,he,hj⟩;simp only[gm,Ts,and_true,true_and]at he;subst he;have hj:inC (pcO ((xl c).map qB) k) ((xl c).map qB)[k] j:=hj _ (bh a5);have ag:=Wc ((xl c).map qB) k hk;refine brd (fun h1=>?_) (fun h1=>?_)
    ·have a3:j<(pcO ((xl c).map qB) k).length:=by rw[qt]at h1;simp only[W1]at h1;omega
     refine⟨jo a3,_,xa a3,_,a8 k a5 j hj a3,?_⟩;refine brd (fun h2=>?_) (fun h2=>?_)
     ·refine⟨⟨j+1,by rw[wI];rfl,fun p hp=>?_⟩,qy⟩;have e:p=((xl c).map qB)[k]:=by have:((xl c).map qB)[k]? =some p:=hp;rw[bh a5]at this;exact(g7 this).symm
      rw[e];exact Od hj a3 h2
     ·exact an k a5 j hj.1 (Oe hj a3 h2)
    ·have a3:(pcO ((xl c).map qB) k).length≤j:=by rw[qt]at h1;simp only[W1]at h1;omega
     exact an k a5 j hj.1 (Cb hj a3)
  ·have a6:k=((xl c).map qB).length:=by rw[qt]at h;simp only[W1]at h;omega
   rw[a6]
 |false=>
  refine brb (fun h=>by cases h) (fun _=>?_);have hR:xl c=[c]:=by unfold xl;rw[if_neg (by rw[ha];simp)]
  have hRk:[ck (kU c) []]=kUs (xl c):=by rw[hR];rfl
  rw[hRk];refine⟨⟨0,gr _,by rw[Ju];rfl⟩,?_⟩;rintro _ _ ⟨k,hk,he⟩;simp only[gm,Ts,T1,and_true,true_and]at he;obtain⟨rfl,rfl⟩:=he;refine brd (fun h=>?_) (fun h=>?_)
  ·have a6:k<(xl c).length:=by rw[hR];simp only[ca,dl];omega
   have a5:k<((xl c).map qB).length:=by omega
   have hx:=hG _ (bs a6);have a7:((xl c).map qB)[k]? =some (qB (xl c)[k]):=Of a6;have ap:((xl c).map qB)[k]=qB (xl c)[k]:=fw ..;have cc:=y7 hx.1.2.1 hx.1.2.2;rw[←jv,←kj]at cc;refine⟨⟨by omega,by omega⟩,_,xa a6,⟨_,cc,?_⟩,?_⟩
   ·refine brd (fun h1=>⟨_,vK hx.cw,_,a7,?_⟩) (fun h1=>⟨_,a7,?_⟩)
    ·unfold qB;rw[if_pos (show 0<jb (xl c)[k].fr (xl c)[k].tt from h1)]
    ·unfold qB;rw[if_neg (show ¬0<jb (xl c)[k].fr (xl c)[k].tt from h1)]
   ·rintro x ⟨p,hp,b3⟩;have ad:((xl c).map qB)[k]? =some p:=hp;rw[bh a5]at ad;obtain rfl:=g7 ad;rw[BV b3];refine⟨⟨0,rfl,fun p hp=>⟨gr _,by simp⟩⟩,?_⟩;rintro _ ⟨j,he,hj⟩;simp only[gm,Ts,and_true,true_and]at he;subst he;have hj:inC (pcO ((xl c).map qB) k) ((xl c).map qB)[k] j:=hj _ (bh a5);have ag:=Wc ((xl c).map qB) k hk;refine brd (fun h1=>?_) (fun h1=>?_)
    ·have a3:j<(pcO ((xl c).map qB) k).length:=by rw[qt]at h1;simp only[W1]at h1;omega
     refine⟨jo a3,_,xa a3,_,a8 k a5 j hj a3,?_⟩;refine brd (fun h2=>?_) (fun h2=>?_)
     ·refine⟨⟨j+1,by rw[wI];rfl,fun p hp=>?_⟩,qy⟩;have e:p=((xl c).map qB)[k]:=by have:((xl c).map qB)[k]? =some p:=hp;rw[bh a5]at this;exact(g7 this).symm
      rw[e];exact Od hj a3 h2
     ·exact an k a5 j hj.1 (Oe hj a3 h2)
    ·have a3:(pcO ((xl c).map qB) k).length≤j:=by rw[qt]at h1;simp only[W1]at h1;omega
     exact an k a5 j hj.1 (Cb hj a3)
  ·have a6:k=((xl c).map qB).length:=by have e:(xl c).length=1:=(by rw[hR];rfl);omega
   rw[a6]
end Eng
end
section
open Go Go.Proofs Eng
namespace Eng
theorem LN (Gv:Nat→List A→List A→Prop) (I0:List D→List D→Prop) (M0:List D→Nat) (I1:List D→List D→Prop) (M1:List D→Nat) (I2:List D→List D→Prop) (M2:List D→Nat) (l0:List (List D)) (Q:List A→Prop):wpF CC Gv (eO ⟨[.slot 4 (.int .i64 0),.own 3 69 66],[],I0,M0⟩ ⟨[.slot 6 (.int .i64 0),.own 5 70 66],[],I1,M1⟩ ⟨[.slot 8 (.int .i64 0),.own 7 56 20],[.slot 6 (.int .i64 0)],I2,M2⟩) Tryz.f78 [.c (.sl l0)] Q=(I0 [] [dI (0:Int),No []]∧∀(i:Int) (es:List (List D)),I0 [] [dI i,No es]→bB (decide (i<(W2 l0.length))) (rO l0 i 66∧∃x,cU l0 i 0 66 (ck x [])∧∃e1,Gv 137 [aC x] [aL e1]∧(room (es.length+e1.length)∧lens 66 e1)∧I0 [] [dI (U3 .i64 (i+1)),No (es++e1)]∧M0 [dI (U3 .i64 (i+1)),No (es++e1)]<M0 [dI i,No es]) (I1 [] [dI (0:Int),No []]∧∀(i:Int) (e1:List (List D)),I1 [] [dI i,No e1]→bB (decide (i<(W2 es.length))) (I2 [dI i] [dI (0:Int),No []]∧∀(i_1:Int) (e2:List (List D)),I2 [dI i] [dI i_1,No e2]→bB (decide (i_1<(W2 es.length))) (bB (i_1 !=i) ((0≤i∧i<(W2 es.length))∧∃x,cU es i 0 66 (ck x [])∧(0≤i_1∧i_1<(W2 es.length))∧∃x1,cU es i_1 0 66 (ck x1 [])∧∃es b,Gv 138 [aC x,aC x1] [aL es,aB b]∧(room (e2.length+es.length)∧lens 20 es)∧I2 [dI i] [dI (U3 .i64 (i_1+1)),No (e2++es)]∧M2 [dI (U3 .i64 (i_1+1)),No (e2++es)]<M2 [dI i_1,No e2]) (I2 [dI i] [dI (U3 .i64 (i_1+1)),No e2]∧M2 [dI (U3 .i64 (i_1+1)),No e2]<M2 [dI i_1,No e2])) ((0≤i∧i<(W2 es.length))∧∃x,cU es i 0 66 (ck x [])∧∃es i_2,Gv 139 [aC x,aL e2] [aL es,aI i_2]∧(room (e1.length+es.length)∧lens 66 es)∧I1 [] [dI (U3 .i64 (i+1)),No (e1++es)]∧M1 [dI (U3 .i64 (i+1)),No (e1++es)]<M1 [dI i,No e1])) (Q [aL e1]))):=by kernel_rfl
end Eng
end
section
namespace Eng
open Go Go.Proofs Rl
set_option maxRecDepth 100000
theorem Og {c d:Cu} (hc:Gc c) (hd:Gc d):(∀p∈zO c d,Gp p)∧(zO c d).length≤4:=by
 have hL:=NW hc hd;refine⟨fun p hp=>hL.1 p (er.1 (wX hp)).1,?_⟩;have h1:=XA c ((Xy c d).filter fun p=>yU c p&&yU d p);have h2:=cL (fun p=>yU c p&&yU d p) (Xy c d);have h3:=hL.2;unfold zO;omega
noncomputable def V7 (all:List Cu) (c:Cu) (k:Nat):List P5:=match all[k]? with
 |some d=>zO c d
 |none=>[]
noncomputable def kR (all:List Cu) (c:Cu) (i n:Nat):List P5:=((gb n).filter (· ≠i)).flatMap (V7 all c)
theorem Wd (all:List Cu) (c:Cu) (i:Nat):kR all c i 0=[]:=rfl
theorem U2 {all:List Cu} {c:Cu} {i n:Nat} (h:n≠i):kR all c i (n+1)=kR all c i n++V7 all c n:=by
 unfold kR;rw[eH,e5,el];simp[h]
theorem U4 {all:List Cu} {c:Cu} {n:Nat}:kR all c n (n+1)=kR all c n n:=by
 unfold kR;rw[eH,e5,el];simp
noncomputable def XC (all:List Cu) (i:Nat):List Cu:=match all[i]? with
 |some c=>jj c (kR all c i all.length)
 |none=>[]
noncomputable def vN (all:List Cu) (n:Nat):List Cu:=(gb n).flatMap (XC all)
theorem ZT (all:List Cu) (n:Nat):vN all (n+1)=vN all n++XC all n:=by
 unfold vN;rw[eH,el];simp
theorem We (l:List Cu):Xz l=vN (l.flatMap zi) (l.flatMap zi).length:=rfl
theorem Cc {all:List Cu} (ha:∀x∈all,Gd x) {c:Cu} (hc:Gd c) (k:Nat):(∀p∈V7 all c k,Gp p)∧(V7 all c k).length≤4:=by
 unfold V7;split
 ·rename_i d hd;exact Og hc.1 (ha d (fl hd)).1
 ·simp
theorem XD {all:List Cu} (ha:∀x∈all,Gd x) {c:Cu} (hc:Gd c) (i:Nat):∀n,(∀p∈kR all c i n,Gp p)∧(kR all c i n).length≤4*n
 |0=>by rw[Wd];simp
 |n+1=>by
  obtain⟨h1,h2⟩:=XD ha hc i n;by_cases h:n=i
  ·subst h;rw[U4];exact⟨h1,by omega⟩
  ·obtain⟨h3,h4⟩:=Cc ha hc n;rw[U2 h];refine⟨fun p hp=>?_,by rw[cg];omega⟩;rcases ea.1 hp with hp|hp
   ·exact h1 p hp
   ·exact h3 p hp
theorem U5 {all:List Cu} (ha:∀x∈all,Gd x) (i:Nat):(∀x∈XC all i,Gd x)∧(XC all i).length≤4*all.length+1:=by
 unfold XC;split
 ·rename_i c hc;have hg:=ha c (fl hc);obtain⟨h1,h2⟩:=XD ha hg i all.length;refine⟨Ge hg h1,?_⟩;have:=Uz c (kR all c i all.length);omega
 ·simp
theorem Zv {all:List Cu} (ha:∀x∈all,Gd x):∀n,(∀x∈vN all n,Gd x)∧(vN all n).length≤n*(4*all.length+1)
 |0=>by simp[vN]
 |n+1=>by
  obtain⟨h1,h2⟩:=Zv ha n;obtain⟨h3,h4⟩:=U5 ha n;rw[ZT];refine⟨fun x hx=>?_,by rw[cg,Nat.succ_mul];omega⟩;rcases ea.1 hx with hx|hx
  ·exact h1 x hx
  ·exact h3 x hx
noncomputable def FW (l:List Cu) (k:Nat):List Cu:=(l.take k).flatMap zi
theorem U6 {l:List Cu} {k:Nat} (h:k<l.length):FW l (k+1)=FW l k++zi l[k]:=by
 unfold FW;rw[bv h,el];simp
theorem LO {l:List Cu} (hl:∀c∈l,Gd c):∀k,k≤l.length→(∀x∈FW l k,Gd x)∧(FW l k).length≤3*k
 |0,_=>by simp[FW]
 |k+1,h=>by
  obtain⟨h1,h2⟩:=LO hl k (by omega);obtain⟨h3,h4⟩:=V6 (hl l[k] (bs (by omega)));rw[U6 (by omega)];refine⟨fun x hx=>?_,by rw[cg];omega⟩;rcases ea.1 hx with hx|hx
  ·exact h1 x hx
  ·exact h3 x hx
theorem Oh (l:List Cu):FW l l.length=l.flatMap zi:=by unfold FW;rw[cH]
theorem Cd {l:List Cu} (hl:∀c∈l,Gd c) (hn:l.length≤400):(∀x∈Xz l,Gd x)∧(Xz l).length≤6000000:=by
 obtain⟨h1,h2⟩:=LO hl l.length (gz _);rw[Oh]at h1 h2;rw[We];obtain⟨h3,h4⟩:=Zv h1 (l.flatMap zi).length;refine⟨h3,g5 h4 ?_⟩;have h5:(l.flatMap zi).length≤1200:=by omega
 have h6:=g4 h5 (show 4*(l.flatMap zi).length+1≤4801 by omega);omega
def paI0 (l:List Cu) (_ ds:List D):Prop:=∃k:Nat,k≤l.length∧ds=[dI (k:Int),.sl (kUs (FW l k))]
def paI1 (all:List Cu) (_ ds:List D):Prop:=∃k:Nat,k≤all.length∧ds=[dI (k:Int),.sl (kUs (vN all k))]
def paI2 (all:List Cu) (gs ds:List D):Prop:=∃j:Nat,j≤all.length∧∃m,ds=[dI (j:Int),.sl (kPs m)]∧∀c,all[gK gs]? =some c→m=kR all c (gK gs) j
theorem LP {l:List Cu} (hl:∀c∈l,Gd c) (hn:l.length≤400):qc CC 78 [aL (kUs l)] [aL (kUs (Xz l))]:=by
 have hv:=LN (qc CC) (paI0 l) (zo 1000000) (paI1 (l.flatMap zi)) (zo 1000000) (paI2 (l.flatMap zi)) (zo 1000000) (kUs l) (· =[aL (kUs (Xz l))]);refine gOk Tryz.func78 hv ?_;clear hv;refine⟨⟨0,gr _,rfl⟩,?_⟩;rintro _ _ ⟨k,hk,he⟩;simp only[gm,Ts,T1,and_true,true_and]at he;obtain⟨rfl,rfl⟩:=he;obtain⟨g1,g2⟩:=LO hl k hk;refine brd (fun h=>?_) (fun h=>?_)
 ·have a3:k<l.length:=by rw[qt]at h;simp only[W1]at h;omega
  have hx:=hl _ (bs a3);have hp:=(V6 hx).2;refine⟨xf a3,_,xa a3,_,U1 hx,⟨?_,vL _⟩,⟨k+1,a3,?_⟩,qy⟩
  ·unfold Hv;rw[qt,qt];omega
  ·rw[wI,U6 a3,wA];rfl
 have a3:k=l.length:=by rw[qt]at h;simp only[W1]at h;omega
 rw[a3,Oh]at g1 g2 ⊢;rw[We];generalize l.flatMap zi=all at *;clear hk a3 h k;refine⟨⟨0,gr _,rfl⟩,?_⟩;rintro _ _ ⟨k,hk,he⟩;simp only[gm,Ts,T1,and_true,true_and]at he;obtain⟨rfl,rfl⟩:=he;refine brd (fun h=>?_) (fun h=>?_)
 ·have a3:k<all.length:=by rw[qt]at h;simp only[W1]at h;omega
  have a6:all[k]? =some all[k]:=bh a3;have hc:=g1 _ (bs a3);refine⟨⟨0,gr _,[],rfl,fun c _=>by rw[Wd]⟩,?_⟩;rintro _ _ ⟨j,hj,m,he,hm⟩;simp only[gm,Ts,T1,and_true,true_and]at he;obtain⟨rfl,rfl⟩:=he;have hm:m=kR all all[k] k j:=hm _ a6;obtain⟨c1,c2⟩:=XD g1 hc k j;rw[←hm]at c1 c2;refine brd (fun h1=>?_) (fun h1=>?_)
  ·have a4:j<all.length:=by rw[qt]at h1;simp only[W1]at h1;omega
   refine brb (fun h2=>?_) (fun h2=>?_)
   ·have a7:j≠k:=by intro e;rw[e]at h2;simp at h2
    have hd:=g1 _ (bs a4);have ml:=(Og hc.1 hd.1).2;refine⟨jo a3,_,xa a3,jo a4,_,xa a4,_,_,PZ hc.1 hd.1 hd.cw,⟨?_,yX _⟩,⟨j+1,a4,m++zO all[k] all[j],?_,fun c hc2=>?_⟩,qy⟩
    ·unfold Hv;rw[xk,xk];omega
    ·rw[wI,KV];rfl
    ·have a5:all[k]? =some c:=hc2;rw[a6]at a5;obtain rfl:=g7 a5;show m++zO all[k] all[j]=kR all all[k] k (j+1);rw[U2 a7,←hm];unfold V7;rw[bh a4]
   ·have a7:j=k:=by
     have:¬((j:Int) !=(k:Int))=true:=by rw[h2];simp
     simp at this;omega
    subst a7;refine⟨⟨j+1,a4,m,by rw[wI];rfl,fun c hc2=>?_⟩,qy⟩;have a5:all[j]? =some c:=hc2;rw[a6]at a5;obtain rfl:=g7 a5;show m=kR all all[j] j (j+1);rw[U4,hm]
  ·have a4:j=all.length:=by rw[qt]at h1;simp only[W1]at h1;omega
   obtain⟨e,a8⟩:=KY hc.1 c1 (by omega);have hpa:jj all[k] m=XC all k:=by unfold XC;rw[a6,hm,a4]
   rw[hpa]at a8;obtain⟨_,p1⟩:=Zv g1 k;obtain⟨_,p2⟩:=U5 g1 k;have p3:=g4 (show k≤1200 by omega) (show 4*all.length+1≤4801 by omega);refine⟨jo a3,_,xa a3,_,_,a8,⟨?_,vL _⟩,⟨k+1,a3,?_⟩,qy⟩
   ·unfold Hv;rw[qt,qt];omega
   ·rw[wI,ZT,wA];rfl
 ·have a3:k=all.length:=by rw[qt]at h;simp only[W1]at h;omega
  rw[a3]
end Eng
end
section
open Go Go.Proofs Eng
namespace Eng
theorem Cf (Gv:Nat→List A→List A→Prop) (I0:List D→List D→Prop) (M0:List D→Nat) (I1:List D→List D→Prop) (M1:List D→Nat) (l0:List (List D)) (Q:List A→Prop):wpF CC Gv (G7 ⟨[.slot 4 (.int .i64 0),.own 3 47 66],[],I0,M0⟩ ⟨[.slot 6 (.int .i64 0),.slot 5 (.int .i64 0)],[.slot 4 (.int .i64 0)],I1,M1⟩) Tryz.f77 [.c (.sl l0)] Q=(I0 [] [dI (0:Int),No []]∧∀(i:Int) (es:List (List D)),I0 [] [dI i,No es]→bB (decide (i<(W2 l0.length))) (I1 [dI i] [dI (0:Int),dI (-1:Int)]∧∀(i_1 i_2:Int),I1 [dI i] [dI i_1,dI i_2]→bB (decide (i_1<(W2 es.length))) ((0≤i_1∧i_1<(W2 es.length))∧∃x,cU es i_1 0 66 (ck x [])∧rO l0 i 66∧∃x1,cU l0 i 0 66 (ck x1 [])∧∃b,Gv 58 [aC x,aC x1] [aB b]∧br b (I1 [dI i] [dI (U3 .i64 (i_1+1)),dI i_1]∧M1 [dI (U3 .i64 (i_1+1)),dI i_1]<M1 [dI i_1,dI i_2]) (I1 [dI i] [dI (U3 .i64 (i_1+1)),dI i_2]∧M1 [dI (U3 .i64 (i_1+1)),dI i_2]<M1 [dI i_1,dI i_2])) (bB (decide (i_2<0)) (rO l0 i 66∧∃x,cU l0 i 0 66 (ck x [])∧(room (es.length+1)∧lens 66 [(ck x [])])∧I0 [] [dI (U3 .i64 (i+1)),No (es++[(ck x [])])]∧M0 [dI (U3 .i64 (i+1)),No (es++[(ck x [])])]<M0 [dI i,No es]) ((0≤i_2∧i_2≤(W2 es.length))∧(0≤U3 .i64 (i_2+1)∧U3 .i64 (i_2+1)≤(W2 es.length)∧(W2 es.length)≤(W2 es.length))∧(room (bm (be (W0 i_2) es)+bm (be (W0 (W2 es.length)-W0 (U3 .i64 (i_2+1))) (bw (W0 (U3 .i64 (i_2+1))) es)))∧lens 66 (be (W0 (W2 es.length)-W0 (U3 .i64 (i_2+1))) (bw (W0 (U3 .i64 (i_2+1))) es)))∧I0 [] [dI (U3 .i64 (i+1)),No (be (W0 i_2) es++be (W0 (W2 es.length)-W0 (U3 .i64 (i_2+1))) (bw (W0 (U3 .i64 (i_2+1))) es))]∧M0 [dI (U3 .i64 (i+1)),No (be (W0 i_2) es++be (W0 (W2 es.length)-W0 (U3 .i64 (i_2+1))) (bw (W0 (U3 .i64 (i_2+1))) es))]<M0 [dI i,No es]))) (Q [aL es])):=by kernel_rfl
end Eng
end
section
open Go Go.Proofs Eng
namespace Eng
theorem U7 (Gv:Nat→List A→List A→Prop) (I0:List D→List D→Prop) (M0:List D→Nat) (I1:List D→List D→Prop) (M1:List D→Nat) (l0:List (List D)) (Q:List A→Prop):wpF CC Gv (G7 ⟨[.slot 4 (.int .i64 0),.own 3 50 66],[],I0,M0⟩ ⟨[.slot 5 (.int .i64 0),.own 3 9 66],[.slot 4 (.int .i64 0)],I1,M1⟩) Tryz.f75 [.c (.sl l0)] Q=((room (0+l0.length)∧lens 66 l0)∧I0 [] [dI (0:Int),No l0]∧∀(i:Int) (es:List (List D)),I0 [] [dI i,No es]→bB (decide (i<(W2 es.length))) (I1 [dI i] [dI i,No es]∧∀(i_1:Int) (e1:List (List D)),I1 [dI i] [dI i_1,No e1]→bB (decide (i_1>0)) ((0≤i_1∧i_1<(W2 e1.length))∧∃x,cU e1 i_1 0 66 (ck x [])∧(0≤U3 .i64 (i_1-1)∧U3 .i64 (i_1-1)<(W2 e1.length))∧∃x1,cut (nth [] e1 (W0 (U3 .i64 (i_1-1)))) 0 66 (ck x1 [])∧∃i_2,Gv 136 [aC x,aC x1] [aI i_2]∧bB (decide (i_2<0)) ((0≤U3 .i64 (i_1-1)∧U3 .i64 (i_1-1)<(W2 e1.length))∧∃x,cut (nth [] e1 (W0 (U3 .i64 (i_1-1)))) 0 66 (ck x [])∧(0≤i_1∧i_1<(W2 e1.length))∧∃x2,cU e1 i_1 0 66 (ck x2 [])∧(0≤i_1∧i_1<(W2 e1.length))∧66≤66∧(0≤U3 .i64 (i_1-1)∧U3 .i64 (i_1-1)<(W2 (bm (upd e1 (W0 i_1) (vX (nth [] e1 (W0 i_1)) 0 (ck x []))))))∧66≤66∧I1 [dI i] [dI (U3 .i64 (i_1-1)),No (upd (upd e1 (W0 i_1) (vX (nth [] e1 (W0 i_1)) 0 (ck x []))) (W0 (U3 .i64 (i_1-1))) (vX (nth [] (upd e1 (W0 i_1) (vX (nth [] e1 (W0 i_1)) 0 (ck x []))) (W0 (U3 .i64 (i_1-1)))) 0 (ck x2 [])))]∧M1 [dI (U3 .i64 (i_1-1)),No (upd (upd e1 (W0 i_1) (vX (nth [] e1 (W0 i_1)) 0 (ck x []))) (W0 (U3 .i64 (i_1-1))) (vX (nth [] (upd e1 (W0 i_1) (vX (nth [] e1 (W0 i_1)) 0 (ck x []))) (W0 (U3 .i64 (i_1-1)))) 0 (ck x2 [])))]<M1 [dI i_1,No e1]) (I0 [] [dI (U3 .i64 (i+1)),No e1]∧M0 [dI (U3 .i64 (i+1)),No e1]<M0 [dI i,No es])) (I0 [] [dI (U3 .i64 (i+1)),No e1]∧M0 [dI (U3 .i64 (i+1)),No e1]<M0 [dI i,No es])) (Q [aL es])):=by kernel_rfl
end Eng
end
section
namespace Eng
open Go Go.Proofs Rl
set_option maxRecDepth 100000
theorem Gh (f:Nat→Bool):∀n, -1≤kJ f n∧kJ f n<(n:Int)
 |0=>by simp[kJ]
 |n+1=>by have:=Gh f n;unfold kJ;split<;>omega
theorem wY (f:Nat→Bool) (n:Nat):kJ f (n+1)=if f n=true then(n:Int)else kJ f n:=rfl
theorem V8 {f:Nat→Bool}:∀{n:Nat},0≤kJ f n→f (kJ f n).toNat=true
 |0,h=>by simp[kJ]at h
 |n+1,h=>by
  rw[wY]at h ⊢;split
  ·rename_i h1;simpa using h1
  ·rename_i h1;rw[if_neg h1]at h;exact V8 h
theorem LQ {out:List Cu} {c x:Cu} (h:x∈w6 out c):x∈out∨x=c:=by
 unfold w6 at h;split at h
 ·rcases ea.1 h with h|h
  ·exact .inl h
  ·exact .inr (bx.1 h)
 ·exact .inl (List.mem_of_mem_eraseIdx h)
theorem LR (out:List Cu) (c:Cu):(w6 out c).length≤out.length+1:=by
 unfold w6;split
 ·simp
 ·have:=List.length_eraseIdx_le out (kJ (DM out c) out.length).toNat;omega
noncomputable def odO (l:List Cu) (k:Nat):List Cu:=(l.take k).foldl w6 []
theorem Gi (l:List Cu):odO l 0=[]:=by simp[odO]
theorem Gj {l:List Cu} {k:Nat} (h:k<l.length):odO l (k+1)=w6 (odO l k) l[k]:=by
 unfold odO;rw[bv h,en];rfl
theorem LS (l:List Cu):odO l l.length=Ir l:=by unfold odO Ir;rw[cH]
theorem LU (l:List Cu):∀k,k≤l.length→(odO l k).length≤k
 |0,_=>by rw[Gi];simp
 |k+1,h=>by rw[Gj (by omega)];have h1:=LU l k (by omega);have h2:=LR (odO l k) l[k];omega
theorem LV (l:List Cu):∀k,k≤l.length→∀x∈odO l k,x∈l
 |0,_,x,hx=>by rw[Gi]at hx;simp at hx
 |k+1,h,x,hx=>by
  rw[Gj (by omega)]at hx;rcases LQ hx with hx|hx
  ·exact LV l k (by omega) x hx
  ·rw[hx];exact bs _
theorem Oi {l:List Cu} {x:Cu} (h:x∈Ir l):x∈l:=by rw[←LS]at h;exact LV l _ (gz _) x h
theorem FX (l:List Cu):(Ir l).length≤l.length:=by rw[←LS];exact LU l _ (gz _)
def odI0 (l:List Cu) (_ ds:List D):Prop:=∃k:Nat,k≤l.length∧ds=[dI (k:Int),.sl (kUs (odO l k))]
def odI1 (l:List Cu) (gs ds:List D):Prop:=∃j:Nat,j≤(odO l (gK gs)).length∧∃z,ds=[dI (j:Int),dI z]∧∀c,l[gK gs]? =some c→z=kJ (DM (odO l (gK gs)) c) j
theorem Cg {l:List Cu} (hl:∀c∈l,Gd c) (hn:l.length≤6000000):qc CC 77 [aL (kUs l)] [aL (kUs (Ir l))]:=by
 have hv:=Cf (qc CC) (odI0 l) (zo 10000000) (odI1 l) (zo 10000000) (kUs l) (· =[aL (kUs (Ir l))]);refine gOk Tryz.func77 hv ?_;clear hv;refine⟨⟨0,gr _,by rw[Gi];rfl⟩,?_⟩;rintro _ _ ⟨k,hk,he⟩;simp only[gm,Ts,T1,and_true,true_and]at he;obtain⟨rfl,rfl⟩:=he;have hlen:=LU l k hk;have hgd:∀x∈odO l k,Gd x:=fun x hx=>hl x (LV l k hk x hx)
 refine brd (fun h=>?_) (fun h=>?_)
 ·have a3:k<l.length:=by rw[qt]at h;simp only[W1]at h;omega
  have a6:l[k]? =some l[k]:=bh a3;have hx:=hl _ (bs a3);have next:∀a7,w6 (odO l k) l[k]=a7→odI0 l [] [dI (U3 .i64 ((k:Int)+1)),.sl (kUs a7)]:=by intro a7 ho;refine⟨k+1,a3,?_⟩;rw[wI,Gj a3,ho];rfl
  refine⟨⟨0,gr _, -1,rfl,fun c _=>rfl⟩,?_⟩;rintro _ z ⟨j,hj,z',he,hz⟩;simp only[gm,Ts,and_true,true_and]at he;obtain⟨rfl,rfl⟩:=he;have hz:=hz _ a6;have hj:j≤(odO l k).length:=hj;have hz:z=kJ (DM (odO l k) l[k]) j:=hz;refine brd (fun h1=>?_) (fun h1=>?_)
  ·have a4:j<(odO l k).length:=by rw[qt]at h1;simp only[W1]at h1;omega
   have a8:DM (odO l k) l[k] j=eqC (odO l k)[j] l[k]:=by unfold DM;rw[bh a4]
   refine⟨jo a4,_,xa a4,xf a3,_,xa a3,_,KS (hgd _ (bs a4)).1 hx.1,?_⟩;refine zH (fun h2=>?_) (fun h2=>?_)
   ·refine⟨⟨j+1,a4,_,by rw[wI];rfl,fun c hc=>?_⟩,qy⟩;have hc:l[k]? =some c:=hc;rw[a6]at hc;obtain rfl:=g7 hc;show(j:Int)=kJ (DM (odO l k) l[k]) (j+1);rw[wY,a8,if_pos h2]
   ·refine⟨⟨j+1,a4,_,by rw[wI];rfl,fun c hc=>?_⟩,qy⟩;have hc:l[k]? =some c:=hc;rw[a6]at hc;obtain rfl:=g7 hc;show z=kJ (DM (odO l k) l[k]) (j+1);rw[wY,a8,if_neg (by rw[h2];simp),hz]
  ·have a4:j=(odO l k).length:=by rw[qt]at h1;simp only[W1]at h1;omega
   rw[a4]at hz;have hb:=Gh (DM (odO l k) l[k]) (odO l k).length;rw[←hz]at hb;refine brd (fun h2=>?_) (fun h2=>?_)
   ·refine⟨xf a3,_,xa a3,⟨by unfold Hv;rw[qt];omega,fun e he=>by rw[bx.1 he];rfl⟩,?_⟩;have e1:kUs (odO l k)++[ck (kU l[k]) []]=kUs (odO l k++[l[k]]):=by rw[wA];rfl
    rw[e1];exact⟨next _ (by unfold w6;rw[←hz,if_pos h2]),qy⟩
   ·obtain⟨n,rfl⟩:∃n:Nat,z=(n:Int):=⟨z.toNat,by omega⟩;have hnl:n<(odO l k).length:=by omega
    have w1:U3 .i64 ((n:Int)+1)=((n+1:Nat):Int):=by rw[wI];rfl
    have e1:be (W0 (n:Int)) (kUs (odO l k))++be (W0 (W2 (bm (kUs (odO l k))))-W0 (((n+1:Nat):Int))) (bw (W0 (((n+1:Nat):Int))) (kUs (odO l k)))=kUs ((odO l k).eraseIdx n):=by
     have e2:be (W0 (W2 (bm (kUs (odO l k))))-W0 (((n+1:Nat):Int))) (bw (W0 (((n+1:Nat):Int))) (kUs (odO l k)))=kUs ((odO l k).drop (n+1)):=by rw[ba,NV,cv (by rw[qt,qt,cp];simp only[W1,ba];omega)]
     rw[e2,ba,NU,←wA,List.eraseIdx_eq_take_drop_succ]
    have hle:(0:Int)≤(n:Int)∧(n:Int)≤W2 (bm (kUs (odO l k))):=by rw[qt];simp only[W1];omega
    have a5:(0:Int)≤((n+1:Nat):Int)∧((n+1:Nat):Int)≤W2 (bm (kUs (odO l k))):=by rw[qt];simp only[W1];omega
    rw[w1,e1];refine⟨hle,⟨a5.1,a5.2,bb _⟩,⟨?_,KW (KX (vL _))⟩,next _ (by unfold w6;rw[←hz,if_neg h2,ba]),qy⟩;unfold Hv;simp only[cb,cp,qt,ba,W1];omega
 ·have a3:k=l.length:=by rw[qt]at h;simp only[W1]at h;omega
  rw[a3,LS]
end Eng
end
section
namespace Eng
open Go Go.Proofs Rl
set_option maxRecDepth 100000
theorem U8:∀(ds pre cs:List D),cs.length=ds.length→vX (pre++cs) pre.length ds=pre++ds
 |[],pre,cs,h=>by have:cs=[]:=List.eq_nil_of_length_eq_zero h;subst this;rfl
 |d::ds,pre,[],h=>by simp at h
 |d::ds,pre,c::cs,h=>by
  have e:upd (pre++c::cs) pre.length d=(pre++[d])++cs:=by rw[xr,ez _ _ (gz _),g0];simp
  have:=U8 ds (pre++[d]) cs (by simpa using h);rw[cg]at this;rw[vX,e];simp only[ca,dl,Nat.zero_add]at this;rw[this];simp
theorem Ch (a b:C66):vX (ck a []) 0 (ck b [])=ck b []:=U8 (ck b []) [] (ck a []) rfl
theorem Cj {l:List Cu} {i:Nat} (h:i<l.length) (c:Cu):upd (kUs l) i (vX (nth [] (kUs l) i) 0 (ck (kU c) []))=kUs (l.set i c):=by
 rw[y9 h,Ch,xr];unfold kUs;rw[List.map_set]
theorem Oj (c:Cu):∀v:List Cu,(Tl c v).length=v.length+1
 |[]=>rfl
 |q::r=>by
  unfold Tl;split
  ·simp only[ca,Oj c r]
  ·rfl
theorem Ok {c x:Cu}:∀{v:List Cu},x∈Tl c v→x∈v∨x=c
 |[],h=>by simp[Tl]at h;exact .inr h
 |q::r,h=>by
  unfold Tl at h;split at h
  ·rcases cr.1 h with h|h
   ·exact .inl (by simp[h])
   ·rcases Ok h with h|h
    ·exact .inl (by simp[h])
    ·exact .inr h
  ·rcases cr.1 h with h|h
   ·exact .inr h
   ·exact .inl h
noncomputable def srP (l:List Cu) (k:Nat):List Cu:=(HS (l.take k)).reverse
theorem Zw {l:List Cu} {k:Nat} (h:k<l.length):HS (l.take (k+1))=Tl l[k] (HS (l.take k)):=by
 unfold HS;rw[bv h,en];rfl
theorem jp (l:List Cu):∀k,k≤l.length→(srP l k).length=k
 |0,_=>by simp[srP,HS]
 |k+1,h=>by have:=jp l k (by omega);unfold srP at *;rw[List.length_reverse]at *;rw[Zw (by omega),Oj,this]
theorem LW (l:List Cu):∀k,k≤l.length→∀x∈srP l k,x∈l
 |0,_,x,hx=>by simp[srP,HS]at hx
 |k+1,h,x,hx=>by
  have ih:=LW l k (by omega);unfold srP at *;rw[ft,Zw (by omega)]at hx;rcases Ok hx with hx|hx
  ·exact ih x (ft.2 hx)
  ·rw[hx];exact bs _
theorem Ck (l:List Cu):srP l l.length=Zm l:=by unfold srP Zm;rw[cH]
theorem LX {l:List Cu} {x:Cu} (h:x∈Zm l):x∈l:=by rw[←Ck]at h;exact LW l _ (gz _) x h
noncomputable def srE (l:List Cu) (c:Cu) (k j:Nat):List Cu:=(srP l k).take j++c::((srP l k).drop j++l.drop (k+1))
def srQ (l:List Cu) (c:Cu) (k j:Nat):Prop:=j≤k∧Tl c (srP l k).reverse=((srP l k).drop j).reverse++Tl c ((srP l k).take j).reverse
theorem Cl {l:List Cu} {k:Nat} (h:k<l.length):srE l l[k] k k=srP l k++l.drop k:=by
 unfold srE;rw[cv (by rw[jp l k (by omega)];omega),dc (by rw[jp l k (by omega)];omega),fg,←b9 h]
theorem LY {l:List Cu} {c:Cu} {k j:Nat} (h:k<l.length) (hj:j≤k):(srE l c k j).length=l.length:=by
 unfold srE;have:=jp l k (by omega);simp only[cg,cb,ca,cp,this];omega
theorem lN {l:List Cu} {c:Cu} {k j:Nat} (h:k<l.length) (hj:j≤k):(srE l c k j)[j]'(by rw[LY h hj];omega)=c:=by
 unfold srE;have:=jp l k (by omega);rw[List.getElem_append_right (by rw[cb];omega)];simp only[cb,this,Nat.min_eq_left hj,g0,List.getElem_cons_zero]
theorem Cm {l:List Cu} {c:Cu} {k j:Nat} (h:k<l.length) (hj:j+1≤k):(srE l c k (j+1))[j]'(by rw[LY h hj];omega)=(srP l k)[j]'(by rw[jp l k (by omega)];omega):=by
 unfold srE;have:=jp l k (by omega);rw[List.getElem_append_left (by rw[cb];omega),List.getElem_take]
theorem FY {l:List Cu} {c:Cu} {k j:Nat} (h:k<l.length) (hj:j+1≤k):((srE l c k (j+1)).set (j+1) ((srP l k)[j]'(by rw[jp l k (by omega)];omega))).set j c=srE l c k j:=by
 have hl:=jp l k (by omega);unfold srE;have a3:j<(srP l k).length:=by omega
 have e1:(srP l k).take (j+1)=(srP l k).take j++[(srP l k)[j]]:=bv a3;have e2:(srP l k).drop j=(srP l k)[j]::(srP l k).drop (j+1):=b9 a3;have lt:((srP l k).take j).length=j:=by rw[cb];omega
 rw[e1,e2,ed];rw[ez _ _ (by omega),lt,show j+1-j=1 by omega];rw[ez _ _ (by omega),lt,g0];rfl
theorem Cn (l:List Cu) (c:Cu) {k:Nat} (h:k≤l.length):srQ l c k k:=by
 refine⟨gz _,?_⟩;rw[dc (by rw[jp l k h];omega),cv (by rw[jp l k h];omega)];rfl
theorem FZ {l:List Cu} {c:Cu} {k j:Nat} (h:k≤l.length) (hq:srQ l c k (j+1)) (hc:Fk c ((srP l k)[j]'(by rw[jp l k h];have:=hq.1;omega))<0):srQ l c k j:=by
 have hj:=hq.1;have a3:j<(srP l k).length:=by rw[jp l k h];omega
 refine⟨by omega,?_⟩;rw[hq.2,bv a3,fs,b9 a3];show _++Tl c ((srP l k)[j]::((srP l k).take j).reverse)=_;rw[Tl,if_pos hc,List.reverse_cons,ed];rfl
theorem Co {l:List Cu} {k j:Nat} (h:k<l.length) (hq:srQ l l[k] k j) (hc:j=0∨∃i,∃hi:i<(srP l k).length,j=i+1∧¬Fk l[k] (srP l k)[i]<0):srE l l[k] k j=srP l (k+1)++l.drop (k+1):=by
 have e:Tl l[k] ((srP l k).take j).reverse=l[k]::((srP l k).take j).reverse:=by
  rcases hc with rfl|⟨i,hi,rfl,hn⟩
  ·rfl
  ·rw[bv hi,fs];show Tl l[k] ((srP l k)[i]::_)=_;rw[Tl,if_neg hn];rfl
 have e2:srP l (k+1)=(srP l k).take j++l[k]::(srP l k).drop j:=by
  have h1:srP l (k+1)=(Tl l[k] (srP l k).reverse).reverse:=by unfold srP;rw[List.reverse_reverse,Zw h]
  rw[h1,hq.2,e];simp
 rw[e2];unfold srE;simp
def srI0 (l:List Cu) (_ ds:List D):Prop:=∃k:Nat,k≤l.length∧ds=[dI (k:Int),.sl (kUs (srP l k++l.drop k))]
def srI1 (l:List Cu) (gs ds:List D):Prop:=∃j:Nat,∃E,ds=[dI (j:Int),.sl (kUs E)]∧∀c,l[gK gs]? =some c→srQ l c (gK gs) j∧E=srE l c (gK gs) j
def upto (ds:List D):Nat:=(toI (nth .undef ds 0)).toNat
theorem Cp (z:Int) (t:List D):upto (dI z::t)=z.toNat:=rfl
theorem U9 {l:List Cu} (hl:∀c∈l,Gd c) (hn:l.length≤6000000):qc CC 75 [aL (kUs l)] [aL (kUs (Zm l))]:=by
 have hv:=U7 (qc CC) (srI0 l) (zo 10000000) (srI1 l) upto (kUs l) (· =[aL (kUs (Zm l))]);refine gOk Tryz.func75 hv ?_;clear hv;refine⟨⟨by unfold Hv;rw[qt];omega,vL _⟩,⟨0,gr _,by simp[srP,HS]⟩,?_⟩;rintro _ _ ⟨k,hk,he⟩;simp only[gm,Ts,T1,and_true,true_and]at he;obtain⟨rfl,rfl⟩:=he;have hpl:=jp l k hk;have a6:(srP l k++l.drop k).length=l.length:=by rw[cg,cp,hpl];omega
 refine brd (fun h=>?_) (fun h=>?_)
 ·have a3:k<l.length:=by rw[qt,a6]at h;simp only[W1]at h;omega
  have a5:l[k]? =some l[k]:=bh a3;have hx:=hl _ (bs a3);have next:srI0 l [] [dI (U3 .i64 ((k:Int)+1)),.sl (kUs (srP l (k+1)++l.drop (k+1)))]:=⟨k+1,a3,by rw[wI];rfl⟩
  refine⟨⟨k,_,rfl,fun c hc=>?_⟩,?_⟩
  ·have hc:l[k]? =some c:=hc;rw[a5]at hc;obtain rfl:=g7 hc;exact⟨Cn l _ hk,(Cl a3).symm⟩
  rintro _ _ ⟨j,E,he,hE⟩;simp only[gm,Ts,T1,and_true,true_and]at he;obtain⟨rfl,rfl⟩:=he;have hE:srQ l l[k] k j∧E=srE l l[k] k j:=hE _ a5;obtain⟨hq,rfl⟩:=hE;have a4:=hq.1;have hlen:=LY (c:=l[k]) a3 a4;refine brd (fun h1=>?_) (fun h1=>?_)
  ·obtain⟨i,rfl⟩:∃i,j=i+1:=⟨j-1,by omega⟩;have w1:U3 .i64 (((i+1:Nat):Int)-1)=(i:Int):=by rw[wI];omega
   have h2:i+1<(srE l l[k] k (i+1)).length:=by omega
   have h3:i<(srE l l[k] k (i+1)).length:=by omega
   have a7:i<(srP l k).length:=by omega
   have c2:=xa h2;have c3:=xa h3;rw[lN a3 a4]at c2;rw[Cm a3 a4]at c3;have hP:=hl _ (LW l k hk _ (bs a7));rw[w1];refine⟨jo h2,_,c2,jo h3,_,c3,_,X8 hx hP,?_⟩;refine brd (fun h4=>?_) (fun h4=>?_)
   ·have u1:upd (kUs (srE l l[k] k (i+1))) (W0 ((i+1:Nat):Int)) (vX (nth [] (kUs (srE l l[k] k (i+1))) (W0 ((i+1:Nat):Int))) 0 (ck (kU (srP l k)[i]) []))=kUs ((srE l l[k] k (i+1)).set (i+1) (srP l k)[i]):=Cj h2 _;have u2:upd (kUs ((srE l l[k] k (i+1)).set (i+1) (srP l k)[i])) (W0 (i:Int)) (vX (nth [] (kUs ((srE l l[k] k (i+1)).set (i+1) (srP l k)[i])) (W0 (i:Int))) 0 (ck (kU l[k]) []))=kUs (srE l l[k] k i):=by rw[ba,Cj (by rw[fR];omega),FY a3 a4]
    refine⟨jo h3,_,c3,jo h2,_,c2,jo h2,gz _,?_,gz _,?_⟩
    ·rw[u1,qt,fR];simp only[W1];omega
    ·rw[u1,u2];refine⟨⟨i,_,rfl,fun c hc=>?_⟩,?_⟩
     ·have hc:l[k]? =some c:=hc;rw[a5]at hc;obtain rfl:=g7 hc;exact⟨FZ hk hq h4,rfl⟩
     ·rw[Cp,Cp];omega
   ·rw[Co a3 hq (.inr ⟨i,a7,rfl,h4⟩)];exact⟨next,qy⟩
  ·rw[Co a3 hq (.inl (by omega))];exact⟨next,qy⟩
 ·have a3:k=l.length:=by rw[qt,a6]at h;simp only[W1]at h;omega
  rw[a3,dc (gz _),eb,Ck]
end Eng
end
section
namespace Eng
open Go Go.Proofs Rl
set_option maxRecDepth 100000
theorem lO (x:C66):cut (ck x []) 26 20 (pk (Hy x) []):=⟨rfl,by show 26+20≤66;omega⟩
theorem lP (x:C66):cut (ck x []) 46 20 (pk (Hx x) []):=⟨rfl,by show 46+20≤66;omega⟩
theorem LZ {l:List Cu} {k:Nat} (h:k<l.length):cut (nth [] (kUs l) (W0 (k:Int))) 26 20 (pk (kP l[k].fr) []):=by
 rw[ba,y9 h,←jv];exact lO _
theorem QD {l:List Cu} {k:Nat} (h:k<l.length):cut (nth [] (kUs l) (W0 (k:Int))) 46 20 (pk (kP l[k].tt) []):=by
 rw[ba,y9 h,←kj];exact lP _
theorem Ma (l:List Cu) (p:P5):∀j,N5 l p j≤2*j
 |0=>by simp[N5]
 |j+1=>by
  have:=Ma l p j;unfold N5;split
  ·split<;>split<;>simp<;>omega
  ·omega
theorem UA {l:List Cu} (p:P5) {j:Nat} (h:j<l.length):N5 l p (j+1)=N5 l p j+((if wC l[j].fr p=true then 1 else 0)+(if wC l[j].tt p=true then 1 else 0)):=by
 show N5 l p j+_=_;rw[bh h]
theorem Ra {n:Nat} (h:n≤100000000):U3 .i64 ((n:Int)+1)=((n+1:Nat):Int):=by rw[wI];rfl
noncomputable def eY (l:List Cu) (c:Cu):Bool:=decide (wo l c.fr%2=1)||decide (wo l c.tt%2=1)
theorem Aa (l:List Cu):Bt l=l.any (eY l):=rfl
def Wf (c:Cu) (j:Nat):P5:=if j=0 then c.fr else c.tt
def opI0 (l:List Cu) (_ ds:List D):Prop:=∃k:Nat,k≤l.length∧ds=[dI (k:Int)]∧(l.take k).any (eY l)=false
def opI1 (l:List Cu) (gs ds:List D):Prop:=∃j:Nat,j≤2∧ds=[dI (j:Int)]∧∀c,l[gK gs]? =some c→∀i,i<j→¬wo l (Wf c i)%2=1
def gK2 (gs:List D):Nat:=(toI (nth .undef gs 1)).toNat
def opI2 (l:List Cu) (gs ds:List D):Prop:=∃m:Nat,m≤l.length∧∃n:Nat,ds=[dI (m:Int),dI (n:Int)]∧∀c,l[gK gs]? =some c→n=N5 l (Wf c (gK2 gs)) m
theorem Gk {α:Type} {f:α→Bool} {l:List α} {k:Nat} (h:(l.take k).any f=false) (hk:k<l.length) (hf:f l[k]=false):(l.take (k+1)).any f=false:=by
 rw[bv hk,List.any_append,h,F0];simp[hf]
theorem Rb {l:List Cu} (hl:∀c∈l,Gc c) (hn:l.length≤6000000):qc CC 74 [aL (kUs l)] [aB (Bt l)]:=by
 have hv:=PV (qc CC) (opI0 l) (zo 10000000) (opI1 l) (zo 10) (opI2 l) (zo 10000000) (kUs l) (· =[aB (Bt l)]);refine gOk Tryz.func74 hv ?_;clear hv;rw[Aa];refine⟨⟨0,gr _,rfl,rfl⟩,?_⟩;rintro _ ⟨k,hk,he,ad⟩;simp only[gm,Ts,and_true,true_and]at he;subst he;refine brd (fun h=>?_) (fun h=>?_)
 ·have a3:k<l.length:=by rw[qt]at h;simp only[W1]at h;omega
  have an:l[k]? =some l[k]:=bh a3;have hx:=hl _ (bs a3);refine⟨xf a3,_,LZ a3,xf a3,_,QD a3,⟨0,by omega,rfl,fun c _ i hi=>by omega⟩,?_⟩;have al:[pk (kP l[k].fr) [],pk (kP l[k].tt) []]=kPs [l[k].fr,l[k].tt]:=rfl;rw[al];rintro _ ⟨j,hj,he,a5⟩;simp only[gm,Ts,and_true,true_and]at he;subst he;have a5:∀i,i<j→¬wo l (Wf l[k] i)%2=1:=a5 _ an;refine brd (fun h1=>?_) (fun h1=>?_)
  ·have b2:j<[l[k].fr,l[k].tt].length:=by simp only[ca,dl];omega
   have b1:[l[k].fr,l[k].tt][j]=Wf l[k] j:=by
    have:j=0∨j=1:=by omega
    rcases this with rfl|rfl<;>rfl
   have a8:Gp (Wf l[k] j):=by
    unfold Wf;split
    ·exact hx.2.1
    ·exact hx.2.2
   have a6:=zj b2;rw[b1]at a6;have ap:(0:Int)≤(j:Int)∧(j:Int)<2:=by omega
   refine⟨⟨0,gr _,0,rfl,fun c _=>rfl⟩,?_⟩;rintro _ _ ⟨m,hm,n,he,ag⟩;simp only[gm,Ts,and_true,true_and]at he;obtain⟨rfl,rfl⟩:=he;have ag:n=N5 l (Wf l[k] j) m:=ag _ an;have hnb:=Ma l (Wf l[k] j) m;rw[←ag]at hnb;refine brd (fun h2=>?_) (fun h2=>?_)
   ·have a4:m<l.length:=by rw[qt]at h2;simp only[W1]at h2;omega
    have b3:=hl _ (bs a4);have cs:=UA (Wf l[k] j) a4;rw[←ag]at cs;have nx:∀z:Nat,z=N5 l (Wf l[k] j) (m+1)→opI2 l [dI (k:Int),dI (j:Int)] [dI (U3 .i64 ((m:Int)+1)),dI (z:Int)]:=by intro z hz;refine⟨m+1,a4,z,by rw[wI];rfl,fun c hc=>?_⟩;have hc:l[k]? =some c:=hc;rw[an]at hc;obtain rfl:=g7 hc;exact hz
    refine⟨xf a4,_,LZ a4,ap,_,a6,_,wW b3.2.1 a8,?_⟩;refine zH (fun h3=>?_) (fun h3=>?_)
    ·refine⟨xf a4,_,QD a4,ap,_,a6,_,wW b3.2.2 a8,?_⟩;rw[Ra (show n≤100000000 by omega),Ra (show n+1≤100000000 by omega)];refine zH (fun h4=>?_) (fun h4=>?_)
     ·exact⟨nx _ (by rw[cs,if_pos h3,if_pos h4]),qy⟩
     ·exact⟨nx _ (by rw[cs,if_pos h3,if_neg (by rw[h4];simp)]),qy⟩
    ·refine⟨xf a4,_,QD a4,ap,_,a6,_,wW b3.2.2 a8,?_⟩;rw[Ra (show n≤100000000 by omega)];refine zH (fun h4=>?_) (fun h4=>?_)
     ·exact⟨nx _ (by rw[cs,if_neg (by rw[h3];simp),if_pos h4]),qy⟩
     ·exact⟨nx _ (by rw[cs,if_neg (by rw[h3];simp),if_neg (by rw[h4];simp)];omega),qy⟩
   ·have a4:m=l.length:=by rw[qt]at h2;simp only[W1]at h2;omega
    have a7:n=wo l (Wf l[k] j):=by rw[ag,a4];rfl
    refine⟨by omega,?_⟩;have tm:bc (n:Int) 2=((n%2:Nat):Int):=rfl;rw[tm];refine brb (fun h3=>?_) (fun h3=>?_)
    ·have h4:n%2=1:=by simp only[beq_iff_eq]at h3;omega
     have:l.any (eY l)=true:=by
      rw[List.any_eq_true];refine⟨l[k],bs a3,?_⟩;unfold eY;rw[a7]at h4;have:j=0∨j=1:=by omega
      rcases this with rfl|rfl
      ·rw[decide_eq_true (show wo l l[k].fr%2=1 from h4)];rfl
      ·rw[decide_eq_true (show wo l l[k].tt%2=1 from h4),Bool.or_true]
     rw[this]
    ·have h4:¬n%2=1:=by simp only[beq_eq_false_iff_ne,ne_eq]at h3;omega
     refine⟨⟨j+1,by omega,by rw[wI];rfl,fun c hc i hi=>?_⟩,qy⟩;have hc:l[k]? =some c:=hc;rw[an]at hc;obtain rfl:=g7 hc;by_cases hij:i=j
     ·rw[hij,←a7];exact h4
     ·exact a5 i (by omega)
  ·have b2:j=2:=by omega
   subst b2;have o1:=a5 0 (by omega);have o2:=a5 1 (by omega);have hf:eY l l[k]=false:=by unfold eY;rw[decide_eq_false (show ¬wo l l[k].fr%2=1 from o1),decide_eq_false (show ¬wo l l[k].tt%2=1 from o2)];rfl
   exact⟨⟨k+1,a3,by rw[wI];rfl,Gk ad a3 hf⟩,qy⟩
 ·have a3:k=l.length:=by rw[qt]at h;simp only[W1]at h;omega
  rw[a3,cH]at ad;rw[ad]
end Eng
end
section
open Go Go.Proofs Eng
namespace Eng
theorem Cq (Gv:Nat→List A→List A→Prop) (I0:List D→List D→Prop) (M0:List D→Nat) (z0:Bool) (l0:List (List D)) (Q:List A→Prop):wpF CC Gv (fun _=>⟨[.slot 3 (.int .i64 0)],[],I0,M0⟩) Tryz.f131 [.ag [.bool z0,.sl l0]] Q=(I0 [] [dI (0:Int)]∧∀(i:Int),I0 [] [dI i]→bB (decide (i<(W2 l0.length))) ((0≤i∧i<(W2 l0.length)∧bm (nth [] l0 (W0 i))=1)∧∃i_1,cut (nth [] l0 (W0 i)) 0 1 [P1 .u32 i_1]∧bB (decide (i_1≥1000000000)) (Q [aB false]) (I0 [] [dI (U3 .i64 (i+1))]∧M0 [dI (U3 .i64 (i+1))]<M0 [dI i])) (∃es,Gv 142 [aL l0] [aL es]∧bB ((W2 es.length)==(W2 l0.length)) (bB (!z0) (Q [aB true]) (Q [aB (decide ((W2 l0.length)>0))])) (Q [aB false]))):=by kernel_rfl
end Eng
end
section
namespace Eng
open Go Go.Proofs Rl
set_option maxRecDepth 100000
theorem Ab {l:List Nat} {k:Nat} (h:k<l.length):nth [] (raw l) k=[P1 .u32 (l[k]:Int)]:=by
 rw[qI];unfold raw;simp[h]
theorem UB {z:Int} (hz:Sm z):qc CC 131 [qS z] [aB true]:=by
 have a4:=qh z.natAbs;have hv:=Cq (qc CC) (fun _ ds=>∃k:Nat,k≤(lim z.natAbs).length∧ds=[dI (k:Int)]) (zo 10000000) (decide (z<0)) (raw (lim z.natAbs)) (· =[aB true]);rw[xJ];refine gOk Tryz.func131 hv ?_;clear hv;have hlen:=hz.len;rw[YT];refine⟨⟨0,gr _,rfl⟩,?_⟩;rintro _ ⟨k,hk,he⟩;simp only[gm,Ts,and_true,true_and]at he;subst he;refine brd (fun h=>?_) (fun h=>?_)
 ·have a3:k<(lim z.natAbs).length:=by simp only[W1]at h;omega
  have h9:=a4.get a3;rw[ba,Ab a3];refine⟨⟨by omega,by simp only[W1];omega,rfl⟩,_,⟨rfl,by simp⟩,brd (fun h2=>?_) (fun h2=>?_)⟩
  ·omega
  ·exact⟨⟨k+1,a3,by rw[wI];rfl⟩,qy⟩
 ·have ht:=kg a4 (by omega);rw[qj]at ht;refine⟨_,ht,?_⟩;rw[YT];refine brb (fun _=>?_) (fun h2=>by simp at h2);refine brb (fun _=>rfl) (fun h3=>?_);have hn:z<0:=by simpa using h3
  have:0<(lim z.natAbs).length:=qK.2 (by omega);rw[decide_eq_true (by simp only[W1];omega)]
theorem z9 {x:Rat} {k:Nat} (hx:Hz k x) (hk:k<360000:=by omega):qc CC 71 [aR (q4 x)] [aB true]:=by
 refine wpG Tryz.func71 ((Ui ..).mpr ?_);have hs:=hx.sr hk;have h1:=UB hs.1.sm;have h2:=UB hs.2.sm;have h3:=Xs (x.den:Int);have h4:=TX jF hs.1.sm hs.2.sm;have h5:=YA;have hg:Nat.gcd x.num.natAbs (x.den:Int).natAbs=1:=by rw[Int.natAbs_natCast];exact x.reduced
 have h6:=NL (x:=1) (y:=1) (jn (n:=1) (g3 (by omega) (by omega))) (jn (n:=1) (g3 (by omega) (by omega)));have hd:=x.den_pos;have h7:sgn (x.den:Int)=1:=by unfold sgn;rw[if_neg (by omega),if_pos (by omega)]
 rw[hg]at h4;rw[h7]at h3;exact⟨_,h1,brb (fun h=>by cases h) (fun _=>⟨_,h2,brb (fun h=>by cases h) (fun _=>⟨_,h3,brb (fun h=>by cases h) (fun _=>⟨_,_,h4,_,_,h5,_,h6,rfl⟩)⟩)⟩)⟩
theorem V9 {p:P5} (hp:Gp p):qc CC 133 [aP (kP p)] [aB true]:=by
 refine wpG Tryz.func133 ((P9 ..).mpr ?_);obtain⟨⟨h1,h2,h3,h4,h5⟩,ho⟩:=hp;refine⟨_,z9 h1,brb (fun h=>by cases h) (fun _=>⟨_,z9 h3,brb (fun h=>by cases h) (fun _=>⟨_,z9 h2,brb (fun h=>by cases h) (fun _=>⟨_,z9 h4,brb (fun h=>by cases h) (fun _=>⟨_,z9 h5,brb (fun h=>by cases h) (fun _=>?_)⟩)⟩)⟩)⟩)⟩;have sq:(¬(p.u=0∧p.v=0))→∃x b,qc CC 198 [aR (P20.c (kP p))] [aR x,aB b]∧∃i,qc CC 72 [aR (P20.c (kP p))] [A.c (P1 V1 i)]∧
  br (toB (Pl (decide (i>(0:Int))))) ([A.c (Pl !b)]=[aB true]) ([aB false]=[aB true]):=by
  intro a3;rcases ho with⟨a,b,_⟩|⟨_,hc,hn⟩
  ·exact absurd ⟨a,b⟩ a3
  ·refine⟨_,_,Q9 h5 (Rat.le_of_lt hc) hn,_,zM _,?_⟩;exact brd (fun _=>rfl) (fun h=>absurd (N7.2 hc) h)
 refine⟨_,zM _,?_⟩;rw[X0];refine brd (fun hu=>⟨_,zM _,?_⟩) (fun hu=>sq (fun k=>hu k.1));rw[X0];refine brd (fun hv=>⟨_,zM _,?_⟩) (fun hv=>sq (fun k=>hv k.2));rw[X0];have:p.c=0:=by
  rcases ho with⟨_,_,c⟩|⟨a3,_⟩
  ·exact c
  ·exact absurd ⟨hu,hv⟩ a3
 rw[decide_eq_true this]
theorem Rc {l:Ln} (hl:HL l) (h:okLn l):qc CC 134 [.ag (kL l [])] [aB true]:=by
 refine wpG Tryz.func134 ((PD ..).mpr ?_);refine⟨_,z9 hl.1,zH (fun _=>⟨_,z9 hl.2.1,zH (fun _=>⟨_,z9 hl.2.2,zH (fun _=>⟨_,zM _,?_⟩) (fun h=>by cases h)⟩) (fun h=>by cases h)⟩) (fun h=>by cases h)⟩;rw[bne,X0];refine brb (fun _=>rfl) (fun h1=>⟨_,zM _,?_⟩);have ha:l.a=0:=by simpa using h1
 rw[bne,X0,decide_eq_false (fun hb=>h ⟨ha,hb⟩)];rfl
theorem ZU {c:Ci} (hc:HC c) (h:0<c.q):qc CC 40 [.ag (kC c [])] [aB true]:=by
 refine wpG Tryz.func40 ((Uc ..).mpr ?_);refine⟨_,z9 hc.1,zH (fun _=>⟨_,z9 hc.2.1,zH (fun _=>⟨_,z9 hc.2.2,zH (fun _=>⟨_,zM _,?_⟩) (fun h=>by cases h)⟩) (fun h=>by cases h)⟩) (fun h=>by cases h)⟩;rw[decide_eq_true (N7.2 h)]
theorem Mb {c:Cu} (hc:Gc c):qc CC 73 [aC (kU c)] [aB (WL c)]:=by
 refine wpG Tryz.func73 ((L4 ..).mpr ?_);have v1:=V9 hc.2.1;have v2:=V9 hc.2.2;have s1:=vI hc.1 hc.2.1;have s2:=vI hc.1 hc.2.2;have e1:=wW hc.2.1 hc.2.2;rw[←jv]at v1;rw[←kj]at v2;have a4:∀a7:Bool,a7=true→WL c=(a7&&(Zl c c.fr&&(Zl c c.tt&&!wC c.fr c.tt)))→∃b,qc CC 135 [aC (kU c),aP (Hy (kU c))] [aB b]∧
  br b (∃b,qc CC 135 [aC (kU c),aP (Hx (kU c))] [aB b]∧br b (∃b,qc CC 106 [aP (Hy (kU c)),aP (Hx (kU c))] [aB b]∧[A.c (Pl !b)]=[aB (WL c)]) ([aB false]=[aB (WL c)])) ([aB false]=[aB (WL c)]):=by
  intro a7 hp he;rw[jv,kj,he,hp,Aw];refine⟨_,s1,zH (fun h=>?_) (fun h=>?_)⟩
  ·rw[h,Aw];refine⟨_,s2,zH (fun h=>?_) (fun h=>?_)⟩
   ·rw[h,Aw];exact⟨_,e1,rfl⟩
   ·rw[h];rfl
  ·rw[h];rfl
 refine⟨_,v1,brb (fun h=>by cases h) (fun _=>⟨_,v2,brb (fun h=>by cases h) (fun _=>?_)⟩)⟩;rw[wt,WM];rcases hc.1.2 with⟨ha,hC,hq⟩|⟨ha,hL,a8⟩
 ·have t1:=a4 (decide (0<c.ci.q)) (decide_eq_true hq) (by unfold WL;rw[if_pos ha]);have a5:Lr (kU c)=q4 c.ci.x∧Lm (kU c)=q4 c.ci.y∧J4 (kU c)=q4 c.ci.q:=by unfold kU;rw[ha];exact⟨rfl,rfl,rfl⟩
  rw[ha,a5.1,a5.2.1,a5.2.2];refine brb (fun _=>⟨_,ZU hC hq,brb (fun h=>by cases h) (fun _=>brb (fun h=>by cases h) (fun _=>t1))⟩) (fun h=>by cases h)
 ·have a6:M3 (kU c)=q4 c.ln.a∧Lv (kU c)=q4 c.ln.b∧Ls (kU c)=q4 c.ln.c:=by unfold kU;rw[ha];exact⟨rfl,rfl,rfl⟩
  have a3:WL c=((!c.cw&&decide (¬(c.ln.a=0∧c.ln.b=0)))&&(Zl c c.fr&&(Zl c c.tt&&!wC c.fr c.tt))):=by unfold WL;rw[if_neg (by rw[ha];simp)]
  rw[ha,a6.1,a6.2.1,a6.2.2];refine brb (fun h=>by cases h) (fun _=>brb (fun _=>?_) (fun h=>by cases h));refine brb (fun h=>?_) (fun h=>?_)
  ·have h:c.cw=true:=h;rw[a3,h];rfl
  ·have h:c.cw=false:=h;have t1:=a4 (!c.cw&&decide (¬(c.ln.a=0∧c.ln.b=0))) (by rw[h,decide_eq_true (show ¬(c.ln.a=0∧c.ln.b=0)from a8)];rfl) a3;exact⟨_,Rc hL a8,brb (fun h=>by cases h) (fun _=>t1)⟩
end Eng
end
section
namespace Eng
open Rl
theorem yA {x y:Rl}:sg (x-y)<0↔x<y:=by
 rw[←N2];rcases zh (x-y)with⟨h,e⟩|⟨h,e⟩|⟨h,e⟩<;>rw[e]
 ·exact⟨fun k=>by omega,fun k=>absurd k (vG h)⟩
 ·exact⟨fun k=>by omega,fun k=>by rw[h]at k;exact absurd k (jY _)⟩
 ·exact⟨fun _=>h,fun _=>by omega⟩
theorem QE {x y:Rl}:0<sg (x-y)↔y<x:=by
 rw[←HM];rcases zh (x-y)with⟨h,e⟩|⟨h,e⟩|⟨h,e⟩<;>rw[e]
 ·exact⟨fun _=>h,fun _=>by omega⟩
 ·exact⟨fun k=>by omega,fun k=>by rw[h]at k;exact absurd k (jY _)⟩
 ·exact⟨fun k=>by omega,fun k=>absurd k (vG h)⟩
theorem Rd {x y:Rl}:sg (x-y)=0↔x=y:=by
 rw[xe];exact⟨jg,fun h=>by rw[h,sbs]⟩
theorem UC {x y:Rl} (h:x<y):sg (x-y)= -1:=by
 have:=yA.2 h;rcases zh (x-y)with⟨_,e⟩|⟨_,e⟩|⟨_,e⟩<;>omega
theorem VA {x y:Rl} (h:y<x):sg (x-y)=1:=by
 have:=QE.2 h;rcases zh (x-y)with⟨_,e⟩|⟨_,e⟩|⟨_,e⟩<;>omega
theorem Zx (x y:Rl):sg (y-x)= -sg (x-y):=by
 rcases Xv x y with h|h|h
 ·rw[UC h,VA h];rfl
 ·rw[h,sbs,zL];rfl
 ·rw[VA h,UC h]
theorem tP (z:Rl) {x y:Rl}:x-z<y-z↔x<y:=Io (-z)
theorem lQ {z x y:Rl} (h:x-z=y-z):x=y:=by
 have e:∀x:Rl,x=(x-z)+z:=fun x=>by obtain⟨x,rfl⟩:=x.rep;obtain⟨z,rfl⟩:=z.rep;exact xC fun n=>by simp only[xZ,z8];grind
 rw[e x,e y,h]
theorem lt_or_ge (x y:Rl):x<y∨y≤x:=by
 rcases Xv x y with h|h|h
 ·exact .inl h
 ·exact .inr (h▸zJ)
 ·exact .inr (le_of_lt h)
theorem lR (x y:Rl):y*y-x*x=(y-x)*(y+x):=by
 obtain⟨x,rfl⟩:=x.rep;obtain⟨y,rfl⟩:=y.rep;exact xC fun n=>by simp only[xZ,z8,jN];grind
theorem Ol {x y x' y':Rl} (h:x*x+y*y=x'*x'+y'*y') (hy:y=0) (hx:0<x):x'≤x:=by
 rw[←Rl.not_lt];intro a3;have h1:0<x'*x'-x*x:=by rw[lR];exact mul_pos (HM.2 a3) (Ld (lt_trans hx a3) hx)
 have h2:x'*x'-x*x= -(y'*y'):=by rw[hy,ml0,ad0]at h;rw[h];generalize x'*x'=a;generalize y'*y'=b;obtain⟨a,rfl⟩:=a.rep;obtain⟨b,rfl⟩:=b.rep;exact xC fun n=>by simp only[xZ,z8];grind
 rw[h2,xE]at h1;exact tC y' h1
theorem UD {x y y':Rl} (h:x*x+y*y=x*x+y'*y'):y*y=y'*y':=by
 generalize x*x=a at h;have e:∀b:Rl,b=(a+b)-a:=fun b=>by obtain⟨a,rfl⟩:=a.rep;obtain⟨b,rfl⟩:=b.rep;exact xC fun n=>by simp only[xZ,z8];grind
 rw[e (y*y),e (y'*y'),h]
theorem Gl {y:Rl} (h:y*y=0):y=0:=by rcases mul_eq_zero h with h|h<;>exact h
theorem de {y y':Rl} (h:y*y=y'*y') (hs:(0≤y∧0≤y')∨(y≤0∧y'≤0)):y=y':=by
 rcases hs with⟨h1,h2⟩|⟨h1,h2⟩
 ·exact N4 h1 h2 h
 ·have e:∀z:Rl, -z* -z=z*z:=fun z=>by rw[Pz,HN,WJ]
  have n1:0≤ -y:=by rw[←Rl.not_lt];intro k;exact h1 (jE.1 k)
  have n2:0≤ -y':=by rw[←Rl.not_lt];intro k;exact h2 (jE.1 k)
  have:=N4 n1 n2 (by rw[e,e,h]);rw[←WJ y,this,WJ]
noncomputable def cX (c:Ci) (p:P5):Rl:=px p-ofR c.x
noncomputable def cY (c:Ci) (p:P5):Rl:=py p-ofR c.y
def onC (c:Ci) (p:P5):Prop:=cX c p*cX c p+cY c p*cY c p=ofR c.q
theorem Wg {c:Ci} {p:P5}:sg (civ c p)=0↔onC c p:=by
 rw[xe];exact⟨jg,fun h=>by unfold civ;rw[show(px p-ofR c.x)*(px p-ofR c.x)+(py p-ofR c.y)*(py p-ofR c.y)=ofR c.q from h,sbs]⟩
theorem lS {c:Ci} {p q:P5}:cX c p<cX c q↔px p<px q:=tP _
theorem lT {c:Ci} {p q:P5} (h:cY c p=cY c q):py p=py q:=lQ h
theorem Zy {c:Ci} {p:P5}:upB c p=true↔0<cY c p∨(cY c p=0∧0<cX c p):=by
 unfold upB cY cX;rw[Bool.or_eq_true,Bx,decide_eq_true_eq,decide_eq_true_eq,beq_iff_eq,QE,QE,Rd,HM,HM];constructor
 ·rintro(h|⟨h1,h2⟩)
  ·exact .inl h
  ·exact .inr ⟨by rw[h1,sbs],h2⟩
 ·rintro(h|⟨h1,h2⟩)
  ·exact .inl h
  ·exact .inr ⟨jg h1,h2⟩
theorem UE {c:Ci} {p:P5} (h:upB c p=false):cY c p≤0∧(cY c p=0→cX c p≤0):=by
 have h1:¬(0<cY c p∨(cY c p=0∧0<cX c p)):=fun k=>by rw[Zy.2 k]at h;cases h
 exact⟨fun k=>h1 (.inl k),fun e k=>h1 (.inr ⟨e,k⟩)⟩
theorem Zz {c:Ci} {p:P5} (h:upB c p=true):0≤cY c p:=by
 rcases Zy.1 h with h|h
 ·exact le_of_lt h
 ·rw[h.1];exact zJ
theorem Gm {c:Ci} {p q:P5} (hp:onC c p) (hq:onC c q) (hx:px p=px q) (hs:(0≤cY c p∧0≤cY c q)∨(cY c p≤0∧cY c q≤0)):Zk p q:=by
 refine⟨hx,lT (de ?_ hs)⟩;have e:cX c p=cX c q:=by unfold cX;rw[hx]
 unfold onC at hp hq;rw[e]at hp;exact UD (hp.trans hq.symm)
theorem Z0 {c:Ci} {p q:P5} (hp:onC c p) (hq:onC c q) (h:qw c p q=0):Zk p q:=by
 unfold qw at h;split at h
 ·rename_i hu;have hx:px p=px q:=by
   split at h
   ·exact Rd.1 (by omega)
   ·exact Rd.1 h
  refine Gm hp hq hx ?_;cases hb:upB c p with
  |true=>rw[hb]at hu;exact .inl ⟨Zz hb,Zz hu.symm⟩
  |false=>rw[hb]at hu;exact .inr ⟨(UE hb).1,(UE hu.symm).1⟩
 ·split at h<;>omega
theorem VB (c:Ci) (p q:P5):qw c q p= -qw c p q:=by
 unfold qw;by_cases h:upB c p=upB c q
 ·rw[if_pos h,if_pos h.symm,←h,Zx];split<;>omega
 ·rw[if_neg h,if_neg (fun k=>h k.symm)];cases h1:upB c p<;>cases h2:upB c q<;>rw[h1,h2]at h<;>simp at h ⊢
theorem XE {c:Ci} {p q r:P5} (h1:qw c p q≤0) (h2:qw c q r<0):qw c p r<0:=by
 unfold qw at *;cases hp:upB c p<;>cases hq:upB c q<;>cases hr:upB c r<;>simp only[hp,hq,hr,Dd,Bool.true_eq_false,if_true,if_false]at h1 h2 ⊢
 ·rw[yA]at h2 ⊢;have h3:¬px q<px p:=fun k=>by have:=QE.2 k;omega
  exact lt_of_le_of_lt h3 h2
 all_goals first|omega|skip
 ·have h3:px r<px q:=QE.1 (by omega);have h4:¬px p<px q:=fun k=>by have:=yA.2 k;omega
  have:=QE.2 (lt_of_lt_of_le h3 h4);omega
end Eng
end
