/- Arcs in one half of their circle (plain). -/
import Derived.Test.YtfipmjpmflmbbaaGreatDPaD
import Derived.Test.YtfipmjpmflmbbaaGreatDPaA
import Derived.KernelRfl
import Derived.Lib.ItoaNum
open Bool renaming and_eq_true→Aw, eq_false_or_eq_true→Bx, true_and→Dd
open Eng.A renaming ag→F0, c→F2
open Eng.D renaming sl→Hu, int→Hv, bool→Hx, str→Hy
open Eng.D.int renaming injEq→J3
open Go.IntKind renaming wrap→J4
open Int renaming ofNat_eq_natCast→J7, ofNat→J8, toNat_natCast→J9, toNat→Lm, tmod→Lr, le_of_lt→Ls, lt_or_eq_of_le→Lv, ofNat_tmod→No, lt_or_le→Pl
open List renaming mem_singleton→P1, getElem_mem→Ts, getElem?_eq_getElem→T1, take_succ_eq_append_getElem→U0, mem_cons→U3, all_eq_true→V1, pairwise_cons→W0, length_append→W1, mem_append→W2, mem_of_getElem?→bd, length_singleton→be, length→bh, length_nil→bm, take_length→bs, length_map→bv, mem_cons_self→bw, getElem?_eq_some_iff→bx, mem_cons_of_mem→ca, flatMap_append→cb, not_mem_nil→cc, mem_flatMap→cr, length_take→cv, length_cons→c1, map_append→c2, all_append→c3, mem_map→cH
open List.cons renaming injEq→cL
open Nat renaming le_refl→dc, zero_le→dl, mod_lt→dn, le_trans→ea
open Option.some renaming injEq→eb, inj→ed
open Rat renaming divInt→el
open UInt8 renaming toNat→en
set_option maxRecDepth 1000000
section
namespace Eng
open Rl
def low (c:Ci) (p:P5):Prop:=onC c p∧cY c p≤0
def upp (c:Ci) (p:P5):Prop:=onC c p∧0≤cY c p
theorem Om {c:Ci} {p q:P5} (h:Zk p q):upB c p=upB c q:=by unfold upB;rw[h.1,h.2]
def atR (c:Ci) (p:P5):Prop:=onC c p∧cY c p=0∧0<cX c p
def atL (c:Ci) (p:P5):Prop:=onC c p∧cY c p=0∧cX c p<0
theorem Z1 {c:Ci} {r q:P5} (hr:atR c r) (hq:onC c q):px q≤px r:=by
 have:=Ol (hr.1.trans hq.symm) hr.2.1 hr.2.2;intro k;exact this (lS.2 k)
theorem Z2 {c:Ci} {l q:P5} (hl:atL c l) (hq:onC c q):px l≤px q:=by
 have e:∀z:Rl, -z* -z=z*z:=fun z=>by rw[Pz,HN,WJ]
 have h1:(-cX c l)*(-cX c l)+cY c l*cY c l=(-cX c q)*(-cX c q)+cY c q*cY c q:=by rw[e,e];exact hl.1.trans hq.symm
 have:=Ol h1 hl.2.1 (xE.2 hl.2.2);intro k;exact this (Bn.2 (lS.2 k))
theorem IG {c:Ci} {p:P5} (h:atR c p):upB c p=true:=Zy.2 (.inr h.2)
theorem IH {c:Ci} {p:P5} (h:atL c p):upB c p=false:=by
 cases hb:upB c p with
 |false=>rfl
 |true=>
  rcases Zy.1 hb with k|k
  ·rw[h.2.1]at k;exact absurd k (jY _)
  ·exact absurd k.2 (vG h.2.2)
theorem VD {c:Ci} {p:P5} (h:low c p) (hu:upB c p=true):atR c p:=by
 rcases Zy.1 hu with k|k
 ·exact absurd k h.2
 ·exact⟨h.1,k⟩
theorem Re {c:Ci} (hq:0<c.q) {p:P5} (h:upp c p) (hu:upB c p=false):atL c p:=by
 obtain⟨h1,h2⟩:=UE hu;have hy:cY c p=0:=xD h1 h.2;refine⟨h.1,hy,jK (h2 hy) fun e=>?_⟩;have h3:=h.1;unfold onC at h3;rw[hy,e,ml0,ad0]at h3;have:ofR c.q=ofR 0:=h3.symm;rw[Q4]at this
 grind
theorem II {c:Ci} {r q:P5} (hr:atR c r) (hq:onC c q) (hu:upB c q=false):px q<px r:=by
 refine jK (Z1 hr hq) fun e=>?_
 have hy:cY c q=0:=by
  have h1:cX c q=cX c r:=by unfold cX;rw[e]
  have h2:=hr.1.trans hq.symm;rw[h1]at h2;have:=UD h2;rw[hr.2.1,ml0]at this;exact Gl this.symm
 have hs:=Gm hq hr.1 e (.inl ⟨by rw[hy];exact zJ,by rw[hr.2.1];exact zJ⟩);rw[Om hs,IG hr]at hu;cases hu
theorem Cr {c:Ci} {l q:P5} (hl:atL c l) (hq:onC c q) (hu:upB c q=true):px l<px q:=by
 refine jK (Z2 hl hq) fun e=>?_
 have hy:cY c q=0:=by
  have h1:cX c q=cX c l:=by unfold cX;rw[e]
  have h2:=hl.1.trans hq.symm;rw[h1]at h2;have:=UD h2;rw[hl.2.1,ml0]at this;exact Gl this.symm
 have hs:=Gm hq hl.1 e.symm (.inl ⟨by rw[hy];exact zJ,by rw[hl.2.1];exact zJ⟩);rw[Om hs,IH hl]at hu;cases hu
theorem wZ {c:Ci} {p q:P5} (hp:low c p) (hq:low c q):qw c p q=sg (px p-px q):=by
 unfold qw;cases h1:upB c p<;>cases h2:upB c q
 ·simp
 ·rw[if_neg (by simp),if_pos rfl,UC (II (VD hq h2) hp.1 h1)]
 ·rw[if_neg (by simp),if_neg (by simp),VA (II (VD hp h1) hq.1 h2)]
 ·have r1:=VD hp h1;have r2:=VD hq h2;have e:px p=px q:=xD (Z1 r2 r1.1) (Z1 r1 r2.1);rw[if_pos rfl,if_pos rfl,e,sbs,zL];rfl
theorem Mc {c:Ci} {f p q:P5} (hf:low c f) (hp:low c p) (hq:low c q) (h1:px f≤px p) (h2:px f≤px q):wV c f p q=sg (px p-px q):=by
 have e:∀x,low c x→px f≤px x→decide (qw c x f<0)=false:=fun x hx k=>by rw[wZ hx hf];exact decide_eq_false fun h=>k (yA.1 h)
 unfold wV;rw[e p hp h1,e q hq h2,if_pos rfl,wZ hp hq]
theorem Ct {c:Ci} (h0:0<c.q) {f p q:P5} (_:upp c f) (hfu:upB c f=true) (hp:upp c p) (hq:upp c q) (h1:px p≤px f) (h2:px q≤px f):wV c f p q=sg (px q-px p):=by
 have e:∀x,upp c x→px x≤px f→decide (qw c x f<0)=!upB c x:=fun x hx k=>by
  unfold qw;rw[hfu];cases hb:upB c x with
  |true=>
   rw[if_pos rfl,if_pos rfl];refine decide_eq_false fun h=>?_
   exact k (QE.1 (by omega))
  |false=>rw[if_neg (by simp),if_pos rfl];rfl
 have e2:qw c q f<0↔upB c q=false:=by
  have:=e q hq h2;cases hb:upB c q with
  |true=>rw[hb]at this;simpa using this
  |false=>rw[hb]at this;simpa using this
 unfold wV;rw[e p hp h1,e q hq h2];cases hbp:upB c p<;>cases hbq:upB c q
 ·have l1:=Re h0 hp hbp;have l2:=Re h0 hq hbq;have e:px p=px q:=xD (Z2 l1 l2.1) (Z2 l2 l1.1);rw[if_pos rfl];unfold qw;rw[hbp,hbq,if_pos rfl,if_neg (by simp),e]
 ·rw[if_neg (by simp),if_neg (by rw[e2,hbq];simp),VA (Cr (Re h0 hp hbp) hq.1 hbq)]
 ·rw[if_neg (by simp),if_pos (e2.2 hbq),UC (Cr (Re h0 hq hbq) hp.1 hbp)]
 ·rw[if_pos rfl];unfold qw;rw[hbp,hbq,if_pos rfl,if_pos rfl,←Zx]
theorem df {c:Ci} (h0:0<c.q) {f t:P5} (hf:upp c f) (ht:onC c t) (h:px t<px f):upB c f=true:=by
 cases hb:upB c f with
 |true=>rfl
 |false=>exact absurd h (Z2 (Re h0 hf hb) ht)
theorem IJ {c:Ci} {f t p:P5} (hf:low c f) (ht:low c t) (hlt:px f<px t) (hp:onC c p) (h:wV c f p t≤0):low c p∧px f≤px p:=by
 have hfu:upB c f=false:=by
  cases hb:upB c f with
  |false=>rfl
  |true=>exact absurd hlt (Z1 (VD hf hb) ht.1)
 have hv:decide (qw c t f<0)=false:=by rw[wZ ht hf,VA hlt];rfl
 unfold wV at h;rw[hv]at h;cases hu:decide (qw c p f<0)with
 |true=>rw[hu,if_neg (by simp),if_neg (by simpa using hv)]at h;omega
 |false=>
  rw[hu,if_pos rfl]at h;have hl:low c p:=by
   refine⟨hp,fun hy=>?_⟩;have hpu:upB c p=true:=Zy.2 (.inl hy);unfold qw at h;rw[hpu]at h;cases hb:upB c t with
   |false=>rw[hb,if_neg (by simp),if_neg (by simp)]at h;omega
   |true=>
    rw[hb,if_pos rfl,if_pos rfl]at h;have hR:=VD ht hb;have h1:px p≤px t:=Z1 hR hp;have h2:px t≤px p:=fun k=>by have:=yA.2 k;omega
    have e:px p=px t:=xD h1 h2;have h3:cX c p=cX c t:=by unfold cX;rw[e]
    have h4:=hR.1.trans hp.symm;rw[h3]at h4;have:=UD h4;rw[hR.2.1,ml0]at this;rw[Gl this.symm]at hy;exact jY _ hy
  refine⟨hl,fun k=>?_⟩;rw[wZ hl hf]at hu;rw[yA.2 k|>decide_eq_true]at hu;cases hu
theorem lU {c:Ci} (h0:0<c.q) {f t p:P5} (hf:upp c f) (ht:upp c t) (hlt:px t<px f) (hp:onC c p) (h:wV c f p t≤0):upp c p∧px p≤px f:=by
 have a3:=df h0 hf ht.1 hlt;have a4:∀x,upB c x=false→decide (qw c x f<0)=true:=fun x hx=>by unfold qw;rw[hx,a3,if_neg (by simp),if_pos rfl];rfl
 have hh1:∀x,upB c x=true→px f<px x→decide (qw c x f<0)=true:=fun x hx k=>by unfold qw;rw[hx,a3,if_pos rfl,if_pos rfl];exact decide_eq_true (by have:=QE.2 k;omega)
 have a5:∀x,upB c x=true→px x<px f→decide (qw c x f<0)=false:=fun x hx k=>by unfold qw;rw[hx,a3,if_pos rfl,if_pos rfl];exact decide_eq_false (by have:=yA.2 k;omega)
 unfold wV at h;cases hpu:upB c p with
 |true=>
  refine⟨⟨hp,Zz hpu⟩,fun k=>?_⟩;have hu:decide (qw c p f<0)=true:=hh1 p hpu k;rw[hu]at h;cases htu:upB c t with
  |true=>have hv:decide (qw c t f<0)=false:=a5 t htu hlt;rw[hv,if_neg (by simp),if_neg (by simpa using hv)]at h;omega
  |false=>rw[a4 t htu,if_pos rfl]at h;unfold qw at h;rw[hpu,htu,if_neg (by simp),if_neg (by simp)]at h;omega
 |false=>
  rw[a4 p hpu]at h;cases htu:upB c t with
  |true=>have hv:decide (qw c t f<0)=false:=a5 t htu hlt;rw[hv,if_neg (by simp),if_neg (by simpa using hv)]at h;omega
  |false=>
   have hL:=Re h0 ht htu;rw[a4 t htu,if_pos rfl]at h;unfold qw at h;rw[hpu,htu,if_pos rfl,if_neg (by simp)]at h;have h1:px p≤px t:=fun k=>by have:=QE.2 k;omega
   have e:px p=px t:=xD h1 (Z2 hL hp);have h3:cX c p=cX c t:=by unfold cX;rw[e]
   have h4:=hL.1.trans hp.symm;rw[h3]at h4;have:=UD h4;rw[hL.2.1,ml0]at this;have hy:=Gl this.symm;exact⟨⟨hp,by rw[hy];exact zJ⟩,by rw[e];exact le_of_lt hlt⟩
theorem On {c:Ci} {f p q l r:P5} (hp:onC c p) (hq:onC c q) (hl:atL c l) (hr:atR c r)
 (h:wV c f p q<0) (nl:¬(wV c f p l<0∧wV c f l q<0)) (nr:¬(wV c f p r<0∧wV c f r q<0)):
 (low c p∧low c q∧px p<px q)∨(upp c p∧upp c q∧px q<px p):=by
 have a3:∀x y,decide (qw c x f<0)=decide (qw c y f<0)→wV c f x y=qw c x y:=fun x y e=>by unfold wV;rw[if_pos e]
 have a5:∀x y,decide (qw c x f<0)=false→decide (qw c y f<0)=true→wV c f x y<0:=fun x y e1 e2=>by unfold wV;rw[e1,e2,if_neg (by simp),if_pos (by simpa using e2)];omega
 have lu:=IH hl;have ru:=IG hr;have pr:upB c p=false→qw c p r<0:=fun hb=>by unfold qw;rw[hb,ru,if_neg (by simp),if_pos rfl];omega
 have lq:qw c l q≤0:=by
  unfold qw;rw[lu];cases hb:upB c q with
  |true=>rw[if_neg (by simp),if_pos rfl];omega
  |false=>
   rw[if_pos rfl,if_neg (by simp)];have:=Z2 hl hq;rcases Pl 0 (sg (px l-px q))with k|k
   ·exact absurd (QE.1 k) this
   ·exact k
 --the two on a6 side of the beginning
 have a6:decide (qw c p f<0)=decide (qw c q f<0)→(low c p∧low c q∧px p<px q)∨(upp c p∧upp c q∧px q<px p):=by
  intro hs;rw[a3 p q hs]at h;cases hpu:upB c p with
  |true=>
   cases hqu:upB c q with
   |true=>unfold qw at h;rw[hpu,hqu,if_pos rfl,if_pos rfl]at h;exact .inr ⟨⟨hp,Zz hpu⟩,⟨hq,Zz hqu⟩,QE.1 (by omega)⟩
   |false=>unfold qw at h;rw[hpu,hqu,if_neg (by simp),if_neg (by simp)]at h;omega
  |false=>
   have lp:low c p:=⟨hp,(UE hpu).1⟩;cases hqu:upB c q with
   |false=>have lq:low c q:=⟨hq,(UE hqu).1⟩;rw[wZ lp lq]at h;exact .inl ⟨lp,lq,yA.1 h⟩
   |true=>
    have rq:qw c r q≤0:=by
     unfold qw;rw[ru,hqu,if_pos rfl,if_pos rfl];have:=Z1 hr hq;rcases Pl (sg (px r-px q)) 0 with k|k
     ·exact absurd (yA.1 k) this
     ·omega
    rcases Lv rq with rq|rq
    ·exfalso;have a4:=pr hpu;have a8:decide (qw c r f<0)=decide (qw c p f<0):=by
      cases hF:decide (qw c p f<0)with
      |true=>
       rw[hF]at hs;have h1:qw c q f<0:=by simpa using hs.symm
       exact decide_eq_true (XE (Ls rq) h1)
      |false=>
       have h1:¬qw c p f<0:=by simpa using hF
       exact decide_eq_false fun k=>h1 (XE (Ls a4) k)
     exact nr ⟨by rw[a3 p r a8.symm];exact a4,by rw[a3 r q (a8.trans hs)];exact rq⟩
    ·have hsm:=Z0 hr.1 hq rq;have lq:low c q:=⟨hq,by
      have:cY c q=0:=by unfold cY;rw[←hsm.2];exact hr.2.1
      rw[this];exact zJ⟩
     rw[wZ lp lq]at h;exact .inl ⟨lp,lq,yA.1 h⟩
 cases hF:decide (qw c p f<0)<;>cases hG:decide (qw c q f<0)
 ·exact a6 (hF.trans hG.symm)
 ·--the way passes the beginning of the order
  have qf:qw c q f<0:=by simpa using hG
  have pf:¬qw c p f<0:=by simpa using hF
  have ad:Zk l q:=by
   rcases Lv lq with k|k
   ·exfalso;have a7:decide (qw c l f<0)=true:=decide_eq_true (XE (Ls k) qf);exact nl ⟨a5 p l hF a7,by rw[a3 l q (a7.trans hG.symm)];exact k⟩
   ·exact Z0 hl.1 hq k
  have hqy:cY c q=0:=by unfold cY;rw[←ad.2];exact hl.2.1
  cases hpu:upB c p with
  |false=>
   exfalso;have a4:=pr hpu;cases hR:decide (qw c r f<0)with
   |false=>exact nr ⟨by rw[a3 p r (hF.trans hR.symm)];exact a4,a5 r q hR hG⟩
   |true=>exact pf (XE (Ls a4) (by simpa using hR))
  |true=>exact .inr ⟨⟨hp,Zz hpu⟩,⟨hq,by rw[hqy];exact zJ⟩,by rw[←ad.1];exact Cr hl hp hpu⟩
 ·exfalso;have hv:¬qw c q f<0:=by simpa using hG
  unfold wV at h;rw[hF,hG,if_neg (by simp),if_neg hv]at h;omega
 ·exact a6 (hF.trans hG.symm)
end Eng
end
section
namespace Eng
open Go Go.Proofs Rl
set_option maxRecDepth 100000
theorem vc (p q:P5):jb q p= -jb p q:=by
 unfold jb;rw[Zx (px p) (px q),Zx (py p) (py q)];by_cases h:sg (px p-px q)=0
 ·rw[if_pos h,if_pos (by omega)]
 ·rw[if_neg h,if_neg (by omega)]
theorem dg {p q:P5}:jb p q<0↔px p<px q∨(px p=px q∧py p<py q):=by
 unfold jb;by_cases h:sg (px p-px q)=0
 ·rw[if_pos h,yA];have e:=Rd.1 h;constructor
  ·exact fun k=> .inr ⟨e,k⟩
  ·rintro(k|⟨_,k⟩)
   ·rw[e]at k;exact absurd k (jY _)
   ·exact k
 ·rw[if_neg h,yA];constructor
  ·exact fun k=> .inl k
  ·rintro(k|⟨k,_⟩)
   ·exact k
   ·rw[Rd]at h;exact absurd k h
theorem Md {p q r:P5} (h1:jb p q<0) (h2:jb q r<0):jb p r<0:=by
 rw[dg]at *;rcases h1 with h1|⟨h1,k1⟩<;>rcases h2 with h2|⟨h2,k2⟩
 ·exact .inl (lt_trans h1 h2)
 ·exact .inl (h2▸h1)
 ·exact .inl (h1▸h2)
 ·exact .inr ⟨h1.trans h2,lt_trans k1 k2⟩
theorem Oo (c:Ci) (f p q:P5):wV c f q p= -wV c f p q:=by
 unfold wV;by_cases h:decide (qw c p f<0)=decide (qw c q f<0)
 ·rw[if_pos h,if_pos h.symm,VB]
 ·rw[if_neg h,if_neg (fun k=>h k.symm)];cases h1:decide (qw c p f<0)<;>cases h2:decide (qw c q f<0)<;>rw[h1,h2]at h<;>simp at h h1 h2 ⊢ <;>simp[h1,h2]
theorem IK {c:Ci} {f p q r:P5} (h1:wV c f p q<0) (h2:wV c f q r<0):wV c f p r<0:=by
 unfold wV at *;cases hp:decide (qw c p f<0)<;>cases hq:decide (qw c q f<0)<;>cases hr:decide (qw c r f<0)<;>rw[hp,hq]at h1<;>rw[hq,hr]at h2<;>
  simp only[decide_eq_true_eq,decide_eq_false_iff_not]at hp hq hr<;>simp only[hq,hr,if_true,if_false,reduceCtorEq]at h1 h2 ⊢
 all_goals first|omega|exact XE (Ls h1) h2|simp
theorem Oq {c:Ci} {f p q:P5} (hp:onC c p) (hq:onC c q) (h:wV c f p q=0):Zk p q:=by
 unfold wV at h;split at h
 ·exact Z0 hp hq h
 ·split at h<;>omega
theorem Gn (c:Ci) (f p:P5):wV c f f p≤0:=by
 have hf:decide (qw c f f<0)=false:=decide_eq_false (by rw[Ux ⟨rfl,rfl⟩];omega);unfold wV;rw[hf];cases hp:decide (qw c p f<0)with
 |true=>rw[if_neg (by simp),if_pos (by simpa using hp)];omega
 |false=>
  rw[if_pos rfl,VB];have:¬qw c p f<0:=by simpa using hp
  omega
def R1 (c:Ci):Ci:=⟨-c.x,c.y,c.q⟩
theorem dh (c:Ci) (p:P5):cX (R1 c) (vZ p)= -cX c p:=by
 unfold cX R1;rw[KD,jW];generalize px p=a;generalize ofR c.x=b;obtain⟨a,rfl⟩:=a.rep;obtain⟨b,rfl⟩:=b.rep;exact xC fun n=>by simp only[xZ,z8];grind
theorem tQ (c:Ci) (p:P5):cY (R1 c) (vZ p)=cY c p:=rfl
theorem Qp {c:Ci} {p:P5}:onC (R1 c) (vZ p)↔onC c p:=by
 unfold onC;rw[dh,tQ,Pz,HN,WJ];rfl
theorem di {p q:P5} (h:Zk (vZ p) (vZ q)):Zk p q:=by
 refine⟨?_,h.2⟩;have:=h.1;rw[KD,KD]at this;rw[←WJ (px p),this,WJ]
def onS (c:Cu) (p:P5):Prop:=Zl c p=true
theorem jq {c:Cu} (ha:c.arc=true) {p:P5}:onS c p↔onC c.ci p:=by
 unfold onS Zl;rw[if_pos ha,beq_iff_eq,Wg]
theorem yZ (c:Cu) (p q:P5):zS c q p= -zS c p q:=by
 unfold zS;split
 ·split
  ·exact Oo _ _ _ _
  ·exact Oo _ _ _ _
 ·split
  ·rw[vc p q]
  ·exact vc p q
theorem IL {c:Cu} {p q r:P5} (h1:zS c p q<0) (h2:zS c q r<0):zS c p r<0:=by
 unfold zS at *;split
 ·rename_i ha;rw[if_pos ha]at h1 h2;split
  ·rename_i hw;rw[if_pos hw]at h1 h2;exact IK h1 h2
  ·rename_i hw;rw[if_neg hw]at h1 h2;exact IK h1 h2
 ·rename_i ha;rw[if_neg ha]at h1 h2;split
  ·rename_i hw;rw[if_pos hw]at h1 h2;have k1:jb q p<0:=by rw[vc p q];omega
   have k2:jb r q<0:=by rw[vc q r];omega
   have:=Md k2 k1;rw[vc p r]at this;omega
  ·rename_i hw;rw[if_neg hw]at h1 h2;exact Md h1 h2
theorem Ot {c:Cu} {p q:P5} (hp:onS c p) (hq:onS c q) (h:zS c p q=0):Zk p q:=by
 unfold zS at h;split at h
 ·rename_i ha;rw[jq ha]at hp hq;split at h
  ·exact di (Oq (Qp.2 hp) (Qp.2 hq) h)
  ·exact Oq hp hq h
 ·split at h
  ·exact yu.1 (by omega)
  ·exact yu.1 h
theorem yB {c:Cu} {p q:P5} (h:Zk p q) (r:P5):zS c p r=zS c q r∧zS c r p=zS c r q:=by
 have a:zS c p r=zS c q r:=by
  have cg:∀(ci:Ci) (f x y z:P5),Zk x y→wV ci f x z=wV ci f y z:=by intro ci f x y z hs;unfold wV;rw[QC f hs,QC z hs]
  unfold zS;split
  ·split
   ·exact cg _ _ _ _ _ (NY h)
   ·exact cg _ _ _ _ _ h
  ·have:jb p r=jb q r:=by unfold jb;rw[h.1,h.2]
   rw[this]
 refine⟨a,?_⟩;rw[yZ,a,←yZ]
theorem Me {c:Cu} (ha:c.arc=true) (p:P5):zS c c.fr p≤0:=by
 unfold zS;rw[if_pos ha];split
 ·exact Gn _ _ _
 ·exact Gn _ _ _
def srt (c:Cu) (l:List P5):Prop:=l.Pairwise fun a b=>zS c a b<0
theorem Ou {c:Cu} {p:P5} (hp:onS c p):∀{l:List P5},(∀x∈l,onS c x)→srt c l→srt c (Q6 c l p)
 |[],_,_=>by simp[Q6,srt]
 |q::r,hl,h=>by
  unfold srt at h;rw[W0]at h;unfold Q6;split
  ·rename_i ho;refine W0.2 ⟨fun x hx=>?_,Ou hp (fun x hx=>hl x (by simp[hx])) h.2⟩;rcases YY c hx with hx|hx
   ·exact h.1 x hx
   ·rw[hx];exact ho
  ·split
   ·exact W0.2 h
   ·rename_i ho he;have hpq:zS c p q<0:=by
     rcases Int.lt_trichotomy (zS c p q) 0 with k|k|k
     ·exact k
     ·exfalso;apply he;rw[XB];exact zR.2 (Ot hp (hl q (by simp)) k)
     ·exfalso;apply ho;rw[yZ];omega
    refine W0.2 ⟨fun x hx=>?_,W0.2 h⟩;rcases U3.1 hx with rfl|hx
    ·exact hpq
    ·exact IL hpq (h.1 x hx)
theorem Cv {c:Cu} {l:List P5} (hl:∀x∈l,onS c x):srt c (yw c l):=by
 rw[←Zq];have:∀k,k≤l.length→srt c (soO c l k):=by
  intro k
  induction k with
  |zero=>intro _;rw[X9];exact List.Pairwise.nil
  |succ k ih=>intro h;rw[yY c (by omega)];exact Ou (hl _ (Ts _)) (fun x hx=>hl x (YZ c l k (by omega) x hx)) (ih (by omega))
 exact this _ (dc _)
theorem Jv {c:Cu} {p:P5}:∀{l:List P5} {x:P5},(x∈l∨x=p)→∃y∈Q6 c l p,Zk x y
 |[],x,h=>by
  rcases h with h|h
  ·simp at h
  ·exact⟨p,by simp[Q6],by rw[h];exact⟨rfl,rfl⟩⟩
 |q::r,x,h=>by
  unfold Q6;split
  ·rcases h with h|h
   ·rcases U3.1 h with rfl|h
    ·exact⟨_,bw ..,rfl,rfl⟩
    ·obtain⟨y,h1,h2⟩:=Jv (c:=c) (p:=p) (l:=r) (.inl h);exact⟨y,by simp[h1],h2⟩
   ·obtain⟨y,h1,h2⟩:=Jv (c:=c) (p:=p) (l:=r) (.inr h);exact⟨y,by simp[h1],h2⟩
  ·split
   ·rename_i he;rcases h with h|h
    ·exact⟨x,h,rfl,rfl⟩
    ·exact⟨q,by simp,by rw[h];exact Wa (zR.1 he)⟩
   ·rcases h with h|h
    ·exact⟨x,by simp[U3.1 h],rfl,rfl⟩
    ·exact⟨p,by simp,by rw[h];exact⟨rfl,rfl⟩⟩
theorem Cw {c:Cu} {l:List P5} {x:P5} (hx:x∈l):∃y∈yw c l,Zk x y:=by
 rw[←Zq];have:∀k,k≤l.length→∀x∈l.take k,∃y∈soO c l k,Zk x y:=by
  intro k
  induction k with
  |zero=>intro _ x hx;simp at hx
  |succ k ih=>
   intro h x hx;rw[yY c (by omega)];rw[U0 (by omega)]at hx;rcases W2.1 hx with hx|hx
   ·obtain⟨y,h1,h2⟩:=ih (by omega) x hx;obtain⟨z,h3,h4⟩:=Jv (c:=c) (p:=l[k]) (l:=soO c l k) (x:=y) (.inl h1);exact⟨z,h3,h2.1.trans h4.1,h2.2.trans h4.2⟩
   ·exact Jv (.inr (P1.1 hx))
 exact this _ (dc _) x (by rw[bs];exact hx)
theorem VE {c x:Cu}:∀{l:List P5},srt c l→x∈ji c l→∃p q,p∈l∧q∈l∧zS c p q<0∧(∀y∈l,¬(zS c p y<0∧zS c y q<0))∧x={c with fr:=p,tt:=q}
 |[],_,h=>by simp[ji]at h
 |[_],_,h=>by simp[ji]at h
 |p::q::r,hs,h=>by
  unfold srt at hs;rw[W0]at hs;have hs2:=hs.2;rw[W0]at hs2;simp only[ji,U3]at h;rcases h with h|h
  ·refine⟨p,q,by simp,by simp,hs.1 q (by simp),fun y hy=>?_,h⟩;rintro⟨h1,h2⟩;simp only[U3]at hy;rcases hy with rfl|rfl|hy
   ·rw[Wb ⟨rfl,rfl⟩]at h1;omega
   ·rw[Wb ⟨rfl,rfl⟩]at h2;omega
   ·have:=hs2.1 y hy;rw[yZ]at this;omega
  ·obtain⟨a,b,h1,h2,h3,h4,h5⟩:=VE hs.2 h;refine⟨a,b,by simp[h1],by simp[h2],h3,fun y hy=>?_,h5⟩;rcases U3.1 hy with rfl|hy
   ·rintro⟨k1,_⟩;have:=hs.1 a h1;rw[yZ]at this;omega
   ·exact h4 y hy
theorem UF {c x:Cu} {l:List P5} (hf:onS c c.fr) (ht:onS c c.tt) (hx:x∈jj c l):∃p q,(p∈c.fr::c.tt::l)∧(q∈c.fr::c.tt::l)∧zS c p q<0∧(∀y∈c.fr::c.tt::l,¬(zS c p y<0∧zS c y q<0))∧x={c with fr:=p,tt:=q}∧l.all (yU c)=true:=by
 obtain⟨a3,_⟩:=Uy hx;have hon:∀y∈c.fr::c.tt::l,onS c y:=by
  intro y hy;simp only[U3]at hy;rcases hy with rfl|rfl|hy
  ·exact hf
  ·exact ht
  ·exact Gb (V1.1 a3 y hy)
 unfold jj at hx;rw[if_pos a3]at hx;obtain⟨p,q,h1,h2,h3,h4,h5⟩:=VE (Cv hon) hx;refine⟨p,q,wX h1,wX h2,h3,fun y hy hk=>?_,h5,a3⟩;obtain⟨z,z1,z2⟩:=Cw (c:=c) hy;obtain⟨e1,e2⟩:=yB (c:=c) z2 q;obtain⟨e3,e4⟩:=yB (c:=c) z2 p;exact h4 z z1 ⟨by rw[←e4];exact hk.1,by rw[←e1];exact hk.2⟩
end Eng
end
section
namespace Eng
open Go Go.Proofs Rl
set_option maxRecDepth 100000
def Mo (c:Cu):Prop:=Gd c∧jb c.fr c.tt<0∧(c.arc=true→px c.fr<px c.tt∧(c.cw=true→upp c.ci c.fr∧upp c.ci c.tt)∧(c.cw=false→low c.ci c.fr∧low c.ci c.tt))
theorem lV (x u y v c:Rat):px (zt x u y v c)=ofR x+ofR u*jh c:=by
 unfold zt;cases hs:sqQ c with
 |none=>rfl
 |some s=>show px (atV _)=_;rw[tH,YH hs,zn,qV]
theorem lW (x u y v c:Rat):py (zt x u y v c)=ofR y+ofR v*jh c:=by
 unfold zt;cases hs:sqQ c with
 |none=>rfl
 |some s=>show py (atV _)=_;rw[tI,YH hs,zn,qV]
theorem add_sub_cancel' (a b:Rl):a+b-a=b:=by
 obtain⟨a,rfl⟩:=a.rep;obtain⟨b,rfl⟩:=b.rep;exact xC fun n=>by simp only[xZ,z8];grind
theorem Ov {c:Ci} (h:0<c.q):atL c (ju c)∧atR c (xW c):=by
 have s2:=kH (Rat.le_of_lt h);have sp:=N3 h;have m1:ofR (-1)= -1:=by rw[jW];rfl
 have x1:cX c (ju c)= -jh c.q:=by unfold cX ju;rw[lV,add_sub_cancel',m1,Pz,mlc,ml1]
 have x2:cX c (xW c)=jh c.q:=by unfold cX xW;rw[lV,add_sub_cancel',ch,mlc,ml1]
 have y1:cY c (ju c)=0:=by unfold cY ju;rw[lW,xH,zml,ad0,sbs]
 have y2:cY c (xW c)=0:=by unfold cY xW;rw[lW,xH,zml,ad0,sbs]
 refine⟨⟨?_,y1,by rw[x1];exact jE.2 sp⟩,⟨?_,y2,by rw[x2];exact sp⟩⟩
 ·unfold onC;rw[x1,y1,ml0,ad0,Pz,HN,WJ,s2]
 ·unfold onC;rw[x2,y2,ml0,ad0,s2]
theorem dj {c:Ci} {p:P5} (h:atL c p):atR (R1 c) (vZ p):=by
 refine⟨Qp.2 h.1,h.2.1,?_⟩;rw[dh];exact xE.2 h.2.2
theorem dk {c:Ci} {p:P5} (h:atR c p):atL (R1 c) (vZ p):=by
 refine⟨Qp.2 h.1,h.2.1,?_⟩;rw[dh];exact jE.2 h.2.2
theorem Cy {c:Ci} {p:P5}:low (R1 c) (vZ p)↔low c p:=by unfold low;rw[Qp];rfl
theorem xX {c:Ci} {p:P5}:upp (R1 c) (vZ p)↔upp c p:=by unfold upp;rw[Qp];rfl
theorem jr {p q:P5}:px (vZ p)<px (vZ q)↔px q<px p:=by rw[KD,KD];exact Bn
theorem Ow {p q:P5} (h:px p<px q):jb p q= -1:=by
 unfold jb;rw[UC h,if_neg (by omega)]
theorem dm {p q:P5} (h:px q<px p):jb p q=1:=by
 unfold jb;rw[VA h,if_neg (by omega)]
theorem Ox {p q:P5} (h:px p<px q):wC p q=false:=by
 cases he:wC p q with
 |false=>rfl
 |true=>have:=(zR.1 he).1;rw[this]at h;exact absurd h (jY _)
theorem dq {c:Cu} (h:Gd c) (ha:c.arc=true) {p q:P5} (gp:Gp p) (gq:Gp q) (hp:onS c p) (hq:onS c q) (ho:zS c p q<0)
 (nl:¬(zS c p (ju c.ci)<0∧zS c (ju c.ci) q<0)) (nr:¬(zS c p (xW c.ci)<0∧zS c (xW c.ci) q<0)):Mo (qB {c with fr:=p,tt:=q}):=by
 obtain⟨hL,hR⟩:=Ov (h.circ ha).2;have cp:=(jq ha).1 hp;have cq:=(jq ha).1 hq
 --the piece as it is,or turned
 have a3:px p<px q→(c.cw=true→upp c.ci p∧upp c.ci q)→(c.cw=false→low c.ci p∧low c.ci q)→Mo (qB {c with fr:=p,tt:=q}):=by
  intro hx hu hl;have hc:=Ow hx;have e:qB {c with fr:=p,tt:=q}={c with fr:=p,tt:=q}:=by unfold qB;rw[if_neg (show ¬0<jb p q by omega)]
  rw[e];exact⟨h.ends gp gq hp hq (Ox hx),by show jb p q<0;omega,fun _=>⟨hx,hu,hl⟩⟩
 have a4:px q<px p→(c.cw=false→upp c.ci p∧upp c.ci q)→(c.cw=true→low c.ci p∧low c.ci q)→Mo (qB {c with fr:=p,tt:=q}):=by
  intro hx hu hl;have hc:=dm hx;have e:qB {c with fr:=p,tt:=q}=Lf {c with fr:=p,tt:=q}:=by unfold qB;rw[if_pos (show 0<jb p q by omega)]
  rw[e];have g:Gd {c with fr:=p,tt:=q}:=h.ends gp gq hp hq (by rw[XB];exact Ox hx);refine⟨g.rev,by show jb q p<0;rw[Ow hx];omega,fun _=>⟨hx,fun hw=>?_,fun hw=>?_⟩⟩
  ·have hw:(c.arc&&!c.cw)=true:=hw;rw[ha]at hw;have:=hu (by simpa using hw);exact⟨this.2,this.1⟩
  ·have hw:(c.arc&&!c.cw)=false:=hw;rw[ha]at hw;have:=hl (by simpa using hw);exact⟨this.2,this.1⟩
 unfold zS at ho nl nr;rw[if_pos ha]at ho;rw[if_pos ha,if_pos ha]at nl nr;cases hw:c.cw with
 |false=>
  rw[hw]at ho nl nr a3 a4;rw[if_neg (by simp)]at ho;rw[if_neg (by simp),if_neg (by simp)]at nl nr;rcases On cp cq hL hR ho nl nr with⟨a,b,x⟩|⟨a,b,x⟩
  ·exact a3 x (fun k=>by cases k) (fun _=>⟨a,b⟩)
  ·exact a4 x (fun _=>⟨a,b⟩) (fun k=>by cases k)
 |true=>
  rw[hw]at ho nl nr a3 a4;rw[if_pos rfl]at ho;rw[if_pos rfl,if_pos rfl]at nl nr;rcases On (Qp.2 cp) (Qp.2 cq) (dk hR) (dj hL) ho nr nl with⟨a,b,x⟩|⟨a,b,x⟩
  ·exact a4 (jr.1 x) (fun k=>by cases k) (fun _=>⟨Cy.1 a,Cy.1 b⟩)
  ·exact a3 (jr.1 x) (fun _=>⟨xX.1 a,xX.1 b⟩) (fun k=>by cases k)
theorem lX {c:Cu} {y:P5} (h:W3 c y=false) (hy:onS c y) (ht:onS c c.tt) (ha:c.arc=true) {p q:P5} (hs:onS c q) (hq:zS c q c.tt≤0):¬(zS c p y<0∧zS c y q<0):=by
 rintro⟨h1,h2⟩;have a4:zS c y c.tt<0:=by
  rcases Lv hq with hq|hq
  ·exact IL h2 hq
  ·rw[←(yB (Ot hs ht hq) y).2];exact h2
 have a3:=Me ha y;have hon:yU c y=true:=by unfold yU;rw[show Zl c y=true from hy,decide_eq_true a3,decide_eq_true (Ls a4)];rfl
 have n1:wC c.fr y=false:=by
  cases he:wC c.fr y with
  |false=>rfl
  |true=>exfalso;rw[←(yB (zR.1 he) p).2]at h1;have:=Me ha p;rw[yZ]at this;omega
 have n2:wC c.tt y=false:=by
  cases he:wC c.tt y with
  |false=>rfl
  |true=>exfalso;rw[←(yB (zR.1 he) c.tt).1,Wb ⟨rfl,rfl⟩]at a4;omega
 unfold W3 at h;rw[hon,n1,n2]at h;cases h
theorem dr {c:Cu} (h:Gd c):∀x∈xl c,Mo (qB x):=by
 intro x hx;unfold xl at hx;split at hx
 ·rename_i ha;obtain⟨hC,hq⟩:=h.circ ha;obtain⟨l1,l2⟩:=Jt hC hq;obtain⟨a1,a2⟩:=Ov hq;have sL:=(jq ha).2 a1.1;have sR:=(jq ha).2 a2.1;obtain⟨s1,s2,_⟩:=h.sup;obtain⟨p,q,m1,m2,ho,nb,e,a5⟩:=UF s1 s2 hx;have a3:∀y∈c.fr::c.tt::((if W3 c (ju c.ci)=true then [ju c.ci]else [])++(if W3 c (xW c.ci)=true then [xW c.ci]else [])),Gp y∧onS c y∧zS c y c.tt≤0:=by
   intro y hy;simp only[U3]at hy;rcases hy with rfl|rfl|hy
   ·exact⟨h.1.2.1,s1,Me ha _⟩
   ·exact⟨h.1.2.2,s2,by rw[Wb ⟨rfl,rfl⟩];omega⟩
   ·have a4:=V1.1 a5 y hy;refine⟨?_,Gb a4,?_⟩
    ·rcases W2.1 hy with hy|hy
     ·split at hy
      ·rw[P1.1 hy];exact l1
      ·simp at hy
     ·split at hy
      ·rw[P1.1 hy];exact l2
      ·simp at hy
    ·unfold yU at a4;simp only[Aw,decide_eq_true_eq]at a4;exact a4.2.2
  have a6:∀y,onS c y→(W3 c y=true→y∈c.fr::c.tt::((if W3 c (ju c.ci)=true then [ju c.ci]else [])++(if W3 c (xW c.ci)=true then [xW c.ci]else [])))→¬(zS c p y<0∧zS c y q<0):=by
   intro y hy hm;cases hi:W3 c y with
   |true=>exact nb y (hm hi)
   |false=>exact lX hi hy s2 ha (a3 q m2).2.1 (a3 q m2).2.2
  rw[e];refine dq h ha (a3 p m1).1 (a3 q m2).1 (a3 p m1).2.1 (a3 q m2).2.1 ho (a6 _ sL fun hi=>?_) (a6 _ sR fun hi=>?_)
  ·rw[if_pos hi];simp
  ·rw[if_pos hi];simp
 ·rename_i ha;have ha:c.arc=false:=by simpa using ha
  rw[P1.1 hx];obtain⟨_,_,a7⟩:=h.sup;have hz:jb c.fr c.tt≠0:=fun k=>by rw[zR.2 (yu.1 k)]at a7;cases a7
  unfold qB;split
  ·rename_i k;exact⟨h.rev,by show jb c.tt c.fr<0;rw[vc c.fr c.tt];omega,fun k=>by rw[show(Lf c).arc=c.arc from rfl,ha]at k;cases k⟩
  ·exact⟨h,by omega,fun k=>by rw[ha]at k;cases k⟩
theorem Rf {c:Cu} (h:Gd c):∀x∈zi c,Mo x:=by
 intro x hx;rw[Zu]at hx;obtain⟨y,hy,rfl⟩:=cH.1 (Gg _ _ (dc _) x hx);exact dr h y hy
theorem Ac {c:Cu} (h:Mo c) {l:List P5} (hl:∀p∈l,Gp p):∀x∈jj c l,Mo x:=by
 intro x hx;obtain⟨hg,hlt,a6⟩:=h;obtain⟨s1,s2,_⟩:=hg.sup;have a7:=Ge hg hl x hx;obtain⟨p,q,m1,m2,ho,_,e,a5⟩:=UF s1 s2 hx;subst e;have ad:∀y∈c.fr::c.tt::l,c.arc=true→onC c.ci y∧(y=c.fr∨y=c.tt∨zS c y c.tt≤0):=by
  intro y hy ha;simp only[U3]at hy;rcases hy with rfl|rfl|hy
  ·exact⟨(jq ha).1 s1,.inl rfl⟩
  ·exact⟨(jq ha).1 s2,.inr (.inl rfl)⟩
  ·have a4:=V1.1 a5 y hy;refine⟨(jq ha).1 (Gb a4),.inr (.inr ?_)⟩;unfold yU at a4;simp only[Aw,decide_eq_true_eq]at a4;exact a4.2.2
 rcases Bx c.arc with ha|ha
 ·obtain⟨hx,hu,hlo⟩:=a6 ha;rcases Bx c.cw with hw|hw
  ·obtain⟨f1,t1⟩:=hu hw;have h0:0<(R1 c.ci).q:=(hg.circ ha).2;have a8:px (vZ c.tt)<px (vZ c.fr):=jr.2 hx;have a3:∀y∈c.fr::c.tt::l,upp c.ci y∧px (vZ y)≤px (vZ c.fr):=by
    intro y hy;obtain⟨hc,k|k|k⟩:=ad y hy ha
    ·rw[k];exact⟨f1,zJ⟩
    ·rw[k];exact⟨t1,le_of_lt a8⟩
    ·unfold zS at k;rw[if_pos ha,if_pos hw]at k;obtain⟨z1,z2⟩:=lU h0 (xX.2 f1) (xX.2 t1) a8 (Qp.2 hc) k;exact⟨xX.1 z1,z2⟩
   obtain⟨p1,p2⟩:=a3 p m1;obtain⟨q1,q2⟩:=a3 q m2;have hfu:=df h0 (xX.2 f1) (xX.2 t1).1 a8;unfold zS at ho;rw[if_pos ha,if_pos hw]at ho;have e:=Ct h0 (xX.2 f1) hfu (xX.2 p1) (xX.2 q1) p2 q2;have ho:wV (R1 c.ci) (vZ c.fr) (vZ p) (vZ q)<0:=ho;rw[e,yA,jr]at ho;refine⟨a7,by show jb p q<0;rw[Ow ho];omega,fun _=>⟨ho,fun _=>⟨p1,q1⟩,fun k=>?_⟩⟩;have k:c.cw=false:=k;rw[hw]at k;cases k
  ·obtain⟨f1,t1⟩:=hlo hw;have a3:∀y∈c.fr::c.tt::l,low c.ci y∧px c.fr≤px y:=by
    intro y hy;obtain⟨hc,k|k|k⟩:=ad y hy ha
    ·rw[k];exact⟨f1,zJ⟩
    ·rw[k];exact⟨t1,le_of_lt hx⟩
    ·unfold zS at k;rw[if_pos ha,if_neg (by rw[hw];simp)]at k;exact IJ f1 t1 hx hc k
   obtain⟨p1,p2⟩:=a3 p m1;obtain⟨q1,q2⟩:=a3 q m2;unfold zS at ho;rw[if_pos ha,if_neg (by rw[hw];simp),Mc f1 p1 q1 p2 q2,yA]at ho;refine⟨a7,by show jb p q<0;rw[Ow ho];omega,fun _=>⟨ho,fun k=>?_,fun _=>⟨p1,q1⟩⟩⟩;have k:c.cw=true:=k;rw[hw]at k;cases k
 ·refine⟨a7,?_,fun k=>?_⟩
  ·unfold zS at ho;rw[if_neg (by rw[ha];simp),if_neg (by omega)]at ho;exact ho
  ·have k:c.arc=true:=k;rw[ha]at k;cases k
theorem du {c d:Ci} (h:Fg c d=true):c=d:=by
 unfold Fg at h;simp only[Aw,decide_eq_true_eq]at h;obtain⟨x,y,q⟩:=c;obtain⟨x',y',q'⟩:=d;obtain⟨rfl,rfl,rfl⟩:=h;rfl
theorem dw {l m:Ln} (hm:okLn m) (h:eV l m=true) {p:P5} (hp:lnv m p=0):lnv l p=0:=by
 unfold eV at h;simp only[Aw,decide_eq_true_eq]at h;obtain⟨h1,h2,h3⟩:=h;have id:∀(k:Rat) (n:Rat),k*l.a=n*m.a→k*l.b=n*m.b→k*l.c=n*m.c→ofR k*lnv l p=ofR n*lnv m p:=by
  intro k n e1 e2 e3;have f1:ofR k*ofR l.a=ofR n*ofR m.a:=by rw[←qV,←qV,e1]
  have f2:ofR k*ofR l.b=ofR n*ofR m.b:=by rw[←qV,←qV,e2]
  have f3:ofR k*ofR l.c=ofR n*ofR m.c:=by rw[←qV,←qV,e3]
  have d:∀(k a b c x y:Rl),k*(a*x+b*y-c)=k*a*x+k*b*y-k*c:=by intro k a b c x y;obtain⟨k,rfl⟩:=k.rep;obtain⟨a,rfl⟩:=a.rep;obtain⟨b,rfl⟩:=b.rep;obtain⟨c,rfl⟩:=c.rep;obtain⟨x,rfl⟩:=x.rep;obtain⟨y,rfl⟩:=y.rep;exact xC fun n=>by simp only[xZ,z8,jN];grind
  unfold lnv;rw[d,d,f1,f2,f3]
 have a3:∀k n:Rat,k≠0→ofR k*lnv l p=ofR n*lnv m p→lnv l p=0:=by intro k n hk e;rw[hp,ml0]at e;exact(mul_eq_zero e).resolve_left fun z=>hk (Q4.1 z)
 by_cases ha:m.a=0
 ·have hb:m.b≠0:=fun z=>hm ⟨ha,z⟩
  exact a3 m.b l.b hb (id _ _ (by grind) (by grind) (by grind))
 ·exact a3 m.a l.a ha (id _ _ (by grind) (by grind) (by grind))
theorem dx {c d:Cu} (hc:Mo c) (hd:Mo d) (hs:jw c d=true) (hw:c.cw=d.cw) (he:wC d.fr c.tt=true):Mo {c with tt:=d.tt}:=by
 have a7:=zR.1 he;have a3:c.arc=d.arc:=by
  unfold jw at hs;split at hs
  ·assumption
  ·cases hs
 have a4:jb c.fr d.tt<0:=by
  have e:jb c.tt d.tt=jb d.fr d.tt:=by unfold jb;rw[a7.1,a7.2]
  exact Md hc.2.1 (by rw[e];exact hd.2.1)
 have hne:wC c.fr d.tt=false:=by
  cases h:wC c.fr d.tt with
  |false=>rfl
  |true=>rw[NX (zR.1 h)]at a4;omega
 have a6:c.arc=true→c.ci=d.ci:=by intro ha;unfold jw at hs;rw[if_pos a3,if_pos ha]at hs;exact du hs
 have hon:onS c d.tt:=by
  have a5:onS d d.tt:=hd.1.sup.2.1;cases ha:c.arc with
  |true=>rw[jq ha,a6 ha];exact(jq (a3▸ha)).1 a5
  |false=>
   have a8:d.arc=false:=a3▸ha;have hl:eV c.ln d.ln=true:=by unfold jw at hs;rw[if_pos a3,if_neg (by rw[ha];simp)]at hs;exact hs
   unfold onS Zl at a5 ⊢;rw[if_neg (by rw[a8];simp),beq_iff_eq,xe]at a5;rw[if_neg (by rw[ha];simp),beq_iff_eq,xe];exact dw (hd.1.line a8).2 hl a5
 refine⟨hc.1.ends hc.1.1.2.1 hd.1.1.2.2 hc.1.sup.1 hon hne,a4,fun ha=>?_⟩;have ha:c.arc=true:=ha;obtain⟨x1,u1,l1⟩:=hc.2.2 ha;obtain⟨x2,u2,l2⟩:=hd.2.2 (a3▸ha);refine⟨lt_trans x1 (by rw[←a7.1];exact x2),fun k=>?_,fun k=>?_⟩
 ·have k:c.cw=true:=k;exact⟨(u1 k).1,by show upp c.ci d.tt;rw[a6 ha];exact(u2 (hw▸k)).2⟩
 ·have k:c.cw=false:=k;exact⟨(l1 k).1,by show low c.ci d.tt;rw[a6 ha];exact(l2 (hw▸k)).2⟩
end Eng
end
section
open Go Go.Proofs Eng
namespace Eng
section
variable (Gv:Nat→List A→List A→Prop) (I0:List D→List D→Prop) (M0:List D→Nat) (I1:List D→List D→Prop) (M1:List D→Nat) (I2:List D→List D→Prop) (M2:List D→Nat) (I3:List D→List D→Prop) (M3:List D→Nat) (Q:List A→Prop)
theorem UG (l0:List (List D)) (Q:List A→Prop):wpF CC Gv (eO ⟨[.slot 3 (.int .i64 0)],[],I0,M0⟩ ⟨[.slot 7 (.int .i64 0),.slot 5 (.int .i64 0),.slot 6 (.int .i64 0)],[.slot 3 (.int .i64 0)],I1,M1⟩ ⟨[.slot 10 (.int .i64 0),.own 9 17 66],[.slot 3 (.int .i64 0)],I2,M2⟩) Tryz.f76 [.c (.sl l0)] Q=(I0 [] [dI (0:Int)]∧∀(i:Int),I0 [] [dI i]→bB (decide (i<(J8 l0.length))) (rO l0 i 66∧∃x,cU l0 i 46 20 (pk x [])∧I1 [dI i] [dI (0:Int),dI (0:Int),dI (-1:Int)]∧∀(i_1 i_2 i_3:Int),I1 [dI i] [dI i_1,dI i_2,dI i_3]→bB (decide (i_1<(J8 l0.length))) (rO l0 i_1 66∧∃x1,cU l0 i_1 26 20 (pk x1 [])∧∃b,Gv 106 [aP x1,aP x] [aB b]∧br b (rO l0 i_1 66∧∃x2,cU l0 i_1 46 20 (pk x2 [])∧∃b,Gv 106 [aP x2,aP x] [aB b]∧br b (I1 [dI i] [dI (J4 .i64 (i_1+1)),dI (J4 .i64 (J4 .i64 (i_2+1)+1)),dI i_1]∧M1 [dI (J4 .i64 (i_1+1)),dI (J4 .i64 (J4 .i64 (i_2+1)+1)),dI i_1]<M1 [dI i_1,dI i_2,dI i_3]) (I1 [dI i] [dI (J4 .i64 (i_1+1)),dI (J4 .i64 (i_2+1)),dI i_1]∧M1 [dI (J4 .i64 (i_1+1)),dI (J4 .i64 (i_2+1)),dI i_1]<M1 [dI i_1,dI i_2,dI i_3])) (rO l0 i_1 66∧∃x2,cU l0 i_1 46 20 (pk x2 [])∧∃b,Gv 106 [aP x2,aP x] [aB b]∧br b (I1 [dI i] [dI (J4 .i64 (i_1+1)),dI (J4 .i64 (i_2+1)),dI i_3]∧M1 [dI (J4 .i64 (i_1+1)),dI (J4 .i64 (i_2+1)),dI i_3]<M1 [dI i_1,dI i_2,dI i_3]) (I1 [dI i] [dI (J4 .i64 (i_1+1)),dI i_2,dI i_3]∧M1 [dI (J4 .i64 (i_1+1)),dI i_2,dI i_3]<M1 [dI i_1,dI i_2,dI i_3]))) (bB (i_2==2) (bB (decide (i_3≥0)) (rO l0 i 66∧∃x,cU l0 i 0 66 (ck x [])∧rO l0 i_3 66∧∃x1,cU l0 i_3 0 66 (ck x1 [])∧∃b,Gv 105 [aC x,aC x1] [aB b]∧br b (rO l0 i 66∧∃b,cU l0 i 25 1 [Hx b]∧rO l0 i_3 66∧∃b1,cU l0 i_3 25 1 [Hx b1]∧bB (b==b1) (rO l0 i 66∧∃x,cU l0 i 0 66 (ck x [])∧rO l0 i_3 66∧∃x2,cU l0 i_3 46 20 (pk x2 [])∧I2 [dI i] [dI (0:Int),Hu []]∧∀(i_4:Int) (es:List (List D)),I2 [dI i] [dI i_4,Hu es]→bB (decide (i_4<(J8 l0.length))) (bB (i_4 !=i) (bB (i_4 !=i_3) (rO l0 i_4 66∧∃x,cU l0 i_4 0 66 (ck x [])∧(room (es.length+1)∧lens 66 [(ck x [])])∧I2 [dI i] [dI (J4 .i64 (i_4+1)),Hu (es++[(ck x [])])]∧M2 [dI (J4 .i64 (i_4+1)),Hu (es++[(ck x [])])]<M2 [dI i_4,Hu es]) (I2 [dI i] [dI (J4 .i64 (i_4+1)),Hu es]∧M2 [dI (J4 .i64 (i_4+1)),Hu es]<M2 [dI i_4,Hu es])) (I2 [dI i] [dI (J4 .i64 (i_4+1)),Hu es]∧M2 [dI (J4 .i64 (i_4+1)),Hu es]<M2 [dI i_4,Hu es])) ((room (es.length+1)∧lens 66 [(Hx (C66.arc x)::(rk (C66.la x) (rk (C66.lb x) (rk (C66.lc x) (rk (C66.cx x) (rk (C66.cy x) (rk (C66.cq x) (Hx (C66.cw x)::(pk (C66.fr x) (pk x2 []))))))))))])∧∃e1,Gv 76 [aL (es++[(Hx (C66.arc x)::(rk (C66.la x) (rk (C66.lb x) (rk (C66.lc x) (rk (C66.cx x) (rk (C66.cy x) (rk (C66.cq x) (Hx (C66.cw x)::(pk (C66.fr x) (pk x2 []))))))))))])] [aL e1]∧Q [aL e1])) (I0 [] [dI (J4 .i64 (i+1))]∧M0 [dI (J4 .i64 (i+1))]<M0 [dI i])) (I0 [] [dI (J4 .i64 (i+1))]∧M0 [dI (J4 .i64 (i+1))]<M0 [dI i])) (I0 [] [dI (J4 .i64 (i+1))]∧M0 [dI (J4 .i64 (i+1))]<M0 [dI i])) (I0 [] [dI (J4 .i64 (i+1))]∧M0 [dI (J4 .i64 (i+1))]<M0 [dI i]))) (Q [aL l0])):=by kernel_rfl
end
end Eng
end
section
namespace Eng
open Go Go.Proofs Rl
set_option maxRecDepth 100000
theorem Cz {all:List Cu} (ha:∀x∈all,Mo x) (i:Nat):∀x∈XC all i,Mo x:=by
 unfold XC;split
 ·rename_i c hc;have hm:=ha c (bd hc);exact Ac hm (XD (fun x hx=>(ha x hx).1) hm.1 i all.length).1
 ·simp
theorem UH {l:List Cu} (hl:∀c∈l,Gd c):∀x∈Xz l,Mo x:=by
 rw[We];have h1:∀x∈l.flatMap zi,Mo x:=by intro x hx;obtain⟨c,hc,hx⟩:=cr.1 hx;exact Rf (hl c hc) x hx
 intro x hx;unfold vN at hx;obtain⟨i,_,hx⟩:=cr.1 hx;exact Cz h1 i x hx
theorem Wh {l:List Cu} {i k:Nat} (hik:i≠k):∀j,j≤l.length→(kK l i k j).length+(if i<j then 1 else 0)+(if k<j then 1 else 0)=j
 |0,_=>by simp[kK]
 |j+1,h=>by
  have ih:=Wh (l:=l) hik j (by omega);unfold kK;rw[W1,T1 (l:=l) (i:=j) (by omega)];by_cases h1:j=i
  ·subst h1;rw[if_neg (show ¬(j≠j∧j≠k)by simp)];have e1:¬j<j:=by omega
   have e2:j<j+1:=by omega
   rw[if_neg e1]at ih;rw[if_pos e2];by_cases h3:k<j
   ·rw[if_pos h3]at ih;rw[if_pos (show k<j+1 by omega)];simp only[bm];omega
   ·rw[if_neg h3]at ih;rw[if_neg (show ¬k<j+1 by omega)];simp only[bm];omega
  ·by_cases h2:j=k
   ·subst h2;rw[if_neg (show ¬(j≠i∧j≠j)by simp)];have e1:¬j<j:=by omega
    have e2:j<j+1:=by omega
    rw[if_neg e1]at ih;rw[if_pos e2];by_cases h3:i<j
    ·rw[if_pos h3]at ih;rw[if_pos (show i<j+1 by omega)];simp only[bm];omega
    ·rw[if_neg h3]at ih;rw[if_neg (show ¬i<j+1 by omega)];simp only[bm];omega
   ·rw[if_pos ⟨h1,h2⟩];have e1:(i<j+1)=(i<j):=propext ⟨fun _=>by omega,fun _=>by omega⟩;have e2:(k<j+1)=(k<j):=propext ⟨fun _=>by omega,fun _=>by omega⟩;simp only[e1,e2,Option.toList_some,c1,bm];omega
theorem Wi {l:List Cu} {i k:Nat} {x:Cu}:∀{j},x∈kK l i k j→x∈l
 |0,h=>by simp[kK]at h
 |j+1,h=>by
  unfold kK at h;rcases W2.1 h with h|h
  ·exact Wi h
  ·split at h
   ·exact bd (Option.mem_toList.1 h)
   ·simp at h
theorem Rg {l:List Cu} {i k j:Nat} (h:j<l.length) (h1:j≠i) (h2:j≠k):kK l i k (j+1)=kK l i k j++[l[j]]:=by
 show kK l i k j++_=_;rw[if_pos ⟨h1,h2⟩,T1 h];rfl
theorem VF {l:List Cu} {i k j:Nat} (h:j=i∨j=k):kK l i k (j+1)=kK l i k j:=by
 show kK l i k j++_=_;rw[if_neg (by rcases h with h|h<;>simp[h]),List.append_nil]
theorem Oy (l:List Cu) (i k:Nat):∀j,(kK l i k j).length≤j
 |0=>by simp[kK]
 |j+1=>by
  have:=Oy l i k j;show(kK l i k j++_).length≤_;rw[W1];have:(if j≠i∧j≠k then l[j]?.toList else []).length≤1:=by
   split
   ·cases l[j]? <;>simp
   ·simp
  omega
def toT (c:Cu) (p:P5):Cu:=⟨c.arc,c.ln,c.ci,c.cw,c.fr,p,c.jk⟩
theorem VG {l:List Cu} (hl:∀c∈l,Mo c) {i:Nat} (hi:i<l.length) {k:Nat} (hk:P2 l i=some k):
 ∃hkl:k<l.length,i≠k∧(k:Int)=vU l l[i].tt∧YF l i=some (kK l i k l.length++[toT l[i] l[k].tt])∧Mo (toT l[i] l[k].tt):=by
 have a5:l[i]? =some l[i]:=T1 hi;have hk0:=hk;unfold P2 at hk;rw[a5]at hk;simp only at hk;split at hk
 ·rename_i hc;split at hk
  ·rename_i d hd;split at hk
   ·rename_i hs;simp only[eb]at hk;subst hk;obtain⟨hkl,a4⟩:=bx.1 hd;have a3:=V8 (f:=Rz l l[i].tt) (n:=l.length) hc.2;have a3:Rz l l[i].tt (vU l l[i].tt).toNat=true:=a3;unfold Rz at a3;rw[hd]at a3;have a3:wC d.fr l[i].tt=true:=a3;have a6:=hl _ (Ts hi);have hmd:Mo d:=hl d (bd hd);refine⟨hkl,fun e=>?_,by omega,?_,?_⟩
    ·have:d=l[i]:=by rw[←a4];simp only[←e]
     rw[this]at a3;have:=a6.1.sup.2.2;rw[this]at a3;cases a3
    ·unfold YF;rw[hk0];simp only[a5,hd,a4];rfl
    ·rw[a4];exact dx a6 hmd hs.1 hs.2 a3
   ·cases hk
  ·cases hk
 ·cases hk
theorem Qa {l:List Cu} {i:Nat} (h:P2 l i=none):YF l i=none:=by unfold YF;rw[h]
theorem UI {l:List Cu} (h:yx l l.length 0=none):w7 l=l:=by
 unfold w7;cases hl:l.length with
 |zero=>rfl
 |succ n=>rw[Q7,h]
theorem UJ {l m:List Cu} (h:yx l l.length 0=some m) (hm:m.length+1=l.length):w7 l=w7 m:=by
 unfold w7;rw[←hm,Q7,h]
theorem Wj {l:List Cu} {k:Nat} (h:k<l.length):yx l (l.length-k) k=match YF l k with
 |some m=>some m
 |none=>yx l (l.length-(k+1)) (k+1):=by
 have e:l.length-k=(l.length-(k+1))+1:=by omega
 rw[e];rfl
def mgI0 (l:List Cu) (_ ds:List D):Prop:=∃k:Nat,k≤l.length∧ds=[dI (k:Int)]∧yx l l.length 0=yx l (l.length-k) k
def mgI1 (l:List Cu) (gs ds:List D):Prop:=∃j:Nat,j≤l.length∧∃n:Nat,∃z,ds=[dI (j:Int),dI (n:Int),dI z]∧∀c,l[gK gs]? =some c→n=N5 l c.tt j∧z=kJ (Rz l c.tt) j
def mgI2 (l:List Cu) (gs ds:List D):Prop:=∃j:Nat,j≤l.length∧∃m,ds=[dI (j:Int),.sl (kUs m)]∧∀c,l[gK gs]? =some c→m=kK l (gK gs) (vU l c.tt).toNat j
theorem lY (x:C66):cut (ck x []) 25 1 [.bool (C66.cw x)]:=⟨rfl,by show 25+1≤66;omega⟩
theorem C1 {l:List Cu} {k:Nat} (h:k<l.length):cut (nth [] (kUs l) (Lm (k:Int))) 25 1 [.bool l[k].cw]:=by
 rw[J9,y9 h,←WM];exact lY _
theorem UK:∀(n:Nat) {l:List Cu},l.length=n→(∀c∈l,Mo c)→l.length≤6000000→qc CC 76 [aL (kUs l)] [aL (kUs (w7 l))]:=by
 intro n
 induction n using Nat.strongRecOn with
 |_ n ih=>
 intro l hln hl hn;have hv:=UG (qc CC) (mgI0 l) (zo 10000000) (mgI1 l) (zo 10000000) (mgI2 l) (zo 10000000) (kUs l) (· =[aL (kUs (w7 l))]);refine gOk Tryz.func76 hv ?_;clear hv;refine⟨⟨0,dl _,rfl,rfl⟩,?_⟩;rintro _ ⟨k,hk,he,a5⟩;simp only[cL,J3,and_true,true_and]at he;subst he;refine brd (fun h=>?_) (fun h=>?_)
 ·have a3:k<l.length:=by rw[qt]at h;simp only[J7]at h;omega
  have a8:l[k]? =some l[k]:=T1 a3;have ba:=hl _ (Ts a3);have b2:=ba.1.1.2.2;have next:YF l k=none→mgI0 l [] [dI (J4 .i64 ((k:Int)+1))]∧zo 10000000 [dI (J4 .i64 ((k:Int)+1))]<zo 10000000 [dI (k:Int)]:=by intro hj;refine⟨⟨k+1,a3,by rw[wI];rfl,?_⟩,qy⟩;rw[a5,Wj a3,hj]
  refine⟨xf a3,_,QD a3,⟨0,dl _,0, -1,rfl,fun c _=>⟨rfl,rfl⟩⟩,?_⟩;rintro _ _ z ⟨j,hj,m,z',he,ap⟩;simp only[cL,J3,and_true,true_and]at he;obtain⟨rfl,rfl,rfl⟩:=he;obtain⟨an,b8⟩:m=N5 l l[k].tt j∧z=kJ (Rz l l[k].tt) j:=ap _ a8;have hnb:=Ma l l[k].tt j;rw[←an]at hnb;refine brd (fun h1=>?_) (fun h1=>?_)
  ·have a4:j<l.length:=by rw[qt]at h1;simp only[J7]at h1;omega
   have b5:=hl _ (Ts a4);have cs:=UA l[k].tt a4;rw[←an]at cs;have b9:Rz l l[k].tt j=wC l[j].fr l[k].tt:=by unfold Rz;rw[T1 a4]
   have nx:∀(a:Nat) (b:Int),a=N5 l l[k].tt (j+1)→b=kJ (Rz l l[k].tt) (j+1)→mgI1 l [dI (k:Int)] [dI (J4 .i64 ((j:Int)+1)),dI (a:Int),dI b]:=by intro a b ha hb;refine⟨j+1,a4,a,b,by rw[wI];rfl,fun c hc=>?_⟩;have hc:l[k]? =some c:=hc;rw[a8]at hc;obtain rfl:=ed hc;exact⟨ha,hb⟩
   refine⟨xf a4,_,LZ a4,_,wW b5.1.1.2.1 b2,?_⟩;refine zH (fun h3=>?_) (fun h3=>?_)
   ·have ad:(j:Int)=kJ (Rz l l[k].tt) (j+1):=by rw[wY,b9,if_pos h3]
    refine⟨xf a4,_,QD a4,_,wW b5.1.1.2.2 b2,?_⟩;rw[Ra (show m≤100000000 by omega),Ra (show m+1≤100000000 by omega)];refine zH (fun h4=>?_) (fun h4=>?_)
    ·exact⟨nx _ _ (by rw[cs,if_pos h3,if_pos h4]) ad,qy⟩
    ·exact⟨nx _ _ (by rw[cs,if_pos h3,if_neg (by rw[h4];simp)]) ad,qy⟩
   ·have ad:z=kJ (Rz l l[k].tt) (j+1):=by rw[wY,b9,if_neg (by rw[h3];simp),b8]
    refine⟨xf a4,_,QD a4,_,wW b5.1.1.2.2 b2,?_⟩;rw[Ra (show m≤100000000 by omega)];refine zH (fun h4=>?_) (fun h4=>?_)
    ·exact⟨nx _ _ (by rw[cs,if_neg (by rw[h3];simp),if_pos h4]) ad,qy⟩
    ·exact⟨nx _ _ (by rw[cs,if_neg (by rw[h3];simp),if_neg (by rw[h4];simp)];omega) ad,qy⟩
  ·have a4:j=l.length:=by rw[qt]at h1;simp only[J7]at h1;omega
   have he2:m=wo l l[k].tt:=by rw[an,a4];rfl
   have al:z=vU l l[k].tt:=by rw[b8,a4];rfl
   have bc:=Gh (Rz l l[k].tt) l.length;have bc: -1≤z∧z<(l.length:Int):=by rw[al];exact bc
   have jk:P2 l k=if wo l l[k].tt=2∧0≤vU l l[k].tt then
    (match l[(vU l l[k].tt).toNat]? with
     |some d=>if jw l[k] d=true∧l[k].cw=d.cw then some (vU l l[k].tt).toNat else none
     |none=>none)
    else none:=by unfold P2;rw[a8];rfl
   rw[←he2,←al]at jk;refine brb (fun h2=>?_) (fun h2=>?_)
   ·have b4:m=2:=by simp only[beq_iff_eq]at h2;omega
    refine brd (fun h3=>?_) (fun h3=>?_)
    ·obtain⟨q,rfl⟩:∃q:Nat,z=(q:Int):=⟨z.toNat,by omega⟩;have a6:q<l.length:=by omega
     have hmq:=hl _ (Ts a6);rw[if_pos ⟨b4,by omega⟩,J9,T1 a6]at jk;simp only at jk;refine⟨xf a3,_,xa a3,xf a6,_,xa a6,_,Zo ba.1.1.1 hmq.1.1.1,?_⟩;refine zH (fun h4=>?_) (fun h4=>?_)
     ·refine⟨xf a3,_,C1 a3,xf a6,_,C1 a6,?_⟩;refine brb (fun h5=>?_) (fun h5=>?_)
      ·have b1:l[k].cw=l[q].cw:=by simpa using h5
       rw[if_pos ⟨h4,b1⟩]at jk;obtain⟨_,hne,hq2,hje,hmw⟩:=VG hl a3 jk;have b3:=Wh (l:=l) hne l.length (dc _);rw[if_pos a3,if_pos a6]at b3;refine⟨xf a3,_,xa a3,xf a6,_,QD a6,⟨0,dl _,[],rfl,fun c _=>rfl⟩,?_⟩;rintro _ _ ⟨t,ht,r,he,hr⟩;simp only[cL,J3,D.sl.injEq,and_true,true_and]at he;obtain⟨rfl,rfl⟩:=he;have hr:r=kK l k (vU l l[k].tt).toNat t:=hr _ a8;rw[←al,J9]at hr;have hrl:=Oy l k q t;rw[←hr]at hrl;refine brd (fun h6=>?_) (fun h6=>?_)
       ·have a7:t<l.length:=by rw[qt]at h6;simp only[J7]at h6;omega
        have b7:∀w,w=kK l k q (t+1)→mgI2 l [dI (k:Int)] [dI (J4 .i64 ((t:Int)+1)),.sl (kUs w)]:=by intro w hw;refine⟨t+1,a7,w,by rw[wI];rfl,fun c hc=>?_⟩;have hc:l[k]? =some c:=hc;rw[a8]at hc;obtain rfl:=ed hc;show w=kK l k (vU l l[k].tt).toNat (t+1);rw[←al,J9];exact hw
        refine brb (fun h7=>?_) (fun h7=>?_)
        ·have n1:t≠k:=fun e=>by rw[e]at h7;simp at h7
         refine brb (fun h8=>?_) (fun h8=>?_)
         ·have n2:t≠q:=fun e=>by rw[e]at h8;simp at h8
          refine⟨xf a7,_,xa a7,⟨by unfold Eng.room;rw[qt];omega,fun e he=>by rw[P1.1 he];rfl⟩,?_⟩;have e1:kUs r++[ck (kU l[t]) []]=kUs (r++[l[t]]):=by rw[wA];rfl
          rw[e1];exact⟨b7 _ (by rw[Rg a7 n1 n2,hr]),qy⟩
         ·have n2:t=q:=by
           have:¬((t:Int) !=(q:Int))=true:=by rw[h8];simp
           simp at this;omega
          exact⟨b7 _ (by rw[VF (.inr n2),hr]),qy⟩
        ·have n1:t=k:=by
          have:¬((t:Int) !=(k:Int))=true:=by rw[h7];simp
          simp at this;omega
         exact⟨b7 _ (by rw[VF (.inl n1),hr]),qy⟩
       ·have a7:t=l.length:=by rw[qt]at h6;simp only[J7]at h6;omega
        have hw:=BT l[k] l[k].fr l[q].tt;rw[←jv l[k]]at hw;have e1:kUs r++[ck (kU {l[k]with fr:=l[k].fr,tt:=l[q].tt}) []]=kUs (r++[toT l[k] l[q].tt]):=by rw[wA];rfl
        rw[hw,e1];have bb:r=kK l k q l.length:=by rw[hr,a7]
        have ag:(r++[toT l[k] l[q].tt]).length+1=l.length:=by rw[W1,be,bb];omega
        have hfm:yx l l.length 0=some (r++[toT l[k] l[q].tt]):=by rw[a5,Wj a3,hje,bb]
        have b6:=ih (r++[toT l[k] l[q].tt]).length (by omega) (l:=r++[toT l[k] l[q].tt]) rfl (fun x hx=>by
         rcases W2.1 hx with hx|hx
         ·rw[hr]at hx;exact hl x (Wi hx)
         ·rw[P1.1 hx];exact hmw) (by omega)
        rw[UJ hfm ag];exact⟨⟨by unfold Eng.room;rw[qt];omega,fun e he=>by rw[P1.1 he];rfl⟩,_,b6,rfl⟩
      ·have b1:¬l[k].cw=l[q].cw:=by simpa using h5
       rw[if_neg (fun z=>b1 z.2)]at jk;exact next (Qa jk)
     ·rw[if_neg (fun z=>by rw[h4]at z;cases z.1)]at jk;exact next (Qa jk)
    ·rw[if_neg (fun z=>h3 (by omega))]at jk;exact next (Qa jk)
   ·have b4:m≠2:=by simp only[beq_eq_false_iff_ne,ne_eq]at h2;omega
    rw[if_neg (fun z=>b4 z.1)]at jk;exact next (Qa jk)
 ·have a3:k=l.length:=by rw[qt]at h;simp only[J7]at h;omega
  rw[a3,Nat.sub_self]at a5;rw[UI a5]
end Eng
end
section
namespace Eng
open Go Go.Proofs Rl
set_option maxRecDepth 100000
theorem Ad {l:List Cu} (hl:∀c∈l,Mo c) {i:Nat} {m:List Cu} (h:YF l i=some m):(∀c∈m,Mo c)∧m.length+1=l.length:=by
 have hj:=h;unfold YF at h;split at h
 ·cases h
 ·rename_i k hk;split at h
  ·rename_i c d hc hd;obtain⟨hi,rfl⟩:=bx.1 hc;obtain⟨hkl,hne,_,he,hm⟩:=VG hl hi hk;rw[hj,eb]at he;have a3:=Wh (l:=l) hne l.length (dc _);rw[if_pos hi,if_pos hkl]at a3;subst he;refine⟨fun x hx=>?_,by rw[W1,be];omega⟩;rcases W2.1 hx with hx|hx
   ·exact hl x (Wi hx)
   ·rw[P1.1 hx];exact hm
  ·cases h
theorem UL {l:List Cu} (hl:∀c∈l,Mo c) {m:List Cu}:∀{n i:Nat},yx l n i=some m→(∀c∈m,Mo c)∧m.length+1=l.length
 |0,_,h=>by cases h
 |n+1,i,h=>by
  unfold yx at h;split at h
  ·rename_i m' hm';cases h;exact Ad hl hm'
  ·exact UL hl h
theorem VH:∀(n:Nat) {l:List Cu},(∀c∈l,Mo c)→(∀c∈Q7 n l,Mo c)∧(Q7 n l).length≤l.length
 |0,l,h=>⟨h,dc _⟩
 |n+1,l,h=>by
  unfold Q7;split
  ·exact⟨h,dc _⟩
  ·rename_i m hm;obtain⟨h1,h2⟩:=UL h hm;obtain⟨h3,h4⟩:=VH n h1;exact⟨h3,by omega⟩
theorem VI {l:List Cu} (h:∀c∈l,Mo c):(∀c∈w7 l,Mo c)∧(w7 l).length≤l.length:=VH _ h
theorem C2 {l:List Cu} (hl:∀c∈l,Gd c):∀c∈ZQ l,Mo c:=fun c hc=>
 (VI fun x hx=>UH hl x (Oi hx)).1 c (LX hc)
theorem Gq {l:List Cu} (hl:∀c∈l,Gc c):(∀c∈(w9 l).1,Mo c)∧(w9 l).1.length≤400:=by
 unfold w9;split
 ·simp
 ·split
  ·simp
  ·split
   ·simp
   ·split
    ·simp
    ·rename_i h1 h2 h3 h4;refine⟨C2 fun c hc=>⟨hl c hc,?_⟩,by simpa using h4⟩;have h2:l.all WL=true:=by simpa using h2
     exact V1.1 h2 c hc
def flI (l:List Cu) (_ ds:List D):Prop:=∃k:Nat,k≤l.length∧ds=[dI (k:Int)]∧(l.take k).all WL=true
theorem Z3 {l:List Cu} (hl:∀c∈l,Gc c) (hn:l.length≤6000000):qc CC 41 [aL (kUs l)] [.ag [.sl (kUs (w9 l).1)],.c (dI (w9 l).2)]:=by
 have hv:=PW (qc CC) (flI l) (zo 10000000) (kUs l) (· =[.ag [.sl (kUs (w9 l).1)],.c (dI (w9 l).2)]);refine gOk Tryz.func41 hv ?_;clear hv;rw[qt];refine brd (fun h=>?_) (fun h0=>?_)
 ·have:400<l.length:=by simp only[J7]at h;omega
  unfold w9;rw[if_pos this];rfl
 have a5:¬400<l.length:=by simp only[J7]at h0;omega
 refine⟨⟨0,dl _,rfl,rfl⟩,?_⟩;rintro _ ⟨k,hk,he,a3⟩;simp only[cL,J3,and_true,true_and]at he;subst he;refine brd (fun h=>?_) (fun h=>?_)
 ·have a4:k<l.length:=by simp only[J7]at h;omega
  have hx:=hl _ (Ts a4);have ok:=xf a4;refine⟨ok,_,xa a4,_,Mb hx,?_⟩;cases hb:WL l[k]with
  |false=>
   have:l.all WL=false:=by
    cases h2:l.all WL with
    |false=>rfl
    |true=>rw[V1.1 h2 _ (Ts a4)]at hb;cases hb
   refine brb (fun _=>?_) (fun h=>by cases h);unfold w9;rw[if_neg a5,if_pos this];rfl
  |true=>refine brb (fun h=>by cases h) (fun _=>?_);refine⟨⟨k+1,a4,by rw[wI];rfl,?_⟩,qy⟩;rw[U0 a4,c3,a3,Dd];simp[hb]
 ·have a4:k=l.length:=by simp only[J7]at h;omega
  rw[a4,bs]at a3;have a6:∀c∈l,Gd c:=fun c hc=>⟨hl c hc,V1.1 a3 c hc⟩
  refine⟨_,Rb hl hn,?_⟩;have e1:w9 l=if Bt l=true then([],8)else if 400<(ZQ l).length then([],3)else(ZQ l,0):=by unfold w9;rw[if_neg a5,if_neg (by rw[a3];simp)]
  refine zH (fun h2=>?_) (fun h2=>?_)
  ·rw[e1,if_pos h2];rfl
  ·rw[if_neg (by rw[h2];simp)]at e1;obtain⟨p1,p2⟩:=Cd a6 (by omega);have pm:=UH a6;have om:∀c∈Ir (Xz l),Mo c:=fun x hx=>pm x (Oi hx)
   have ol:=FX (Xz l);obtain⟨mm,ml⟩:=VI om;refine⟨_,LP a6 (by omega),_,Cg p1 p2,_,UK _ rfl om (by omega),_,U9 (fun c hc=>(mm c hc).1) (by omega),?_⟩;show br (toB (Hx (decide ((J8 (kUs (ZQ l)).length)>(400:Int))))) _ _;rw[qt];refine brd (fun h=>?_) (fun h=>?_)
   ·have:400<(ZQ l).length:=by simp only[J7]at h;omega
    rw[e1,if_pos this];rfl
   ·have:¬400<(ZQ l).length:=by simp only[J7]at h;omega
    rw[e1,if_neg this];rfl
end Eng
end
section
open Go Go.Proofs Eng
namespace Eng
section
variable (Gv:Nat→List A→List A→Prop) (I0:List D→List D→Prop) (M0:List D→Nat) (I1:List D→List D→Prop) (M1:List D→Nat) (I2:List D→List D→Prop) (M2:List D→Nat) (I3:List D→List D→Prop) (M3:List D→Nat) (Q:List A→Prop)
theorem Ae (i0:Int) (i1:Int):wpF CC Gv an0 Tryz.f34 [.c (.int .i64 i0),.c (.int .i64 i1)] Q=(bB (i1==0) (∃b es,Gv 43 [aI (0:Int)] [aZ b es]∧∃b1 e1,Gv 43 [aI (1:Int)] [aZ b1 e1]∧∃x,Gv 59 [aZ b es,aZ b1 e1] [aR x]∧Q [aR x]) (∃b es,Gv 43 [aI i0] [aZ b es]∧∃b1 e1,Gv 43 [aI i1] [aZ b1 e1]∧∃x,Gv 59 [aZ b es,aZ b1 e1] [aR x]∧Q [aR x])):=by kernel_rfl
theorem Gr (l0:List (List D)) (Q:List A→Prop):wpF CC Gv (fun _=>⟨[.slot 4 (.int .i64 0),.own 3 36 66],[],I0,M0⟩) Tryz.f84 [.c (.sl l0)] Q=(I0 [] [dI (0:Int),Hu []]∧∀(i:Int) (es:List (List D)),I0 [] [dI i,Hu es]→bB (decide (i<(J8 l0.length))) (rO l0 i 8∧∃x x1,cU l0 i 0 8 (rk x (rk x1 []))∧(J8 l0.length)≠0∧(0≤Lr (J4 .i64 (i+1)) (J8 l0.length)∧Lr (J4 .i64 (i+1)) (J8 l0.length)<(J8 l0.length)∧bh (nth [] l0 (Lm (Lr (J4 .i64 (i+1)) (J8 l0.length))))=8)∧∃x2 x3,cut (nth [] l0 (Lm (Lr (J4 .i64 (i+1)) (J8 l0.length)))) 0 8 (rk x2 (rk x3 []))∧∃x4 i_1,Gv 146 [aV x x1,aV x2 x3] [aC x4,aI i_1]∧bB (i_1==0) ((room (es.length+1)∧lens 66 [(ck x4 [])])∧I0 [] [dI (J4 .i64 (i+1)),Hu (es++[(ck x4 [])])]∧M0 [dI (J4 .i64 (i+1)),Hu (es++[(ck x4 [])])]<M0 [dI i,Hu es]) (I0 [] [dI (J4 .i64 (i+1)),Hu es]∧M0 [dI (J4 .i64 (i+1)),Hu es]<M0 [dI i,Hu es])) (Q [aL es])):=by kernel_rfl
theorem Af (x0:Int) (y0:Int) (u0:Int):wpF CC Gv an0 Tryz.f143 [.c (.int .i8 x0),.c (.int .i8 y0),.c (.int .u8 u0)] Q=((4:Int)≠(0:Int)∧∃x,Gv 34 [aI (J4 .i64 x0),aI (J4 .i64 (J4 .i64 (Lr u0 (4:Int))+1))] [aR x]∧∃x1,Gv 34 [aI (J4 .i64 y0),aI (J4 .i64 (J4 .i64 (Lr u0 (4:Int))+1))] [aR x1]∧∃x2 x3,Gv 85 [aR x,aR x1] [aV x2 x3]∧Q [aV x2 x3]):=by kernel_rfl
theorem UM (r0:R4) (r1:R4):wpF CC Gv an0 Tryz.f85 [.ag (rk r0 []),.ag (rk r1 [])] Q=(Q [aV r0 r1]):=by kernel_rfl
theorem UN (k0:Int) (u0:Int) (a0:Int) (b0:Int) (c0:Int) (d0:Int) (l0:List (List D)) (Q:List A→Prop):wpF CC Gv (fun _=>⟨[.slot 6 (.int .i64 0),.own 5 81 8],[],I0,M0⟩) Tryz.f82 [.ag [.int .u8 k0,.int .u8 u0,.int .i8 a0,.int .i8 b0,.int .i8 c0,.int .i8 d0,.sl l0]] Q=(∃x x1,Gv 143 [F2 (Hv .i8 a0),F2 (Hv .i8 b0),F2 (Hv .u8 u0)] [aV x x1]∧∃x2 x3,Gv 143 [F2 (Hv .i8 c0),F2 (Hv .i8 d0),F2 (Hv .u8 u0)] [aV x2 x3]∧(3:Int)≠(0:Int)∧bB (Lr k0 (3:Int)==(0:Int)) (∃x4 x5,Gv 85 [aR x2,aR x1] [aV x4 x5]∧∃x6 x7,Gv 85 [aR x,aR x3] [aV x6 x7]∧∃es,Gv 84 [aL [(rk x (rk x1 [])),(rk x4 (rk x5 [])),(rk x2 (rk x3 [])),(rk x6 (rk x7 []))]] [aL es]∧Q [aL es]) (bB (Lr k0 (3:Int)==(1:Int)) (∃i,Gv 72 [aR x2] [aI i]∧bB (decide (i≤0)) (Q [aL []]) (∃es,Gv 42 [aT x x1 x2] [aL es]∧Q [aL es])) (I0 [] [dI (0:Int),Hu []]∧∀(i:Int) (es:List (List D)),I0 [] [dI i,Hu es]→bB (decide (i<(J8 l0.length))) (rO l0 i 2∧∃i_1,cU l0 i 0 1 [Hv .i8 i_1]∧rO l0 i 2∧∃i_2,cU l0 i 1 1 [Hv .i8 i_2]∧∃x x4,Gv 143 [F2 (Hv .i8 i_1),F2 (Hv .i8 i_2),F2 (Hv .u8 u0)] [aV x x4]∧(room (es.length+1)∧lens 8 [(rk x (rk x4 []))])∧I0 [] [dI (J4 .i64 (i+1)),Hu (es++[(rk x (rk x4 []))])]∧M0 [dI (J4 .i64 (i+1)),Hu (es++[(rk x (rk x4 []))])]<M0 [dI i,Hu es]) (∃e1,Gv 84 [aL es] [aL e1]∧Q [aL e1])))):=by kernel_rfl
theorem C3 (l0:List (List D)) (i0:Int) (Q:List A→Prop):wpF CC Gv (fun _=>⟨[.slot 7 (.int .i64 0),.own 6 40 66],[],I0,M0⟩) Tryz.f45 [.c (.sl l0),.c (.int .i64 i0)] Q=(I0 [] [dI (0:Int),Hu []]∧∀(i:Int) (es:List (List D)),I0 [] [dI i,Hu es]→bB (decide (i<(J8 l0.length))) (bB (decide ((J8 l0.length)>i0)) (Q [aL [],aB false]) (rO l0 i 7∧∃e1,cU l0 i 6 1 [Hu e1]∧bB (decide ((J8 e1.length)>i0)) (Q [aL [],aB false]) (rO l0 i 7∧∃i_1 i_2 i_3 i_4 i_5 i_6 e2,cU l0 i 0 7 [Hv .u8 i_1,Hv .u8 i_2,Hv .i8 i_3,Hv .i8 i_4,Hv .i8 i_5,Hv .i8 i_6,Hu e2]∧∃e3,Gv 82 [F0 [Hv .u8 i_1,Hv .u8 i_2,Hv .i8 i_3,Hv .i8 i_4,Hv .i8 i_5,Hv .i8 i_6,Hu e2]] [aL e3]∧(room (es.length+e3.length)∧lens 66 e3)∧I0 [] [dI (J4 .i64 (i+1)),Hu (es++e3)]∧M0 [dI (J4 .i64 (i+1)),Hu (es++e3)]<M0 [dI i,Hu es]))) (Q [aL es,aB (decide ((J8 es.length)≤i0))])):=by kernel_rfl
theorem Mf (l0:List (List D)) (i0:Int):wpF CC Gv an0 Tryz.f22 [.c (.sl l0),.c (.int .i64 i0)] Q=(∃es b,Gv 45 [aL l0,aI i0] [aL es,aB b]∧bB (!b) (Q [F0 [Hu []],aB false]) (∃e1 i,Gv 41 [aL es] [F0 [Hu e1],aI i]∧bB (i==0) (Q [F0 [Hu e1],aB (decide ((J8 e1.length)≤i0))]) (Q [F0 [Hu e1],aB false]))):=by kernel_rfl
theorem Rh (r0:R4) (r1:R4) (r2:R4):wpF CC Gv an0 Tryz.f20 [.ag (rk r0 (rk r1 (rk r2 [])))] Q=(∃b,Gv 40 [aT r0 r1 r2] [aB b]∧bB (!b) (Q [F0 [Hu []],aI (1:Int)]) (∃es,Gv 42 [aT r0 r1 r2] [aL es]∧∃e1 i,Gv 41 [aL es] [F0 [Hu e1],aI i]∧Q [F0 [Hu e1],aI i])):=by kernel_rfl
theorem Mg (l0:List (List D)):wpF CC Gv an0 Tryz.f50 [.ag [.sl l0]] Q=(∃es i,Gv 41 [aL l0] [F0 [Hu es],aI i]∧bB (i==0) (∃b,Gv 33 [F0 [Hu l0],F0 [Hu es]] [aB b]∧Q [aB b]) (Q [aB false])):=by kernel_rfl
theorem Mh (l0:List (List D)) (l1:List (List D)) (Q:List A→Prop):wpF CC Gv (fun _=>⟨[.slot 5 (.int .i64 0)],[],I0,M0⟩) Tryz.f33 [.ag [.sl l0],.ag [.sl l1]] Q=(bB ((J8 l0.length) !=(J8 l1.length)) (Q [aB false]) (I0 [] [dI (0:Int)]∧∀(i:Int),I0 [] [dI i]→bB (decide (i<(J8 l0.length))) (rO l0 i 66∧∃x,cU l0 i 0 66 (ck x [])∧rO l1 i 66∧∃x1,cU l1 i 0 66 (ck x1 [])∧∃b,Gv 58 [aC x,aC x1] [aB b]∧bB (!b) (Q [aB false]) (I0 [] [dI (J4 .i64 (i+1))]∧M0 [dI (J4 .i64 (i+1))]<M0 [dI i])) (Q [aB true]))):=by kernel_rfl
theorem Ri (l0:List (List D)):wpF CC Gv an0 Tryz.f51 [.ag [.sl l0]] Q=(bB ((J8 l0.length) !=2) (Q [aB false]) (((0:Int)≤(0:Int)∧0<(J8 l0.length)∧bh (nth [] l0 0)=66)∧∃b,cut (nth [] l0 0) 0 1 [Hx b]∧bB (!b) (Q [aB false]) (((0:Int)≤(1:Int)∧1<(J8 l0.length)∧bh (nth [] l0 1)=66)∧∃b,cut (nth [] l0 1) 0 1 [Hx b]∧bB (!b) (Q [aB false]) (((0:Int)≤(0:Int)∧0<(J8 l0.length)∧bh (nth [] l0 0)=66)∧∃x x1 x2,cut (nth [] l0 0) 13 12 (rk x (rk x1 (rk x2 [])))∧((0:Int)≤(1:Int)∧1<(J8 l0.length)∧bh (nth [] l0 1)=66)∧∃x3 x4 x5,cut (nth [] l0 1) 13 12 (rk x3 (rk x4 (rk x5 [])))∧∃b,Gv 91 [aT x x1 x2,aT x3 x4 x5] [aB b]∧bB (!b) (Q [aB false]) (((0:Int)≤(0:Int)∧0<(J8 l0.length)∧bh (nth [] l0 0)=66)∧∃x x6 x7,cut (nth [] l0 0) 13 12 (rk x (rk x6 (rk x7 [])))∧∃es i,Gv 20 [aT x x6 x7] [F0 [Hu es],aI i]∧∃b,Gv 33 [F0 [Hu l0],F0 [Hu es]] [aB b]∧Q [aB b]))))):=by kernel_rfl
theorem Mi (s0:List UInt8) (k0:Int) (d0:Int) (l0:List (List D)) (i0:Int):wpF CC Gv an0 Tryz.f26 [.ag [.str s0,.int .i64 k0,.int .i64 d0,.sl l0],.c (.int .i64 i0)] Q=(∃b,Gv 49 [F2 (Hy s0)] [aB b]∧bB (!b) (Q [aB false]) (∃b,Gv 50 [F0 [Hu l0]] [aB b]∧bB (!b) (Q [aB false]) (bB ((J8 l0.length)==0) (Q [aB false]) (bB (decide (d0<1)) (Q [aB false]) (bB (decide (d0>i0)) (Q [aB false]) (bB (k0==1) (Q [aB true]) (bB (k0==3) (∃b,Gv 51 [F0 [Hu l0]] [aB b]∧Q [aB b]) (bB (k0==4) (Q [aB (d0==i0)]) (Q [aB false]))))))))):=by kernel_rfl
theorem Mj (t0:Int) (l0:List (List D)) (Q:List A→Prop):wpF CC Gv (eO ⟨[.slot 4 (.int .i64 0),.slot 3 (.int .i64 0)],[],I0,M0⟩ ⟨[.slot 5 (.int .i64 0)],[],I1,M1⟩ ⟨[.slot 6 (.int .i64 0)],[.slot 5 (.int .i64 0)],I2,M2⟩) Tryz.f8 [.ag [.int .i64 t0,.sl l0]] Q=(bB (decide ((J8 l0.length)>40)) (Q [aI (3:Int)]) (bB (decide (t0<1)) (Q [aI (1:Int)]) (bB (decide (t0>10000000)) (Q [aI (1:Int)]) (I0 [] [dI (0:Int),dI (0:Int)]∧∀(i i_1:Int),I0 [] [dI i,dI i_1]→bB (decide (i<(J8 l0.length))) (rO l0 i 4∧∃s i_2 i_3 es,cU l0 i 0 4 [Hy s,dI i_2,dI i_3,Hu es]∧∃b,Gv 26 [F0 [Hy s,dI i_2,dI i_3,Hu es],aI t0] [aB b]∧bB (!b) (Q [aI (1:Int)]) (rO l0 i 4∧∃i_4,cU l0 i 1 1 [dI i_4]∧bB (i_4==4) (I0 [] [dI (J4 .i64 (i+1)),dI (J4 .i64 (i_1+1))]∧M0 [dI (J4 .i64 (i+1)),dI (J4 .i64 (i_1+1))]<M0 [dI i,dI i_1]) (I0 [] [dI (J4 .i64 (i+1)),dI i_1]∧M0 [dI (J4 .i64 (i+1)),dI i_1]<M0 [dI i,dI i_1]))) (bB (decide (i_1>1)) (Q [aI (1:Int)]) (I1 [] [dI (0:Int)]∧∀(i:Int),I1 [] [dI i]→bB (decide (i<(J8 l0.length))) (I2 [dI i] [dI (0:Int)]∧∀(i_2:Int),I2 [dI i] [dI i_2]→bB (decide (i_2<i)) (rO l0 i 4∧∃s,cU l0 i 0 1 [Hy s]∧rO l0 i_2 4∧∃s1,cU l0 i_2 0 1 [Hy s1]∧bB (s==s1) (Q [aI (5:Int)]) (I2 [dI i] [dI (J4 .i64 (i_2+1))]∧M2 [dI (J4 .i64 (i_2+1))]<M2 [dI i_2])) (I1 [] [dI (J4 .i64 (i+1))]∧M1 [dI (J4 .i64 (i+1))]<M1 [dI i])) (Q [aI (0:Int)]))))))):=by kernel_rfl
end
end Eng
end
section
namespace Eng
open Go Go.Proofs Rl
set_option maxRecDepth 100000
theorem jZ {α:Type} (f:α→List D) (l:List α):(l.map f).length=l.length:=bv ..
theorem ZV {α:Type} (f:α→List D) {l:List α} {i:Nat} (h:i<l.length):nth [] (l.map f) i=f l[i]:=by
 rw[qI];simp[h]
theorem Z5 {α:Type} {f:α→List D} {n:Nat} (hf:∀x,(f x).length=n) {l:List α} {k:Nat} (h:k<l.length):((0:Int)≤(k:Int)∧(k:Int)<J8 (l.map f).length∧bh (nth [] (l.map f) (Lm (k:Int)))=n):=by
 rw[J9,ZV f h,jZ,hf];exact⟨by omega,by simp only[J7];omega,rfl⟩
theorem C4:∀(l pre:List D),seg (pre++l) pre.length l.length=l
 |[],_=>rfl
 |d::l,pre=>by show nth .undef (pre++d::l) pre.length::seg (pre++d::l) (pre.length+1) l.length=d::l;have h:=C4 l (pre++[d]);rw[List.append_assoc,W1,be]at h;rw[show pre++d::l=pre++([d]++l)from rfl,h];rw[qI];simp
theorem ZW {α:Type} {f:α→List D} {n:Nat} (hf:∀x,(f x).length=n) {l:List α} {k:Nat} (h:k<l.length):cut (nth [] (l.map f) (Lm (k:Int))) 0 n (f l[k]):=by
 rw[J9,ZV f h];have:=hf l[k];refine⟨?_,by omega⟩;rw[←this];exact C4 (f l[k]) []
def WN (a b:Vc):Prop:=a.y-b.y=0∧b.x-a.x=0
instance (a b:Vc):Decidable (WN a b):=inferInstanceAs (Decidable (_∧_))
theorem Mk {a b:Vc} (ha:HV a) (hb:HV b):HL (Jk a b):=by
 have h1:Hz 41 (a.y-b.y):=ha.2.sub hb.2 (by omega);have h2:Hz 41 (b.x-a.x):=hb.1.sub ha.1 (by omega);exact⟨h1.mono (by omega),h2.mono (by omega),(h1.mul ha.1 (l:=61)).add (h2.mul ha.2 (l:=61)) (by omega)⟩
theorem UO {a b:Vc} (ha:HV a) (hb:HV b) (h:¬WN a b):qc CC 207 [.ag (kV a),.ag (kV b)] [.ag (kL (Jk a b) []),aI 0]:=by
 refine wpG Tryz.func207 ((ZS ..).mpr ?_);have h1:Hz 41 (a.y-b.y):=ha.2.sub hb.2 (by omega);have h2:Hz 41 (b.x-a.x):=hb.1.sub ha.1 (by omega);have m1:Hz 61 ((a.y-b.y)*a.x):=h1.mul ha.1 (by omega);have m2:Hz 61 ((b.x-a.x)*a.y):=h2.mul ha.2 (by omega);refine⟨_,X6 ha.2 hb.2,_,X6 hb.1 ha.1,_,zM _,brb (fun e=>?_) (fun e=>?_)⟩
 ·refine⟨_,zM _,brb (fun e2=>?_) (fun e2=>?_)⟩
  ·exact absurd ⟨KA.1 (by simpa using e),KA.1 (by simpa using e2)⟩ h
  ·exact⟨_,zu h1 ha.1,_,zu h2 ha.2,_,Jq m1 m2,rfl⟩
 ·exact⟨_,zu h1 ha.1,_,zu h2 ha.2,_,Jq m1 m2,rfl⟩
theorem UP {a b:Vc} (ha:HV a) (hb:HV b) (h:WN a b):∃x0 x1 x2,qc CC 207 [.ag (kV a),.ag (kV b)] [.ag (rk x0 (rk x1 (rk x2 []))),aI 6]:=by
 refine⟨z4A,z4A,z4A,?_⟩;refine wpG Tryz.func207 ((ZS ..).mpr ?_);refine⟨_,X6 ha.2 hb.2,_,X6 hb.1 ha.1,_,zM _,brb (fun e=>?_) (fun e=>?_)⟩
 ·refine⟨_,zM _,brb (fun e2=>?_) (fun e2=>?_)⟩
  ·rfl
  ·have:¬sr (b.x-a.x)=0:=by simpa using e2
   exact absurd (KA.2 h.2) this
 ·have:¬sr (a.y-b.y)=0:=by simpa using e
  exact absurd (KA.2 h.1) this
def lZ (a b:Vc):Cu:=⟨false,Jk a b,⟨0,0,0⟩,false,atV a,atV b,Z4⟩
theorem Oz {a b:Vc} (h:¬WN a b):oo a b=some (lZ a b):=if_neg h
theorem C5 {a b:Vc} (h:WN a b):oo a b=none:=if_pos h
theorem C6 {v:Vc} (h:HV v):Gp (atV v):=⟨⟨h.1.mono (by omega),Hz.zero,h.2.mono (by omega),Hz.zero,Hz.zero⟩,N9 v⟩
theorem dy {a b:Vc} (ha:HV a) (hb:HV b) (h:¬WN a b):Gc (lZ a b):=
 ⟨⟨rfl,.inr ⟨rfl,Mk ha hb,h⟩⟩,C6 ha,C6 hb⟩
theorem Gt {a b:Vc} (ha:HV a) (hb:HV b) (h:¬WN a b):qc CC 146 [.ag (kV a),.ag (kV b)] [aC (kU (lZ a b)),aI 0]:=by
 refine wpG Tryz.func146 ((X4 ..).mpr ?_);refine⟨_,_,_,_,UO ha hb h,brb (fun e=>by simp at e) (fun _=>?_)⟩;exact⟨_,Zn a,_,Zn b,rfl⟩
theorem Gu {a b:Vc} (ha:HV a) (hb:HV b) (h:WN a b):∃x,qc CC 146 [.ag (kV a),.ag (kV b)] [aC x,aI 6]:=by
 refine⟨⟨false,z4A,z4A,z4A,z4A,z4A,z4A,false,⟨z4A,z4A,z4A,z4A,z4A⟩,⟨z4A,z4A,z4A,z4A,z4A⟩⟩,?_⟩;obtain⟨x0,x1,x2,hx⟩:=UP ha hb h;refine wpG Tryz.func146 ((X4 ..).mpr ?_);refine⟨_,_,_,_,hx,brb (fun _=>rfl) (fun e=>by simp at e)⟩
theorem Gw {c:Ci} (hc:HC c) (h:0<c.q):∀x∈Lg c,Gc x:=by
 obtain⟨l,r⟩:=Jt hc h;intro x hx;simp only[Lg,U3,cc,or_false]at hx;rcases hx with rfl|rfl
 ·exact⟨⟨rfl,.inl ⟨rfl,hc,h⟩⟩,l,r⟩
 ·exact⟨⟨rfl,.inl ⟨rfl,hc,h⟩⟩,r,l⟩
theorem VJ {c:Ci} (hc:HC c) (h:0<c.q):qc CC 42 [.ag (kC c [])] [aL (kUs (Lg c))]:=by
 refine wpG Tryz.func42 ((PJ ..).mpr ?_);exact⟨_,_,X7 hc h,rfl⟩
noncomputable def Ml (l:List Vc) (i:Nat):List Cu:=match l[i]?,l[(i+1)%l.length]? with
 |some a,some b=>(oo a b).toList
 |_,_=>[]
noncomputable def yC (l:List Vc) (k:Nat):List Cu:=(List.range k).flatMap (Ml l)
noncomputable def Ah (l:List Vc):List Cu:=yC l l.length
theorem QF (l:List Vc) (k:Nat):yC l (k+1)=yC l k++Ml l k:=by
 unfold yC;rw[List.range_succ,cb];simp
theorem Ai {l:List Vc} {i:Nat} (h:i<l.length):Ml l i=(oo l[i] (l[(i+1)%l.length]'(dn _ (by omega)))).toList:=by
 unfold Ml;rw[T1 h,T1 (dn _ (by omega))]
theorem Aj {l:List Vc} (hl:∀v∈l,HV v) (i:Nat):(∀c∈Ml l i,Gc c)∧(Ml l i).length≤1:=by
 unfold Ml;split
 ·rename_i a b ha hb;by_cases h:WN a b
  ·rw[C5 h];simp
  ·rw[Oz h];simp only[Option.toList_some,P1,be];exact⟨fun c hc=>by rw[hc];exact dy (hl a (bd ha)) (hl b (bd hb)) h,dc _⟩
 ·simp
theorem XF {l:List Vc} (hl:∀v∈l,HV v):∀k,(∀c∈yC l k,Gc c)∧(yC l k).length≤k
 |0=>by simp[yC]
 |k+1=>by
  obtain⟨h1,h2⟩:=XF hl k;obtain⟨h3,h4⟩:=Aj hl k;rw[QF];refine⟨fun c hc=>?_,by rw[W1];omega⟩;rcases W2.1 hc with h|h
  ·exact h1 c h
  ·exact h3 c h
def pgI (l:List Vc) (_ ds:List D):Prop:=∃k:Nat,k≤l.length∧ds=[dI (k:Int),.sl (kUs (yC l k))]
theorem O0 (v:Vc):(kV v).length=8:=rfl
theorem XG {l:List Vc} (hl:∀v∈l,HV v) (hn:l.length≤1000000):qc CC 84 [aL (l.map kV)] [aL (kUs (Ah l))]:=by
 have hv:=Gr (qc CC) (pgI l) (zo 10000000) (l.map kV) (· =[aL (kUs (Ah l))]);refine gOk Tryz.func84 hv ?_;clear hv;refine⟨⟨0,dl _,rfl⟩,?_⟩;rintro _ _ ⟨k,hk,he⟩;simp only[cL,J3,D.sl.injEq,and_true,true_and]at he;obtain⟨rfl,rfl⟩:=he;refine brd (fun h=>?_) (fun h=>?_)
 ·have a3:k<l.length:=by rw[jZ]at h;simp only[J7]at h;omega
  obtain⟨m,hm⟩:∃m,(k+1)%l.length=m:=⟨_,rfl⟩;have a4:m<l.length:=by rw[←hm];exact dn _ (by omega)
  have a5:Lr (J4 .i64 ((k:Int)+1)) (J8 (l.map kV).length)=(m:Int):=by rw[wI,jZ,←hm];show Lr ((k+1:Nat):Int) (l.length:Int)=_;rw[←No]
  have sa:=Ai a3;have sm:(l[(k+1)%l.length]'(dn _ (by omega)))=l[m]:=by simp only[hm]
  rw[sm]at sa;obtain⟨g1,g2⟩:=XF hl k;rw[a5];refine⟨Z5 O0 a3,_,_,ZW O0 a3,by rw[jZ];simp only[J7];omega,Z5 O0 a4,_,_,ZW O0 a4,?_⟩;have ha:=hl _ (Ts a3);have hb:=hl _ (Ts a4);have nx:∀w,w=yC l (k+1)→pgI l [] [dI (J4 .i64 ((k:Int)+1)),.sl (kUs w)]:=by intro w hw;exact⟨k+1,a3,by rw[wI,hw];rfl⟩
  by_cases hs:WN l[k] l[m]
  ·obtain⟨x,hx⟩:=Gu ha hb hs;refine⟨_,_,hx,brb (fun e=>by simp at e) (fun _=>?_)⟩;refine⟨nx _ (by rw[QF,sa,C5 hs];simp),qy⟩
  ·refine⟨_,_,Gt ha hb hs,brb (fun _=>?_) (fun e=>by simp at e)⟩;refine⟨⟨by unfold Eng.room;rw[qt];omega,fun e he=>by rw[P1.1 he];rfl⟩,?_⟩;have e1:kUs (yC l k)++[ck (kU (lZ l[k] l[m])) []]=kUs (yC l k++[lZ l[k] l[m]]):=by rw[wA];rfl
   rw[e1];exact⟨nx _ (by rw[QF,sa,Oz hs];rfl),qy⟩
 ·have a3:k=l.length:=by rw[jZ]at h;simp only[J7]at h;omega
  rw[a3];rfl
end Eng
end
section
namespace Eng
open Go Go.Proofs Rl
set_option maxRecDepth 100000
structure Fm where
 k:Nat
 u:Nat
 a:Int
 b:Int
 c:Int
 d:Int
 cs:List (Int×Int)
def sm8 (z:Int):Prop:= -128≤z∧z<128
def Fm.ok (f:Fm):Prop:=f.k<256∧f.u<256∧sm8 f.a∧sm8 f.b∧sm8 f.c∧sm8 f.d∧∀p∈f.cs,sm8 p.1∧sm8 p.2
def kPr (p:Int×Int):List D:=[.int .i8 p.1,.int .i8 p.2]
def kFm (f:Fm):List D:=[.int .u8 f.k,.int .u8 f.u,.int .i8 f.a,.int .i8 f.b,.int .i8 f.c,.int .i8 f.d,.sl (f.cs.map kPr)]
theorem C7 (p:Int×Int):(kPr p).length=2:=rfl
theorem C8 (f:Fm):(kFm f).length=7:=rfl
def vtR (x y:Int) (u:Nat):Vc:=⟨el x ((u%4:Nat)+1),el y ((u%4:Nat)+1)⟩
theorem Jw {x n:Int} (hx:x.natAbs≤100000) (h0:0<n) (hn:n≤100000):qc CC 34 [aI x,aI n] [aR (q4 (el x n))]:=by
 refine wpG Tryz.func34 ((Ae ..).mpr ?_);have s:∀z:Int,z.natAbs≤100000→Sm z:=fun z hz=>by have h:Hz 5 (z:Rat):=Hz.int (by rw[show(10:Nat)^5=100000 by decide];exact hz);have:=(h.sr (by omega)).1;rw[Rat.num_intCast]at this;unfold Sm;exact Nat.lt_of_lt_of_le this (by unfold Vq Zg;exact Nat.pow_le_pow_right (by omega) (by omega))
 refine brb (fun e=>?_) (fun e=>?_)
 ·simp at e;omega
 ·exact⟨_,_,zg (by omega) (by omega),_,_,zg (by omega) (by omega),q4 (el x n),Nv jF (s x hx) (s n (by omega)) (by omega),rfl⟩
theorem yD {x:Int} {u:Nat} (hx:sm8 x):Hz 3 (el x ((u%4:Nat)+1)):=by
 have:=dn u (show 4>0 by omega);refine Hz.divInt (by omega) ?_ ?_
 ·rw[show(10:Nat)^3=1000 by decide];obtain⟨h1,h2⟩:=hx;omega
 ·rw[show(10:Nat)^3=1000 by decide];omega
theorem C9 {x y:Int} {u:Nat} (hx:sm8 x) (hy:sm8 y):HV (vtR x y u):=⟨(yD hx).mono (by omega),(yD hy).mono (by omega)⟩
theorem yE (x y:Rat):qc CC 85 [aR (q4 x),aR (q4 y)] [.ag (kV ⟨x,y⟩)]:=by
 refine wpG Tryz.func85 ((UM ..).mpr ?_);rfl
theorem Gx {x y:Int} {u:Nat} (hx:sm8 x) (hy:sm8 y):qc CC 143 [.c (.int .i8 x),.c (.int .i8 y),.c (.int .u8 u)] [.ag (kV (vtR x y u))]:=by
 refine wpG Tryz.func143 ((Af ..).mpr ?_);obtain⟨x1,x2⟩:=hx;obtain⟨y1,y2⟩:=hy;have e:Lr (u:Int) 4=((u%4:Nat):Int):=by rw[show(4:Int)=((4:Nat):Int)from rfl,←No]
 have hm:=dn u (show 4>0 by omega);rw[e,wI (n:=x) (by omega),wI (n:=y) (by omega),wI (n:=((u%4:Nat):Int)) (by omega),wI];exact⟨by omega,_,Jw (by omega) (by omega) (by omega),_,Jw (by omega) (by omega) (by omega),_,_,yE _ _,rfl⟩
noncomputable def kW (f:Fm):List Cu:=
 if f.k%3=0 then Ah [vtR f.a f.b f.u,⟨(vtR f.c f.d f.u).x,(vtR f.a f.b f.u).y⟩,vtR f.c f.d f.u,⟨(vtR f.a f.b f.u).x,(vtR f.c f.d f.u).y⟩]
 else if f.k%3=1 then(if sr (vtR f.c f.d f.u).x≤0 then []else Lg ⟨(vtR f.a f.b f.u).x,(vtR f.a f.b f.u).y,(vtR f.c f.d f.u).x⟩)
 else Ah (f.cs.map fun p=>vtR p.1 p.2 f.u)
theorem IM {f:Fm} (h:f.ok):∀v∈f.cs.map (fun p=>vtR p.1 p.2 f.u),HV v:=by
 intro v hv;obtain⟨p,hp,rfl⟩:=cH.1 hv;obtain⟨h1,h2⟩:=h.2.2.2.2.2.2 p hp;exact C9 h1 h2
theorem IN {f:Fm} (h:f.ok):∀v∈[vtR f.a f.b f.u,⟨(vtR f.c f.d f.u).x,(vtR f.a f.b f.u).y⟩,vtR f.c f.d f.u,⟨(vtR f.a f.b f.u).x,(vtR f.c f.d f.u).y⟩],HV v:=by
 obtain⟨_,_,ha,hb,hc,hd,_⟩:=h;have p:=C9 (u:=f.u) ha hb;have q:=C9 (u:=f.u) hc hd;intro v hv;simp only[U3,cc,or_false]at hv;rcases hv with rfl|rfl|rfl|rfl
 ·exact p
 ·exact⟨q.1,p.2⟩
 ·exact q
 ·exact⟨p.1,q.2⟩
theorem VK {f:Fm} (h:f.ok):(∀c∈kW f,Gc c)∧(kW f).length≤f.cs.length+4:=by
 unfold kW;split
 ·obtain⟨h1,h2⟩:=XF (IN h) 4;exact⟨h1,ea h2 (by omega)⟩
 ·split
  ·split
   ·simp
   ·rename_i _ _ h0;obtain⟨_,_,ha,hb,hc,hd,_⟩:=h;refine⟨Gw ⟨(yD ha).mono (by omega),(yD hb).mono (by omega),(yD hc).mono (by omega)⟩ (show 0<(vtR f.c f.d f.u).x from N7.1 (by omega)),by simp[Lg]⟩
  ·obtain⟨h1,h2⟩:=XF (IM h) (f.cs.map fun p=>vtR p.1 p.2 f.u).length;exact⟨h1,ea h2 (by rw[bv];omega)⟩
def cvI (f:Fm) (_ ds:List D):Prop:=∃k:Nat,k≤f.cs.length∧ds=[dI (k:Int),.sl (((f.cs.take k).map fun p=>vtR p.1 p.2 f.u).map kV)]
theorem dz {l:List (Int×Int)} {k:Nat} (h:k<l.length):cut (nth [] (l.map kPr) (Lm (k:Int))) 0 1 [.int .i8 l[k].1]:=by
 rw[J9,ZV kPr h];exact⟨rfl,by show 0+1≤2;omega⟩
theorem dA {l:List (Int×Int)} {k:Nat} (h:k<l.length):cut (nth [] (l.map kPr) (Lm (k:Int))) 1 1 [.int .i8 l[k].2]:=by
 rw[J9,ZV kPr h];exact⟨rfl,by show 1+1≤2;omega⟩
theorem UQ {f:Fm} (h:f.ok) (hn:f.cs.length≤1000):qc CC 82 [.ag (kFm f)] [aL (kUs (kW f))]:=by
 have hv:=UN (qc CC) (cvI f) (zo 10000000) f.k f.u f.a f.b f.c f.d (f.cs.map kPr) (· =[aL (kUs (kW f))]);refine gOk Tryz.func82 hv ?_;clear hv;have hk:=h;obtain⟨h1,h2,ha,hb,hc,hd,hcs⟩:=hk;have a4:Lr (f.k:Int) 3=((f.k%3:Nat):Int):=by rw[show(3:Int)=((3:Nat):Int)from rfl,←No]
 have hm:=dn f.k (show 3>0 by omega);rw[a4];refine⟨_,_,Gx ha hb,_,_,Gx hc hd,by omega,brb (fun e=>?_) (fun e=>?_)⟩
 ·have e:f.k%3=0:=by simp only[beq_iff_eq]at e;omega
  refine⟨_,_,yE _ _,_,_,yE _ _,_,XG (IN h) (by simp),?_⟩;unfold kW;rw[if_pos e]
 ·have e:¬f.k%3=0:=by simp only[beq_eq_false_iff_ne,ne_eq]at e;omega
  refine brb (fun e2=>?_) (fun e2=>?_)
  ·have e2:f.k%3=1:=by simp only[beq_iff_eq]at e2;omega
   refine⟨_,zM _,brd (fun e3=>?_) (fun e3=>?_)⟩
   ·unfold kW;rw[if_neg e,if_pos e2,if_pos e3];rfl
   ·refine⟨_,VJ (c:=⟨(vtR f.a f.b f.u).x,(vtR f.a f.b f.u).y,(vtR f.c f.d f.u).x⟩) ⟨(yD ha).mono (by omega),(yD hb).mono (by omega),(yD hc).mono (by omega)⟩ (show 0<(vtR f.c f.d f.u).x from N7.1 (by omega)),?_⟩;unfold kW;rw[if_neg e,if_pos e2,if_neg e3]
  ·have e2:¬f.k%3=1:=by simp only[beq_eq_false_iff_ne,ne_eq]at e2;omega
   refine⟨⟨0,dl _,rfl⟩,?_⟩;rintro _ _ ⟨k,hk,he⟩;simp only[cL,J3,D.sl.injEq,and_true,true_and]at he;obtain⟨rfl,rfl⟩:=he;refine brd (fun h3=>?_) (fun h3=>?_)
   ·have a3:k<f.cs.length:=by rw[jZ]at h3;simp only[J7]at h3;omega
    obtain⟨p1,p2⟩:=hcs _ (Ts a3);refine⟨Z5 C7 a3,_,dz a3,Z5 C7 a3,_,dA a3,_,_,Gx p1 p2,⟨by unfold Eng.room;rw[jZ,bv,cv];omega,fun e he=>by rw[P1.1 he];rfl⟩,?_,qy⟩;refine⟨k+1,a3,?_⟩;rw[wI,U0 a3,c2,c2];rfl
   ·have a3:k=f.cs.length:=by rw[jZ]at h3;simp only[J7]at h3;omega
    rw[a3,bs];refine⟨_,XG (IM h) (by rw[bv];omega),?_⟩;unfold kW;rw[if_neg e,if_neg e2]
noncomputable def Ak (s:List Fm):List Cu:=s.flatMap kW
def ma (s:List Fm) (m:Nat):Bool:=s.all fun f=>decide (s.length≤m)&&decide (f.cs.length≤m)
noncomputable def js (s:List Fm) (m:Nat):List Cu×Bool:=if ma s m=true then(Ak s,decide ((Ak s).length≤m))else([],false)
noncomputable def Qq (s:List Fm) (m:Nat):List Cu×Bool:=
 if(js s m).2=true then((w9 (js s m).1).1,decide ((w9 (js s m).1).2=0∧(w9 (js s m).1).1.length≤m))else([],false)
theorem CE {s:List Fm} (hs:∀f∈s,f.ok) {m:Nat}:(∀c∈Ak s,Gc c)∧((∀f∈s,f.cs.length≤m)→(Ak s).length≤s.length*(m+4)):=by
 unfold Ak
 induction s with
 |nil=>simp
 |cons f r ih=>
  obtain⟨h1,h2⟩:=ih fun x hx=>hs x (ca _ hx)
  obtain⟨h3,h4⟩:=VK (hs f (bw ..));rw[List.flatMap_cons];refine⟨fun c hc=>?_,fun hm=>?_⟩
  ·rcases W2.1 hc with h|h
   ·exact h3 c h
   ·exact h1 c h
  ·have:=h2 fun x hx=>hm x (ca _ hx)
   have h5:=hm f (bw ..);rw[W1,c1,Nat.add_mul,Nat.one_mul];omega
def alI (s:List Fm) (m:Nat) (_ ds:List D):Prop:=∃k:Nat,k≤s.length∧ds=[dI (k:Int),.sl (kUs (Ak (s.take k)))]∧(s.take k).all (fun f=>decide (s.length≤m)&&decide (f.cs.length≤m))=true
theorem dB {l:List Fm} {k:Nat} (h:k<l.length):cut (nth [] (l.map kFm) (Lm (k:Int))) 6 1 [.sl (l[k].cs.map kPr)]:=by
 rw[J9,ZV kFm h];exact⟨rfl,by show 6+1≤7;omega⟩
theorem CF {s:List Fm} (hs:∀f∈s,f.ok) {m:Nat} (hm:m≤400):qc CC 45 [aL (s.map kFm),aI m] [aL (kUs (js s m).1),.c (.bool (js s m).2)]:=by
 have hv:=C3 (qc CC) (alI s m) (zo 10000000) (s.map kFm) m (· =[aL (kUs (js s m).1),.c (.bool (js s m).2)]);refine gOk Tryz.func45 hv ?_;clear hv;have a6:ma s m=false→[F2 (Hu []),aB false]=[aL (kUs (js s m).1),.c (.bool (js s m).2)]:=by intro h;unfold js;rw[if_neg (by rw[h];simp)];rfl
 refine⟨⟨0,dl _,rfl,rfl⟩,?_⟩;rintro _ _ ⟨k,hk,he,a4⟩;simp only[cL,J3,D.sl.injEq,and_true,true_and]at he;obtain⟨rfl,rfl⟩:=he;rw[jZ];have a5:∀h:k<s.length,(decide (s.length≤m)&&decide (s[k].cs.length≤m))=false→ma s m=false:=by
  intro h hb;cases hh:ma s m with
  |false=>rfl
  |true=>have:=V1.1 hh _ (Ts h);rw[this]at hb;cases hb
 refine brd (fun h3=>?_) (fun h3=>?_)
 ·have a3:k<s.length:=by simp only[J7]at h3;omega
  have hf:=hs _ (Ts a3);have ok:=Z5 C8 a3;refine brd (fun h4=>?_) (fun h4=>?_)
  ·have:¬s.length≤m:=by simp only[J7]at h4;omega
   exact a6 (a5 a3 (by simp[this]))
  ·have h4:s.length≤m:=by simp only[J7]at h4;omega
   refine⟨ok,_,dB a3,brd (fun h5=>?_) (fun h5=>?_)⟩
   ·have:¬s[k].cs.length≤m:=by rw[jZ]at h5;simp only[J7]at h5;omega
    exact a6 (a5 a3 (by simp[this]))
   ·have h5:s[k].cs.length≤m:=by rw[jZ]at h5;simp only[J7]at h5;omega
    have hsk:∀f∈s.take k,f.ok:=fun f hf=>hs f (List.mem_of_mem_take hf)
    have hkm:∀f∈s.take k,f.cs.length≤m:=fun f hf=>by have:=V1.1 a4 f hf;simp only[Aw,decide_eq_true_eq]at this;exact this.2
    have l1:=(CE hsk).2 hkm;have l2:=(VK hf).2;have l3:(s.take k).length*(m+4)≤400*404:=Nat.mul_le_mul (by rw[cv];omega) (by omega);refine⟨ok,_,_,_,_,_,_,_,ZW C8 a3,_,UQ hf (by omega),⟨by unfold Eng.room;rw[qt,qt];omega,vL _⟩,?_,qy⟩;refine⟨k+1,a3,?_,?_⟩
    ·rw[wI,←wA,U0 a3];have:Ak (s.take k++[s[k]])=Ak (s.take k)++kW s[k]:=by unfold Ak;rw[cb];simp
     rw[this];rfl
    ·rw[U0 a3,c3,a4,Dd];simp[h4,h5]
 ·have a3:k=s.length:=by simp only[J7]at h3;omega
  rw[a3,bs]at a4 ⊢;have e:ma s m=true:=a4;unfold js;rw[if_pos e,qt];simp only[cL,A.c.injEq,D.bool.injEq,true_and,and_true,decide_eq_decide];simp only[J7];omega
theorem UR {s:List Fm} (hs:∀f∈s,f.ok) (m:Nat):∀c∈(js s m).1,Gc c:=by
 unfold js;split
 ·exact(CE hs (m:=m)).1
 ·simp
theorem Mm {s:List Fm} (hs:∀f∈s,f.ok) {m:Nat} (hm:m≤400):qc CC 22 [aL (s.map kFm),aI m] [.ag [.sl (kUs (Qq s m).1)],.c (.bool (Qq s m).2)]:=by
 refine wpG Tryz.func22 ((Mf ..).mpr ?_);refine⟨_,_,CF hs hm,?_⟩;cases hb:(js s m).2 with
 |false=>refine brb (fun _=>?_) (fun h=>by cases h);unfold Qq;rw[if_neg (by rw[hb];simp)];rfl
 |true=>
  refine brb (fun h=>by cases h) (fun _=>?_);have hl:(js s m).1.length≤m:=by
   unfold js at hb ⊢;split at hb
   ·rename_i h1;rw[if_pos h1];simpa using hb
   ·cases hb
  refine⟨_,_,Z3 (UR hs m) (by omega),?_⟩;unfold Qq;rw[if_pos hb,qt];refine brb (fun h=>?_) (fun h=>?_)
  ·have h:(w9 (js s m).1).2=0:=by simpa using h
   simp only[h,true_and,J7,Int.ofNat_le]
  ·have h:¬(w9 (js s m).1).2=0:=by simpa using h
   simp only[h,false_and,decide_false]
theorem CG {s:List Fm} (hs:∀f∈s,f.ok) (m:Nat):(∀c∈(Qq s m).1,Mo c)∧(Qq s m).1.length≤400:=by
 unfold Qq;split
 ·exact Gq (UR hs m)
 ·simp
noncomputable def Gy (c:Ci):List Cu×Int:=w9 (Lg c)
theorem VL {c:Ci} (hc:HC c) (h:0<c.q):qc CC 20 [.ag (kC c [])] [.ag [.sl (kUs (Gy c).1)],.c (dI (Gy c).2)]:=by
 refine wpG Tryz.func20 ((Rh ..).mpr ?_);exact⟨_,ZU hc h,brb (fun h=>by cases h) (fun _=>⟨_,VJ hc h,_,_,Z3 (Gw hc h) (by simp[Lg]),rfl⟩)⟩
theorem O1 {c:Ci} (hc:HC c) (h:0<c.q):(∀x∈(Gy c).1,Mo x)∧(Gy c).1.length≤400:=Gq (Gw hc h)
end Eng
end
section
open Go Go.Proofs Eng
namespace Eng
section
variable (Gv:Nat→List A→List A→Prop) (I0:List D→List D→Prop) (M0:List D→Nat) (I1:List D→List D→Prop) (M1:List D→Nat) (I2:List D→List D→Prop) (M2:List D→Nat) (I3:List D→List D→Prop) (M3:List D→Nat) (Q:List A→Prop)
theorem Rj (c0:Int):wpF CC Gv an0 Tryz.f89 [.c (.int .u8 c0)] Q=(bB (decide (c0≥97)) (bB (decide (c0≤122)) (Q [aB true]) (bB (decide (c0≥65)) (Q [aB (decide (c0≤90))]) (Q [aB false]))) (bB (decide (c0≥65)) (Q [aB (decide (c0≤90))]) (Q [aB false]))):=by kernel_rfl
theorem CH (c0:Int):wpF CC Gv an0 Tryz.f154 [.c (.int .u8 c0)] Q=(bB (decide (c0≥48)) (Q [aB (decide (c0≤57))]) (Q [aB false])):=by kernel_rfl
theorem Al (s0:List UInt8):wpF CC Gv (fun _=>⟨[.slot 3 (.int .i64 0)],[],I0,M0⟩) Tryz.f90 [.c (.str s0)] Q=(I0 [] [dI (0:Int)]∧∀(i:Int),I0 [] [dI i]→bB (decide (i<(J8 s0.length))) ((0≤i∧i<(J8 s0.length))∧∃b,Gv 89 [F2 (Hv .u8 (J8 (en (nth 0 s0 (Lm i)))))] [aB b]∧br b (I0 [] [dI (J4 .i64 (i+1))]∧M0 [dI (J4 .i64 (i+1))]<M0 [dI i]) ((0≤i∧i<(J8 s0.length))∧∃b,Gv 154 [F2 (Hv .u8 (J8 (en (nth 0 s0 (Lm i)))))] [aB b]∧br b (I0 [] [dI (J4 .i64 (i+1))]∧M0 [dI (J4 .i64 (i+1))]<M0 [dI i]) ((0≤i∧i<(J8 s0.length))∧bB ((J8 (en (nth 0 s0 (Lm i))))==95) (I0 [] [dI (J4 .i64 (i+1))]∧M0 [dI (J4 .i64 (i+1))]<M0 [dI i]) ((0≤i∧i<(J8 s0.length))∧bB ((J8 (en (nth 0 s0 (Lm i))))==45) (I0 [] [dI (J4 .i64 (i+1))]∧M0 [dI (J4 .i64 (i+1))]<M0 [dI i]) (Q [aI i]))))) (Q [aI i])):=by kernel_rfl
theorem Rk (s0:List UInt8):wpF CC Gv an0 Tryz.f49 [.c (.str s0)] Q=(bB (decide ((J8 s0.length)>0)) (bB (decide ((J8 s0.length)≤24)) (((0:Int)≤(0:Int)∧0<(J8 s0.length))∧∃b,Gv 89 [F2 (Hv .u8 (J8 (en (nth 0 s0 (Lm (0:Int))))))] [aB b]∧br b (∃i,Gv 90 [F2 (Hy s0)] [aI i]∧Q [aB (i==(J8 s0.length))]) (Q [aB false])) (Q [aB false])) (Q [aB false])):=by kernel_rfl
end
end Eng
end
section
namespace Eng
open Go
end Eng
end
section
namespace Eng
open Go
def isD (c:UInt8):Bool:=decide (48≤c.toNat)&&decide (c.toNat≤57)
end Eng
end
section
namespace Eng
open Go Go.Proofs
structure V2 where
 x:Rat
 y:Rat
end Eng
end
section
namespace Eng
open Go
end Eng
end
section
namespace Eng
open Go
end Eng
end
section
namespace Eng
open Go
def ltr (c:UInt8):Bool:=(decide (97≤c.toNat)&&decide (c.toNat≤122))||(decide (65≤c.toNat)&&decide (c.toNat≤90))
def nmc (c:UInt8):Bool:=ltr c||(isD c||(decide (c=95)||decide (c=45)))
structure Tk where
 kind:Nat
 pos:Nat
 text:List UInt8
def GA (p:UInt8→Bool):List UInt8→Nat
 |[]=>0
 |c::s=>match p c with
  |true=>GA p s+1
  |false=>0
inductive Sc where
 |blank
 |tok (kind n:Nat)
 |bad (e:Nat)
structure Li where
 number:Nat
 toks:List Tk
end Eng
end
section
namespace Eng
open Go
end Eng
end
section
namespace Eng
open Go
structure B4 where
 x0:Rat
 y0:Rat
 x1:Rat
 y1:Rat
structure Ce where
 b:B4
 k:Option V2
end Eng
end
section
namespace Eng
open Go
end Eng
end
