/- Arcs in one half of their circle (plain). -/
import Derived.Test.YtfipmjpmflmbbaaGreatPaD
import Derived.Test.YtfipmjpmflmbbaaGreatPaA
import Derived.KernelRfl
import Derived.Lib.ItoaNum
open Bool renaming and_eq_true→Aw, eq_false_or_eq_true→Bx, true_and→Dd
open Eng.A renaming ag→F0, c→F2
open Eng.D renaming sl→Hu, int→Hv, bool→Hx, str→Hy
open Eng.D.int renaming injEq→J3
open Go.IntKind renaming wrap→J4
open Int renaming ofNat_eq_natCast→J7, ofNat→J8, toNat_natCast→J9, toNat→Lm, tmod→Lr, le_of_lt→Ls, lt_or_eq_of_le→Lv, ofNat_tmod→No, lt_or_le→Pl
open List renaming mem_singleton→P1, getElem_mem→Ts, getElem?_eq_getElem→T1, take_succ_eq_append_getElem→U0, mem_cons→U3, all_eq_true→V1, pairwise_cons→W0, length_append→W1, mem_append→W2, mem_of_getElem?→bc, length_singleton→bd, length→be, length_nil→bh, take_length→bm, length_map→bs, mem_cons_self→bv, getElem?_eq_some_iff→bw, mem_map→bx, mem_cons_of_mem→ca, flatMap_append→cb, not_mem_nil→cc, mem_flatMap→cv, length_take→c1, length_cons→c2, map_append→c3, all_append→c4
open List.cons renaming injEq→c5
open Nat renaming le_refl→c9, zero_le→cH, mod_lt→cL, le_trans→dc
open Option.some renaming injEq→dk, inj→dl
open Rat renaming divInt→dn
open UInt8 renaming toNat→ea
set_option maxRecDepth 1000000
section
namespace Eng
open Rl
def low (c:Ci) (p:P5):Prop:=onC c p∧cY c p≤0
def upp (c:Ci) (p:P5):Prop:=onC c p∧0≤cY c p
theorem Oa {c:Ci} {p q:P5} (h:ZJ p q):upB c p=upB c q:=by unfold upB;rw[h.1,h.2]
def atR (c:Ci) (p:P5):Prop:=onC c p∧cY c p=0∧0<cX c p
def atL (c:Ci) (p:P5):Prop:=onC c p∧cY c p=0∧cX c p<0
theorem Zu {c:Ci} {r q:P5} (hr:atR c r) (hq:onC c q):px q≤px r:=by
 have:=NZ (hr.1.trans hq.symm) hr.2.1 hr.2.2;intro k;exact this (lM.2 k)
theorem Zv {c:Ci} {l q:P5} (hl:atL c l) (hq:onC c q):px l≤px q:=by
 have e:∀z:Rl, -z* -z=z*z:=fun z=>by rw[Pj,HH,WB]
 have h1:(-cX c l)*(-cX c l)+cY c l*cY c l=(-cX c q)*(-cX c q)+cY c q*cY c q:=by rw[e,e];exact hl.1.trans hq.symm
 have:=NZ h1 hl.2.1 (xB.2 hl.2.2);intro k;exact this (AV.2 (lM.2 k))
theorem Ir {c:Ci} {p:P5} (h:atR c p):upB c p=true:=Zr.2 (.inr h.2)
theorem Is {c:Ci} {p:P5} (h:atL c p):upB c p=false:=by
 cases hb:upB c p with
 |false=>rfl
 |true=>
  rcases Zr.1 hb with k|k
  ·rw[h.2.1]at k;exact absurd k (kB _)
  ·exact absurd k.2 (vE h.2.2)
theorem V7 {c:Ci} {p:P5} (h:low c p) (hu:upB c p=true):atR c p:=by
 rcases Zr.1 hu with k|k
 ·exact absurd k h.2
 ·exact⟨h.1,k⟩
theorem PR {c:Ci} (hq:0<c.q) {p:P5} (h:upp c p) (hu:upB c p=false):atL c p:=by
 obtain⟨h1,h2⟩:=U7 hu;have hy:cY c p=0:=zy h1 h.2;refine⟨h.1,hy,jD (h2 hy) fun e=>?_⟩;have h3:=h.1;unfold onC at h3;rw[hy,e,ml0,ad0]at h3;have:ofR c.q=ofR 0:=h3.symm;rw[K2]at this
 grind
theorem Iu {c:Ci} {r q:P5} (hr:atR c r) (hq:onC c q) (hu:upB c q=false):px q<px r:=by
 refine jD (Zu hr hq) fun e=>?_
 have hy:cY c q=0:=by
  have h1:cX c q=cX c r:=by unfold cX;rw[e]
  have h2:=hr.1.trans hq.symm;rw[h1]at h2;have:=U6 h2;rw[hr.2.1,ml0]at this;exact Gk this.symm
 have hs:=Gl hq hr.1 e (.inl ⟨by rw[hy];exact jH,by rw[hr.2.1];exact jH⟩);rw[Oa hs,Ir hr]at hu;cases hu
theorem Cb {c:Ci} {l q:P5} (hl:atL c l) (hq:onC c q) (hu:upB c q=true):px l<px q:=by
 refine jD (Zv hl hq) fun e=>?_
 have hy:cY c q=0:=by
  have h1:cX c q=cX c l:=by unfold cX;rw[e]
  have h2:=hl.1.trans hq.symm;rw[h1]at h2;have:=U6 h2;rw[hl.2.1,ml0]at this;exact Gk this.symm
 have hs:=Gl hq hl.1 e.symm (.inl ⟨by rw[hy];exact jH,by rw[hl.2.1];exact jH⟩);rw[Oa hs,Is hl]at hu;cases hu
theorem wS {c:Ci} {p q:P5} (hp:low c p) (hq:low c q):qx c p q=sg (px p-px q):=by
 unfold qx;cases h1:upB c p<;>cases h2:upB c q
 ·simp
 ·rw[if_neg (by simp),if_pos rfl,U5 (Iu (V7 hq h2) hp.1 h1)]
 ·rw[if_neg (by simp),if_neg (by simp),V5 (Iu (V7 hp h1) hq.1 h2)]
 ·have r1:=V7 hp h1;have r2:=V7 hq h2;have e:px p=px q:=zy (Zu r2 r1.1) (Zu r1 r2.1);rw[if_pos rfl,if_pos rfl,e,sbs,zH];rfl
theorem cK {c:Ci} {f p q:P5} (hf:low c f) (hp:low c p) (hq:low c q) (h1:px f≤px p) (h2:px f≤px q):vF c f p q=sg (px p-px q):=by
 have e:∀x,low c x→px f≤px x→decide (qx c x f<0)=false:=fun x hx k=>by rw[wS hx hf];exact decide_eq_false fun h=>k (XA.1 h)
 unfold vF;rw[e p hp h1,e q hq h2,if_pos rfl,wS hp hq]
theorem lO {c:Ci} (h0:0<c.q) {f p q:P5} (_:upp c f) (hfu:upB c f=true) (hp:upp c p) (hq:upp c q) (h1:px p≤px f) (h2:px q≤px f):vF c f p q=sg (px q-px p):=by
 have e:∀x,upp c x→px x≤px f→decide (qx c x f<0)=!upB c x:=fun x hx k=>by
  unfold qx;rw[hfu];cases hb:upB c x with
  |true=>
   rw[if_pos rfl,if_pos rfl];refine decide_eq_false fun h=>?_
   exact k (KZ.1 (by omega))
  |false=>rw[if_neg (by simp),if_pos rfl];rfl
 have e2:qx c q f<0↔upB c q=false:=by
  have:=e q hq h2;cases hb:upB c q with
  |true=>rw[hb]at this;simpa using this
  |false=>rw[hb]at this;simpa using this
 unfold vF;rw[e p hp h1,e q hq h2];cases hbp:upB c p<;>cases hbq:upB c q
 ·have l1:=PR h0 hp hbp;have l2:=PR h0 hq hbq;have e:px p=px q:=zy (Zv l1 l2.1) (Zv l2 l1.1);rw[if_pos rfl];unfold qx;rw[hbp,hbq,if_pos rfl,if_neg (by simp),e]
 ·rw[if_neg (by simp),if_neg (by rw[e2,hbq];simp),V5 (Cb (PR h0 hp hbp) hq.1 hbq)]
 ·rw[if_neg (by simp),if_pos (e2.2 hbq),U5 (Cb (PR h0 hq hbq) hp.1 hbp)]
 ·rw[if_pos rfl];unfold qx;rw[hbp,hbq,if_pos rfl,if_pos rfl,←Gj]
theorem lP {c:Ci} (h0:0<c.q) {f t:P5} (hf:upp c f) (ht:onC c t) (h:px t<px f):upB c f=true:=by
 cases hb:upB c f with
 |true=>rfl
 |false=>exact absurd h (Zv (PR h0 hf hb) ht)
theorem lQ {c:Ci} {f t p:P5} (hf:low c f) (ht:low c t) (hlt:px f<px t) (hp:onC c p) (h:vF c f p t≤0):low c p∧px f≤px p:=by
 have hfu:upB c f=false:=by
  cases hb:upB c f with
  |false=>rfl
  |true=>exact absurd hlt (Zu (V7 hf hb) ht.1)
 have hv:decide (qx c t f<0)=false:=by rw[wS ht hf,V5 hlt];rfl
 unfold vF at h;rw[hv]at h;cases hu:decide (qx c p f<0)with
 |true=>rw[hu,if_neg (by simp),if_neg (by simpa using hv)]at h;omega
 |false=>
  rw[hu,if_pos rfl]at h;have hl:low c p:=by
   refine⟨hp,fun hy=>?_⟩;have hpu:upB c p=true:=Zr.2 (.inl hy);unfold qx at h;rw[hpu]at h;cases hb:upB c t with
   |false=>rw[hb,if_neg (by simp),if_neg (by simp)]at h;omega
   |true=>
    rw[hb,if_pos rfl,if_pos rfl]at h;have hR:=V7 ht hb;have h1:px p≤px t:=Zu hR hp;have h2:px t≤px p:=fun k=>by have:=XA.2 k;omega
    have e:px p=px t:=zy h1 h2;have h3:cX c p=cX c t:=by unfold cX;rw[e]
    have h4:=hR.1.trans hp.symm;rw[h3]at h4;have:=U6 h4;rw[hR.2.1,ml0]at this;rw[Gk this.symm]at hy;exact kB _ hy
  refine⟨hl,fun k=>?_⟩;rw[wS hl hf]at hu;rw[XA.2 k|>decide_eq_true]at hu;cases hu
theorem tU {c:Ci} (h0:0<c.q) {f t p:P5} (hf:upp c f) (ht:upp c t) (hlt:px t<px f) (hp:onC c p) (h:vF c f p t≤0):upp c p∧px p≤px f:=by
 have a3:=lP h0 hf ht.1 hlt;have a4:∀x,upB c x=false→decide (qx c x f<0)=true:=fun x hx=>by unfold qx;rw[hx,a3,if_neg (by simp),if_pos rfl];rfl
 have hh1:∀x,upB c x=true→px f<px x→decide (qx c x f<0)=true:=fun x hx k=>by unfold qx;rw[hx,a3,if_pos rfl,if_pos rfl];exact decide_eq_true (by have:=KZ.2 k;omega)
 have a5:∀x,upB c x=true→px x<px f→decide (qx c x f<0)=false:=fun x hx k=>by unfold qx;rw[hx,a3,if_pos rfl,if_pos rfl];exact decide_eq_false (by have:=XA.2 k;omega)
 unfold vF at h;cases hpu:upB c p with
 |true=>
  refine⟨⟨hp,Zs hpu⟩,fun k=>?_⟩;have hu:decide (qx c p f<0)=true:=hh1 p hpu k;rw[hu]at h;cases htu:upB c t with
  |true=>have hv:decide (qx c t f<0)=false:=a5 t htu hlt;rw[hv,if_neg (by simp),if_neg (by simpa using hv)]at h;omega
  |false=>rw[a4 t htu,if_pos rfl]at h;unfold qx at h;rw[hpu,htu,if_neg (by simp),if_neg (by simp)]at h;omega
 |false=>
  rw[a4 p hpu]at h;cases htu:upB c t with
  |true=>have hv:decide (qx c t f<0)=false:=a5 t htu hlt;rw[hv,if_neg (by simp),if_neg (by simpa using hv)]at h;omega
  |false=>
   have hL:=PR h0 ht htu;rw[a4 t htu,if_pos rfl]at h;unfold qx at h;rw[hpu,htu,if_pos rfl,if_neg (by simp)]at h;have h1:px p≤px t:=fun k=>by have:=KZ.2 k;omega
   have e:px p=px t:=zy h1 (Zv hL hp);have h3:cX c p=cX c t:=by unfold cX;rw[e]
   have h4:=hL.1.trans hp.symm;rw[h3]at h4;have:=U6 h4;rw[hL.2.1,ml0]at this;have hy:=Gk this.symm;exact⟨⟨hp,by rw[hy];exact jH⟩,by rw[e];exact le_of_lt hlt⟩
theorem Ob {c:Ci} {f p q l r:P5} (hp:onC c p) (hq:onC c q) (hl:atL c l) (hr:atR c r)
 (h:vF c f p q<0) (nl:¬(vF c f p l<0∧vF c f l q<0)) (nr:¬(vF c f p r<0∧vF c f r q<0)):
 (low c p∧low c q∧px p<px q)∨(upp c p∧upp c q∧px q<px p):=by
 have a3:∀x y,decide (qx c x f<0)=decide (qx c y f<0)→vF c f x y=qx c x y:=fun x y e=>by unfold vF;rw[if_pos e]
 have a5:∀x y,decide (qx c x f<0)=false→decide (qx c y f<0)=true→vF c f x y<0:=fun x y e1 e2=>by unfold vF;rw[e1,e2,if_neg (by simp),if_pos (by simpa using e2)];omega
 have lu:=Is hl;have ru:=Ir hr;have pr:upB c p=false→qx c p r<0:=fun hb=>by unfold qx;rw[hb,ru,if_neg (by simp),if_pos rfl];omega
 have lq:qx c l q≤0:=by
  unfold qx;rw[lu];cases hb:upB c q with
  |true=>rw[if_neg (by simp),if_pos rfl];omega
  |false=>
   rw[if_pos rfl,if_neg (by simp)];have:=Zv hl hq;rcases Pl 0 (sg (px l-px q))with k|k
   ·exact absurd (KZ.1 k) this
   ·exact k
 --the two on a6 side of the beginning
 have a6:decide (qx c p f<0)=decide (qx c q f<0)→(low c p∧low c q∧px p<px q)∨(upp c p∧upp c q∧px q<px p):=by
  intro hs;rw[a3 p q hs]at h;cases hpu:upB c p with
  |true=>
   cases hqu:upB c q with
   |true=>unfold qx at h;rw[hpu,hqu,if_pos rfl,if_pos rfl]at h;exact .inr ⟨⟨hp,Zs hpu⟩,⟨hq,Zs hqu⟩,KZ.1 (by omega)⟩
   |false=>unfold qx at h;rw[hpu,hqu,if_neg (by simp),if_neg (by simp)]at h;omega
  |false=>
   have lp:low c p:=⟨hp,(U7 hpu).1⟩;cases hqu:upB c q with
   |false=>have lq:low c q:=⟨hq,(U7 hqu).1⟩;rw[wS lp lq]at h;exact .inl ⟨lp,lq,XA.1 h⟩
   |true=>
    have rq:qx c r q≤0:=by
     unfold qx;rw[ru,hqu,if_pos rfl,if_pos rfl];have:=Zu hr hq;rcases Pl (sg (px r-px q)) 0 with k|k
     ·exact absurd (XA.1 k) this
     ·omega
    rcases Lv rq with rq|rq
    ·exfalso;have a4:=pr hpu;have a8:decide (qx c r f<0)=decide (qx c p f<0):=by
      cases hF:decide (qx c p f<0)with
      |true=>
       rw[hF]at hs;have h1:qx c q f<0:=by simpa using hs.symm
       exact decide_eq_true (XB (Ls rq) h1)
      |false=>
       have h1:¬qx c p f<0:=by simpa using hF
       exact decide_eq_false fun k=>h1 (XB (Ls a4) k)
     exact nr ⟨by rw[a3 p r a8.symm];exact a4,by rw[a3 r q (a8.trans hs)];exact rq⟩
    ·have hsm:=Zt hr.1 hq rq;have lq:low c q:=⟨hq,by
      have:cY c q=0:=by unfold cY;rw[←hsm.2];exact hr.2.1
      rw[this];exact jH⟩
     rw[wS lp lq]at h;exact .inl ⟨lp,lq,XA.1 h⟩
 cases hF:decide (qx c p f<0)<;>cases hG:decide (qx c q f<0)
 ·exact a6 (hF.trans hG.symm)
 ·--the way passes the beginning of the order
  have qf:qx c q f<0:=by simpa using hG
  have pf:¬qx c p f<0:=by simpa using hF
  have a9:ZJ l q:=by
   rcases Lv lq with k|k
   ·exfalso;have a7:decide (qx c l f<0)=true:=decide_eq_true (XB (Ls k) qf);exact nl ⟨a5 p l hF a7,by rw[a3 l q (a7.trans hG.symm)];exact k⟩
   ·exact Zt hl.1 hq k
  have hqy:cY c q=0:=by unfold cY;rw[←a9.2];exact hl.2.1
  cases hpu:upB c p with
  |false=>
   exfalso;have a4:=pr hpu;cases hR:decide (qx c r f<0)with
   |false=>exact nr ⟨by rw[a3 p r (hF.trans hR.symm)];exact a4,a5 r q hR hG⟩
   |true=>exact pf (XB (Ls a4) (by simpa using hR))
  |true=>exact .inr ⟨⟨hp,Zs hpu⟩,⟨hq,by rw[hqy];exact jH⟩,by rw[←a9.1];exact Cb hl hp hpu⟩
 ·exfalso;have hv:¬qx c q f<0:=by simpa using hG
  unfold vF at h;rw[hF,hG,if_neg (by simp),if_neg hv]at h;omega
 ·exact a6 (hF.trans hG.symm)
end Eng
end
section
namespace Eng
open Go Go.Proofs Rl
set_option maxRecDepth 100000
theorem wT (p q:P5):ja q p= -ja p q:=by
 unfold ja;rw[Gj (px p) (px q),Gj (py p) (py q)];by_cases h:sg (px p-px q)=0
 ·rw[if_pos h,if_pos (by omega)]
 ·rw[if_neg h,if_neg (by omega)]
theorem cM {p q:P5}:ja p q<0↔px p<px q∨(px p=px q∧py p<py q):=by
 unfold ja;by_cases h:sg (px p-px q)=0
 ·rw[if_pos h,XA];have e:=Ca.1 h;constructor
  ·exact fun k=> .inr ⟨e,k⟩
  ·rintro(k|⟨_,k⟩)
   ·rw[e]at k;exact absurd k (kB _)
   ·exact k
 ·rw[if_neg h,XA];constructor
  ·exact fun k=> .inl k
  ·rintro(k|⟨k,_⟩)
   ·exact k
   ·rw[Ca]at h;exact absurd k h
theorem LS {p q r:P5} (h1:ja p q<0) (h2:ja q r<0):ja p r<0:=by
 rw[cM]at *;rcases h1 with h1|⟨h1,k1⟩<;>rcases h2 with h2|⟨h2,k2⟩
 ·exact .inl (lt_trans h1 h2)
 ·exact .inl (h2▸h1)
 ·exact .inl (h1▸h2)
 ·exact .inr ⟨h1.trans h2,lt_trans k1 k2⟩
theorem Oc (c:Ci) (f p q:P5):vF c f q p= -vF c f p q:=by
 unfold vF;by_cases h:decide (qx c p f<0)=decide (qx c q f<0)
 ·rw[if_pos h,if_pos h.symm,V6]
 ·rw[if_neg h,if_neg (fun k=>h k.symm)];cases h1:decide (qx c p f<0)<;>cases h2:decide (qx c q f<0)<;>rw[h1,h2]at h<;>simp at h h1 h2 ⊢ <;>simp[h1,h2]
theorem Iv {c:Ci} {f p q r:P5} (h1:vF c f p q<0) (h2:vF c f q r<0):vF c f p r<0:=by
 unfold vF at *;cases hp:decide (qx c p f<0)<;>cases hq:decide (qx c q f<0)<;>cases hr:decide (qx c r f<0)<;>rw[hp,hq]at h1<;>rw[hq,hr]at h2<;>
  simp only[decide_eq_true_eq,decide_eq_false_iff_not]at hp hq hr<;>simp only[hq,hr,if_true,if_false,reduceCtorEq]at h1 h2 ⊢
 all_goals first|omega|exact XB (Ls h1) h2|simp
theorem Od {c:Ci} {f p q:P5} (hp:onC c p) (hq:onC c q) (h:vF c f p q=0):ZJ p q:=by
 unfold vF at h;split at h
 ·exact Zt hp hq h
 ·split at h<;>omega
theorem Cc (c:Ci) (f p:P5):vF c f f p≤0:=by
 have hf:decide (qx c f f<0)=false:=decide_eq_false (by rw[Uq ⟨rfl,rfl⟩];omega);unfold vF;rw[hf];cases hp:decide (qx c p f<0)with
 |true=>rw[if_neg (by simp),if_pos (by simpa using hp)];omega
 |false=>
  rw[if_pos rfl,V6];have:¬qx c p f<0:=by simpa using hp
  omega
def D8 (c:Ci):Ci:=⟨-c.x,c.y,c.q⟩
theorem cN (c:Ci) (p:P5):cX (D8 c) (QD p)= -cX c p:=by
 unfold cX D8;rw[K7,v8];generalize px p=a;generalize ofR c.x=b;obtain⟨a,rfl⟩:=a.rep;obtain⟨b,rfl⟩:=b.rep;exact xD fun n=>by simp only[zi,zF];grind
theorem tV (c:Ci) (p:P5):cY (D8 c) (QD p)=cY c p:=rfl
theorem XC {c:Ci} {p:P5}:onC (D8 c) (QD p)↔onC c p:=by
 unfold onC;rw[cN,tV,Pj,HH,WB];rfl
theorem cO {p q:P5} (h:ZJ (QD p) (QD q)):ZJ p q:=by
 refine⟨?_,h.2⟩;have:=h.1;rw[K7,K7]at this;rw[←WB (px p),this,WB]
def onS (c:Cu) (p:P5):Prop:=Jk c p=true
theorem jE {c:Cu} (ha:c.arc=true) {p:P5}:onS c p↔onC c.ci p:=by
 unfold onS Jk;rw[if_pos ha,beq_iff_eq,cJ]
theorem yW (c:Cu) (p q:P5):jn c q p= -jn c p q:=by
 unfold jn;split
 ·split
  ·exact Oc _ _ _ _
  ·exact Oc _ _ _ _
 ·split
  ·rw[wT p q]
  ·exact wT p q
theorem Iw {c:Cu} {p q r:P5} (h1:jn c p q<0) (h2:jn c q r<0):jn c p r<0:=by
 unfold jn at *;split
 ·rename_i ha;rw[if_pos ha]at h1 h2;split
  ·rename_i hw;rw[if_pos hw]at h1 h2;exact Iv h1 h2
  ·rename_i hw;rw[if_neg hw]at h1 h2;exact Iv h1 h2
 ·rename_i ha;rw[if_neg ha]at h1 h2;split
  ·rename_i hw;rw[if_pos hw]at h1 h2;have k1:ja q p<0:=by rw[wT p q];omega
   have k2:ja r q<0:=by rw[wT q r];omega
   have:=LS k2 k1;rw[wT p r]at this;omega
  ·rename_i hw;rw[if_neg hw]at h1 h2;exact LS h1 h2
theorem Oe {c:Cu} {p q:P5} (hp:onS c p) (hq:onS c q) (h:jn c p q=0):ZJ p q:=by
 unfold jn at h;split at h
 ·rename_i ha;rw[jE ha]at hp hq;split at h
  ·exact cO (Od (XC.2 hp) (XC.2 hq) h)
  ·exact Od hp hq h
 ·split at h
  ·exact ym.1 (by omega)
  ·exact ym.1 h
theorem y6 {c:Cu} {p q:P5} (h:ZJ p q) (r:P5):jn c p r=jn c q r∧jn c r p=jn c r q:=by
 have a:jn c p r=jn c q r:=by
  have cg:∀(ci:Ci) (f x y z:P5),ZJ x y→vF ci f x z=vF ci f y z:=by intro ci f x y z hs;unfold vF;rw[Q6 f hs,Q6 z hs]
  unfold jn;split
  ·split
   ·exact cg _ _ _ _ _ (NM h)
   ·exact cg _ _ _ _ _ h
  ·have:ja p r=ja q r:=by unfold ja;rw[h.1,h.2]
   rw[this]
 refine⟨a,?_⟩;rw[yW,a,←yW]
theorem LU {c:Cu} (ha:c.arc=true) (p:P5):jn c c.fr p≤0:=by
 unfold jn;rw[if_pos ha];split
 ·exact Cc _ _ _
 ·exact Cc _ _ _
def srt (c:Cu) (l:List P5):Prop:=l.Pairwise fun a b=>jn c a b<0
theorem Of {c:Cu} {p:P5} (hp:onS c p):∀{l:List P5},(∀x∈l,onS c x)→srt c l→srt c (Qz c l p)
 |[],_,_=>by simp[Qz,srt]
 |q::r,hl,h=>by
  unfold srt at h;rw[W0]at h;unfold Qz;split
  ·rename_i ho;refine W0.2 ⟨fun x hx=>?_,Of hp (fun x hx=>hl x (by simp[hx])) h.2⟩;rcases YW c hx with hx|hx
   ·exact h.1 x hx
   ·rw[hx];exact ho
  ·split
   ·exact W0.2 h
   ·rename_i ho he;have hpq:jn c p q<0:=by
     rcases Int.lt_trichotomy (jn c p q) 0 with k|k|k
     ·exact k
     ·exfalso;apply he;rw[X7];exact jf.2 (Oe hp (hl q (by simp)) k)
     ·exfalso;apply ho;rw[yW];omega
    refine W0.2 ⟨fun x hx=>?_,W0.2 h⟩;rcases U3.1 hx with rfl|hx
    ·exact hpq
    ·exact Iw hpq (h.1 x hx)
theorem Cd {c:Cu} {l:List P5} (hl:∀x∈l,onS c x):srt c (yr c l):=by
 rw[←Zk];have:∀k,k≤l.length→srt c (soO c l k):=by
  intro k
  induction k with
  |zero=>intro _;rw[X5];exact List.Pairwise.nil
  |succ k ih=>intro h;rw[yV c (by omega)];exact Of (hl _ (Ts _)) (fun x hx=>hl x (YX c l k (by omega) x hx)) (ih (by omega))
 exact this _ (c9 _)
theorem Jw {c:Cu} {p:P5}:∀{l:List P5} {x:P5},(x∈l∨x=p)→∃y∈Qz c l p,ZJ x y
 |[],x,h=>by
  rcases h with h|h
  ·simp at h
  ·exact⟨p,by simp[Qz],by rw[h];exact⟨rfl,rfl⟩⟩
 |q::r,x,h=>by
  unfold Qz;split
  ·rcases h with h|h
   ·rcases U3.1 h with rfl|h
    ·exact⟨_,bv ..,rfl,rfl⟩
    ·obtain⟨y,h1,h2⟩:=Jw (c:=c) (p:=p) (l:=r) (.inl h);exact⟨y,by simp[h1],h2⟩
   ·obtain⟨y,h1,h2⟩:=Jw (c:=c) (p:=p) (l:=r) (.inr h);exact⟨y,by simp[h1],h2⟩
  ·split
   ·rename_i he;rcases h with h|h
    ·exact⟨x,h,rfl,rfl⟩
    ·exact⟨q,by simp,by rw[h];exact KT (jf.1 he)⟩
   ·rcases h with h|h
    ·exact⟨x,by simp[U3.1 h],rfl,rfl⟩
    ·exact⟨p,by simp,by rw[h];exact⟨rfl,rfl⟩⟩
theorem Cf {c:Cu} {l:List P5} {x:P5} (hx:x∈l):∃y∈yr c l,ZJ x y:=by
 rw[←Zk];have:∀k,k≤l.length→∀x∈l.take k,∃y∈soO c l k,ZJ x y:=by
  intro k
  induction k with
  |zero=>intro _ x hx;simp at hx
  |succ k ih=>
   intro h x hx;rw[yV c (by omega)];rw[U0 (by omega)]at hx;rcases W2.1 hx with hx|hx
   ·obtain⟨y,h1,h2⟩:=ih (by omega) x hx;obtain⟨z,h3,h4⟩:=Jw (c:=c) (p:=l[k]) (l:=soO c l k) (x:=y) (.inl h1);exact⟨z,h3,h2.1.trans h4.1,h2.2.trans h4.2⟩
   ·exact Jw (.inr (P1.1 hx))
 exact this _ (c9 _) x (by rw[bm];exact hx)
theorem V8 {c x:Cu}:∀{l:List P5},srt c l→x∈jg c l→∃p q,p∈l∧q∈l∧jn c p q<0∧(∀y∈l,¬(jn c p y<0∧jn c y q<0))∧x={c with fr:=p,tt:=q}
 |[],_,h=>by simp[jg]at h
 |[_],_,h=>by simp[jg]at h
 |p::q::r,hs,h=>by
  unfold srt at hs;rw[W0]at hs;have hs2:=hs.2;rw[W0]at hs2;simp only[jg,U3]at h;rcases h with h|h
  ·refine⟨p,q,by simp,by simp,hs.1 q (by simp),fun y hy=>?_,h⟩;rintro⟨h1,h2⟩;simp only[U3]at hy;rcases hy with rfl|rfl|hy
   ·rw[KU ⟨rfl,rfl⟩]at h1;omega
   ·rw[KU ⟨rfl,rfl⟩]at h2;omega
   ·have:=hs2.1 y hy;rw[yW]at this;omega
  ·obtain⟨a,b,h1,h2,h3,h4,h5⟩:=V8 hs.2 h;refine⟨a,b,by simp[h1],by simp[h2],h3,fun y hy=>?_,h5⟩;rcases U3.1 hy with rfl|hy
   ·rintro⟨k1,_⟩;have:=hs.1 a h1;rw[yW]at this;omega
   ·exact h4 y hy
theorem U8 {c x:Cu} {l:List P5} (hf:onS c c.fr) (ht:onS c c.tt) (hx:x∈jh c l):∃p q,(p∈c.fr::c.tt::l)∧(q∈c.fr::c.tt::l)∧jn c p q<0∧(∀y∈c.fr::c.tt::l,¬(jn c p y<0∧jn c y q<0))∧x={c with fr:=p,tt:=q}∧l.all (Xt c)=true:=by
 obtain⟨a3,_⟩:=Ur hx;have hon:∀y∈c.fr::c.tt::l,onS c y:=by
  intro y hy;simp only[U3]at hy;rcases hy with rfl|rfl|hy
  ·exact hf
  ·exact ht
  ·exact YZ (V1.1 a3 y hy)
 unfold jh at hx;rw[if_pos a3]at hx;obtain⟨p,q,h1,h2,h3,h4,h5⟩:=V8 (Cd hon) hx;refine⟨p,q,wQ h1,wQ h2,h3,fun y hy hk=>?_,h5,a3⟩;obtain⟨z,z1,z2⟩:=Cf (c:=c) hy;obtain⟨e1,e2⟩:=y6 (c:=c) z2 q;obtain⟨e3,e4⟩:=y6 (c:=c) z2 p;exact h4 z z1 ⟨by rw[←e4];exact hk.1,by rw[←e1];exact hk.2⟩
end Eng
end
section
namespace Eng
open Go Go.Proofs Rl
set_option maxRecDepth 100000
def Mo (c:Cu):Prop:=Gd c∧ja c.fr c.tt<0∧(c.arc=true→px c.fr<px c.tt∧(c.cw=true→upp c.ci c.fr∧upp c.ci c.tt)∧(c.cw=false→low c.ci c.fr∧low c.ci c.tt))
theorem lR (x u y v c:Rat):px (zn x u y v c)=ofR x+ofR u*jJ c:=by
 unfold zn;cases hs:sqQ c with
 |none=>rfl
 |some s=>show px (atV _)=_;rw[tL,YE hs,zG,qX]
theorem lS (x u y v c:Rat):py (zn x u y v c)=ofR y+ofR v*jJ c:=by
 unfold zn;cases hs:sqQ c with
 |none=>rfl
 |some s=>show py (atV _)=_;rw[tM,YE hs,zG,qX]
theorem add_sub_cancel' (a b:Rl):a+b-a=b:=by
 obtain⟨a,rfl⟩:=a.rep;obtain⟨b,rfl⟩:=b.rep;exact xD fun n=>by simp only[zi,zF];grind
theorem Og {c:Ci} (h:0<c.q):atL c (jp c)∧atR c (xU c):=by
 have s2:=wq (Rat.le_of_lt h);have sp:=Nq h;have m1:ofR (-1)= -1:=by rw[v8];rfl
 have x1:cX c (jp c)= -jJ c.q:=by unfold cX jp;rw[lR,add_sub_cancel',m1,Pj,mlc,ml1]
 have x2:cX c (xU c)=jJ c.q:=by unfold cX xU;rw[lR,add_sub_cancel',bL,mlc,ml1]
 have y1:cY c (jp c)=0:=by unfold cY jp;rw[lS,xR,zml,ad0,sbs]
 have y2:cY c (xU c)=0:=by unfold cY xU;rw[lS,xR,zml,ad0,sbs]
 refine⟨⟨?_,y1,by rw[x1];exact j7.2 sp⟩,⟨?_,y2,by rw[x2];exact sp⟩⟩
 ·unfold onC;rw[x1,y1,ml0,ad0,Pj,HH,WB,s2]
 ·unfold onC;rw[x2,y2,ml0,ad0,s2]
theorem cP {c:Ci} {p:P5} (h:atL c p):atR (D8 c) (QD p):=by
 refine⟨XC.2 h.1,h.2.1,?_⟩;rw[cN];exact xB.2 h.2.2
theorem cQ {c:Ci} {p:P5} (h:atR c p):atL (D8 c) (QD p):=by
 refine⟨XC.2 h.1,h.2.1,?_⟩;rw[cN];exact j7.2 h.2.2
theorem Cg {c:Ci} {p:P5}:low (D8 c) (QD p)↔low c p:=by unfold low;rw[XC];rfl
theorem wz {c:Ci} {p:P5}:upp (D8 c) (QD p)↔upp c p:=by unfold upp;rw[XC];rfl
theorem XD {p q:P5}:px (QD p)<px (QD q)↔px q<px p:=by rw[K7,K7];exact AV
theorem Oh {p q:P5} (h:px p<px q):ja p q= -1:=by
 unfold ja;rw[U5 h,if_neg (by omega)]
theorem cS {p q:P5} (h:px q<px p):ja p q=1:=by
 unfold ja;rw[V5 h,if_neg (by omega)]
theorem Oi {p q:P5} (h:px p<px q):kO p q=false:=by
 cases he:kO p q with
 |false=>rfl
 |true=>have:=(jf.1 he).1;rw[this]at h;exact absurd h (kB _)
theorem cT {c:Cu} (h:Gd c) (ha:c.arc=true) {p q:P5} (gp:Gp p) (gq:Gp q) (hp:onS c p) (hq:onS c q) (ho:jn c p q<0)
 (nl:¬(jn c p (jp c.ci)<0∧jn c (jp c.ci) q<0)) (nr:¬(jn c p (xU c.ci)<0∧jn c (xU c.ci) q<0)):Mo (qB {c with fr:=p,tt:=q}):=by
 obtain⟨hL,hR⟩:=Og (h.circ ha).2;have cp:=(jE ha).1 hp;have cq:=(jE ha).1 hq
 --the piece as it is,or turned
 have a3:px p<px q→(c.cw=true→upp c.ci p∧upp c.ci q)→(c.cw=false→low c.ci p∧low c.ci q)→Mo (qB {c with fr:=p,tt:=q}):=by
  intro hx hu hl;have hc:=Oh hx;have e:qB {c with fr:=p,tt:=q}={c with fr:=p,tt:=q}:=by unfold qB;rw[if_neg (show ¬0<ja p q by omega)]
  rw[e];exact⟨h.ends gp gq hp hq (Oi hx),by show ja p q<0;omega,fun _=>⟨hx,hu,hl⟩⟩
 have a4:px q<px p→(c.cw=false→upp c.ci p∧upp c.ci q)→(c.cw=true→low c.ci p∧low c.ci q)→Mo (qB {c with fr:=p,tt:=q}):=by
  intro hx hu hl;have hc:=cS hx;have e:qB {c with fr:=p,tt:=q}=La {c with fr:=p,tt:=q}:=by unfold qB;rw[if_pos (show 0<ja p q by omega)]
  rw[e];have g:Gd {c with fr:=p,tt:=q}:=h.ends gp gq hp hq (by rw[X7];exact Oi hx);refine⟨g.rev,by show ja q p<0;rw[Oh hx];omega,fun _=>⟨hx,fun hw=>?_,fun hw=>?_⟩⟩
  ·have hw:(c.arc&&!c.cw)=true:=hw;rw[ha]at hw;have:=hu (by simpa using hw);exact⟨this.2,this.1⟩
  ·have hw:(c.arc&&!c.cw)=false:=hw;rw[ha]at hw;have:=hl (by simpa using hw);exact⟨this.2,this.1⟩
 unfold jn at ho nl nr;rw[if_pos ha]at ho;rw[if_pos ha,if_pos ha]at nl nr;cases hw:c.cw with
 |false=>
  rw[hw]at ho nl nr a3 a4;rw[if_neg (by simp)]at ho;rw[if_neg (by simp),if_neg (by simp)]at nl nr;rcases Ob cp cq hL hR ho nl nr with⟨a,b,x⟩|⟨a,b,x⟩
  ·exact a3 x (fun k=>by cases k) (fun _=>⟨a,b⟩)
  ·exact a4 x (fun _=>⟨a,b⟩) (fun k=>by cases k)
 |true=>
  rw[hw]at ho nl nr a3 a4;rw[if_pos rfl]at ho;rw[if_pos rfl,if_pos rfl]at nl nr;rcases Ob (XC.2 cp) (XC.2 cq) (cQ hR) (cP hL) ho nr nl with⟨a,b,x⟩|⟨a,b,x⟩
  ·exact a4 (XD.1 x) (fun k=>by cases k) (fun _=>⟨Cg.1 a,Cg.1 b⟩)
  ·exact a3 (XD.1 x) (fun _=>⟨wz.1 a,wz.1 b⟩) (fun k=>by cases k)
theorem lT {c:Cu} {y:P5} (h:Wu c y=false) (hy:onS c y) (ht:onS c c.tt) (ha:c.arc=true) {p q:P5} (hs:onS c q) (hq:jn c q c.tt≤0):¬(jn c p y<0∧jn c y q<0):=by
 rintro⟨h1,h2⟩;have a4:jn c y c.tt<0:=by
  rcases Lv hq with hq|hq
  ·exact Iw h2 hq
  ·rw[←(y6 (Oe hs ht hq) y).2];exact h2
 have a3:=LU ha y;have hon:Xt c y=true:=by unfold Xt;rw[show Jk c y=true from hy,decide_eq_true a3,decide_eq_true (Ls a4)];rfl
 have n1:kO c.fr y=false:=by
  cases he:kO c.fr y with
  |false=>rfl
  |true=>exfalso;rw[←(y6 (jf.1 he) p).2]at h1;have:=LU ha p;rw[yW]at this;omega
 have n2:kO c.tt y=false:=by
  cases he:kO c.tt y with
  |false=>rfl
  |true=>exfalso;rw[←(y6 (jf.1 he) c.tt).1,KU ⟨rfl,rfl⟩]at a4;omega
 unfold Wu at h;rw[hon,n1,n2]at h;cases h
theorem cV {c:Cu} (h:Gd c):∀x∈xk c,Mo (qB x):=by
 intro x hx;unfold xk at hx;split at hx
 ·rename_i ha;obtain⟨hC,hq⟩:=h.circ ha;obtain⟨l1,l2⟩:=Ju hC hq;obtain⟨a1,a2⟩:=Og hq;have sL:=(jE ha).2 a1.1;have sR:=(jE ha).2 a2.1;obtain⟨s1,s2,_⟩:=h.sup;obtain⟨p,q,m1,m2,ho,nb,e,a5⟩:=U8 s1 s2 hx;have a3:∀y∈c.fr::c.tt::((if Wu c (jp c.ci)=true then [jp c.ci]else [])++(if Wu c (xU c.ci)=true then [xU c.ci]else [])),Gp y∧onS c y∧jn c y c.tt≤0:=by
   intro y hy;simp only[U3]at hy;rcases hy with rfl|rfl|hy
   ·exact⟨h.1.2.1,s1,LU ha _⟩
   ·exact⟨h.1.2.2,s2,by rw[KU ⟨rfl,rfl⟩];omega⟩
   ·have a4:=V1.1 a5 y hy;refine⟨?_,YZ a4,?_⟩
    ·rcases W2.1 hy with hy|hy
     ·split at hy
      ·rw[P1.1 hy];exact l1
      ·simp at hy
     ·split at hy
      ·rw[P1.1 hy];exact l2
      ·simp at hy
    ·unfold Xt at a4;simp only[Aw,decide_eq_true_eq]at a4;exact a4.2.2
  have a6:∀y,onS c y→(Wu c y=true→y∈c.fr::c.tt::((if Wu c (jp c.ci)=true then [jp c.ci]else [])++(if Wu c (xU c.ci)=true then [xU c.ci]else [])))→¬(jn c p y<0∧jn c y q<0):=by
   intro y hy hm;cases hi:Wu c y with
   |true=>exact nb y (hm hi)
   |false=>exact lT hi hy s2 ha (a3 q m2).2.1 (a3 q m2).2.2
  rw[e];refine cT h ha (a3 p m1).1 (a3 q m2).1 (a3 p m1).2.1 (a3 q m2).2.1 ho (a6 _ sL fun hi=>?_) (a6 _ sR fun hi=>?_)
  ·rw[if_pos hi];simp
  ·rw[if_pos hi];simp
 ·rename_i ha;have ha:c.arc=false:=by simpa using ha
  rw[P1.1 hx];obtain⟨_,_,a7⟩:=h.sup;have hz:ja c.fr c.tt≠0:=fun k=>by rw[jf.2 (ym.1 k)]at a7;cases a7
  unfold qB;split
  ·rename_i k;exact⟨h.rev,by show ja c.tt c.fr<0;rw[wT c.fr c.tt];omega,fun k=>by rw[show(La c).arc=c.arc from rfl,ha]at k;cases k⟩
  ·exact⟨h,by omega,fun k=>by rw[ha]at k;cases k⟩
theorem PS {c:Cu} (h:Gd c):∀x∈ze c,Mo x:=by
 intro x hx;rw[Zo]at hx;obtain⟨y,hy,rfl⟩:=bx.1 (Ge _ _ (c9 _) x hx);exact cV h y hy
theorem FK {c:Cu} (h:Mo c) {l:List P5} (hl:∀p∈l,Gp p):∀x∈jh c l,Mo x:=by
 intro x hx;obtain⟨hg,hlt,a6⟩:=h;obtain⟨s1,s2,_⟩:=hg.sup;have a7:=Ga hg hl x hx;obtain⟨p,q,m1,m2,ho,_,e,a5⟩:=U8 s1 s2 hx;subst e;have a9:∀y∈c.fr::c.tt::l,c.arc=true→onC c.ci y∧(y=c.fr∨y=c.tt∨jn c y c.tt≤0):=by
  intro y hy ha;simp only[U3]at hy;rcases hy with rfl|rfl|hy
  ·exact⟨(jE ha).1 s1,.inl rfl⟩
  ·exact⟨(jE ha).1 s2,.inr (.inl rfl)⟩
  ·have a4:=V1.1 a5 y hy;refine⟨(jE ha).1 (YZ a4),.inr (.inr ?_)⟩;unfold Xt at a4;simp only[Aw,decide_eq_true_eq]at a4;exact a4.2.2
 rcases Bx c.arc with ha|ha
 ·obtain⟨hx,hu,hlo⟩:=a6 ha;rcases Bx c.cw with hw|hw
  ·obtain⟨f1,t1⟩:=hu hw;have h0:0<(D8 c.ci).q:=(hg.circ ha).2;have a8:px (QD c.tt)<px (QD c.fr):=XD.2 hx;have a3:∀y∈c.fr::c.tt::l,upp c.ci y∧px (QD y)≤px (QD c.fr):=by
    intro y hy;obtain⟨hc,k|k|k⟩:=a9 y hy ha
    ·rw[k];exact⟨f1,jH⟩
    ·rw[k];exact⟨t1,le_of_lt a8⟩
    ·unfold jn at k;rw[if_pos ha,if_pos hw]at k;obtain⟨z1,z2⟩:=tU h0 (wz.2 f1) (wz.2 t1) a8 (XC.2 hc) k;exact⟨wz.1 z1,z2⟩
   obtain⟨p1,p2⟩:=a3 p m1;obtain⟨q1,q2⟩:=a3 q m2;have hfu:=lP h0 (wz.2 f1) (wz.2 t1).1 a8;unfold jn at ho;rw[if_pos ha,if_pos hw]at ho;have e:=lO h0 (wz.2 f1) hfu (wz.2 p1) (wz.2 q1) p2 q2;have ho:vF (D8 c.ci) (QD c.fr) (QD p) (QD q)<0:=ho;rw[e,XA,XD]at ho;refine⟨a7,by show ja p q<0;rw[Oh ho];omega,fun _=>⟨ho,fun _=>⟨p1,q1⟩,fun k=>?_⟩⟩;have k:c.cw=false:=k;rw[hw]at k;cases k
  ·obtain⟨f1,t1⟩:=hlo hw;have a3:∀y∈c.fr::c.tt::l,low c.ci y∧px c.fr≤px y:=by
    intro y hy;obtain⟨hc,k|k|k⟩:=a9 y hy ha
    ·rw[k];exact⟨f1,jH⟩
    ·rw[k];exact⟨t1,le_of_lt hx⟩
    ·unfold jn at k;rw[if_pos ha,if_neg (by rw[hw];simp)]at k;exact lQ f1 t1 hx hc k
   obtain⟨p1,p2⟩:=a3 p m1;obtain⟨q1,q2⟩:=a3 q m2;unfold jn at ho;rw[if_pos ha,if_neg (by rw[hw];simp),cK f1 p1 q1 p2 q2,XA]at ho;refine⟨a7,by show ja p q<0;rw[Oh ho];omega,fun _=>⟨ho,fun k=>?_,fun _=>⟨p1,q1⟩⟩⟩;have k:c.cw=true:=k;rw[hw]at k;cases k
 ·refine⟨a7,?_,fun k=>?_⟩
  ·unfold jn at ho;rw[if_neg (by rw[ha];simp),if_neg (by omega)]at ho;exact ho
  ·have k:c.arc=true:=k;rw[ha]at k;cases k
theorem cW {c d:Ci} (h:Rr c d=true):c=d:=by
 unfold Rr at h;simp only[Aw,decide_eq_true_eq]at h;obtain⟨x,y,q⟩:=c;obtain⟨x',y',q'⟩:=d;obtain⟨rfl,rfl,rfl⟩:=h;rfl
theorem cZ {l m:Ln} (hm:okLn m) (h:EO l m=true) {p:P5} (hp:lnv m p=0):lnv l p=0:=by
 unfold EO at h;simp only[Aw,decide_eq_true_eq]at h;obtain⟨h1,h2,h3⟩:=h;have id:∀(k:Rat) (n:Rat),k*l.a=n*m.a→k*l.b=n*m.b→k*l.c=n*m.c→ofR k*lnv l p=ofR n*lnv m p:=by
  intro k n e1 e2 e3;have f1:ofR k*ofR l.a=ofR n*ofR m.a:=by rw[←qX,←qX,e1]
  have f2:ofR k*ofR l.b=ofR n*ofR m.b:=by rw[←qX,←qX,e2]
  have f3:ofR k*ofR l.c=ofR n*ofR m.c:=by rw[←qX,←qX,e3]
  have d:∀(k a b c x y:Rl),k*(a*x+b*y-c)=k*a*x+k*b*y-k*c:=by intro k a b c x y;obtain⟨k,rfl⟩:=k.rep;obtain⟨a,rfl⟩:=a.rep;obtain⟨b,rfl⟩:=b.rep;obtain⟨c,rfl⟩:=c.rep;obtain⟨x,rfl⟩:=x.rep;obtain⟨y,rfl⟩:=y.rep;exact xD fun n=>by simp only[zi,zF,kA];grind
  unfold lnv;rw[d,d,f1,f2,f3]
 have a3:∀k n:Rat,k≠0→ofR k*lnv l p=ofR n*lnv m p→lnv l p=0:=by intro k n hk e;rw[hp,ml0]at e;exact(mul_eq_zero e).resolve_left fun z=>hk (K2.1 z)
 by_cases ha:m.a=0
 ·have hb:m.b≠0:=fun z=>hm ⟨ha,z⟩
  exact a3 m.b l.b hb (id _ _ (by grind) (by grind) (by grind))
 ·exact a3 m.a l.a ha (id _ _ (by grind) (by grind) (by grind))
theorem da {c d:Cu} (hc:Mo c) (hd:Mo d) (hs:zL c d=true) (hw:c.cw=d.cw) (he:kO d.fr c.tt=true):Mo {c with tt:=d.tt}:=by
 have a7:=jf.1 he;have a3:c.arc=d.arc:=by
  unfold zL at hs;split at hs
  ·assumption
  ·cases hs
 have a4:ja c.fr d.tt<0:=by
  have e:ja c.tt d.tt=ja d.fr d.tt:=by unfold ja;rw[a7.1,a7.2]
  exact LS hc.2.1 (by rw[e];exact hd.2.1)
 have hne:kO c.fr d.tt=false:=by
  cases h:kO c.fr d.tt with
  |false=>rfl
  |true=>rw[NL (jf.1 h)]at a4;omega
 have a6:c.arc=true→c.ci=d.ci:=by intro ha;unfold zL at hs;rw[if_pos a3,if_pos ha]at hs;exact cW hs
 have hon:onS c d.tt:=by
  have a5:onS d d.tt:=hd.1.sup.2.1;cases ha:c.arc with
  |true=>rw[jE ha,a6 ha];exact(jE (a3▸ha)).1 a5
  |false=>
   have a8:d.arc=false:=a3▸ha;have hl:EO c.ln d.ln=true:=by unfold zL at hs;rw[if_pos a3,if_neg (by rw[ha];simp)]at hs;exact hs
   unfold onS Jk at a5 ⊢;rw[if_neg (by rw[a8];simp),beq_iff_eq,xT]at a5;rw[if_neg (by rw[ha];simp),beq_iff_eq,xT];exact cZ (hd.1.line a8).2 hl a5
 refine⟨hc.1.ends hc.1.1.2.1 hd.1.1.2.2 hc.1.sup.1 hon hne,a4,fun ha=>?_⟩;have ha:c.arc=true:=ha;obtain⟨x1,u1,l1⟩:=hc.2.2 ha;obtain⟨x2,u2,l2⟩:=hd.2.2 (a3▸ha);refine⟨lt_trans x1 (by rw[←a7.1];exact x2),fun k=>?_,fun k=>?_⟩
 ·have k:c.cw=true:=k;exact⟨(u1 k).1,by show upp c.ci d.tt;rw[a6 ha];exact(u2 (hw▸k)).2⟩
 ·have k:c.cw=false:=k;exact⟨(l1 k).1,by show low c.ci d.tt;rw[a6 ha];exact(l2 (hw▸k)).2⟩
end Eng
end
section
open Go Go.Proofs Eng
namespace Eng
section
variable (Gv:Nat→List A→List A→Prop) (I0:List D→List D→Prop) (M0:List D→Nat) (I1:List D→List D→Prop) (M1:List D→Nat) (I2:List D→List D→Prop) (M2:List D→Nat) (I3:List D→List D→Prop) (M3:List D→Nat) (Q:List A→Prop)
theorem U9 (l0:List (List D)) (Q:List A→Prop):wpF CC Gv (eM ⟨[.slot 3 (.int .i64 0)],[],I0,M0⟩ ⟨[.slot 7 (.int .i64 0),.slot 5 (.int .i64 0),.slot 6 (.int .i64 0)],[.slot 3 (.int .i64 0)],I1,M1⟩ ⟨[.slot 10 (.int .i64 0),.own 9 17 66],[.slot 3 (.int .i64 0)],I2,M2⟩) Tryz.f76 [.c (.sl l0)] Q=(I0 [] [dI (0:Int)]∧∀(i:Int),I0 [] [dI i]→bB (decide (i<(J8 l0.length))) (rO l0 i 66∧∃x,cU l0 i 46 20 (pk x [])∧I1 [dI i] [dI (0:Int),dI (0:Int),dI (-1:Int)]∧∀(i_1 i_2 i_3:Int),I1 [dI i] [dI i_1,dI i_2,dI i_3]→bB (decide (i_1<(J8 l0.length))) (rO l0 i_1 66∧∃x1,cU l0 i_1 26 20 (pk x1 [])∧∃b,Gv 106 [aP x1,aP x] [aB b]∧br b (rO l0 i_1 66∧∃x2,cU l0 i_1 46 20 (pk x2 [])∧∃b,Gv 106 [aP x2,aP x] [aB b]∧br b (I1 [dI i] [dI (J4 .i64 (i_1+1)),dI (J4 .i64 (J4 .i64 (i_2+1)+1)),dI i_1]∧M1 [dI (J4 .i64 (i_1+1)),dI (J4 .i64 (J4 .i64 (i_2+1)+1)),dI i_1]<M1 [dI i_1,dI i_2,dI i_3]) (I1 [dI i] [dI (J4 .i64 (i_1+1)),dI (J4 .i64 (i_2+1)),dI i_1]∧M1 [dI (J4 .i64 (i_1+1)),dI (J4 .i64 (i_2+1)),dI i_1]<M1 [dI i_1,dI i_2,dI i_3])) (rO l0 i_1 66∧∃x2,cU l0 i_1 46 20 (pk x2 [])∧∃b,Gv 106 [aP x2,aP x] [aB b]∧br b (I1 [dI i] [dI (J4 .i64 (i_1+1)),dI (J4 .i64 (i_2+1)),dI i_3]∧M1 [dI (J4 .i64 (i_1+1)),dI (J4 .i64 (i_2+1)),dI i_3]<M1 [dI i_1,dI i_2,dI i_3]) (I1 [dI i] [dI (J4 .i64 (i_1+1)),dI i_2,dI i_3]∧M1 [dI (J4 .i64 (i_1+1)),dI i_2,dI i_3]<M1 [dI i_1,dI i_2,dI i_3]))) (bB (i_2==2) (bB (decide (i_3≥0)) (rO l0 i 66∧∃x,cU l0 i 0 66 (ck x [])∧rO l0 i_3 66∧∃x1,cU l0 i_3 0 66 (ck x1 [])∧∃b,Gv 105 [aC x,aC x1] [aB b]∧br b (rO l0 i 66∧∃b,cU l0 i 25 1 [Hx b]∧rO l0 i_3 66∧∃b1,cU l0 i_3 25 1 [Hx b1]∧bB (b==b1) (rO l0 i 66∧∃x,cU l0 i 0 66 (ck x [])∧rO l0 i_3 66∧∃x2,cU l0 i_3 46 20 (pk x2 [])∧I2 [dI i] [dI (0:Int),Hu []]∧∀(i_4:Int) (es:List (List D)),I2 [dI i] [dI i_4,Hu es]→bB (decide (i_4<(J8 l0.length))) (bB (i_4 !=i) (bB (i_4 !=i_3) (rO l0 i_4 66∧∃x,cU l0 i_4 0 66 (ck x [])∧(room (es.length+1)∧lens 66 [(ck x [])])∧I2 [dI i] [dI (J4 .i64 (i_4+1)),Hu (es++[(ck x [])])]∧M2 [dI (J4 .i64 (i_4+1)),Hu (es++[(ck x [])])]<M2 [dI i_4,Hu es]) (I2 [dI i] [dI (J4 .i64 (i_4+1)),Hu es]∧M2 [dI (J4 .i64 (i_4+1)),Hu es]<M2 [dI i_4,Hu es])) (I2 [dI i] [dI (J4 .i64 (i_4+1)),Hu es]∧M2 [dI (J4 .i64 (i_4+1)),Hu es]<M2 [dI i_4,Hu es])) ((room (es.length+1)∧lens 66 [(Hx (C66.arc x)::(rk (C66.la x) (rk (C66.lb x) (rk (C66.lc x) (rk (C66.cx x) (rk (C66.cy x) (rk (C66.cq x) (Hx (C66.cw x)::(pk (C66.fr x) (pk x2 []))))))))))])∧∃e1,Gv 76 [aL (es++[(Hx (C66.arc x)::(rk (C66.la x) (rk (C66.lb x) (rk (C66.lc x) (rk (C66.cx x) (rk (C66.cy x) (rk (C66.cq x) (Hx (C66.cw x)::(pk (C66.fr x) (pk x2 []))))))))))])] [aL e1]∧Q [aL e1])) (I0 [] [dI (J4 .i64 (i+1))]∧M0 [dI (J4 .i64 (i+1))]<M0 [dI i])) (I0 [] [dI (J4 .i64 (i+1))]∧M0 [dI (J4 .i64 (i+1))]<M0 [dI i])) (I0 [] [dI (J4 .i64 (i+1))]∧M0 [dI (J4 .i64 (i+1))]<M0 [dI i])) (I0 [] [dI (J4 .i64 (i+1))]∧M0 [dI (J4 .i64 (i+1))]<M0 [dI i]))) (Q [aL l0])):=by kernel_rfl
end
end Eng
end
section
namespace Eng
open Go Go.Proofs Rl
set_option maxRecDepth 100000
theorem Ch {all:List Cu} (ha:∀x∈all,Mo x) (i:Nat):∀x∈X8 all i,Mo x:=by
 unfold X8;split
 ·rename_i c hc;have hm:=ha c (bc hc);exact FK hm (X9 (fun x hx=>(ha x hx).1) hm.1 i all.length).1
 ·simp
theorem UA {l:List Cu} (hl:∀c∈l,Gd c):∀x∈Xv l,Mo x:=by
 rw[KX];have h1:∀x∈l.flatMap ze,Mo x:=by intro x hx;obtain⟨c,hc,hx⟩:=cv.1 hx;exact PS (hl c hc) x hx
 intro x hx;unfold vL at hx;obtain⟨i,_,hx⟩:=cv.1 hx;exact Ch h1 i x hx
theorem Wa {l:List Cu} {i k:Nat} (hik:i≠k):∀j,j≤l.length→(kF l i k j).length+(if i<j then 1 else 0)+(if k<j then 1 else 0)=j
 |0,_=>by simp[kF]
 |j+1,h=>by
  have ih:=Wa (l:=l) hik j (by omega);unfold kF;rw[W1,T1 (l:=l) (i:=j) (by omega)];by_cases h1:j=i
  ·subst h1;rw[if_neg (show ¬(j≠j∧j≠k)by simp)];have e1:¬j<j:=by omega
   have e2:j<j+1:=by omega
   rw[if_neg e1]at ih;rw[if_pos e2];by_cases h3:k<j
   ·rw[if_pos h3]at ih;rw[if_pos (show k<j+1 by omega)];simp only[bh];omega
   ·rw[if_neg h3]at ih;rw[if_neg (show ¬k<j+1 by omega)];simp only[bh];omega
  ·by_cases h2:j=k
   ·subst h2;rw[if_neg (show ¬(j≠i∧j≠j)by simp)];have e1:¬j<j:=by omega
    have e2:j<j+1:=by omega
    rw[if_neg e1]at ih;rw[if_pos e2];by_cases h3:i<j
    ·rw[if_pos h3]at ih;rw[if_pos (show i<j+1 by omega)];simp only[bh];omega
    ·rw[if_neg h3]at ih;rw[if_neg (show ¬i<j+1 by omega)];simp only[bh];omega
   ·rw[if_pos ⟨h1,h2⟩];have e1:(i<j+1)=(i<j):=propext ⟨fun _=>by omega,fun _=>by omega⟩;have e2:(k<j+1)=(k<j):=propext ⟨fun _=>by omega,fun _=>by omega⟩;simp only[e1,e2,Option.toList_some,c2,bh];omega
theorem Wb {l:List Cu} {i k:Nat} {x:Cu}:∀{j},x∈kF l i k j→x∈l
 |0,h=>by simp[kF]at h
 |j+1,h=>by
  unfold kF at h;rcases W2.1 h with h|h
  ·exact Wb h
  ·split at h
   ·exact bc (Option.mem_toList.1 h)
   ·simp at h
theorem PT {l:List Cu} {i k j:Nat} (h:j<l.length) (h1:j≠i) (h2:j≠k):kF l i k (j+1)=kF l i k j++[l[j]]:=by
 show kF l i k j++_=_;rw[if_pos ⟨h1,h2⟩,T1 h];rfl
theorem V9 {l:List Cu} {i k j:Nat} (h:j=i∨j=k):kF l i k (j+1)=kF l i k j:=by
 show kF l i k j++_=_;rw[if_neg (by rcases h with h|h<;>simp[h]),List.append_nil]
theorem Oj (l:List Cu) (i k:Nat):∀j,(kF l i k j).length≤j
 |0=>by simp[kF]
 |j+1=>by
  have:=Oj l i k j;show(kF l i k j++_).length≤_;rw[W1];have:(if j≠i∧j≠k then l[j]?.toList else []).length≤1:=by
   split
   ·cases l[j]? <;>simp
   ·simp
  omega
def toT (c:Cu) (p:P5):Cu:=⟨c.arc,c.ln,c.ci,c.cw,c.fr,p,c.jk⟩
theorem VA {l:List Cu} (hl:∀c∈l,Mo c) {i:Nat} (hi:i<l.length) {k:Nat} (hk:Po l i=some k):
 ∃hkl:k<l.length,i≠k∧(k:Int)=vQ l l[i].tt∧YC l i=some (kF l i k l.length++[toT l[i] l[k].tt])∧Mo (toT l[i] l[k].tt):=by
 have a5:l[i]? =some l[i]:=T1 hi;have hk0:=hk;unfold Po at hk;rw[a5]at hk;simp only at hk;split at hk
 ·rename_i hc;split at hk
  ·rename_i d hd;split at hk
   ·rename_i hs;simp only[dk]at hk;subst hk;obtain⟨hkl,a4⟩:=bw.1 hd;have a3:=V3 (f:=Rs l l[i].tt) (n:=l.length) hc.2;have a3:Rs l l[i].tt (vQ l l[i].tt).toNat=true:=a3;unfold Rs at a3;rw[hd]at a3;have a3:kO d.fr l[i].tt=true:=a3;have a6:=hl _ (Ts hi);have hmd:Mo d:=hl d (bc hd);refine⟨hkl,fun e=>?_,by omega,?_,?_⟩
    ·have:d=l[i]:=by rw[←a4];simp only[←e]
     rw[this]at a3;have:=a6.1.sup.2.2;rw[this]at a3;cases a3
    ·unfold YC;rw[hk0];simp only[a5,hd,a4];rfl
    ·rw[a4];exact da a6 hmd hs.1 hs.2 a3
   ·cases hk
  ·cases hk
 ·cases hk
theorem yX {l:List Cu} {i:Nat} (h:Po l i=none):YC l i=none:=by unfold YC;rw[h]
theorem UB {l:List Cu} (h:yt l l.length 0=none):wu l=l:=by
 unfold wu;cases hl:l.length with
 |zero=>rfl
 |succ n=>rw[Q0,h]
theorem UC {l m:List Cu} (h:yt l l.length 0=some m) (hm:m.length+1=l.length):wu l=wu m:=by
 unfold wu;rw[←hm,Q0,h]
theorem Wc {l:List Cu} {k:Nat} (h:k<l.length):yt l (l.length-k) k=match YC l k with
 |some m=>some m
 |none=>yt l (l.length-(k+1)) (k+1):=by
 have e:l.length-k=(l.length-(k+1))+1:=by omega
 rw[e];rfl
def mgI0 (l:List Cu) (_ ds:List D):Prop:=∃k:Nat,k≤l.length∧ds=[.int .i64 (k:Int)]∧yt l l.length 0=yt l (l.length-k) k
def mgI1 (l:List Cu) (gs ds:List D):Prop:=∃j:Nat,j≤l.length∧∃n:Nat,∃z,ds=[.int .i64 (j:Int),.int .i64 (n:Int),.int .i64 z]∧∀c,l[gK gs]? =some c→n=Ns l c.tt j∧z=kE (Rs l c.tt) j
def mgI2 (l:List Cu) (gs ds:List D):Prop:=∃j:Nat,j≤l.length∧∃m,ds=[.int .i64 (j:Int),.sl (kUs m)]∧∀c,l[gK gs]? =some c→m=kF l (gK gs) (vQ l c.tt).toNat j
theorem lU (x:C66):cut (ck x []) 25 1 [.bool (C66.cw x)]:=⟨rfl,by show 25+1≤66;omega⟩
theorem Cj {l:List Cu} {k:Nat} (h:k<l.length):cut (nth [] (kUs l) (Lm (k:Int))) 25 1 [.bool l[k].cw]:=by
 rw[J9,y5 h,←ZY];exact lU _
theorem UD:∀(n:Nat) {l:List Cu},l.length=n→(∀c∈l,Mo c)→l.length≤6000000→qe CC 76 [.c (.sl (kUs l))] [.c (.sl (kUs (wu l)))]:=by
 intro n
 induction n using Nat.strongRecOn with
 |_ n ih=>
 intro l hln hl hn;have hv:=U9 (qe CC) (mgI0 l) (zP 10000000) (mgI1 l) (zP 10000000) (mgI2 l) (zP 10000000) (kUs l) (· =[.c (.sl (kUs (wu l)))]);refine gOk Tryz.func76 hv ?_;clear hv;refine⟨⟨0,cH _,rfl,rfl⟩,?_⟩;rintro _ ⟨k,hk,he,a5⟩;simp only[c5,J3,and_true,true_and]at he;subst he;refine brd (fun h=>?_) (fun h=>?_)
 ·have a3:k<l.length:=by rw[qu]at h;simp only[J7]at h;omega
  have a8:l[k]? =some l[k]:=T1 a3;have b9:=hl _ (Ts a3);have b1:=b9.1.1.2.2;have next:YC l k=none→mgI0 l [] [.int .i64 (J4 .i64 ((k:Int)+1))]∧zP 10000000 [.int .i64 (J4 .i64 ((k:Int)+1))]<zP 10000000 [.int .i64 (k:Int)]:=by intro hj;refine⟨⟨k+1,a3,by rw[wI];rfl,?_⟩,qt⟩;rw[a5,Wc a3,hj]
  refine⟨xj a3,_,Q7 a3,⟨0,cH _,0, -1,rfl,fun c _=>⟨rfl,rfl⟩⟩,?_⟩;rintro _ _ z ⟨j,hj,m,z',he,an⟩;simp only[c5,J3,and_true,true_and]at he;obtain⟨rfl,rfl,rfl⟩:=he;obtain⟨al,b7⟩:m=Ns l l[k].tt j∧z=kE (Rs l l[k].tt) j:=an _ a8;have hnb:=LQ l l[k].tt j;rw[←al]at hnb;refine brd (fun h1=>?_) (fun h1=>?_)
  ·have a4:j<l.length:=by rw[qu]at h1;simp only[J7]at h1;omega
   have b4:=hl _ (Ts a4);have cs:=U2 l[k].tt a4;rw[←al]at cs;have b8:Rs l l[k].tt j=kO l[j].fr l[k].tt:=by unfold Rs;rw[T1 a4]
   have nx:∀(a:Nat) (b:Int),a=Ns l l[k].tt (j+1)→b=kE (Rs l l[k].tt) (j+1)→mgI1 l [.int .i64 (k:Int)] [.int .i64 (J4 .i64 ((j:Int)+1)),.int .i64 (a:Int),.int .i64 b]:=by intro a b ha hb;refine⟨j+1,a4,a,b,by rw[wI];rfl,fun c hc=>?_⟩;have hc:l[k]? =some c:=hc;rw[a8]at hc;obtain rfl:=dl hc;exact⟨ha,hb⟩
   refine⟨xj a4,_,LP a4,_,wP b4.1.1.2.1 b1,?_⟩;refine zQ (fun h3=>?_) (fun h3=>?_)
   ·have a9:(j:Int)=kE (Rs l l[k].tt) (j+1):=by rw[wR,b8,if_pos h3]
    refine⟨xj a4,_,Q7 a4,_,wP b4.1.1.2.2 b1,?_⟩;rw[PO (show m≤100000000 by omega),PO (show m+1≤100000000 by omega)];refine zQ (fun h4=>?_) (fun h4=>?_)
    ·exact⟨nx _ _ (by rw[cs,if_pos h3,if_pos h4]) a9,qt⟩
    ·exact⟨nx _ _ (by rw[cs,if_pos h3,if_neg (by rw[h4];simp)]) a9,qt⟩
   ·have a9:z=kE (Rs l l[k].tt) (j+1):=by rw[wR,b8,if_neg (by rw[h3];simp),b7]
    refine⟨xj a4,_,Q7 a4,_,wP b4.1.1.2.2 b1,?_⟩;rw[PO (show m≤100000000 by omega)];refine zQ (fun h4=>?_) (fun h4=>?_)
    ·exact⟨nx _ _ (by rw[cs,if_neg (by rw[h3];simp),if_pos h4]) a9,qt⟩
    ·exact⟨nx _ _ (by rw[cs,if_neg (by rw[h3];simp),if_neg (by rw[h4];simp)];omega) a9,qt⟩
  ·have a4:j=l.length:=by rw[qu]at h1;simp only[J7]at h1;omega
   have he2:m=wb l l[k].tt:=by rw[al,a4];rfl
   have ag:z=vQ l l[k].tt:=by rw[b7,a4];rfl
   have bb:=Gf (Rs l l[k].tt) l.length;have bb: -1≤z∧z<(l.length:Int):=by rw[ag];exact bb
   have jk:Po l k=if wb l l[k].tt=2∧0≤vQ l l[k].tt then
    (match l[(vQ l l[k].tt).toNat]? with
     |some d=>if zL l[k] d=true∧l[k].cw=d.cw then some (vQ l l[k].tt).toNat else none
     |none=>none)
    else none:=by unfold Po;rw[a8];rfl
   rw[←he2,←ag]at jk;refine brb (fun h2=>?_) (fun h2=>?_)
   ·have b3:m=2:=by simp only[beq_iff_eq]at h2;omega
    refine brd (fun h3=>?_) (fun h3=>?_)
    ·obtain⟨q,rfl⟩:∃q:Nat,z=(q:Int):=⟨z.toNat,by omega⟩;have a6:q<l.length:=by omega
     have hmq:=hl _ (Ts a6);rw[if_pos ⟨b3,by omega⟩,J9,T1 a6]at jk;simp only at jk;refine⟨xj a3,_,xf a3,xj a6,_,xf a6,_,Zj b9.1.1.1 hmq.1.1.1,?_⟩;refine zQ (fun h4=>?_) (fun h4=>?_)
     ·refine⟨xj a3,_,Cj a3,xj a6,_,Cj a6,?_⟩;refine brb (fun h5=>?_) (fun h5=>?_)
      ·have ap:l[k].cw=l[q].cw:=by simpa using h5
       rw[if_pos ⟨h4,ap⟩]at jk;obtain⟨_,hne,hq2,hje,hmw⟩:=VA hl a3 jk;have b2:=Wa (l:=l) hne l.length (c9 _);rw[if_pos a3,if_pos a6]at b2;refine⟨xj a3,_,xf a3,xj a6,_,Q7 a6,⟨0,cH _,[],rfl,fun c _=>rfl⟩,?_⟩;rintro _ _ ⟨t,ht,r,he,hr⟩;simp only[c5,J3,D.sl.injEq,and_true,true_and]at he;obtain⟨rfl,rfl⟩:=he;have hr:r=kF l k (vQ l l[k].tt).toNat t:=hr _ a8;rw[←ag,J9]at hr;have hrl:=Oj l k q t;rw[←hr]at hrl;refine brd (fun h6=>?_) (fun h6=>?_)
       ·have a7:t<l.length:=by rw[qu]at h6;simp only[J7]at h6;omega
        have b6:∀w,w=kF l k q (t+1)→mgI2 l [.int .i64 (k:Int)] [.int .i64 (J4 .i64 ((t:Int)+1)),.sl (kUs w)]:=by intro w hw;refine⟨t+1,a7,w,by rw[wI];rfl,fun c hc=>?_⟩;have hc:l[k]? =some c:=hc;rw[a8]at hc;obtain rfl:=dl hc;show w=kF l k (vQ l l[k].tt).toNat (t+1);rw[←ag,J9];exact hw
        refine brb (fun h7=>?_) (fun h7=>?_)
        ·have n1:t≠k:=fun e=>by rw[e]at h7;simp at h7
         refine brb (fun h8=>?_) (fun h8=>?_)
         ·have n2:t≠q:=fun e=>by rw[e]at h8;simp at h8
          refine⟨xj a7,_,xf a7,⟨by unfold Eng.room;rw[qu];omega,fun e he=>by rw[P1.1 he];rfl⟩,?_⟩;have e1:kUs r++[ck (kU l[t]) []]=kUs (r++[l[t]]):=by rw[wy];rfl
          rw[e1];exact⟨b6 _ (by rw[PT a7 n1 n2,hr]),qt⟩
         ·have n2:t=q:=by
           have:¬((t:Int) !=(q:Int))=true:=by rw[h8];simp
           simp at this;omega
          exact⟨b6 _ (by rw[V9 (.inr n2),hr]),qt⟩
        ·have n1:t=k:=by
          have:¬((t:Int) !=(k:Int))=true:=by rw[h7];simp
          simp at this;omega
         exact⟨b6 _ (by rw[V9 (.inl n1),hr]),qt⟩
       ·have a7:t=l.length:=by rw[qu]at h6;simp only[J7]at h6;omega
        have hw:=BE l[k] l[k].fr l[q].tt;rw[←kH l[k]]at hw;have e1:kUs r++[ck (kU {l[k]with fr:=l[k].fr,tt:=l[q].tt}) []]=kUs (r++[toT l[k] l[q].tt]):=by rw[wy];rfl
        rw[hw,e1];have ba:r=kF l k q l.length:=by rw[hr,a7]
        have ad:(r++[toT l[k] l[q].tt]).length+1=l.length:=by rw[W1,bd,ba];omega
        have hfm:yt l l.length 0=some (r++[toT l[k] l[q].tt]):=by rw[a5,Wc a3,hje,ba]
        have b5:=ih (r++[toT l[k] l[q].tt]).length (by omega) (l:=r++[toT l[k] l[q].tt]) rfl (fun x hx=>by
         rcases W2.1 hx with hx|hx
         ·rw[hr]at hx;exact hl x (Wb hx)
         ·rw[P1.1 hx];exact hmw) (by omega)
        rw[UC hfm ad];exact⟨⟨by unfold Eng.room;rw[qu];omega,fun e he=>by rw[P1.1 he];rfl⟩,_,b5,rfl⟩
      ·have ap:¬l[k].cw=l[q].cw:=by simpa using h5
       rw[if_neg (fun z=>ap z.2)]at jk;exact next (yX jk)
     ·rw[if_neg (fun z=>by rw[h4]at z;cases z.1)]at jk;exact next (yX jk)
    ·rw[if_neg (fun z=>h3 (by omega))]at jk;exact next (yX jk)
   ·have b3:m≠2:=by simp only[beq_eq_false_iff_ne,ne_eq]at h2;omega
    rw[if_neg (fun z=>b3 z.1)]at jk;exact next (yX jk)
 ·have a3:k=l.length:=by rw[qu]at h;simp only[J7]at h;omega
  rw[a3,Nat.sub_self]at a5;rw[UB a5]
end Eng
end
section
namespace Eng
open Go Go.Proofs Rl
set_option maxRecDepth 100000
theorem FL {l:List Cu} (hl:∀c∈l,Mo c) {i:Nat} {m:List Cu} (h:YC l i=some m):(∀c∈m,Mo c)∧m.length+1=l.length:=by
 have hj:=h;unfold YC at h;split at h
 ·cases h
 ·rename_i k hk;split at h
  ·rename_i c d hc hd;obtain⟨hi,rfl⟩:=bw.1 hc;obtain⟨hkl,hne,_,he,hm⟩:=VA hl hi hk;rw[hj,dk]at he;have a3:=Wa (l:=l) hne l.length (c9 _);rw[if_pos hi,if_pos hkl]at a3;subst he;refine⟨fun x hx=>?_,by rw[W1,bd];omega⟩;rcases W2.1 hx with hx|hx
   ·exact hl x (Wb hx)
   ·rw[P1.1 hx];exact hm
  ·cases h
theorem UE {l:List Cu} (hl:∀c∈l,Mo c) {m:List Cu}:∀{n i:Nat},yt l n i=some m→(∀c∈m,Mo c)∧m.length+1=l.length
 |0,_,h=>by cases h
 |n+1,i,h=>by
  unfold yt at h;split at h
  ·rename_i m' hm';cases h;exact FL hl hm'
  ·exact UE hl h
theorem VB:∀(n:Nat) {l:List Cu},(∀c∈l,Mo c)→(∀c∈Q0 n l,Mo c)∧(Q0 n l).length≤l.length
 |0,l,h=>⟨h,c9 _⟩
 |n+1,l,h=>by
  unfold Q0;split
  ·exact⟨h,c9 _⟩
  ·rename_i m hm;obtain⟨h1,h2⟩:=UE h hm;obtain⟨h3,h4⟩:=VB n h1;exact⟨h3,by omega⟩
theorem VD {l:List Cu} (h:∀c∈l,Mo c):(∀c∈wu l,Mo c)∧(wu l).length≤l.length:=VB _ h
theorem Ck {l:List Cu} (hl:∀c∈l,Gd c):∀c∈ZM l,Mo c:=fun c hc=>
 (VD fun x hx=>UA hl x (NW hx)).1 c (LN hc)
theorem Gm {l:List Cu} (hl:∀c∈l,Gc c):(∀c∈(wv l).1,Mo c)∧(wv l).1.length≤400:=by
 unfold wv;split
 ·simp
 ·split
  ·simp
  ·split
   ·simp
   ·split
    ·simp
    ·rename_i h1 h2 h3 h4;refine⟨Ck fun c hc=>⟨hl c hc,?_⟩,by simpa using h4⟩;have h2:l.all WD=true:=by simpa using h2
     exact V1.1 h2 c hc
def flI (l:List Cu) (_ ds:List D):Prop:=∃k:Nat,k≤l.length∧ds=[.int .i64 (k:Int)]∧(l.take k).all WD=true
theorem Zw {l:List Cu} (hl:∀c∈l,Gc c) (hn:l.length≤6000000):qe CC 41 [.c (.sl (kUs l))] [.ag [.sl (kUs (wv l).1)],.c (.int .i64 (wv l).2)]:=by
 have hv:=PK (qe CC) (flI l) (zP 10000000) (kUs l) (· =[.ag [.sl (kUs (wv l).1)],.c (.int .i64 (wv l).2)]);refine gOk Tryz.func41 hv ?_;clear hv;rw[qu];refine brd (fun h=>?_) (fun h0=>?_)
 ·have:400<l.length:=by simp only[J7]at h;omega
  unfold wv;rw[if_pos this];rfl
 have a5:¬400<l.length:=by simp only[J7]at h0;omega
 refine⟨⟨0,cH _,rfl,rfl⟩,?_⟩;rintro _ ⟨k,hk,he,a3⟩;simp only[c5,J3,and_true,true_and]at he;subst he;refine brd (fun h=>?_) (fun h=>?_)
 ·have a4:k<l.length:=by simp only[J7]at h;omega
  have hx:=hl _ (Ts a4);have ok:=xj a4;refine⟨ok,_,xf a4,_,LR hx,?_⟩;cases hb:WD l[k]with
  |false=>
   have:l.all WD=false:=by
    cases h2:l.all WD with
    |false=>rfl
    |true=>rw[V1.1 h2 _ (Ts a4)]at hb;cases hb
   refine brb (fun _=>?_) (fun h=>by cases h);unfold wv;rw[if_neg a5,if_pos this];rfl
  |true=>refine brb (fun h=>by cases h) (fun _=>?_);refine⟨⟨k+1,a4,by rw[wI];rfl,?_⟩,qt⟩;rw[U0 a4,c4,a3,Dd];simp[hb]
 ·have a4:k=l.length:=by simp only[J7]at h;omega
  rw[a4,bm]at a3;have a6:∀c∈l,Gd c:=fun c hc=>⟨hl c hc,V1.1 a3 c hc⟩
  refine⟨_,PP hl hn,?_⟩;have e1:wv l=if Bf l=true then([],8)else if 400<(ZM l).length then([],3)else(ZM l,0):=by unfold wv;rw[if_neg a5,if_neg (by rw[a3];simp)]
  refine zQ (fun h2=>?_) (fun h2=>?_)
  ·rw[e1,if_pos h2];rfl
  ·rw[if_neg (by rw[h2];simp)]at e1;obtain⟨p1,p2⟩:=BO a6 (by omega);have pm:=UA a6;have om:∀c∈AY (Xv l),Mo c:=fun x hx=>pm x (NW hx)
   have ol:=FF (Xv l);obtain⟨mm,ml⟩:=VD om;refine⟨_,LG a6 (by omega),_,BQ p1 p2,_,UD _ rfl om (by omega),_,U1 (fun c hc=>(mm c hc).1) (by omega),?_⟩;show br (toB (Hx (decide ((J8 (kUs (ZM l)).length)>(400:Int))))) _ _;rw[qu];refine brd (fun h=>?_) (fun h=>?_)
   ·have:400<(ZM l).length:=by simp only[J7]at h;omega
    rw[e1,if_pos this];rfl
   ·have:¬400<(ZM l).length:=by simp only[J7]at h;omega
    rw[e1,if_neg this];rfl
end Eng
end
section
open Go Go.Proofs Eng
namespace Eng
section
variable (Gv:Nat→List A→List A→Prop) (I0:List D→List D→Prop) (M0:List D→Nat) (I1:List D→List D→Prop) (M1:List D→Nat) (I2:List D→List D→Prop) (M2:List D→Nat) (I3:List D→List D→Prop) (M3:List D→Nat) (Q:List A→Prop)
theorem FM (i0:Int) (i1:Int):wpF CC Gv an0 Tryz.f34 [.c (.int .i64 i0),.c (.int .i64 i1)] Q=(bB (i1==0) (∃b es,Gv 43 [aI (0:Int)] [aZ b es]∧∃b1 e1,Gv 43 [aI (1:Int)] [aZ b1 e1]∧∃x,Gv 59 [aZ b es,aZ b1 e1] [aR x]∧Q [aR x]) (∃b es,Gv 43 [aI i0] [aZ b es]∧∃b1 e1,Gv 43 [aI i1] [aZ b1 e1]∧∃x,Gv 59 [aZ b es,aZ b1 e1] [aR x]∧Q [aR x])):=by kernel_rfl
theorem Gn (l0:List (List D)) (Q:List A→Prop):wpF CC Gv (fun _=>⟨[.slot 4 (.int .i64 0),.own 3 36 66],[],I0,M0⟩) Tryz.f84 [.c (.sl l0)] Q=(I0 [] [dI (0:Int),Hu []]∧∀(i:Int) (es:List (List D)),I0 [] [dI i,Hu es]→bB (decide (i<(J8 l0.length))) (rO l0 i 8∧∃x x1,cU l0 i 0 8 (rk x (rk x1 []))∧(J8 l0.length)≠0∧(0≤Lr (J4 .i64 (i+1)) (J8 l0.length)∧Lr (J4 .i64 (i+1)) (J8 l0.length)<(J8 l0.length)∧be (nth [] l0 (Lm (Lr (J4 .i64 (i+1)) (J8 l0.length))))=8)∧∃x2 x3,cut (nth [] l0 (Lm (Lr (J4 .i64 (i+1)) (J8 l0.length)))) 0 8 (rk x2 (rk x3 []))∧∃x4 i_1,Gv 146 [aV x x1,aV x2 x3] [aC x4,aI i_1]∧bB (i_1==0) ((room (es.length+1)∧lens 66 [(ck x4 [])])∧I0 [] [dI (J4 .i64 (i+1)),Hu (es++[(ck x4 [])])]∧M0 [dI (J4 .i64 (i+1)),Hu (es++[(ck x4 [])])]<M0 [dI i,Hu es]) (I0 [] [dI (J4 .i64 (i+1)),Hu es]∧M0 [dI (J4 .i64 (i+1)),Hu es]<M0 [dI i,Hu es])) (Q [aL es])):=by kernel_rfl
theorem FN (x0:Int) (y0:Int) (u0:Int):wpF CC Gv an0 Tryz.f143 [.c (.int .i8 x0),.c (.int .i8 y0),.c (.int .u8 u0)] Q=((4:Int)≠(0:Int)∧∃x,Gv 34 [aI (J4 .i64 x0),aI (J4 .i64 (J4 .i64 (Lr u0 (4:Int))+1))] [aR x]∧∃x1,Gv 34 [aI (J4 .i64 y0),aI (J4 .i64 (J4 .i64 (Lr u0 (4:Int))+1))] [aR x1]∧∃x2 x3,Gv 85 [aR x,aR x1] [aV x2 x3]∧Q [aV x2 x3]):=by kernel_rfl
theorem UF (r0:R4) (r1:R4):wpF CC Gv an0 Tryz.f85 [.ag (rk r0 []),.ag (rk r1 [])] Q=(Q [aV r0 r1]):=by kernel_rfl
theorem UG (k0:Int) (u0:Int) (a0:Int) (b0:Int) (c0:Int) (d0:Int) (l0:List (List D)) (Q:List A→Prop):wpF CC Gv (fun _=>⟨[.slot 6 (.int .i64 0),.own 5 81 8],[],I0,M0⟩) Tryz.f82 [.ag [.int .u8 k0,.int .u8 u0,.int .i8 a0,.int .i8 b0,.int .i8 c0,.int .i8 d0,.sl l0]] Q=(∃x x1,Gv 143 [F2 (Hv .i8 a0),F2 (Hv .i8 b0),F2 (Hv .u8 u0)] [aV x x1]∧∃x2 x3,Gv 143 [F2 (Hv .i8 c0),F2 (Hv .i8 d0),F2 (Hv .u8 u0)] [aV x2 x3]∧(3:Int)≠(0:Int)∧bB (Lr k0 (3:Int)==(0:Int)) (∃x4 x5,Gv 85 [aR x2,aR x1] [aV x4 x5]∧∃x6 x7,Gv 85 [aR x,aR x3] [aV x6 x7]∧∃es,Gv 84 [aL [(rk x (rk x1 [])),(rk x4 (rk x5 [])),(rk x2 (rk x3 [])),(rk x6 (rk x7 []))]] [aL es]∧Q [aL es]) (bB (Lr k0 (3:Int)==(1:Int)) (∃i,Gv 72 [aR x2] [aI i]∧bB (decide (i≤0)) (Q [aL []]) (∃es,Gv 42 [aT x x1 x2] [aL es]∧Q [aL es])) (I0 [] [dI (0:Int),Hu []]∧∀(i:Int) (es:List (List D)),I0 [] [dI i,Hu es]→bB (decide (i<(J8 l0.length))) (rO l0 i 2∧∃i_1,cU l0 i 0 1 [Hv .i8 i_1]∧rO l0 i 2∧∃i_2,cU l0 i 1 1 [Hv .i8 i_2]∧∃x x4,Gv 143 [F2 (Hv .i8 i_1),F2 (Hv .i8 i_2),F2 (Hv .u8 u0)] [aV x x4]∧(room (es.length+1)∧lens 8 [(rk x (rk x4 []))])∧I0 [] [dI (J4 .i64 (i+1)),Hu (es++[(rk x (rk x4 []))])]∧M0 [dI (J4 .i64 (i+1)),Hu (es++[(rk x (rk x4 []))])]<M0 [dI i,Hu es]) (∃e1,Gv 84 [aL es] [aL e1]∧Q [aL e1])))):=by kernel_rfl
theorem Cl (l0:List (List D)) (i0:Int) (Q:List A→Prop):wpF CC Gv (fun _=>⟨[.slot 7 (.int .i64 0),.own 6 40 66],[],I0,M0⟩) Tryz.f45 [.c (.sl l0),.c (.int .i64 i0)] Q=(I0 [] [dI (0:Int),Hu []]∧∀(i:Int) (es:List (List D)),I0 [] [dI i,Hu es]→bB (decide (i<(J8 l0.length))) (bB (decide ((J8 l0.length)>i0)) (Q [aL [],aB false]) (rO l0 i 7∧∃e1,cU l0 i 6 1 [Hu e1]∧bB (decide ((J8 e1.length)>i0)) (Q [aL [],aB false]) (rO l0 i 7∧∃i_1 i_2 i_3 i_4 i_5 i_6 e2,cU l0 i 0 7 [Hv .u8 i_1,Hv .u8 i_2,Hv .i8 i_3,Hv .i8 i_4,Hv .i8 i_5,Hv .i8 i_6,Hu e2]∧∃e3,Gv 82 [F0 [Hv .u8 i_1,Hv .u8 i_2,Hv .i8 i_3,Hv .i8 i_4,Hv .i8 i_5,Hv .i8 i_6,Hu e2]] [aL e3]∧(room (es.length+e3.length)∧lens 66 e3)∧I0 [] [dI (J4 .i64 (i+1)),Hu (es++e3)]∧M0 [dI (J4 .i64 (i+1)),Hu (es++e3)]<M0 [dI i,Hu es]))) (Q [aL es,aB (decide ((J8 es.length)≤i0))])):=by kernel_rfl
theorem LV (l0:List (List D)) (i0:Int):wpF CC Gv an0 Tryz.f22 [.c (.sl l0),.c (.int .i64 i0)] Q=(∃es b,Gv 45 [aL l0,aI i0] [aL es,aB b]∧bB (!b) (Q [F0 [Hu []],aB false]) (∃e1 i,Gv 41 [aL es] [F0 [Hu e1],aI i]∧bB (i==0) (Q [F0 [Hu e1],aB (decide ((J8 e1.length)≤i0))]) (Q [F0 [Hu e1],aB false]))):=by kernel_rfl
theorem PU (r0:R4) (r1:R4) (r2:R4):wpF CC Gv an0 Tryz.f20 [.ag (rk r0 (rk r1 (rk r2 [])))] Q=(∃b,Gv 40 [aT r0 r1 r2] [aB b]∧bB (!b) (Q [F0 [Hu []],aI (1:Int)]) (∃es,Gv 42 [aT r0 r1 r2] [aL es]∧∃e1 i,Gv 41 [aL es] [F0 [Hu e1],aI i]∧Q [F0 [Hu e1],aI i])):=by kernel_rfl
theorem LW (l0:List (List D)):wpF CC Gv an0 Tryz.f50 [.ag [.sl l0]] Q=(∃es i,Gv 41 [aL l0] [F0 [Hu es],aI i]∧bB (i==0) (∃b,Gv 33 [F0 [Hu l0],F0 [Hu es]] [aB b]∧Q [aB b]) (Q [aB false])):=by kernel_rfl
theorem LX (l0:List (List D)) (l1:List (List D)) (Q:List A→Prop):wpF CC Gv (fun _=>⟨[.slot 5 (.int .i64 0)],[],I0,M0⟩) Tryz.f33 [.ag [.sl l0],.ag [.sl l1]] Q=(bB ((J8 l0.length) !=(J8 l1.length)) (Q [aB false]) (I0 [] [dI (0:Int)]∧∀(i:Int),I0 [] [dI i]→bB (decide (i<(J8 l0.length))) (rO l0 i 66∧∃x,cU l0 i 0 66 (ck x [])∧rO l1 i 66∧∃x1,cU l1 i 0 66 (ck x1 [])∧∃b,Gv 58 [aC x,aC x1] [aB b]∧bB (!b) (Q [aB false]) (I0 [] [dI (J4 .i64 (i+1))]∧M0 [dI (J4 .i64 (i+1))]<M0 [dI i])) (Q [aB true]))):=by kernel_rfl
theorem PV (l0:List (List D)):wpF CC Gv an0 Tryz.f51 [.ag [.sl l0]] Q=(bB ((J8 l0.length) !=2) (Q [aB false]) (((0:Int)≤(0:Int)∧0<(J8 l0.length)∧be (nth [] l0 0)=66)∧∃b,cut (nth [] l0 0) 0 1 [Hx b]∧bB (!b) (Q [aB false]) (((0:Int)≤(1:Int)∧1<(J8 l0.length)∧be (nth [] l0 1)=66)∧∃b,cut (nth [] l0 1) 0 1 [Hx b]∧bB (!b) (Q [aB false]) (((0:Int)≤(0:Int)∧0<(J8 l0.length)∧be (nth [] l0 0)=66)∧∃x x1 x2,cut (nth [] l0 0) 13 12 (rk x (rk x1 (rk x2 [])))∧((0:Int)≤(1:Int)∧1<(J8 l0.length)∧be (nth [] l0 1)=66)∧∃x3 x4 x5,cut (nth [] l0 1) 13 12 (rk x3 (rk x4 (rk x5 [])))∧∃b,Gv 91 [aT x x1 x2,aT x3 x4 x5] [aB b]∧bB (!b) (Q [aB false]) (((0:Int)≤(0:Int)∧0<(J8 l0.length)∧be (nth [] l0 0)=66)∧∃x x6 x7,cut (nth [] l0 0) 13 12 (rk x (rk x6 (rk x7 [])))∧∃es i,Gv 20 [aT x x6 x7] [F0 [Hu es],aI i]∧∃b,Gv 33 [F0 [Hu l0],F0 [Hu es]] [aB b]∧Q [aB b]))))):=by kernel_rfl
theorem LY (s0:List UInt8) (k0:Int) (d0:Int) (l0:List (List D)) (i0:Int):wpF CC Gv an0 Tryz.f26 [.ag [.str s0,.int .i64 k0,.int .i64 d0,.sl l0],.c (.int .i64 i0)] Q=(∃b,Gv 49 [F2 (Hy s0)] [aB b]∧bB (!b) (Q [aB false]) (∃b,Gv 50 [F0 [Hu l0]] [aB b]∧bB (!b) (Q [aB false]) (bB ((J8 l0.length)==0) (Q [aB false]) (bB (decide (d0<1)) (Q [aB false]) (bB (decide (d0>i0)) (Q [aB false]) (bB (k0==1) (Q [aB true]) (bB (k0==3) (∃b,Gv 51 [F0 [Hu l0]] [aB b]∧Q [aB b]) (bB (k0==4) (Q [aB (d0==i0)]) (Q [aB false]))))))))):=by kernel_rfl
theorem LZ (t0:Int) (l0:List (List D)) (Q:List A→Prop):wpF CC Gv (eM ⟨[.slot 4 (.int .i64 0),.slot 3 (.int .i64 0)],[],I0,M0⟩ ⟨[.slot 5 (.int .i64 0)],[],I1,M1⟩ ⟨[.slot 6 (.int .i64 0)],[.slot 5 (.int .i64 0)],I2,M2⟩) Tryz.f8 [.ag [.int .i64 t0,.sl l0]] Q=(bB (decide ((J8 l0.length)>40)) (Q [aI (3:Int)]) (bB (decide (t0<1)) (Q [aI (1:Int)]) (bB (decide (t0>10000000)) (Q [aI (1:Int)]) (I0 [] [dI (0:Int),dI (0:Int)]∧∀(i i_1:Int),I0 [] [dI i,dI i_1]→bB (decide (i<(J8 l0.length))) (rO l0 i 4∧∃s i_2 i_3 es,cU l0 i 0 4 [Hy s,dI i_2,dI i_3,Hu es]∧∃b,Gv 26 [F0 [Hy s,dI i_2,dI i_3,Hu es],aI t0] [aB b]∧bB (!b) (Q [aI (1:Int)]) (rO l0 i 4∧∃i_4,cU l0 i 1 1 [dI i_4]∧bB (i_4==4) (I0 [] [dI (J4 .i64 (i+1)),dI (J4 .i64 (i_1+1))]∧M0 [dI (J4 .i64 (i+1)),dI (J4 .i64 (i_1+1))]<M0 [dI i,dI i_1]) (I0 [] [dI (J4 .i64 (i+1)),dI i_1]∧M0 [dI (J4 .i64 (i+1)),dI i_1]<M0 [dI i,dI i_1]))) (bB (decide (i_1>1)) (Q [aI (1:Int)]) (I1 [] [dI (0:Int)]∧∀(i:Int),I1 [] [dI i]→bB (decide (i<(J8 l0.length))) (I2 [dI i] [dI (0:Int)]∧∀(i_2:Int),I2 [dI i] [dI i_2]→bB (decide (i_2<i)) (rO l0 i 4∧∃s,cU l0 i 0 1 [Hy s]∧rO l0 i_2 4∧∃s1,cU l0 i_2 0 1 [Hy s1]∧bB (s==s1) (Q [aI (5:Int)]) (I2 [dI i] [dI (J4 .i64 (i_2+1))]∧M2 [dI (J4 .i64 (i_2+1))]<M2 [dI i_2])) (I1 [] [dI (J4 .i64 (i+1))]∧M1 [dI (J4 .i64 (i+1))]<M1 [dI i])) (Q [aI (0:Int)]))))))):=by kernel_rfl
theorem PW (t0:Int) (l0:List (List D)) (s0:List UInt8) (Q:List A→Prop):wpF CC Gv (fun _=>⟨[.slot 6 (.int .i64 0)],[],I0,M0⟩) Tryz.f12 [.ag [.int .i64 t0,.sl l0],.c (.str s0)] Q=(I0 [] [dI (0:Int)]∧∀(i:Int),I0 [] [dI i]→bB (decide (i<(J8 l0.length))) (rO l0 i 4∧∃s,cU l0 i 0 1 [Hy s]∧bB (s==s0) (Q [aI i,aI (0:Int)]) (I0 [] [dI (J4 .i64 (i+1))]∧M0 [dI (J4 .i64 (i+1))]<M0 [dI i])) (Q [aI (0:Int),aI (4:Int)])):=by kernel_rfl
end
end Eng
end
section
namespace Eng
open Go Go.Proofs Rl
set_option maxRecDepth 100000
theorem qY {α:Type} (f:α→List D) (l:List α):(l.map f).length=l.length:=bs ..
theorem y7 {α:Type} (f:α→List D) {l:List α} {i:Nat} (h:i<l.length):nth [] (l.map f) i=f l[i]:=by
 rw[qF];simp[h]
theorem Cm {α:Type} {f:α→List D} {n:Nat} (hf:∀x,(f x).length=n) (l:List α):lens n (l.map f):=by
 intro e he;obtain⟨p,_,rfl⟩:=bx.1 he;exact hf p
theorem vW {α:Type} {f:α→List D} {n:Nat} (hf:∀x,(f x).length=n) {l:List α} {k:Nat} (h:k<l.length):((0:Int)≤(k:Int)∧(k:Int)<J8 (l.map f).length∧be (nth [] (l.map f) (Lm (k:Int)))=n):=by
 rw[J9,y7 f h,qY,hf];exact⟨by omega,by simp only[J7];omega,rfl⟩
theorem Cn:∀(l pre:List D),seg (pre++l) pre.length l.length=l
 |[],_=>rfl
 |d::l,pre=>by show nth .undef (pre++d::l) pre.length::seg (pre++d::l) (pre.length+1) l.length=d::l;have h:=Cn l (pre++[d]);rw[List.append_assoc,W1,bd]at h;rw[show pre++d::l=pre++([d]++l)from rfl,h];rw[qF];simp
theorem y8 {α:Type} {f:α→List D} {n:Nat} (hf:∀x,(f x).length=n) {l:List α} {k:Nat} (h:k<l.length):cut (nth [] (l.map f) (Lm (k:Int))) 0 n (f l[k]):=by
 rw[J9,y7 f h];have:=hf l[k];refine⟨?_,by omega⟩;rw[←this];exact Cn (f l[k]) []
def WG (a b:Vc):Prop:=a.y-b.y=0∧b.x-a.x=0
instance (a b:Vc):Decidable (WG a b):=inferInstanceAs (Decidable (_∧_))
theorem Ma {a b:Vc} (ha:HV a) (hb:HV b):HL (Jl a b):=by
 have h1:Hz 41 (a.y-b.y):=ha.2.sub hb.2 (by omega);have h2:Hz 41 (b.x-a.x):=hb.1.sub ha.1 (by omega);exact⟨h1.mono (by omega),h2.mono (by omega),(h1.mul ha.1 (l:=61)).add (h2.mul ha.2 (l:=61)) (by omega)⟩
theorem UH {a b:Vc} (ha:HV a) (hb:HV b) (h:¬WG a b):qe CC 207 [.ag (kV a),.ag (kV b)] [.ag (kL (Jl a b) []),.c (.int .i64 0)]:=by
 refine wpG Tryz.func207 ((ZR ..).mpr ?_);have h1:Hz 41 (a.y-b.y):=ha.2.sub hb.2 (by omega);have h2:Hz 41 (b.x-a.x):=hb.1.sub ha.1 (by omega);have m1:Hz 61 ((a.y-b.y)*a.x):=h1.mul ha.1 (by omega);have m2:Hz 61 ((b.x-a.x)*a.y):=h2.mul ha.2 (by omega);refine⟨_,X2 ha.2 hb.2,_,X2 hb.1 ha.1,_,zO _,brb (fun e=>?_) (fun e=>?_)⟩
 ·refine⟨_,zO _,brb (fun e2=>?_) (fun e2=>?_)⟩
  ·exact absurd ⟨K4.1 (by simpa using e),K4.1 (by simpa using e2)⟩ h
  ·exact⟨_,zo h1 ha.1,_,zo h2 ha.2,_,Jr m1 m2,rfl⟩
 ·exact⟨_,zo h1 ha.1,_,zo h2 ha.2,_,Jr m1 m2,rfl⟩
theorem UI {a b:Vc} (ha:HV a) (hb:HV b) (h:WG a b):∃x0 x1 x2,qe CC 207 [.ag (kV a),.ag (kV b)] [.ag (rk x0 (rk x1 (rk x2 []))),.c (.int .i64 6)]:=by
 refine⟨z4A,z4A,z4A,?_⟩;refine wpG Tryz.func207 ((ZR ..).mpr ?_);refine⟨_,X2 ha.2 hb.2,_,X2 hb.1 ha.1,_,zO _,brb (fun e=>?_) (fun e=>?_)⟩
 ·refine⟨_,zO _,brb (fun e2=>?_) (fun e2=>?_)⟩
  ·rfl
  ·have:¬sr (b.x-a.x)=0:=by simpa using e2
   exact absurd (K4.2 h.2) this
 ·have:¬sr (a.y-b.y)=0:=by simpa using e
  exact absurd (K4.2 h.1) this
def lV (a b:Vc):Cu:=⟨false,Jl a b,⟨0,0,0⟩,false,atV a,atV b,Z4⟩
theorem Ok {a b:Vc} (h:¬WG a b):oj a b=some (lV a b):=if_neg h
theorem Co {a b:Vc} (h:WG a b):oj a b=none:=if_pos h
theorem lW {v:Vc} (h:HV v):Gp (atV v):=⟨⟨h.1.mono (by omega),Hz.zero,h.2.mono (by omega),Hz.zero,Hz.zero⟩,Nw v⟩
theorem db {a b:Vc} (ha:HV a) (hb:HV b) (h:¬WG a b):Gc (lV a b):=
 ⟨⟨rfl,.inr ⟨rfl,Ma ha hb,h⟩⟩,lW ha,lW hb⟩
theorem Gq {a b:Vc} (ha:HV a) (hb:HV b) (h:¬WG a b):qe CC 146 [.ag (kV a),.ag (kV b)] [.ag (ck (kU (lV a b)) []),.c (.int .i64 0)]:=by
 refine wpG Tryz.func146 ((X0 ..).mpr ?_);refine⟨_,_,_,_,UH ha hb h,brb (fun e=>by simp at e) (fun _=>?_)⟩;exact⟨_,KB a,_,KB b,rfl⟩
theorem Gr {a b:Vc} (ha:HV a) (hb:HV b) (h:WG a b):∃x,qe CC 146 [.ag (kV a),.ag (kV b)] [.ag (ck x []),.c (.int .i64 6)]:=by
 refine⟨⟨false,z4A,z4A,z4A,z4A,z4A,z4A,false,⟨z4A,z4A,z4A,z4A,z4A⟩,⟨z4A,z4A,z4A,z4A,z4A⟩⟩,?_⟩;obtain⟨x0,x1,x2,hx⟩:=UI ha hb h;refine wpG Tryz.func146 ((X0 ..).mpr ?_);refine⟨_,_,_,_,hx,brb (fun _=>rfl) (fun e=>by simp at e)⟩
theorem Gt {c:Ci} (hc:HC c) (h:0<c.q):∀x∈Lb c,Gc x:=by
 obtain⟨l,r⟩:=Ju hc h;intro x hx;simp only[Lb,U3,cc,or_false]at hx;rcases hx with rfl|rfl
 ·exact⟨⟨rfl,.inl ⟨rfl,hc,h⟩⟩,l,r⟩
 ·exact⟨⟨rfl,.inl ⟨rfl,hc,h⟩⟩,r,l⟩
theorem VE {c:Ci} (hc:HC c) (h:0<c.q):qe CC 42 [.ag (kC c [])] [.c (.sl (kUs (Lb c)))]:=by
 refine wpG Tryz.func42 ((P6 ..).mpr ?_);exact⟨_,_,X3 hc h,rfl⟩
noncomputable def Mb (l:List Vc) (i:Nat):List Cu:=match l[i]?,l[(i+1)%l.length]? with
 |some a,some b=>(oj a b).toList
 |_,_=>[]
noncomputable def y9 (l:List Vc) (k:Nat):List Cu:=(List.range k).flatMap (Mb l)
noncomputable def FO (l:List Vc):List Cu:=y9 l l.length
theorem Q8 (l:List Vc) (k:Nat):y9 l (k+1)=y9 l k++Mb l k:=by
 unfold y9;rw[List.range_succ,cb];simp
theorem FP {l:List Vc} {i:Nat} (h:i<l.length):Mb l i=(oj l[i] (l[(i+1)%l.length]'(cL _ (by omega)))).toList:=by
 unfold Mb;rw[T1 h,T1 (cL _ (by omega))]
theorem FQ {l:List Vc} (hl:∀v∈l,HV v) (i:Nat):(∀c∈Mb l i,Gc c)∧(Mb l i).length≤1:=by
 unfold Mb;split
 ·rename_i a b ha hb;by_cases h:WG a b
  ·rw[Co h];simp
  ·rw[Ok h];simp only[Option.toList_some,P1,bd];exact⟨fun c hc=>by rw[hc];exact db (hl a (bc ha)) (hl b (bc hb)) h,c9 _⟩
 ·simp
theorem XE {l:List Vc} (hl:∀v∈l,HV v):∀k,(∀c∈y9 l k,Gc c)∧(y9 l k).length≤k
 |0=>by simp[y9]
 |k+1=>by
  obtain⟨h1,h2⟩:=XE hl k;obtain⟨h3,h4⟩:=FQ hl k;rw[Q8];refine⟨fun c hc=>?_,by rw[W1];omega⟩;rcases W2.1 hc with h|h
  ·exact h1 c h
  ·exact h3 c h
def pgI (l:List Vc) (_ ds:List D):Prop:=∃k:Nat,k≤l.length∧ds=[.int .i64 (k:Int),.sl (kUs (y9 l k))]
theorem Ol (v:Vc):(kV v).length=8:=rfl
theorem XF {l:List Vc} (hl:∀v∈l,HV v) (hn:l.length≤1000000):qe CC 84 [.c (.sl (l.map kV))] [.c (.sl (kUs (FO l)))]:=by
 have hv:=Gn (qe CC) (pgI l) (zP 10000000) (l.map kV) (· =[.c (.sl (kUs (FO l)))]);refine gOk Tryz.func84 hv ?_;clear hv;refine⟨⟨0,cH _,rfl⟩,?_⟩;rintro _ _ ⟨k,hk,he⟩;simp only[c5,J3,D.sl.injEq,and_true,true_and]at he;obtain⟨rfl,rfl⟩:=he;refine brd (fun h=>?_) (fun h=>?_)
 ·have a3:k<l.length:=by rw[qY]at h;simp only[J7]at h;omega
  obtain⟨m,hm⟩:∃m,(k+1)%l.length=m:=⟨_,rfl⟩;have a4:m<l.length:=by rw[←hm];exact cL _ (by omega)
  have a5:Lr (J4 .i64 ((k:Int)+1)) (J8 (l.map kV).length)=(m:Int):=by rw[wI,qY,←hm];show Lr ((k+1:Nat):Int) (l.length:Int)=_;rw[←No]
  have sa:=FP a3;have sm:(l[(k+1)%l.length]'(cL _ (by omega)))=l[m]:=by simp only[hm]
  rw[sm]at sa;obtain⟨g1,g2⟩:=XE hl k;rw[a5];refine⟨vW Ol a3,_,_,y8 Ol a3,by rw[qY];simp only[J7];omega,vW Ol a4,_,_,y8 Ol a4,?_⟩;have ha:=hl _ (Ts a3);have hb:=hl _ (Ts a4);have nx:∀w,w=y9 l (k+1)→pgI l [] [.int .i64 (J4 .i64 ((k:Int)+1)),.sl (kUs w)]:=by intro w hw;exact⟨k+1,a3,by rw[wI,hw];rfl⟩
  by_cases hs:WG l[k] l[m]
  ·obtain⟨x,hx⟩:=Gr ha hb hs;refine⟨_,_,hx,brb (fun e=>by simp at e) (fun _=>?_)⟩;refine⟨nx _ (by rw[Q8,sa,Co hs];simp),qt⟩
  ·refine⟨_,_,Gq ha hb hs,brb (fun _=>?_) (fun e=>by simp at e)⟩;refine⟨⟨by unfold Eng.room;rw[qu];omega,fun e he=>by rw[P1.1 he];rfl⟩,?_⟩;have e1:kUs (y9 l k)++[ck (kU (lV l[k] l[m])) []]=kUs (y9 l k++[lV l[k] l[m]]):=by rw[wy];rfl
   rw[e1];exact⟨nx _ (by rw[Q8,sa,Ok hs];rfl),qt⟩
 ·have a3:k=l.length:=by rw[qY]at h;simp only[J7]at h;omega
  rw[a3];rfl
end Eng
end
section
namespace Eng
open Go Go.Proofs Rl
set_option maxRecDepth 100000
structure Fm where
 k:Nat
 u:Nat
 a:Int
 b:Int
 c:Int
 d:Int
 cs:List (Int×Int)
def sm8 (z:Int):Prop:= -128≤z∧z<128
def Fm.ok (f:Fm):Prop:=f.k<256∧f.u<256∧sm8 f.a∧sm8 f.b∧sm8 f.c∧sm8 f.d∧∀p∈f.cs,sm8 p.1∧sm8 p.2
def kPr (p:Int×Int):List D:=[.int .i8 p.1,.int .i8 p.2]
def kFm (f:Fm):List D:=[.int .u8 f.k,.int .u8 f.u,.int .i8 f.a,.int .i8 f.b,.int .i8 f.c,.int .i8 f.d,.sl (f.cs.map kPr)]
theorem Cp (p:Int×Int):(kPr p).length=2:=rfl
theorem Cq (f:Fm):(kFm f).length=7:=rfl
def vtR (x y:Int) (u:Nat):Vc:=⟨dn x ((u%4:Nat)+1),dn y ((u%4:Nat)+1)⟩
theorem Om {x n:Int} (hx:x.natAbs≤100000) (h0:0<n) (hn:n≤100000):qe CC 34 [.c (.int .i64 x),.c (.int .i64 n)] [.ag (rk (q4 (dn x n)) [])]:=by
 refine wpG Tryz.func34 ((FM ..).mpr ?_);have s:∀z:Int,z.natAbs≤100000→Sm z:=fun z hz=>by have h:Hz 5 (z:Rat):=Hz.int (by rw[show(10:Nat)^5=100000 by decide];exact hz);have:=(h.sr (by omega)).1;rw[Rat.num_intCast]at this;unfold Sm;exact Nat.lt_of_lt_of_le this (by unfold Vk Ze;exact Nat.pow_le_pow_right (by omega) (by omega))
 refine brb (fun e=>?_) (fun e=>?_)
 ·simp at e;omega
 ·exact⟨_,_,zc (by omega) (by omega),_,_,zc (by omega) (by omega),q4 (dn x n),Nh j8 (s x hx) (s n (by omega)) (by omega),rfl⟩
theorem yA {x:Int} {u:Nat} (hx:sm8 x):Hz 3 (dn x ((u%4:Nat)+1)):=by
 have:=cL u (show 4>0 by omega);refine Hz.divInt (by omega) ?_ ?_
 ·rw[show(10:Nat)^3=1000 by decide];obtain⟨h1,h2⟩:=hx;omega
 ·rw[show(10:Nat)^3=1000 by decide];omega
theorem Cr {x y:Int} {u:Nat} (hx:sm8 x) (hy:sm8 y):HV (vtR x y u):=⟨(yA hx).mono (by omega),(yA hy).mono (by omega)⟩
theorem yB (x y:Rat):qe CC 85 [.ag (rk (q4 x) []),.ag (rk (q4 y) [])] [.ag (kV ⟨x,y⟩)]:=by
 refine wpG Tryz.func85 ((UF ..).mpr ?_);rfl
theorem Gu {x y:Int} {u:Nat} (hx:sm8 x) (hy:sm8 y):qe CC 143 [.c (.int .i8 x),.c (.int .i8 y),.c (.int .u8 u)] [.ag (kV (vtR x y u))]:=by
 refine wpG Tryz.func143 ((FN ..).mpr ?_);obtain⟨x1,x2⟩:=hx;obtain⟨y1,y2⟩:=hy;have e:Lr (u:Int) 4=((u%4:Nat):Int):=by rw[show(4:Int)=((4:Nat):Int)from rfl,←No]
 have hm:=cL u (show 4>0 by omega);rw[e,wI (n:=x) (by omega),wI (n:=y) (by omega),wI (n:=((u%4:Nat):Int)) (by omega),wI];exact⟨by omega,_,Om (by omega) (by omega) (by omega),_,Om (by omega) (by omega) (by omega),_,_,yB _ _,rfl⟩
noncomputable def kN (f:Fm):List Cu:=
 if f.k%3=0 then FO [vtR f.a f.b f.u,⟨(vtR f.c f.d f.u).x,(vtR f.a f.b f.u).y⟩,vtR f.c f.d f.u,⟨(vtR f.a f.b f.u).x,(vtR f.c f.d f.u).y⟩]
 else if f.k%3=1 then(if sr (vtR f.c f.d f.u).x≤0 then []else Lb ⟨(vtR f.a f.b f.u).x,(vtR f.a f.b f.u).y,(vtR f.c f.d f.u).x⟩)
 else FO (f.cs.map fun p=>vtR p.1 p.2 f.u)
theorem Ix {f:Fm} (h:f.ok):∀v∈f.cs.map (fun p=>vtR p.1 p.2 f.u),HV v:=by
 intro v hv;obtain⟨p,hp,rfl⟩:=bx.1 hv;obtain⟨h1,h2⟩:=h.2.2.2.2.2.2 p hp;exact Cr h1 h2
theorem Iy {f:Fm} (h:f.ok):∀v∈[vtR f.a f.b f.u,⟨(vtR f.c f.d f.u).x,(vtR f.a f.b f.u).y⟩,vtR f.c f.d f.u,⟨(vtR f.a f.b f.u).x,(vtR f.c f.d f.u).y⟩],HV v:=by
 obtain⟨_,_,ha,hb,hc,hd,_⟩:=h;have p:=Cr (u:=f.u) ha hb;have q:=Cr (u:=f.u) hc hd;intro v hv;simp only[U3,cc,or_false]at hv;rcases hv with rfl|rfl|rfl|rfl
 ·exact p
 ·exact⟨q.1,p.2⟩
 ·exact q
 ·exact⟨p.1,q.2⟩
theorem VF {f:Fm} (h:f.ok):(∀c∈kN f,Gc c)∧(kN f).length≤f.cs.length+4:=by
 unfold kN;split
 ·obtain⟨h1,h2⟩:=XE (Iy h) 4;exact⟨h1,dc h2 (by omega)⟩
 ·split
  ·split
   ·simp
   ·rename_i _ _ h0;obtain⟨_,_,ha,hb,hc,hd,_⟩:=h;refine⟨Gt ⟨(yA ha).mono (by omega),(yA hb).mono (by omega),(yA hc).mono (by omega)⟩ (show 0<(vtR f.c f.d f.u).x from Nu.1 (by omega)),by simp[Lb]⟩
  ·obtain⟨h1,h2⟩:=XE (Ix h) (f.cs.map fun p=>vtR p.1 p.2 f.u).length;exact⟨h1,dc h2 (by rw[bs];omega)⟩
def cvI (f:Fm) (_ ds:List D):Prop:=∃k:Nat,k≤f.cs.length∧ds=[.int .i64 (k:Int),.sl (((f.cs.take k).map fun p=>vtR p.1 p.2 f.u).map kV)]
theorem de {l:List (Int×Int)} {k:Nat} (h:k<l.length):cut (nth [] (l.map kPr) (Lm (k:Int))) 0 1 [.int .i8 l[k].1]:=by
 rw[J9,y7 kPr h];exact⟨rfl,by show 0+1≤2;omega⟩
theorem df {l:List (Int×Int)} {k:Nat} (h:k<l.length):cut (nth [] (l.map kPr) (Lm (k:Int))) 1 1 [.int .i8 l[k].2]:=by
 rw[J9,y7 kPr h];exact⟨rfl,by show 1+1≤2;omega⟩
theorem UJ {f:Fm} (h:f.ok) (hn:f.cs.length≤1000):qe CC 82 [.ag (kFm f)] [.c (.sl (kUs (kN f)))]:=by
 have hv:=UG (qe CC) (cvI f) (zP 10000000) f.k f.u f.a f.b f.c f.d (f.cs.map kPr) (· =[.c (.sl (kUs (kN f)))]);refine gOk Tryz.func82 hv ?_;clear hv;have hk:=h;obtain⟨h1,h2,ha,hb,hc,hd,hcs⟩:=hk;have a4:Lr (f.k:Int) 3=((f.k%3:Nat):Int):=by rw[show(3:Int)=((3:Nat):Int)from rfl,←No]
 have hm:=cL f.k (show 3>0 by omega);rw[a4];refine⟨_,_,Gu ha hb,_,_,Gu hc hd,by omega,brb (fun e=>?_) (fun e=>?_)⟩
 ·have e:f.k%3=0:=by simp only[beq_iff_eq]at e;omega
  refine⟨_,_,yB _ _,_,_,yB _ _,_,XF (Iy h) (by simp),?_⟩;unfold kN;rw[if_pos e]
 ·have e:¬f.k%3=0:=by simp only[beq_eq_false_iff_ne,ne_eq]at e;omega
  refine brb (fun e2=>?_) (fun e2=>?_)
  ·have e2:f.k%3=1:=by simp only[beq_iff_eq]at e2;omega
   refine⟨_,zO _,brd (fun e3=>?_) (fun e3=>?_)⟩
   ·unfold kN;rw[if_neg e,if_pos e2,if_pos e3];rfl
   ·refine⟨_,VE (c:=⟨(vtR f.a f.b f.u).x,(vtR f.a f.b f.u).y,(vtR f.c f.d f.u).x⟩) ⟨(yA ha).mono (by omega),(yA hb).mono (by omega),(yA hc).mono (by omega)⟩ (show 0<(vtR f.c f.d f.u).x from Nu.1 (by omega)),?_⟩;unfold kN;rw[if_neg e,if_pos e2,if_neg e3]
  ·have e2:¬f.k%3=1:=by simp only[beq_eq_false_iff_ne,ne_eq]at e2;omega
   refine⟨⟨0,cH _,rfl⟩,?_⟩;rintro _ _ ⟨k,hk,he⟩;simp only[c5,J3,D.sl.injEq,and_true,true_and]at he;obtain⟨rfl,rfl⟩:=he;refine brd (fun h3=>?_) (fun h3=>?_)
   ·have a3:k<f.cs.length:=by rw[qY]at h3;simp only[J7]at h3;omega
    obtain⟨p1,p2⟩:=hcs _ (Ts a3);refine⟨vW Cp a3,_,de a3,vW Cp a3,_,df a3,_,_,Gu p1 p2,⟨by unfold Eng.room;rw[qY,bs,c1];omega,fun e he=>by rw[P1.1 he];rfl⟩,?_,qt⟩;refine⟨k+1,a3,?_⟩;rw[wI,U0 a3,c3,c3];rfl
   ·have a3:k=f.cs.length:=by rw[qY]at h3;simp only[J7]at h3;omega
    rw[a3,bm];refine⟨_,XF (Ix h) (by rw[bs];omega),?_⟩;unfold kN;rw[if_neg e,if_neg e2]
noncomputable def FR (s:List Fm):List Cu:=s.flatMap kN
def lX (s:List Fm) (m:Nat):Bool:=s.all fun f=>decide (s.length≤m)&&decide (f.cs.length≤m)
noncomputable def jm (s:List Fm) (m:Nat):List Cu×Bool:=if lX s m=true then(FR s,decide ((FR s).length≤m))else([],false)
noncomputable def Qk (s:List Fm) (m:Nat):List Cu×Bool:=
 if(jm s m).2=true then((wv (jm s m).1).1,decide ((wv (jm s m).1).2=0∧(wv (jm s m).1).1.length≤m))else([],false)
theorem Ct {s:List Fm} (hs:∀f∈s,f.ok) {m:Nat}:(∀c∈FR s,Gc c)∧((∀f∈s,f.cs.length≤m)→(FR s).length≤s.length*(m+4)):=by
 unfold FR
 induction s with
 |nil=>simp
 |cons f r ih=>
  obtain⟨h1,h2⟩:=ih fun x hx=>hs x (ca _ hx)
  obtain⟨h3,h4⟩:=VF (hs f (bv ..));rw[List.flatMap_cons];refine⟨fun c hc=>?_,fun hm=>?_⟩
  ·rcases W2.1 hc with h|h
   ·exact h3 c h
   ·exact h1 c h
  ·have:=h2 fun x hx=>hm x (ca _ hx)
   have h5:=hm f (bv ..);rw[W1,c2,Nat.add_mul,Nat.one_mul];omega
def alI (s:List Fm) (m:Nat) (_ ds:List D):Prop:=∃k:Nat,k≤s.length∧ds=[.int .i64 (k:Int),.sl (kUs (FR (s.take k)))]∧(s.take k).all (fun f=>decide (s.length≤m)&&decide (f.cs.length≤m))=true
theorem dg {l:List Fm} {k:Nat} (h:k<l.length):cut (nth [] (l.map kFm) (Lm (k:Int))) 6 1 [.sl (l[k].cs.map kPr)]:=by
 rw[J9,y7 kFm h];exact⟨rfl,by show 6+1≤7;omega⟩
theorem Cv {s:List Fm} (hs:∀f∈s,f.ok) {m:Nat} (hm:m≤400):qe CC 45 [.c (.sl (s.map kFm)),.c (.int .i64 m)] [.c (.sl (kUs (jm s m).1)),.c (.bool (jm s m).2)]:=by
 have hv:=Cl (qe CC) (alI s m) (zP 10000000) (s.map kFm) m (· =[.c (.sl (kUs (jm s m).1)),.c (.bool (jm s m).2)]);refine gOk Tryz.func45 hv ?_;clear hv;have a6:lX s m=false→[F2 (Hu []),F2 (Hx false)]=[.c (.sl (kUs (jm s m).1)),.c (.bool (jm s m).2)]:=by intro h;unfold jm;rw[if_neg (by rw[h];simp)];rfl
 refine⟨⟨0,cH _,rfl,rfl⟩,?_⟩;rintro _ _ ⟨k,hk,he,a4⟩;simp only[c5,J3,D.sl.injEq,and_true,true_and]at he;obtain⟨rfl,rfl⟩:=he;rw[qY];have a5:∀h:k<s.length,(decide (s.length≤m)&&decide (s[k].cs.length≤m))=false→lX s m=false:=by
  intro h hb;cases hh:lX s m with
  |false=>rfl
  |true=>have:=V1.1 hh _ (Ts h);rw[this]at hb;cases hb
 refine brd (fun h3=>?_) (fun h3=>?_)
 ·have a3:k<s.length:=by simp only[J7]at h3;omega
  have hf:=hs _ (Ts a3);have ok:=vW Cq a3;refine brd (fun h4=>?_) (fun h4=>?_)
  ·have:¬s.length≤m:=by simp only[J7]at h4;omega
   exact a6 (a5 a3 (by simp[this]))
  ·have h4:s.length≤m:=by simp only[J7]at h4;omega
   refine⟨ok,_,dg a3,brd (fun h5=>?_) (fun h5=>?_)⟩
   ·have:¬s[k].cs.length≤m:=by rw[qY]at h5;simp only[J7]at h5;omega
    exact a6 (a5 a3 (by simp[this]))
   ·have h5:s[k].cs.length≤m:=by rw[qY]at h5;simp only[J7]at h5;omega
    have hsk:∀f∈s.take k,f.ok:=fun f hf=>hs f (List.mem_of_mem_take hf)
    have hkm:∀f∈s.take k,f.cs.length≤m:=fun f hf=>by have:=V1.1 a4 f hf;simp only[Aw,decide_eq_true_eq]at this;exact this.2
    have l1:=(Ct hsk).2 hkm;have l2:=(VF hf).2;have l3:(s.take k).length*(m+4)≤400*404:=Nat.mul_le_mul (by rw[c1];omega) (by omega);refine⟨ok,_,_,_,_,_,_,_,y8 Cq a3,_,UJ hf (by omega),⟨by unfold Eng.room;rw[qu,qu];omega,vJ _⟩,?_,qt⟩;refine⟨k+1,a3,?_,?_⟩
    ·rw[wI,←wy,U0 a3];have:FR (s.take k++[s[k]])=FR (s.take k)++kN s[k]:=by unfold FR;rw[cb];simp
     rw[this];rfl
    ·rw[U0 a3,c4,a4,Dd];simp[h4,h5]
 ·have a3:k=s.length:=by simp only[J7]at h3;omega
  rw[a3,bm]at a4 ⊢;have e:lX s m=true:=a4;unfold jm;rw[if_pos e,qu];simp only[c5,A.c.injEq,D.bool.injEq,true_and,and_true,decide_eq_decide];simp only[J7];omega
theorem UK {s:List Fm} (hs:∀f∈s,f.ok) (m:Nat):∀c∈(jm s m).1,Gc c:=by
 unfold jm;split
 ·exact(Ct hs (m:=m)).1
 ·simp
theorem Mc {s:List Fm} (hs:∀f∈s,f.ok) {m:Nat} (hm:m≤400):qe CC 22 [.c (.sl (s.map kFm)),.c (.int .i64 m)] [.ag [.sl (kUs (Qk s m).1)],.c (.bool (Qk s m).2)]:=by
 refine wpG Tryz.func22 ((LV ..).mpr ?_);refine⟨_,_,Cv hs hm,?_⟩;cases hb:(jm s m).2 with
 |false=>refine brb (fun _=>?_) (fun h=>by cases h);unfold Qk;rw[if_neg (by rw[hb];simp)];rfl
 |true=>
  refine brb (fun h=>by cases h) (fun _=>?_);have hl:(jm s m).1.length≤m:=by
   unfold jm at hb ⊢;split at hb
   ·rename_i h1;rw[if_pos h1];simpa using hb
   ·cases hb
  refine⟨_,_,Zw (UK hs m) (by omega),?_⟩;unfold Qk;rw[if_pos hb,qu];refine brb (fun h=>?_) (fun h=>?_)
  ·have h:(wv (jm s m).1).2=0:=by simpa using h
   simp only[h,true_and,J7,Int.ofNat_le]
  ·have h:¬(wv (jm s m).1).2=0:=by simpa using h
   simp only[h,false_and,decide_false]
theorem Cw {s:List Fm} (hs:∀f∈s,f.ok) (m:Nat):(∀c∈(Qk s m).1,Mo c)∧(Qk s m).1.length≤400:=by
 unfold Qk;split
 ·exact Gm (UK hs m)
 ·simp
noncomputable def Gw (c:Ci):List Cu×Int:=wv (Lb c)
theorem VG {c:Ci} (hc:HC c) (h:0<c.q):qe CC 20 [.ag (kC c [])] [.ag [.sl (kUs (Gw c).1)],.c (.int .i64 (Gw c).2)]:=by
 refine wpG Tryz.func20 ((PU ..).mpr ?_);exact⟨_,ZT hc h,brb (fun h=>by cases h) (fun _=>⟨_,VE hc h,_,_,Zw (Gt hc h) (by simp[Lb]),rfl⟩)⟩
theorem On {c:Ci} (hc:HC c) (h:0<c.q):(∀x∈(Gw c).1,Mo x)∧(Gw c).1.length≤400:=Gm (Gt hc h)
end Eng
end
section
open Go Go.Proofs Eng
namespace Eng
section
variable (Gv:Nat→List A→List A→Prop) (I0:List D→List D→Prop) (M0:List D→Nat) (I1:List D→List D→Prop) (M1:List D→Nat) (I2:List D→List D→Prop) (M2:List D→Nat) (I3:List D→List D→Prop) (M3:List D→Nat) (Q:List A→Prop)
theorem PX (c0:Int):wpF CC Gv an0 Tryz.f89 [.c (.int .u8 c0)] Q=(bB (decide (c0≥97)) (bB (decide (c0≤122)) (Q [aB true]) (bB (decide (c0≥65)) (Q [aB (decide (c0≤90))]) (Q [aB false]))) (bB (decide (c0≥65)) (Q [aB (decide (c0≤90))]) (Q [aB false]))):=by kernel_rfl
theorem Cy (c0:Int):wpF CC Gv an0 Tryz.f154 [.c (.int .u8 c0)] Q=(bB (decide (c0≥48)) (Q [aB (decide (c0≤57))]) (Q [aB false])):=by kernel_rfl
theorem FS (s0:List UInt8):wpF CC Gv (fun _=>⟨[.slot 3 (.int .i64 0)],[],I0,M0⟩) Tryz.f90 [.c (.str s0)] Q=(I0 [] [dI (0:Int)]∧∀(i:Int),I0 [] [dI i]→bB (decide (i<(J8 s0.length))) ((0≤i∧i<(J8 s0.length))∧∃b,Gv 89 [F2 (Hv .u8 (J8 (ea (nth 0 s0 (Lm i)))))] [aB b]∧br b (I0 [] [dI (J4 .i64 (i+1))]∧M0 [dI (J4 .i64 (i+1))]<M0 [dI i]) ((0≤i∧i<(J8 s0.length))∧∃b,Gv 154 [F2 (Hv .u8 (J8 (ea (nth 0 s0 (Lm i)))))] [aB b]∧br b (I0 [] [dI (J4 .i64 (i+1))]∧M0 [dI (J4 .i64 (i+1))]<M0 [dI i]) ((0≤i∧i<(J8 s0.length))∧bB ((J8 (ea (nth 0 s0 (Lm i))))==95) (I0 [] [dI (J4 .i64 (i+1))]∧M0 [dI (J4 .i64 (i+1))]<M0 [dI i]) ((0≤i∧i<(J8 s0.length))∧bB ((J8 (ea (nth 0 s0 (Lm i))))==45) (I0 [] [dI (J4 .i64 (i+1))]∧M0 [dI (J4 .i64 (i+1))]<M0 [dI i]) (Q [aI i]))))) (Q [aI i])):=by kernel_rfl
theorem PY (s0:List UInt8):wpF CC Gv an0 Tryz.f49 [.c (.str s0)] Q=(bB (decide ((J8 s0.length)>0)) (bB (decide ((J8 s0.length)≤24)) (((0:Int)≤(0:Int)∧0<(J8 s0.length))∧∃b,Gv 89 [F2 (Hv .u8 (J8 (ea (nth 0 s0 (Lm (0:Int))))))] [aB b]∧br b (∃i,Gv 90 [F2 (Hy s0)] [aI i]∧Q [aB (i==(J8 s0.length))]) (Q [aB false])) (Q [aB false])) (Q [aB false])):=by kernel_rfl
end
end Eng
end
section
namespace Eng
open Go
end Eng
end
section
namespace Eng
open Go
def isD (c:UInt8):Bool:=decide (48≤c.toNat)&&decide (c.toNat≤57)
end Eng
end
section
namespace Eng
open Go Go.Proofs
structure V2 where
 x:Rat
 y:Rat
end Eng
end
section
namespace Eng
open Go
end Eng
end
section
namespace Eng
open Go
end Eng
end
section
namespace Eng
open Go
def ltr (c:UInt8):Bool:=(decide (97≤c.toNat)&&decide (c.toNat≤122))||(decide (65≤c.toNat)&&decide (c.toNat≤90))
def nmc (c:UInt8):Bool:=ltr c||(isD c||(decide (c=95)||decide (c=45)))
structure Tk where
 kind:Nat
 pos:Nat
 text:List UInt8
def G9 (p:UInt8→Bool):List UInt8→Nat
 |[]=>0
 |c::s=>match p c with
  |true=>G9 p s+1
  |false=>0
inductive Sc where
 |blank
 |tok (kind n:Nat)
 |bad (e:Nat)
structure Li where
 number:Nat
 toks:List Tk
end Eng
end
section
namespace Eng
open Go
end Eng
end
section
namespace Eng
open Go
structure B4 where
 x0:Rat
 y0:Rat
 x1:Rat
 y1:Rat
structure Ce where
 b:B4
 k:Option V2
end Eng
end
section
namespace Eng
open Go
end Eng
end
