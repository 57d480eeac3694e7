/- The curves of an entity are small and valid (plain). -/
import Derived.Test.YtbehlcfelmbmlaaGreatDoorHmA
import Derived.Test.YtbehlcfelmbmlaaGreatDoorDaB
import Derived.Test.YtbehlcfelmbmlaaGreatDoorCtxB
import Derived.Test.YtbehlcfelmbmlaaGreatDoorTxA
import Derived.KernelRfl
open Bool renaming and_eq_true→Aa
open Eng.D renaming bool→Ab, sl→Ac, int→Ad
open Go.IntKind renaming i64→Ae, wrap→Af
open Int renaming ofNat_eq_natCast→Ah, toNat→Ai, ofNat→Aj, toNat_natCast→Ak
open List renaming length_cons→Al, mem_cons→Am, not_mem_nil→An, all_eq_true→Ao, length→Ap, length_map→Aq, mem_singleton→Ar, getElem_mem→As
open List.cons renaming injEq→At
open Nat renaming le_refl→Au, le_of_ble_eq_true→Av, lt_of_le_of_lt→Aw, pow_lt_pow_right→Ax, mul_pos→Ay, lt_of_lt_of_le→Az, pow_add→A0
open Option.some renaming injEq→A1, inj→A2
section
namespace Eng
open Go Go.Proofs
set_option maxRecDepth 1000000
theorem Cz.of {c:Cv} (hv:w4 c=true) (fx:Sr c.fr.x) (fy:Sr c.fr.y) (tx:Sr c.tt.x) (ty:Sr c.tt.y) (ha:c.arc=true→Ds c.ci c.fr∧Ds c.ci c.tt)
 (hl:c.arc=false→Ls c.ln c.fr∧Ls c.ln c.tt∧Sr (c.ln.a*c.ln.b)∧Sr (c.ln.a*c.ln.c)∧Sr (c.ln.b*c.ln.c)):Cz c:=by
 unfold w4 at hv;rw[Aa]at hv;obtain⟨h1,h2⟩:=hv;have h2:(decide (c.fr.x=c.tt.x)&&decide (c.fr.y=c.tt.y))=false:=by
  cases hb:(decide (c.fr.x=c.tt.x)&&decide (c.fr.y=c.tt.y))with
  |true=>rw[hb]at h2;exact absurd h2 (by decide)
  |false=>rfl
 cases harc:c.arc with
 |true=>rw[harc,if_pos rfl]at h1;simp only[Aa,decide_eq_true_eq]at h1;obtain⟨g1,g2,g3⟩:=h1;obtain⟨k1,k2⟩:=ha harc;exact⟨fx,fy,tx,ty,fun _=>⟨g1,k1,k2⟩,fun h=>by rw[harc]at h;exact absurd h (by decide),by rw[if_pos harc];exact decide_eq_true g2,by rw[if_pos harc];exact decide_eq_true g3,h2⟩
 |false=>
  rw[harc,if_neg (by decide)]at h1;simp only[Aa,decide_eq_true_eq,Bool.not_eq_true']at h1;obtain⟨g0,g1,g2,g3⟩:=h1;obtain⟨k1,k2,k3⟩:=hl harc;have g1:¬(c.ln.a=0∧c.ln.b=0):=by intro h;rw[h.1,h.2]at g1;exact absurd g1 (by decide)
  have e:¬c.arc=true:=by rw[harc];decide
  exact⟨fx,fy,tx,ty,fun h=>absurd h e,fun _=>⟨g0,g1,k1,k2,k3⟩,by rw[if_neg e];exact decide_eq_true g2,by rw[if_neg e];exact decide_eq_true g3,h2⟩
theorem Pf {p q:Pt} {d:Nat} (hD:Dn d) (hp:Ov d p) (hq:Ov d q) {c:Cv} (h:XF p q=some c):Cz c:=by
 have hv:=Yn h;unfold XF at h;split at h
 ·simp at h
 simp only[A1]at h;subst h;have k1:∀{k x},FD d k x→k≤3600→Sr x:=fun h hk=>h.sr hD.pos hk hD.lt (by omega)
 have k2:∀{k x},FD (d*d) k x→k≤3600→Sr x:=fun h hk=>h.sr hD.two.1 hk hD.two.2 (by omega)
 have d3:0<d*(d*d):=Ay hD.pos hD.two.1;have d3l:=Q0 hD.lt hD.two.2 (l:=990) (by omega);have k3:∀{k x},FD (d*(d*d)) k x→k≤3600→Sr x:=fun h hk=>h.sr d3 hk d3l (by omega)
 have ha:FD d 331 (lnT p q).a:=hp.2.sub hq.2 (by omega);have hb:FD d 331 (lnT p q).b:=hq.1.sub hp.1 (by omega);have hc:FD (d*d) 662 (lnT p q).c:=(ha.mul hp.1 (l:=661) (by omega)).add (hb.mul hp.2 (l:=661) (by omega)) (by omega);have ls:∀{t:Pt},Ov d t→Ls (lnT p q) t:=fun{t} ht=>by have m1:=ha.mul ht.1 (l:=661) (by omega);have m2:=hb.mul ht.2 (l:=661) (by omega);have s:=m1.add m2 (j:=662) (by omega);exact⟨k1 ht.1 (by omega),k1 ht.2 (by omega),k1 ha (by omega),k1 hb (by omega),k2 hc (by omega),k2 m1 (by omega),k2 m2 (by omega),k2 s (by omega),k2 (s.sub hc (j:=663) (by omega)) (by omega)⟩
 refine Cz.of hv (k1 hp.1 (by omega)) (k1 hp.2 (by omega)) (k1 hq.1 (by omega)) (k1 hq.2 (by omega)) (fun h=>by simp at h) (fun _=>⟨ls hp,ls hq,k2 (ha.mul hb (l:=662) (by omega)) (by omega),k3 (ha.mul hc (l:=993) (by omega)) (by omega),k3 (hb.mul hc (l:=993) (by omega)) (by omega)⟩)
theorem Pg {p q r:Pt} {d:Nat} (hD:Dn d) (hp:Ov d p) (hq:Ov d q) (hr:Ov d r) {c:Cv} (h:ZO p q r=some c):Cz c:=by
 have hv:=Yo h;unfold ZO at h;split at h
 ·simp at h
 rename_i h0;simp only[A1]at h;subst h;have k1:∀{k x},FD d k x→k≤3600→Sr x:=fun h hk=>h.sr hD.pos hk hD.lt (by omega)
 obtain⟨e,e0,el,X,Y,W⟩:=(Uj hD hp hq hr).2 h0;have k2:∀{k x},FD e k x→k≤3600→Sr x:=fun h hk=>h.sr e0 hk el (by omega)
 have ee0:=Ay e0 e0;have eel:=Q0 el el (l:=3308) (by omega);have k3:∀{k x},FD (e*e) k x→k≤3600→Sr x:=fun h hk=>h.sr ee0 hk eel (by omega)
 have cX:FD e 1656 (ciT p q r).x:=((W _ hp.1).mono (by omega)).add X (by omega);have cY:FD e 1656 (ciT p q r).y:=((W _ hp.2).mono (by omega)).add Y (by omega);have cQ:FD (e*e) 3311 (ciT p q r).q:=(X.mul X (l:=3310) (by omega)).add (Y.mul Y (l:=3310) (by omega)) (by omega);have ds:∀{t:Pt},Ov d t→Ds (ciT p q r) t:=fun{t} ht=>by have dx:=((W _ ht.1).mono (k:=1656) (by omega)).add cX.neg (j:=1657) (by omega);have dy:=((W _ ht.2).mono (k:=1656) (by omega)).add cY.neg (j:=1657) (by omega);have xx:=dx.mul dx (l:=3314) (by omega);have yy:=dy.mul dy (l:=3314) (by omega);exact⟨k1 ht.1 (by omega),k1 ht.2 (by omega),k2 cX (by omega),k2 cY (by omega),k3 cQ (by omega),k2 dx (by omega),k2 dy (by omega),k3 xx (by omega),k3 yy (by omega),k3 (xx.add yy (j:=3315) (by omega)) (by omega)⟩
 exact Cz.of hv (k1 hp.1 (by omega)) (k1 hp.2 (by omega)) (k1 hr.1 (by omega)) (k1 hr.2 (by omega)) (fun _=>⟨ds hp,ds hr⟩) (fun h=>by simp at h)
theorem FD.zero (d k:Nat):FD d k 0:=⟨0,(Rat.zero_divInt _).symm,Nat.pow_pos (by omega)⟩
theorem FD.absQ {d k:Nat} {x:Rat} (h:FD d k x):FD d k (absQ x):=by
 unfold Eng.absQ;split
 ·exact h.neg
 ·exact h
theorem Mw {p:Pt} {r:Rat} {d:Nat} (hD:Dn d) (hp:Ov d p) (hr:FD d 330 r) (h0:0<r):∀c∈XG p r,Cz c:=by
 intro c hc;have hv:=Kn (p:=p) h0 c hc;have k1:∀{k x},FD d k x→k≤3600→Sr x:=fun h hk=>h.sr hD.pos hk hD.lt (by omega)
 have k2:∀{k x},FD (d*d) k x→k≤3600→Sr x:=fun h hk=>h.sr hD.two.1 hk hD.two.2 (by omega)
 have ha:=hr.absQ;have u1:FD d 330 (-1*Eng.absQ r):=by rw[Rat.neg_mul,Rat.one_mul];exact ha.neg
 have u2:FD d 330 (1*Eng.absQ r):=by rw[Rat.one_mul];exact ha
 have u3:FD d 330 (0*Eng.absQ r):=by rw[Rat.zero_mul];exact FD.zero d 330
 have x1:=hp.1.add u1 (j:=331) (by omega);have x2:=hp.1.add u2 (j:=331) (by omega);have y1:=hp.2.add u3 (j:=331) (by omega);have q:=hr.mul hr (l:=660) (by omega);have ds:∀{t:Pt},FD d 331 t.x→FD d 331 t.y→Ds ⟨p.x,p.y,r*r⟩ t:=fun{t} h1 h2=>by have dx:=h1.add ((hp.1.mono (k:=331) (by omega)).neg) (j:=332) (by omega);have dy:=h2.add ((hp.2.mono (k:=331) (by omega)).neg) (j:=332) (by omega);have xx:=dx.mul dx (l:=664) (by omega);have yy:=dy.mul dy (l:=664) (by omega);exact⟨k1 h1 (by omega),k1 h2 (by omega),k1 hp.1 (by omega),k1 hp.2 (by omega),k2 q (by omega),k1 dx (by omega),k1 dy (by omega),k2 xx (by omega),k2 yy (by omega),k2 (xx.add yy (j:=665) (by omega)) (by omega)⟩
 have dl:Ds ⟨p.x,p.y,r*r⟩ (ptL p r):=ds (t:=ptL p r) x1 y1;have dr:Ds ⟨p.x,p.y,r*r⟩ (ptR p r):=ds (t:=ptR p r) x2 y1;unfold XG at hc;simp only[Am,An,or_false]at hc;rcases hc with rfl|rfl
 ·exact Cz.of hv (k1 x1 (by omega)) (k1 y1 (by omega)) (k1 x2 (by omega)) (k1 y1 (by omega)) (fun _=>⟨dl,dr⟩) (fun h=>by simp at h)
 ·exact Cz.of hv (k1 x2 (by omega)) (k1 y1 (by omega)) (k1 x1 (by omega)) (k1 y1 (by omega)) (fun _=>⟨dr,dl⟩) (fun h=>by simp at h)
end Eng
end

section
namespace Eng
open Go Go.Proofs
set_option maxRecDepth 100000
def RZ:Option Cv→List A
 |none=>[.c (.sl []),.c (.int .i64 6)]
 |some c=>[.c (.sl [cCv c]),.c (.int .i64 0)]
theorem Wl (hd:zn) {n:List UInt8} {p q:Pt} {u:List (List D)} {p0 q0:Bool} {l0 m0:List (List D)} {d:Nat} (hD:Dn d) (hp:Ov d p) (hq:Ov d q):
 qe CC 18 [.ag [.int .i64 1,.str n,.sl (cV p::cV q::u),.bool p0,.sl l0,.bool q0,.sl m0]] (RZ (XF p q)):=by
 refine qf (anns:=an0) mixedT Tryz.func18 ?_;have h:=KT hd hD hp hq;rw[vE];refine brb (fun _=>?_) (fun h=>absurd h (by decide));refine⟨⟨by omega,by simp only[Al,Ah];omega,rfl⟩,_,_,_,_,_,_,_,_,⟨rfl,Au 8⟩,⟨by omega,by simp only[Al,Ah];omega,rfl⟩,_,_,_,_,_,_,_,_,⟨rfl,Au 8⟩,?_⟩;cases hc:XF p q with
 |none=>rw[hc]at h;exact⟨_,_,_,_,_,_,_,_,_,_,_,_,_,_,_,_,_,_,_,_,_,_,_,_,_,_,_,_,_,_,_,_,_,_,_,_,_,_,_,_,_,_,_,_,_,_,_,_,_,_,_,_,_,_,_,_,_,_,_,_,_,_,_,_,_,_,_,h,brb (fun _=>rfl) (fun h=>absurd h (by decide))⟩
 |some c=>rw[hc]at h;exact⟨_,_,_,_,_,_,_,_,_,_,_,_,_,_,_,_,_,_,_,_,_,_,_,_,_,_,_,_,_,_,_,_,_,_,_,_,_,_,_,_,_,_,_,_,_,_,_,_,_,_,_,_,_,_,_,_,_,_,_,_,_,_,_,_,_,_,_,h,brb (fun h=>absurd h (by decide)) (fun _=>rfl)⟩
theorem Wm (hd:zn) {n:List UInt8} {p q r:Pt} {u:List (List D)} {p0 q0:Bool} {l0 m0:List (List D)} {d:Nat} (hD:Dn d) (hp:Ov d p) (hq:Ov d q) (hr:Ov d r):
 qe CC 18 [.ag [.int .i64 2,.str n,.sl (cV p::cV q::cV r::u),.bool p0,.sl l0,.bool q0,.sl m0]] (RZ (ZO p q r)):=by
 refine qf (anns:=an0) mixedT Tryz.func18 ?_;have h:=OS hd hD hp hq hr;rw[vE];refine brb (fun h=>absurd h (by decide)) (fun _=>?_);refine brb (fun _=>?_) (fun h=>absurd h (by decide));refine⟨⟨by omega,by simp only[Al,Ah];omega,rfl⟩,_,_,_,_,_,_,_,_,⟨rfl,Au 8⟩,⟨by omega,by simp only[Al,Ah];omega,rfl⟩,_,_,_,_,_,_,_,_,⟨rfl,Au 8⟩,⟨by omega,by simp only[Al,Ah];omega,rfl⟩,_,_,_,_,_,_,_,_,⟨rfl,Au 8⟩,?_⟩;cases hc:ZO p q r with
 |none=>rw[hc]at h;exact⟨_,_,_,_,_,_,_,_,_,_,_,_,_,_,_,_,_,_,_,_,_,_,_,_,_,_,_,_,_,_,_,_,_,_,_,_,_,_,_,_,_,_,_,_,_,_,_,_,_,_,_,_,_,_,_,_,_,_,_,_,_,_,_,_,_,_,_,h,brb (fun _=>rfl) (fun h=>absurd h (by decide))⟩
 |some c=>rw[hc]at h;exact⟨_,_,_,_,_,_,_,_,_,_,_,_,_,_,_,_,_,_,_,_,_,_,_,_,_,_,_,_,_,_,_,_,_,_,_,_,_,_,_,_,_,_,_,_,_,_,_,_,_,_,_,_,_,_,_,_,_,_,_,_,_,_,_,_,_,_,_,h,brb (fun h=>absurd h (by decide)) (fun _=>rfl)⟩
end Eng
end

section
namespace Eng
open Go Go.Proofs
set_option maxRecDepth 100000
theorem Wn (hd:zn) {n:List UInt8} {p:Pt} {u:List (List D)} {r:Rat} (h1:r.num.natAbs<1000000000^45) (h2:r.den<1000000000^45) (hx:Sr p.x) (hy:Sr p.y) (hr:Sr r):
 qe CC 18 [.ag ([.int .i64 3,.str n,.sl (cV p::u)]++cR r)] [.c (.sl ((XG p r).map cCv)),.c (.int .i64 0)]:=by
 refine qf (anns:=an0) mixedT Tryz.func18 ?_;refine(vE ..).mpr ?_;refine brb (fun h=>absurd h (by decide)) (fun _=>?_);refine brb (fun h=>absurd h (by decide)) (fun _=>?_);exact⟨⟨by omega,by simp only[Al,Ah];omega,rfl⟩,_,_,_,_,⟨rfl,Av rfl⟩,⟨by omega,by simp only[Al,Ah];omega,rfl⟩,_,_,_,_,⟨rfl,Av rfl⟩,_,_,_,_,vK hd hr hr,_,LP hd h1 h2 hx hy hr,rfl⟩
theorem Wo (hd:qp) {n:List UInt8} {p:Pt} {u:List (List D)} {r:Rat} (h1:r.num.natAbs<1000000000^45) (h2:r.den<1000000000^45) (hx:Sr p.x) (hy:Sr p.y) (hr:Sr r):
 qe CC 19 [.ag ([.int .i64 3,.str n,.sl (cV p::u)]++cR r)] [.c (.sl ((XG p r).map cCw)),.c (.int .i64 0)]:=by
 refine qf (anns:=an0) mixedT Tryz.func19 ?_;refine(vG ..).mpr ?_;refine brb (fun _=>?_) (fun h=>absurd h (by decide));exact⟨⟨by omega,by simp only[Al,Ah];omega,rfl⟩,_,_,_,_,⟨rfl,Av rfl⟩,⟨by omega,by simp only[Al,Ah];omega,rfl⟩,_,_,_,_,⟨rfl,Av rfl⟩,_,_,_,_,Gs hd hr,_,Mu hd h1 h2 hx hy hr,rfl⟩
def Sa:Option Cv→List A
 |none=>[.c (.sl []),.c (.int .i64 6)]
 |some c=>[.c (.sl [cCw c]),.c (.int .i64 0)]
theorem Wp (hd:qp) {n:List UInt8} {p q:Pt} {u:List (List D)} {p0 q0:Bool} {l0 m0:List (List D)} {d:Nat} (hD:Dn d) (hp:Ov d p) (hq:Ov d q):
 qe CC 19 [.ag [.int .i64 1,.str n,.sl (cV p::cV q::u),.bool p0,.sl l0,.bool q0,.sl m0]] (Sa (XF p q)):=by
 refine qf (anns:=an0) mixedT Tryz.func19 ?_;have h:=Q2 hd hD hp hq;rw[vG];refine brb (fun h=>absurd h (by decide)) (fun _=>?_);refine⟨⟨by omega,by simp only[Al,Ah];omega,rfl⟩,_,_,_,_,_,_,_,_,⟨rfl,Au 8⟩,⟨by omega,by simp only[Al,Ah];omega,rfl⟩,_,_,_,_,_,_,_,_,⟨rfl,Au 8⟩,?_⟩;cases hc:XF p q with
 |none=>rw[hc]at h;exact⟨_,_,_,_,_,_,_,_,_,_,_,_,_,_,_,_,_,_,_,_,_,_,_,_,_,_,_,_,_,_,_,_,_,_,_,_,_,_,_,_,_,_,_,_,_,_,_,_,_,_,_,_,_,_,_,_,_,_,_,_,_,_,_,_,_,_,_,h,brb (fun h=>absurd h (by decide)) (fun _=>brb (fun _=>rfl) (fun h=>absurd h (by decide)))⟩
 |some c=>
  rw[hc]at h;have hb:c.arc=false:=by
   unfold XF at hc;split at hc
   ·simp at hc
   ·simp only[A1]at hc;subst hc;rfl
  obtain⟨arc,ln,ci,cw,fr,tt⟩:=c;simp only at hb;subst hb;exact⟨_,_,_,_,_,_,_,_,_,_,_,_,_,_,_,_,_,_,_,_,_,_,_,_,_,_,_,_,_,_,_,_,_,_,_,_,_,_,_,_,_,_,_,_,_,_,_,_,_,_,_,_,_,_,_,_,_,_,_,_,_,_,_,_,_,_,_,h,brb (fun h=>absurd h (by decide)) (fun _=>brb (fun h=>absurd h (by decide)) (fun _=>rfl))⟩
end Eng
end

section
namespace Eng
open Go Go.Proofs
set_option maxRecDepth 100000
theorem Wq (hd:qp) {n:List UInt8} {p q r:Pt} {u:List (List D)} {p0 q0:Bool} {l0 m0:List (List D)} {d:Nat} (hD:Dn d) (hp:Ov d p) (hq:Ov d q) (hr:Ov d r):
 qe CC 19 [.ag [.int .i64 2,.str n,.sl (cV p::cV q::cV r::u),.bool p0,.sl l0,.bool q0,.sl m0]] (Sa (ZO p q r)):=by
 refine qf (anns:=an0) mixedT Tryz.func19 ?_;have h:=Q2 hd hD hp hq;have h2:=Pe hd hD hp hq hr;rw[vG];refine brb (fun h=>absurd h (by decide)) (fun _=>?_);refine⟨⟨by omega,by simp only[Al,Ah];omega,rfl⟩,_,_,_,_,_,_,_,_,⟨rfl,Au 8⟩,⟨by omega,by simp only[Al,Ah];omega,rfl⟩,_,_,_,_,_,_,_,_,⟨rfl,Au 8⟩,?_⟩;have a0:∀{X Y:Prop},X→br (toB (Ab ((2:Int)==2))) X Y:=fun h=>h
 cases ha:ZO p q r with
 |none=>
  rw[ha]at h2;cases hc:XF p q with
  |none=>rw[hc]at h;exact⟨_,_,_,_,_,_,_,_,_,_,_,_,_,_,_,_,_,_,_,_,_,_,_,_,_,_,_,_,_,_,_,_,_,_,_,_,_,_,_,_,_,_,_,_,_,_,_,_,_,_,_,_,_,_,_,_,_,_,_,_,_,_,_,_,_,_,_,h,a0 ⟨⟨by omega,by simp only[Al,Ah];omega,rfl⟩,_,_,_,_,_,_,_,_,⟨rfl,Au 8⟩,⟨by omega,by simp only[Al,Ah];omega,rfl⟩,_,_,_,_,_,_,_,_,⟨rfl,Au 8⟩,⟨by omega,by simp only[Al,Ah];omega,rfl⟩,_,_,_,_,_,_,_,_,⟨rfl,Au 8⟩,_,_,_,_,_,_,_,_,_,_,_,_,_,_,_,_,_,_,_,_,_,_,_,_,_,_,_,_,_,_,_,_,_,_,_,_,_,_,_,_,_,_,_,_,_,_,_,_,_,_,_,_,_,_,_,_,_,_,_,_,_,_,_,_,_,_,_,h2,brb (fun _=>rfl) (fun h=>absurd h (by decide))⟩⟩
  |some c=>
   rw[hc]at h;obtain⟨a2,ln,ci,cw,fr,tt⟩:=c;cases a2
   all_goals exact⟨_,_,_,_,_,_,_,_,_,_,_,_,_,_,_,_,_,_,_,_,_,_,_,_,_,_,_,_,_,_,_,_,_,_,_,_,_,_,_,_,_,_,_,_,_,_,_,_,_,_,_,_,_,_,_,_,_,_,_,_,_,_,_,_,_,_,_,h,a0 ⟨⟨by omega,by simp only[Al,Ah];omega,rfl⟩,_,_,_,_,_,_,_,_,⟨rfl,Au 8⟩,⟨by omega,by simp only[Al,Ah];omega,rfl⟩,_,_,_,_,_,_,_,_,⟨rfl,Au 8⟩,⟨by omega,by simp only[Al,Ah];omega,rfl⟩,_,_,_,_,_,_,_,_,⟨rfl,Au 8⟩,_,_,_,_,_,_,_,_,_,_,_,_,_,_,_,_,_,_,_,_,_,_,_,_,_,_,_,_,_,_,_,_,_,_,_,_,_,_,_,_,_,_,_,_,_,_,_,_,_,_,_,_,_,_,_,_,_,_,_,_,_,_,_,_,_,_,_,h2,brb (fun _=>rfl) (fun h=>absurd h (by decide))⟩⟩
 |some e=>
  rw[ha]at h2;have hb:e.arc=true:=by
   unfold ZO at ha;split at ha
   ·simp at ha
   ·simp only[A1]at ha;subst ha;rfl
  obtain⟨a2,ln,ci,cw,fr,tt⟩:=e;simp only at hb;subst hb;cases hc:XF p q with
  |none=>rw[hc]at h;exact⟨_,_,_,_,_,_,_,_,_,_,_,_,_,_,_,_,_,_,_,_,_,_,_,_,_,_,_,_,_,_,_,_,_,_,_,_,_,_,_,_,_,_,_,_,_,_,_,_,_,_,_,_,_,_,_,_,_,_,_,_,_,_,_,_,_,_,_,h,a0 ⟨⟨by omega,by simp only[Al,Ah];omega,rfl⟩,_,_,_,_,_,_,_,_,⟨rfl,Au 8⟩,⟨by omega,by simp only[Al,Ah];omega,rfl⟩,_,_,_,_,_,_,_,_,⟨rfl,Au 8⟩,⟨by omega,by simp only[Al,Ah];omega,rfl⟩,_,_,_,_,_,_,_,_,⟨rfl,Au 8⟩,_,_,_,_,_,_,_,_,_,_,_,_,_,_,_,_,_,_,_,_,_,_,_,_,_,_,_,_,_,_,_,_,_,_,_,_,_,_,_,_,_,_,_,_,_,_,_,_,_,_,_,_,_,_,_,_,_,_,_,_,_,_,_,_,_,_,_,h2,brb (fun h=>absurd h (by decide)) (fun _=>rfl)⟩⟩
  |some c=>
   rw[hc]at h;obtain⟨a1,ln',ci',cw',fr',tt'⟩:=c;cases a1
   all_goals exact⟨_,_,_,_,_,_,_,_,_,_,_,_,_,_,_,_,_,_,_,_,_,_,_,_,_,_,_,_,_,_,_,_,_,_,_,_,_,_,_,_,_,_,_,_,_,_,_,_,_,_,_,_,_,_,_,_,_,_,_,_,_,_,_,_,_,_,_,h,a0 ⟨⟨by omega,by simp only[Al,Ah];omega,rfl⟩,_,_,_,_,_,_,_,_,⟨rfl,Au 8⟩,⟨by omega,by simp only[Al,Ah];omega,rfl⟩,_,_,_,_,_,_,_,_,⟨rfl,Au 8⟩,⟨by omega,by simp only[Al,Ah];omega,rfl⟩,_,_,_,_,_,_,_,_,⟨rfl,Au 8⟩,_,_,_,_,_,_,_,_,_,_,_,_,_,_,_,_,_,_,_,_,_,_,_,_,_,_,_,_,_,_,_,_,_,_,_,_,_,_,_,_,_,_,_,_,_,_,_,_,_,_,_,_,_,_,_,_,_,_,_,_,_,_,_,_,_,_,_,h2,brb (fun h=>absurd h (by decide)) (fun _=>rfl)⟩⟩
end Eng
end

section
namespace Eng
open Go Go.Proofs
set_option maxRecDepth 100000
theorem FD.upLe {d e j k l:Nat} {x:Rat} (hx:FD d j x) (he:e≤10^k) (he0:0<e) (hl:j+k≤l):FD (d*e) l x:=by
 obtain⟨n,rfl,hn⟩:=hx;refine⟨n*e,?_,?_⟩
 ·rw[Int.natCast_mul];exact(Rat.divInt_mul_right (by omega)).symm
 ·rw[Int.natAbs_mul,Int.natAbs_natCast];have h1:n.natAbs*e<10^j*e:=Nat.mul_lt_mul_of_pos_right hn he0;have h2:10^j*e≤10^j*10^k:=Nat.mul_le_mul_left _ he;rw[←A0]at h2;exact Az (Az h1 h2) (Nat.pow_le_pow_right (by omega) hl)
theorem VH:∀(l:List Rat),(∀x∈l,Sz 54 x)→∃d:Nat,0<d∧d≤10^(54*l.length)∧∀x∈l,FD d (55*l.length) x
 |[],_=>⟨1,by omega,by simp,fun x h=>by simp at h⟩
 |x::r,h=>by
  obtain⟨d,d0,dl,hd⟩:=VH r fun y hy=>h y (by simp[hy])
  obtain⟨h1,h2⟩:=h x (by simp);have xd:=x.den_pos;refine⟨x.den*d,Ay xd d0,?_,fun y hy=>?_⟩
  ·rw[Al,Nat.mul_add,Nat.mul_one,Nat.add_comm,A0];exact Nat.mul_le_mul h2 dl
  ·rw[Al];rcases Am.1 hy with rfl|hy
   ·have g:FD y.den 55 y:=FD.self (j:=55) (Aw h1 (Ax (by omega) (by omega))) (Au _);exact g.upLe dl d0 (by omega)
   ·rw[Nat.mul_comm];exact(hd y hy).upLe h2 xd (by omega)
theorem Wr {l:List Rat} (h:∀x∈l,Sz 54 x) (hl:l.length≤6):∃d,Dn d∧∀x∈l,FD d 330 x:=by
 obtain⟨d,d0,dl,hd⟩:=VH l h;refine⟨d,⟨d0,?_⟩,fun x hx=>(hd x hx).mono (by omega)⟩;obtain⟨k,hk⟩:∃k,k=330:=⟨_,rfl⟩;have e:10^(54*l.length)<10^k:=Ax (by omega) (by omega);rw[←hk];exact Aw dl e
end Eng
end

section
namespace Eng
open Go Go.Proofs
set_option maxRecDepth 100000
def outP:Option (List Cv)→List A
 |none=>[.c (.sl []),.c (.int .i64 6)]
 |some l=>[.c (.sl (l.map cCv)),.c (.int .i64 0)]
def outR:Option (List Cv)→List A
 |none=>[.c (.sl []),.c (.int .i64 6)]
 |some l=>[.c (.sl (l.map cCw)),.c (.int .i64 0)]
def vP (p:Rw×Rw):Pt:=⟨p.1.val,p.2.val⟩
theorem UC {x:Rw} (h:zP (vr x)=true):x.ok=true:=by
 unfold vr at h;split at h
 ·assumption
 ·simp[zP]at h
theorem Ph {p:Rw×Rw} (h:GS p=true):ZQ p=cV (vP p):=by
 simp only[GS,Aa]at h;unfold ZQ cV vP;rw[Rw.val_cs (UC h.1),Rw.val_cs (UC h.2)]
theorem Zr {x:Rw} (h:zP (vr x)=true) (hf:x.few):Sz 54 x.val:=(Rw.val_ok (UC h) hf).2
theorem entC (hd:zn) (hp:qp) {e:Er} (ok:yh e.o=true) (hf:∀p∈e.pts,p.1.few∧p.2.few) (hr:e.rad.few):
 ∃L,qe CC 18 [.ag (ZD e)] (outP L)∧qe CC 19 [.ag (ZD e)] (outR L)∧∀l,L=some l→l.length≤2∧∀c∈l,Cz c:=by
 rw[Er.ok_eq]at ok;simp only[Aa,decide_eq_true_eq,Bool.or_eq_true]at ok;obtain⟨hk,hn,ha,a7⟩:=ok;obtain⟨a3,a2,a4,a1⟩:=e;simp only at *;rw[Ao]at ha;have sz:∀p∈a4,Sz 54 p.1.val∧Sz 54 p.2.val:=fun p hp=>by have h:=ha p hp;simp only[GS,Aa]at h;exact⟨Zr h.1 (hf p hp).1,Zr h.2 (hf p hp).2⟩
 have a8:ZD ⟨a3,a2,a4,a1⟩=[.int .i64 a3,.str a2,.sl (a4.map fun p=>cV (vP p)),.bool a1.p,.sl (raw a1.l),.bool a1.q,.sl (raw a1.m)]:=by unfold ZD;rw[List.map_congr_left fun p hp=>Ph (ha p hp)];rfl
 rw[a8];rcases(by omega:a3=1∨a3=2∨a3=3)with rfl|rfl|rfl
 ·match a4,hn with
  |[p,q],_=>
   have s1:=sz p (by simp);have s2:=sz q (by simp);obtain⟨d,hD,a0⟩:=Wr (l:=[p.1.val,p.2.val,q.1.val,q.2.val]) (fun x hx=>by
    simp only[Am,An,or_false]at hx;rcases hx with rfl|rfl|rfl|rfl
    ·exact s1.1
    ·exact s1.2
    ·exact s2.1
    ·exact s2.2) (by simp)
   have o1:Ov d (vP p):=⟨a0 _ (by simp[vP]),a0 _ (by simp[vP])⟩;have o2:Ov d (vP q):=⟨a0 _ (by simp[vP]),a0 _ (by simp[vP])⟩;have g1:=Wl (n:=a2) (u:=[]) (p0:=a1.p) (l0:=raw a1.l) (q0:=a1.q) (m0:=raw a1.m) hd hD o1 o2;have g2:=Wp (n:=a2) (u:=[]) (p0:=a1.p) (l0:=raw a1.l) (q0:=a1.q) (m0:=raw a1.m) hp hD o1 o2;refine⟨(XF (vP p) (vP q)).map fun c=>[c],?_,?_,?_⟩
   ·cases hc:XF (vP p) (vP q)<;>(rw[hc]at g1;exact g1)
   ·cases hc:XF (vP p) (vP q)<;>(rw[hc]at g2;exact g2)
   ·intro l hl;cases hs:XF (vP p) (vP q)with
    |none=>rw[hs]at hl;simp at hl
    |some c'=>rw[hs]at hl;obtain rfl:=A2 hl;exact⟨by simp,fun c hc=>by rw[Ar.1 hc];exact Pf hD o1 o2 hs⟩
 ·match a4,hn with
  |[p,q,r],_=>
   have s1:=sz p (by simp);have s2:=sz q (by simp);have s3:=sz r (by simp);obtain⟨d,hD,a0⟩:=Wr (l:=[p.1.val,p.2.val,q.1.val,q.2.val,r.1.val,r.2.val]) (fun x hx=>by
    simp only[Am,An,or_false]at hx;rcases hx with rfl|rfl|rfl|rfl|rfl|rfl
    ·exact s1.1
    ·exact s1.2
    ·exact s2.1
    ·exact s2.2
    ·exact s3.1
    ·exact s3.2) (by simp)
   have o1:Ov d (vP p):=⟨a0 _ (by simp[vP]),a0 _ (by simp[vP])⟩;have o2:Ov d (vP q):=⟨a0 _ (by simp[vP]),a0 _ (by simp[vP])⟩;have o3:Ov d (vP r):=⟨a0 _ (by simp[vP]),a0 _ (by simp[vP])⟩;have g1:=Wm (n:=a2) (u:=[]) (p0:=a1.p) (l0:=raw a1.l) (q0:=a1.q) (m0:=raw a1.m) hd hD o1 o2 o3;have g2:=Wq (n:=a2) (u:=[]) (p0:=a1.p) (l0:=raw a1.l) (q0:=a1.q) (m0:=raw a1.m) hp hD o1 o2 o3;refine⟨(ZO (vP p) (vP q) (vP r)).map fun c=>[c],?_,?_,?_⟩
   ·cases hc:ZO (vP p) (vP q) (vP r)<;>(rw[hc]at g1;exact g1)
   ·cases hc:ZO (vP p) (vP q) (vP r)<;>(rw[hc]at g2;exact g2)
   ·intro l hl;cases hs:ZO (vP p) (vP q) (vP r)with
    |none=>rw[hs]at hl;simp at hl
    |some c'=>rw[hs]at hl;obtain rfl:=A2 hl;exact⟨by simp,fun c hc=>by rw[Ar.1 hc];exact Pg hD o1 o2 o3 hs⟩
 ·match a4,hn with
  |[p],_=>
   have s1:=sz p (by simp);obtain⟨a5,a6⟩:=a7.resolve_left (fun h=>h rfl);have sr:=Zr a5 hr;have hcs:=Rw.val_cs (UC a5);have h0:0<a1.val:=by unfold vr at a6;rw[if_pos (UC a5)]at a6;exact of_decide_eq_true a6
   obtain⟨d,hD,a0⟩:=Wr (l:=[p.1.val,p.2.val,a1.val]) (fun x hx=>by
    simp only[Am,An,or_false]at hx;rcases hx with rfl|rfl|rfl
    ·exact s1.1
    ·exact s1.2
    ·exact sr) (by simp)
   have o1:Ov d (vP p):=⟨a0 _ (by simp[vP]),a0 _ (by simp[vP])⟩;have orr:FD d 330 a1.val:=a0 _ (by simp);have a9:10^54<1000000000^45:=by decide
   have b1:a1.val.num.natAbs<1000000000^45:=Aw sr.1 a9;have b2:a1.val.den<1000000000^45:=Aw sr.2 a9;have g1:=Wn (n:=a2) (p:=vP p) (u:=[]) hd b1 b2 (s1.1.sr (by omega)) (s1.2.sr (by omega)) (sr.sr (by omega));have g2:=Wo (n:=a2) (p:=vP p) (u:=[]) hp b1 b2 (s1.1.sr (by omega)) (s1.2.sr (by omega)) (sr.sr (by omega));rw[←hcs]at g1 g2;exact⟨some (XG (vP p) a1.val),g1,g2,fun l hl=>by
    obtain rfl:=A2 hl;exact⟨Au 2,fun c hc=>Mw hD o1 orr h0 c hc⟩⟩
end Eng
end

section
open Go Go.Proofs Eng
set_option maxRecDepth 1000000
namespace Eng
section
variable (Gv:Nat→List A→List A→Prop) (Q:List A→Prop) (I0 I1 I2 I3:List D→List D→Prop) (M0 M1 M2 M3:List D→Nat)
theorem Gb (ls es:List (List D)):wpF CC Gv (Vn ⟨[.slot 21 (.int .i64 0)],[],I0,M0⟩ ⟨[.slot 47 (.int .i64 0)],[],I1,M1⟩) Tryz.f6 [.ag [.sl ls,.sl es]] Q=(
 ∃b,Gv 8 [] [A.c (Ab b)]∧br (toB (Ab !b)) (∃b,Gv 8 [] [A.c (Ab b)]∧Q [A.c (Ab b)]) (∃b,Gv 17 [A.ag [Ac ls,Ac es]] [A.c (Ab b)]∧br (toB (Ab !b)) (∃b,Gv 8 [] [A.c (Ab b)]∧Q [A.c (Ab b)]) (I0 [] [Ad .i64 0]∧∀(n:Int),I0 [] [Ad .i64 n]→br (toB (Ab (decide (n<(Aj es.length))))) ((0≤n∧n<(Aj es.length)∧Ap (nth [] es (Ai n))=7)∧∃n1 s e1 b e2 b1 e3,cut (nth [] es (Ai n)) 0 7 [Ad .i64 n1,D.str s,Ac e1,Ab b,Ac e2,Ab b1,Ac e3]∧∃es n2,Gv 18 [A.ag [Ad .i64 n1,D.str s,Ac e1,Ab b,Ac e2,Ab b1,Ac e3]] [A.c (Ac es),A.c (Ad .i64 n2)]∧∃e4 n3,Gv 19 [A.ag [Ad .i64 n1,D.str s,Ac e1,Ab b,Ac e2,Ab b1,Ac e3]] [A.c (Ac e4),A.c (Ad .i64 n3)]∧br (toB (Ab (n2 !=n3))) (Q [A.c (Ab false)]) (br (toB (Ab ((Aj es.length) !=(Aj e4.length)))) (Q [A.c (Ab false)]) (I1 [] [Ad .i64 0]∧∀(n4:Int),I1 [] [Ad .i64 n4]→br (toB (Ab (decide (n4<(Aj es.length))))) ((0≤n4∧n4<(Aj es.length)∧Ap (nth [] es (Ai n4))=66)∧∃b b2 e5 b3 e6 b4 e7 b5 e8 b6 e9 b7 e10 b8 e11 b9 e12 b10 e13 b11 e14 b12 e15 b13 e16 b14 b15 e17 b16 e18 b17 e19 b18 e20 b19 e21 b20 e22 b21 e23 b22 e24 b23 e25 b24 e26 b25 e27 b26 e28 b27 e29 b28 e30 b29 e31 b30 e32 b31 e33 b32 e34 b33 e35 b34 e36,cut (nth [] es (Ai n4)) 0 66 [Ab b,Ab b2,Ac e5,Ab b3,Ac e6,Ab b4,Ac e7,Ab b5,Ac e8,Ab b6,Ac e9,Ab b7,Ac e10,Ab b8,Ac e11,Ab b9,Ac e12,Ab b10,Ac e13,Ab b11,Ac e14,Ab b12,Ac e15,Ab b13,Ac e16,Ab b14,Ab b15,Ac e17,Ab b16,Ac e18,Ab b17,Ac e19,Ab b18,Ac e20,Ab b19,Ac e21,Ab b20,Ac e22,Ab b21,Ac e23,Ab b22,Ac e24,Ab b23,Ac e25,Ab b24,Ac e26,Ab b25,Ac e27,Ab b26,Ac e28,Ab b27,Ac e29,Ab b28,Ac e30,Ab b29,Ac e31,Ab b30,Ac e32,Ab b31,Ac e33,Ab b32,Ac e34,Ab b33,Ac e35,Ab b34,Ac e36]∧∃b35,Gv 20 [A.ag [Ab b,Ab b2,Ac e5,Ab b3,Ac e6,Ab b4,Ac e7,Ab b5,Ac e8,Ab b6,Ac e9,Ab b7,Ac e10,Ab b8,Ac e11,Ab b9,Ac e12,Ab b10,Ac e13,Ab b11,Ac e14,Ab b12,Ac e15,Ab b13,Ac e16,Ab b14,Ab b15,Ac e17,Ab b16,Ac e18,Ab b17,Ac e19,Ab b18,Ac e20,Ab b19,Ac e21,Ab b20,Ac e22,Ab b21,Ac e23,Ab b22,Ac e24,Ab b23,Ac e25,Ab b24,Ac e26,Ab b25,Ac e27,Ab b26,Ac e28,Ab b27,Ac e29,Ab b28,Ac e30,Ab b29,Ac e31,Ab b30,Ac e32,Ab b31,Ac e33,Ab b32,Ac e34,Ab b33,Ac e35,Ab b34,Ac e36]] [A.c (Ab b35)]∧br (toB (Ab !b35)) (Q [A.c (Ab false)]) ((0≤n4∧n4<(Aj es.length)∧Ap (nth [] es (Ai n4))=66)∧∃b b36 e37 b37 e38 b38 e39 b39 e40 b40 e41 b41 e42 b42 e43 b43 e44 b44 e45 b45 e46 b46 e47 b47 e48 b48 b49 e49 b50 e50 b51 e51 b52 e52 b53 e53 b54 e54 b55 e55 b56 e56 b57 e57 b58 e58 b59 e59 b60 e60 b61 e61 b62 e62 b63 e63 b64 e64 b65 e65 b66 e66 b67 e67 b68 e68,cut (nth [] es (Ai n4)) 0 66 [Ab b,Ab b36,Ac e37,Ab b37,Ac e38,Ab b38,Ac e39,Ab b39,Ac e40,Ab b40,Ac e41,Ab b41,Ac e42,Ab b42,Ac e43,Ab b43,Ac e44,Ab b44,Ac e45,Ab b45,Ac e46,Ab b46,Ac e47,Ab b47,Ac e48,Ab b48,Ab b49,Ac e49,Ab b50,Ac e50,Ab b51,Ac e51,Ab b52,Ac e52,Ab b53,Ac e53,Ab b54,Ac e54,Ab b55,Ac e55,Ab b56,Ac e56,Ab b57,Ac e57,Ab b58,Ac e58,Ab b59,Ac e59,Ab b60,Ac e60,Ab b61,Ac e61,Ab b62,Ac e62,Ab b63,Ac e63,Ab b64,Ac e64,Ab b65,Ac e65,Ab b66,Ac e66,Ab b67,Ac e67,Ab b68,Ac e68]∧(0≤n4∧n4<(Aj e4.length)∧Ap (nth [] e4 (Ai n4))=66)∧∃b69 b70 es b71 e69 b72 e70 b73 e71 b74 e72 b75 e73 b76 e74 b77 e75 b78 e76 b79 e77 b80 e78 b81 e79 b82 b83 e80 b84 e81 b85 e82 b86 e83 b87 e84 b88 e85 b89 e86 b90 e87 b91 e88 b92 e89 b93 e90 b94 e91 b95 e92 b96 e93 b97 e94 b98 e95 b99 e96 b100 e97 b101 e98 b102 e99,cut (nth [] e4 (Ai n4)) 0 66 [Ab b69,Ab b70,Ac es,Ab b71,Ac e69,Ab b72,Ac e70,Ab b73,Ac e71,Ab b74,Ac e72,Ab b75,Ac e73,Ab b76,Ac e74,Ab b77,Ac e75,Ab b78,Ac e76,Ab b79,Ac e77,Ab b80,Ac e78,Ab b81,Ac e79,Ab b82,Ab b83,Ac e80,Ab b84,Ac e81,Ab b85,Ac e82,Ab b86,Ac e83,Ab b87,Ac e84,Ab b88,Ac e85,Ab b89,Ac e86,Ab b90,Ac e87,Ab b91,Ac e88,Ab b92,Ac e89,Ab b93,Ac e90,Ab b94,Ac e91,Ab b95,Ac e92,Ab b96,Ac e93,Ab b97,Ac e94,Ab b98,Ac e95,Ab b99,Ac e96,Ab b100,Ac e97,Ab b101,Ac e98,Ab b102,Ac e99]∧∃b103,Gv 21 [A.ag [Ab b,Ab b36,Ac e37,Ab b37,Ac e38,Ab b38,Ac e39,Ab b39,Ac e40,Ab b40,Ac e41,Ab b41,Ac e42,Ab b42,Ac e43,Ab b43,Ac e44,Ab b44,Ac e45,Ab b45,Ac e46,Ab b46,Ac e47,Ab b47,Ac e48,Ab b48,Ab b49,Ac e49,Ab b50,Ac e50,Ab b51,Ac e51,Ab b52,Ac e52,Ab b53,Ac e53,Ab b54,Ac e54,Ab b55,Ac e55,Ab b56,Ac e56,Ab b57,Ac e57,Ab b58,Ac e58,Ab b59,Ac e59,Ab b60,Ac e60,Ab b61,Ac e61,Ab b62,Ac e62,Ab b63,Ac e63,Ab b64,Ac e64,Ab b65,Ac e65,Ab b66,Ac e66,Ab b67,Ac e67,Ab b68,Ac e68],A.ag [Ab b69,Ab b70,Ac es,Ab b71,Ac e69,Ab b72,Ac e70,Ab b73,Ac e71,Ab b74,Ac e72,Ab b75,Ac e73,Ab b76,Ac e74,Ab b77,Ac e75,Ab b78,Ac e76,Ab b79,Ac e77,Ab b80,Ac e78,Ab b81,Ac e79,Ab b82,Ab b83,Ac e80,Ab b84,Ac e81,Ab b85,Ac e82,Ab b86,Ac e83,Ab b87,Ac e84,Ab b88,Ac e85,Ab b89,Ac e86,Ab b90,Ac e87,Ab b91,Ac e88,Ab b92,Ac e89,Ab b93,Ac e90,Ab b94,Ac e91,Ab b95,Ac e92,Ab b96,Ac e93,Ab b97,Ac e94,Ab b98,Ac e95,Ab b99,Ac e96,Ab b100,Ac e97,Ab b101,Ac e98,Ab b102,Ac e99]] [A.c (Ab b103)]∧br (toB (Ab !b103)) (Q [A.c (Ab false)]) (I1 [] [Ad .i64 (Af .i64 (n4+1))]∧M1 [Ad .i64 (Af .i64 (n4+1))]<M1 [Ad .i64 n4]))) (I0 [] [Ad .i64 (Af .i64 (n+1))]∧M0 [Ad .i64 (Af .i64 (n+1))]<M0 [Ad .i64 n])))) (Q [A.c (Ab true)])))):=by kernel_rfl
end
end Eng
end

section
namespace Eng
open Go Go.Proofs
set_option maxRecDepth 100000
theorem Gc (hA:qe CC 8 [] [.c (.bool true)]) (ls:List Ly) (es:List Er):qe CC 6 [drA ls es] [.c (.bool true)]:=by
 have hr:=GX ls es;refine qf (anns:=Vn ⟨[.slot 21 (.int .i64 0)],[],fun _ ds=>∃k:Nat,k≤es.length∧ds=[.int .i64 (k:Int)],fun ds=>(es.length-toI (nth .undef ds 0)).toNat⟩
  ⟨[.slot 47 (.int .i64 0)],[],fun _ ds=>∃k:Nat,k≤2∧ds=[.int .i64 (k:Int)],fun ds=>(2-toI (nth .undef ds 0)).toNat⟩) mixedT Tryz.func6 ?_
 have ed:drA ls es= .ag [.sl (ls.map GP),.sl (es.map ZD)]:=rfl;rw[ed]at hr ⊢;rw[Gb];simp only[Ah,Aq];refine⟨_,hA,brb (fun h=>by simp at h) (fun _=>⟨_,hr,brb (fun _=>⟨_,hA,rfl⟩) (fun h=>?_)⟩)⟩;have h:WN ls es=true:=by simpa using h
 simp only[WN,Aa,decide_eq_true_eq]at h;obtain⟨h1,h2,h3⟩:=h;obtain⟨_,hok⟩:=Gk h3;refine⟨⟨0,by omega,rfl⟩,?_⟩;rintro n ⟨k,hk,a0⟩;simp only[At,D.int.injEq,true_and,and_true]at a0;subst a0;refine brd (fun hlt=>?_) (fun _=>trivial);have a4:k<es.length:=by omega
 have hm:=As a4;have a1:es[k].rad.few∧∀p∈es[k].pts,p.1.few∧p.2.few:=by simp only[smR,Aa,Ao]at h2;have g:=h2.2.2.2 es[k] hm;simp only[smE,Aa,Ao]at g;exact⟨vk.1 g.2.2.1,fun p hp=>⟨vk.1 (g.2.2.2 p hp).1,vk.1 (g.2.2.2 p hp).2⟩⟩
 obtain⟨L,g1,g2,hL⟩:=entC Yu zz (hok es[k].o (List.mem_map.2 ⟨es[k],hm,rfl⟩)) a1.2 a1.1;have hw:Af .i64 ((k:Int)+1)=((k+1:Nat):Int):=by rw[xL (by omega) (by omega)];omega
 rw[Ak,za a4,hw];refine⟨⟨by omega,by omega,by simp[ZD,Rw.cs]⟩,_,_,_,_,_,_,_,⟨rfl,by simp[ZD,Rw.cs]⟩,?_⟩;have a2:(∃k_1:Nat,k_1≤es.length∧[Ad Ae ((k+1:Nat):Int)]=[Ad Ae (k_1:Int)])∧((es.length:Int)-toI (nth .undef [Ad Ae ((k+1:Nat):Int)] 0)).toNat<((es.length:Int)-toI (nth .undef [Ad Ae (k:Int)] 0)).toNat:=
  ⟨⟨k+1,by omega,rfl⟩,by simp only[nth,toI];omega⟩
 cases L with
 |none=>refine⟨_,_,g1,_,_,g2,brb (fun h=>by simp at h) (fun _=>brb (fun h=>by simp at h) (fun _=>⟨⟨0,by omega,rfl⟩,?_⟩))⟩;rintro n ⟨j,hj,a0⟩;simp only[At,D.int.injEq,true_and,and_true]at a0;subst a0;refine brd (fun h=>?_) (fun _=>a2);simp only[List.length_nil]at h;omega
 |some l=>
  obtain⟨hl2,hcz⟩:=hL l rfl;refine⟨_,_,g1,_,_,g2,brb (fun h=>by simp at h) (fun _=>brb (fun h=>by simp at h) (fun _=>⟨⟨0,by omega,rfl⟩,?_⟩))⟩;rintro n ⟨j,hj,a0⟩;simp only[At,D.int.injEq,true_and,and_true]at a0;subst a0;rw[Aq,Aq];refine brd (fun h=>?_) (fun _=>a2);have a3:j<l.length:=by omega
  have hz:=hcz l[j] (As a3);have e1:nth [] (l.map cCv) j=cCv l[j]:=za a3;have e2:nth [] (l.map cCw) j=cCw l[j]:=za a3;have hw2:Af .i64 ((j:Int)+1)=((j+1:Nat):Int):=by rw[xL (by omega) (by omega)];omega
  rw[Ak,e1,e2,hw2];have v1:=U8 zz hz;have v2:=UB zz hz;have fin:(∃k:Nat,k≤2∧[Ad Ae ((j+1:Nat):Int)]=[Ad Ae (k:Int)])∧(2-toI (nth .undef [Ad Ae ((j+1:Nat):Int)] 0)).toNat<(2-toI (nth .undef [Ad Ae (j:Int)] 0)).toNat:=
   ⟨⟨j+1,by omega,rfl⟩,by simp only[nth,toI];omega⟩
  have nb:∀{X Y:Prop},Y→br (toB (Ab !true)) X Y:=fun h=>h
  generalize l[j]=c at *;obtain⟨arc,ln,ci,cw,fr,tt⟩:=c;cases arc
  all_goals exact⟨⟨by omega,by omega,rfl⟩,_,_,_,_,_,_,_,_,_,_,_,_,_,_,_,_,_,_,_,_,_,_,_,_,_,_,_,_,_,_,_,_,_,_,_,_,_,_,_,_,_,_,_,_,_,_,_,_,_,_,_,_,_,_,_,_,_,_,_,_,_,_,_,_,_,_,⟨rfl,Au 66⟩,_,v1,nb ⟨⟨by omega,by omega,rfl⟩,_,_,_,_,_,_,_,_,_,_,_,_,_,_,_,_,_,_,_,_,_,_,_,_,_,_,_,_,_,_,_,_,_,_,_,_,_,_,_,_,_,_,_,_,_,_,_,_,_,_,_,_,_,_,_,_,_,_,_,_,_,_,_,_,_,_,⟨rfl,Au 66⟩,⟨by omega,by omega,rfl⟩,_,_,_,_,_,_,_,_,_,_,_,_,_,_,_,_,_,_,_,_,_,_,_,_,_,_,_,_,_,_,_,_,_,_,_,_,_,_,_,_,_,_,_,_,_,_,_,_,_,_,_,_,_,_,_,_,_,_,_,_,_,_,_,_,_,_,⟨rfl,Au 66⟩,_,v2,nb fin⟩⟩
end Eng
end
