/- Drawings as plain data: their texts, and what is read back from a line. -/
import Derived.Test.YtfipmjpmflmbbaaGreatDPaE
import Derived.Test.YtfipmjpmflmbbaaGreatDPaD
import Derived.Test.YtfipmjpmflmbbaaGreatDPaA
import Derived.Test.YtfipmjpmflmbbaaGreatDPaC
import Derived.KernelRfl
open Bool renaming and_eq_true→Aw, eq_iff_iff→Bx, true_and→Dd, false_and→F0
open Eng.A renaming c→F2, ag→Hu
open Eng.D renaming int→Hv, sl→Hx, str→Hy, bool→I2
open Eng.D.int renaming injEq→I3
open Eng.Limbs renaming nil→J3, cons→J4
open Go.IntKind renaming wrap→J7
open Int renaming toNat→J8, ofNat→J9, ofNat_eq_natCast→M2, tmod→M3, toNat_natCast→No, tdiv→Pl, tdiv_eq_ediv_of_nonneg→Ts, mul_pos→T1
open List renaming take→U3, drop→V1, length→cH, length_take→cL, take_succ_eq_append_getElem→el, take_of_length_le→en, drop_eq_nil_of_le→er, getElem_mem→ey, length_cons→ez, mem_singleton→e7, take_length→e8, length_drop→eH, take_append_of_le_length→fg, drop_append_of_le_length→fl, map_append→ft, length_map→fw, replicate→fx, drop_eq_getElem_cons→fz, map_cons→fR, getElem?_eq_getElem→fS, drop_of_length_le→ga, length_append→gb, append_assoc→gm, all_eq_true→gp, nil_append→gq, drop_zero→gr, map_nil→gz
open List.cons renaming injEq→g3
open Nat renaming mod_eq_of_lt→g4, mul_comm→g5, mul_le_mul_right→g7, lt_of_lt_of_le→g8, eq_of_beq_eq_true→ho, min_eq_left→hr, mul_le_mul_left→h9, zero_le→hC, mod_lt→hE, div_lt_iff_lt_mul→hG, lt_of_le_of_lt→hH, blt_eq→hK, pow_succ→hL, mul_lt_mul_of_pos_right→hM, beq→hP, blt→hQ, pow_le_pow_right→hR, le_sub_one_of_lt→hS, eq_zero_or_pos→hT, gcd→hW, div_eq_of_lt→hX, mul_le_mul→hY, mul_assoc→ia, add_zero→ib, one_mul→ic, mul_one→ie, mul_add→im, le_refl→it, add_mul→iz
open Option.some renaming injEq→j0, inj→j1
open Prod renaming fst→j2, snd→j3
open Rat renaming num_divInt_den→j4, divInt→j5, divInt_add_divInt→ks, intCast_add→ky
set_option maxRecDepth 1000000
section
namespace Eng
open Go
end Eng
end
section
namespace Eng
open Go
structure Ly where
 name:List UInt8
 kind:Int
 depth:Int
structure En where
 kind:Int
 layer:List UInt8
 pts:List V2
 rad:Rat
def US (w:List UInt8):Bool:=decide (w.length≤24)&&(w.all nmc&&match w with|[]=>false|c::_=>ltr c)
end Eng
end
section
namespace Eng
open Go
end Eng
end
section
namespace Eng
open Go
end Eng
end
section
namespace Eng
open Go
end Eng
end
section
namespace Eng
open Go
end Eng
end
section
namespace Eng
open Go
end Eng
end
section
namespace Eng
open Go
end Eng
end
section
namespace Eng
open Go
theorem O2 {s:List UInt8} {i:Nat} (h:i<s.length):s.drop i=nth 0 s i::s.drop (i+1):=by
 induction s generalizing i with
 |nil=>simp at h
 |cons c s ih=>
  match i with
  |0=>rfl
  |i+1=>simp only[ez]at h;exact ih (by omega)
end Eng
end
section
namespace Eng
open Go
theorem CI {p:UInt8→Bool} {s:List UInt8} {i:Nat} (h:i<s.length) (hp:p (nth 0 s i)=true):GA p (s.drop i)=GA p (s.drop (i+1))+1:=by
 rw[O2 h,GA,hp]
theorem UT {p:UInt8→Bool} {s:List UInt8} {i:Nat} (h:s.length≤i∨p (nth 0 s i)=false):GA p (s.drop i)=0:=by
 by_cases hi:s.length≤i
 ·rw[er hi];rfl
 ·rw[O2 (by omega),GA];rcases h with h|h
  ·omega
  ·rw[h]
theorem O3 {p:UInt8→Bool}:∀{s:List UInt8},GA p s=s.length↔s.all p=true
 |[]=>by simp[GA]
 |c::s=>by
  have ih:=O3 (p:=p) (s:=s);rw[GA,List.all_cons,ez];cases hp:p c with
  |false=>simp
  |true=>simp[ih]
theorem Rm (w:List UInt8):US w=(!w.isEmpty&&(decide (w.length≤24)&&(ltr (nth 0 w 0)&&decide (GA nmc w=w.length)))):=by
 unfold US
 match w with
 |[]=>rfl
 |c::t=>
  have e:nth 0 (c::t) 0=c:=rfl;rw[e];have ha:decide (GA nmc (c::t)=(c::t).length)=(c::t).all nmc:=by rw[Bx];simp only[decide_eq_true_eq];exact O3
  rw[ha];simp only[List.isEmpty_cons,Bool.not_false,Dd];cases(c::t).all nmc<;>cases ltr c<;>rfl
end Eng
end
section
namespace Eng
open Go Go.Proofs
set_option maxRecDepth 100000
theorem VM (c:UInt8):qc CC 89 [.c (.int .u8 c.toNat)] [aB (ltr c)]:=by
 refine qu (anns:=an0) mixedT Tryz.func89 ?_;rw[Rj];unfold ltr;have e1:(decide ((c.toNat:Int)≥97))=decide (97≤c.toNat):=decide_eq_decide.2 (by omega);have e2:(decide ((c.toNat:Int)≤122))=decide (c.toNat≤122):=decide_eq_decide.2 (by omega);have e3:(decide ((c.toNat:Int)≥65))=decide (65≤c.toNat):=decide_eq_decide.2 (by omega);have e4:(decide ((c.toNat:Int)≤90))=decide (c.toNat≤90):=decide_eq_decide.2 (by omega);rw[e1,e2,e3,e4];cases decide (97≤c.toNat)<;>cases decide (c.toNat≤122)<;>cases decide (65≤c.toNat)<;>cases decide (c.toNat≤90)<;>rfl
theorem CJ (c:UInt8):qc CC 154 [.c (.int .u8 c.toNat)] [aB (isD c)]:=by
 refine qu (anns:=an0) mixedT Tryz.func154 ?_;rw[CH];unfold isD;have e1:(decide ((c.toNat:Int)≥48))=decide (48≤c.toNat):=decide_eq_decide.2 (by omega);have e2:(decide ((c.toNat:Int)≤57))=decide (c.toNat≤57):=decide_eq_decide.2 (by omega);rw[e1,e2];cases decide (48≤c.toNat)<;>cases decide (c.toNat≤57)<;>rfl
theorem tR (a:UInt8) (n:Nat) (hn:n<256):((a.toNat:Int)==(n:Int))=decide (a=UInt8.ofNat n):=by
 rw[Bx];simp only[beq_iff_eq,decide_eq_true_eq];constructor
 ·intro h;have:a.toNat=n:=by omega
  rw[←this];simp
 ·rintro rfl;simp[UInt8.toNat_ofNat'];omega
theorem u8b (c:UInt8) (n:Nat) (hn:n<256):(((c.toNat:Nat):Int)==(n:Int))=decide (c=UInt8.ofNat n):=tR c n hn
theorem Am {s:List UInt8} (hs:s.length≤1073741824):qc CC 90 [.c (.str s)] [aI ((GA nmc s:Nat):Int)]:=by
 refine qu (anns:=fun _=>⟨[.slot 3 (.int .i64 0)],[],fun _ ds=>∃k:Nat,k≤s.length∧ds=[dI (k:Int)]∧GA nmc s=k+GA nmc (s.drop k),fun ds=>(s.length-toI (nth .undef ds 0)).toNat⟩) mixedT Tryz.func90 ?_;rw[Al];simp only[M2];refine⟨⟨0,by omega,rfl,by simp⟩,?_⟩;rintro n ⟨k,hk,he,hl⟩;simp only[g3,I3,true_and,and_true]at he;subst he;refine brd (fun h=>?_) (fun h=>?_)
 ·have hkl:k<s.length:=by omega
  rw[No];have a3:nmc (nth 0 s k)=true→(∃k':Nat,k'≤s.length∧[dI (J7 .i64 ((k:Int)+1))]=[dI (k':Int)]∧GA nmc s=k'+GA nmc (s.drop k'))∧(s.length-toI (nth .undef [dI (J7 .i64 ((k:Int)+1))] 0)).toNat<(s.length-toI (nth .undef [dI (k:Int)] 0)).toNat:=fun hc=>by
   have hw:J7 .i64 ((k:Int)+1)=((k+1:Nat):Int):=by rw[zr];omega
   rw[hw];refine⟨⟨k+1,by omega,rfl,?_⟩,by simp only[nth,toI];omega⟩;rw[hl,CI hkl hc];omega
  have hb:(0:Int)≤(k:Int)∧(k:Int)<(s.length:Int):=⟨by omega,by omega⟩;have a4:ltr (nth 0 s k)=true∨isD (nth 0 s k)=true∨nth 0 s k=95∨nth 0 s k=45→nmc (nth 0 s k)=true:=fun h=>by
   unfold nmc;rcases h with h|h|h|h
   ·rw[h];rfl
   ·rw[h];simp
   ·rw[h];decide
   ·rw[h];decide
  have e95:=u8b (nth 0 s k) 95 (by omega);have a5:=u8b (nth 0 s k) 45 (by omega);refine⟨hb,_,VM _,zH (fun h1=>a3 (a4 (.inl h1))) (fun h1=>⟨hb,_,CJ _,zH (fun h2=>a3 (a4 (.inr (.inl h2)))) (fun h2=>⟨hb,brb (fun h3=>a3 (a4 (.inr (.inr (.inl ?_))))) (fun h3=>⟨hb,brb (fun h4=>a3 (a4 (.inr (.inr (.inr ?_))))) (fun h4=>?_)⟩)⟩)⟩)⟩
  ·rw[show(95:Int)=((95:Nat):Int)from rfl,e95]at h3;exact of_decide_eq_true h3
  ·rw[show(45:Int)=((45:Nat):Int)from rfl,a5]at h4;exact of_decide_eq_true h4
  ·rw[show(95:Int)=((95:Nat):Int)from rfl,e95]at h3;rw[show(45:Int)=((45:Nat):Int)from rfl,a5]at h4;have h3:¬nth 0 s k=95:=of_decide_eq_false h3;have h4:¬nth 0 s k=45:=of_decide_eq_false h4;have hno:nmc (nth 0 s k)=false:=by unfold nmc;rw[h1,h2,decide_eq_false h3,decide_eq_false h4];rfl
   rw[hl,UT (.inr hno)];simp
 ·rw[hl,UT (.inl (by omega))];simp
theorem Rn {s:List UInt8} (hs:s.length≤1073741824):qc CC 49 [.c (.str s)] [aB (US s)]:=by
 refine qu (anns:=an0) mixedT Tryz.func49 ?_;rw[Rk,Rm];simp only[M2];have hz:J8 0=0:=rfl;refine brd (fun h=>brd (fun h2=>⟨⟨by omega,by omega⟩,_,by rw[hz];exact VM _,zH (fun h3=>⟨_,Am hs,?_⟩) (fun h3=>?_)⟩) (fun h2=>?_)) (fun h=>?_)
 ·have a3:s.isEmpty=false:=by cases s with|nil=>simp at h|cons _ _=>rfl
  rw[a3,decide_eq_true (by omega:s.length≤24),h3];have:(((GA nmc s:Nat):Int)==(s.length:Int))=decide (GA nmc s=s.length):=by rw[Bx];simp only[beq_iff_eq,decide_eq_true_eq];omega
  rw[this];rfl
 ·have a3:s.isEmpty=false:=by cases s with|nil=>simp at h|cons _ _=>rfl
  rw[a3,decide_eq_true (by omega:s.length≤24),h3];rfl
 ·have a3:s.isEmpty=false:=by cases s with|nil=>simp at h|cons _ _=>rfl
  rw[a3,decide_eq_false (by omega:¬s.length≤24)];rfl
 ·have a3:s.isEmpty=true:=by cases s with|nil=>rfl|cons _ _=>simp only[ez]at h;omega
  rw[a3];rfl
end Eng
end
section
namespace Eng
open Go Go.Proofs Rl
set_option maxRecDepth 100000
def tS (n:Nat) (P:Nat→Prop) (_ ds:List D):Prop:=∃k:Nat,k≤n∧ds=[dI (k:Int)]∧P k
theorem Wk {l m:List Cu} (hl:∀c∈l,Gc c) (hm:∀c∈m,Gc c) (hn:l.length≤6000000):qc CC 33 [.ag [.sl (kUs l)],.ag [.sl (kUs m)]] [aB (R0 l m)]:=by
 have hv:=Mh (qc CC) (tS l.length fun k=>R0 (l.drop k) (m.drop k)=R0 l m) (zo 10000000) (kUs l) (kUs m) (· =[aB (R0 l m)]);refine gOk Tryz.func33 hv ?_;clear hv;rw[qt,qt];have ne:∀a b:List Cu,a.length≠b.length→R0 a b=false:=by
  intro a
  induction a with
  |nil=>intro b h;cases b with
   |nil=>simp at h
   |cons _ _=>rfl
  |cons c r ih=>intro b h;cases b with
   |nil=>rfl
   |cons d s=>simp only[ez,ne_eq,Nat.add_right_cancel_iff]at h;simp only[R0,ih s h,Bool.and_false]
 refine brb (fun h=>?_) (fun h=>?_)
 ·have h:l.length≠m.length:=fun e=>by rw[e]at h;simp at h
  rw[ne l m h]
 ·have hlen:l.length=m.length:=by
   have:¬((J9 l.length) !=(J9 m.length))=true:=by rw[h];simp
   simp only[bne_iff_ne,ne_eq,Decidable.not_not,M2]at this;omega
  refine⟨⟨0,hC _,rfl,rfl⟩,?_⟩;rintro _ ⟨k,hk,he,hd⟩;simp only[g3,I3,and_true]at he;rw[he.2];refine brd (fun h3=>?_) (fun h3=>?_)
  ·have a3:k<l.length:=by simp only[M2]at h3;omega
   have a4:k<m.length:=by omega
   have ok1:=xf a3;have ok2:=xf a4;refine⟨ok1,_,xa a3,ok2,_,xa a4,_,KS (hl _ (ey a3)) (hm _ (ey a4)),?_⟩;rw[fz a3,fz a4]at hd;cases hb:eqC l[k] m[k]with
   |false=>refine brb (fun _=>?_) (fun h=>by cases h);rw[←hd];simp only[R0,hb,F0]
   |true=>refine brb (fun h=>by cases h) (fun _=>?_);refine⟨⟨k+1,a3,by rw[wI];rfl,?_⟩,qy⟩;rw[←hd];simp only[R0,hb,Dd]
  ·have a3:k=l.length:=by simp only[M2]at h3;omega
   rw[a3,ga (it _),ga (by omega)]at hd;rw[←hd];rfl
theorem Mn {l:List Cu} (hl:∀c∈l,Gc c) (hn:l.length≤6000000):qc CC 50 [.ag [.sl (kUs l)]] [aB (N6 l)]:=by
 refine wpG Tryz.func50 ((Mg ..).mpr ?_);refine⟨_,_,Z3 hl hn,?_⟩;unfold N6;refine brb (fun h=>?_) (fun h=>?_)
 ·have h:(w9 l).2=0:=by simpa using h
  rw[decide_eq_true h,Dd];exact⟨_,Wk hl (fun c hc=>((Gq hl).1 c hc).1.1) hn,rfl⟩
 ·have h:¬(w9 l).2=0:=by simpa using h
  rw[decide_eq_false h,F0]
structure Ft where
 nm:List UInt8
 kd:Int
 dp:Int
 sh:List Cu
def kFt (f:Ft):List D:=[.str f.nm,dI f.kd,dI f.dp,.sl (kUs f.sh)]
theorem kX (f:Ft):(kFt f).length=4:=rfl
def Ft.ok (f:Ft):Prop:=f.nm.length≤1073741824∧(∀c∈f.sh,Mo c)∧f.sh.length≤400
noncomputable def CK:List Cu→Bool
 |[a,b]=>a.arc&&(b.arc&&(Fg a.ci b.ci&&R0 [a,b] (Gy a.ci).1))
 |_=>false
theorem CL {l:List Cu} {k:Nat} (h:k<l.length):cut (nth [] (kUs l) k) 0 1 [.bool l[k].arc]:=by
 rw[y9 h,←wt];exact⟨rfl,by show 0+1≤66;omega⟩
theorem CN {l:List Cu} {k:Nat} (h:k<l.length) (ha:l[k].arc=true):cut (nth [] (kUs l) k) 13 12 (kC l[k].ci []):=by
 rw[y9 h];have e:kU l[k]=⟨true,l[k].jk,l[k].jk,l[k].jk,q4 l[k].ci.x,q4 l[k].ci.y,q4 l[k].ci.q,l[k].cw,kP l[k].fr,kP l[k].tt⟩:=by unfold kU;rw[ha]
 rw[e];exact⟨rfl,by show 13+12≤66;omega⟩
theorem Ro {l:List Cu} (hl:∀c∈l,Gd c):qc CC 51 [.ag [.sl (kUs l)]] [aB (CK l)]:=by
 refine wpG Tryz.func51 ((Ri ..).mpr ?_);rw[qt];refine brb (fun h=>?_) (fun h=>?_)
 ·have h:l.length≠2:=fun e=>by rw[e]at h;simp at h
  have:CK l=false:=by
   unfold CK;split
   ·simp at h
   ·rfl
  rw[this]
 ·have a3:l.length=2:=by
   have:¬((J9 l.length) !=(2:Int))=true:=by rw[h];simp
   simp only[bne_iff_ne,ne_eq,Decidable.not_not,M2]at this;omega
  clear h;obtain⟨a,b,rfl⟩:∃a b,l=[a,b]:=by
   cases l with
   |nil=>simp at a3
   |cons a r=>cases r with
    |nil=>simp at a3
    |cons b t=>cases t with
     |nil=>exact⟨a,b,rfl⟩
     |cons _ _=>simp at a3
  have h0:0<[a,b].length:=by simp
  have h1:1<[a,b].length:=by simp
  have ha:=hl a (by simp);have hb:=hl b (by simp);have a4:(0:Int)≤(0:Int)∧(0:Int)<(J9 [a,b].length)∧cH (nth [] (kUs [a,b]) 0)=66:=⟨by omega,by simp,rfl⟩;have a5:(0:Int)≤(1:Int)∧(1:Int)<(J9 [a,b].length)∧cH (nth [] (kUs [a,b]) 1)=66:=⟨by omega,by simp,rfl⟩;have ed:CK [a,b]=(a.arc&&(b.arc&&(Fg a.ci b.ci&&R0 [a,b] (Gy a.ci).1))):=rfl;rw[ed];refine⟨a4,_,CL h0,?_⟩;show br (toB (I2 !a.arc)) _ _;cases ea:a.arc with
  |false=>exact brb (fun _=>rfl) (fun h=>by cases h)
  |true=>
   refine brb (fun h=>by cases h) (fun _=>⟨a5,_,CL h1,?_⟩);show br (toB (I2 !b.arc)) _ _;cases eb:b.arc with
   |false=>exact brb (fun _=>rfl) (fun h=>by cases h)
   |true=>
    obtain⟨ca,qa⟩:=ha.circ ea;obtain⟨cb,qb⟩:=hb.circ eb;refine brb (fun h=>by cases h) (fun _=>⟨a4,_,_,_,CN h0 ea,a5,_,_,_,CN h1 eb,_,y5 ca cb,?_⟩);show br (toB (I2 !Fg a.ci b.ci)) _ _;cases es:Fg a.ci b.ci with
    |false=>exact brb (fun _=>rfl) (fun h=>by cases h)
    |true=>refine brb (fun h=>by cases h) (fun _=>⟨a4,_,_,_,CN h0 ea,_,_,VL ca qa,_,Wk (fun c hc=>(hl c hc).1) (fun c hc=>((O1 ca qa).1 c hc).1.1) (by simp),rfl⟩)
noncomputable def XH (t:Int) (f:Ft):Bool:=US f.nm&&(N6 f.sh&&(!f.sh.isEmpty&&(decide (1≤f.dp)&&(decide (f.dp≤t)&&
 (if f.kd=1 then true else if f.kd=3 then CK f.sh else if f.kd=4 then decide (f.dp=t)else false)))))
theorem Mp {f:Ft} {t:Int} (h:f.ok):qc CC 26 [.ag (kFt f),aI t] [aB (XH t f)]:=by
 obtain⟨hn,hm,hl⟩:=h;refine wpG Tryz.func26 ((Mi ..).mpr ?_);unfold XH;refine⟨_,Rn hn,?_⟩;cases e1:US f.nm with
 |false=>exact brb (fun _=>rfl) (fun h=>by cases h)
 |true=>
  refine brb (fun h=>by cases h) (fun _=>⟨_,Mn (fun c hc=>(hm c hc).1.1) (by omega),?_⟩);cases e2:N6 f.sh with
  |false=>exact brb (fun _=>rfl) (fun h=>by cases h)
  |true=>
   refine brb (fun h=>by cases h) (fun _=>?_);rw[qt];refine brb (fun h=>?_) (fun h=>?_)
   ·have:f.sh.isEmpty=true:=by
     cases hs:f.sh with
     |nil=>rfl
     |cons _ _=>rw[hs]at h;simp at h;omega
    rw[this];rfl
   ·have:f.sh.isEmpty=false:=by
     cases hs:f.sh with
     |nil=>rw[hs]at h;simp at h
     |cons _ _=>rfl
    rw[this];refine brd (fun h3=>?_) (fun h3=>?_)
    ·rw[decide_eq_false (by omega:¬1≤f.dp)];rfl
    ·rw[decide_eq_true (by omega:1≤f.dp)];refine brd (fun h4=>?_) (fun h4=>?_)
     ·rw[decide_eq_false (by omega:¬f.dp≤t)];rfl
     ·rw[decide_eq_true (by omega:f.dp≤t)];refine brb (fun h5=>?_) (fun h5=>?_)
      ·rw[if_pos (by simpa using h5)];rfl
      ·rw[if_neg (by simpa using h5)];refine brb (fun h6=>?_) (fun h6=>?_)
       ·rw[if_pos (by simpa using h6)];exact⟨_,Ro (fun c hc=>(hm c hc).1),rfl⟩
       ·rw[if_neg (by simpa using h6)];refine brb (fun h7=>?_) (fun h7=>?_)
        ·rw[if_pos (by simpa using h7)];have:(f.dp==t)=decide (f.dp=t):=by rw[Bx];simp
         rw[this];rfl
        ·rw[if_neg (by simpa using h7)];rfl
end Eng
end
section
open Go Go.Proofs Eng
namespace Eng
theorem Mq (Gv:Nat→List A→List A→Prop) (I0:List D→List D→Prop) (M0:List D→Nat) (l0:List (List D)) (Q:List A→Prop):wpF CC Gv (fun _=>⟨[.slot 5 (.int .i64 0),.mix 4 [.dat (.int .i64 12),.own 97 4]],[],I0,M0⟩) Tryz.f6 [.c (.sl l0)] Q=(I0 [] [dI (0:Int),dI (12:Int),Hx []]∧∀(i i_1:Int) (es:List (List D)),I0 [] [dI i,dI i_1,Hx es]→bB (decide (i<(J9 l0.length))) (rO l0 i 6∧∃i_2 i_3 i_4 e1 i_5 i_6,cU l0 i 0 6 [Hv .u8 i_2,Hv .u8 i_3,Hv .u8 i_4,Hx e1,Hv .i8 i_5,Hv .i8 i_6]∧(5:Int)≠(0:Int)∧(0≤M3 i_3 (5:Int)∧M3 i_3 (5:Int)<(5:Int))∧∃s,cut (nth [] [[Hy [97]],[Hy [98]],[Hy [99,45,49]],[Hy [100]],[Hy [57]]] (J8 (M3 i_3 (5:Int)))) 0 1 [Hy s]∧(5:Int)≠(0:Int)∧(0≤M3 i_2 (5:Int)∧M3 i_2 (5:Int)<(5:Int))∧∃i_7,cut (nth [] [[dI (1:Int)],[dI (3:Int)],[dI (4:Int)],[dI (1:Int)],[dI (2:Int)]] (J8 (M3 i_2 (5:Int)))) 0 1 [dI i_7]∧(6:Int)≠(0:Int)∧bB (i_7==3) (∃x,Gv 21 [aI (J7 .i64 i_5)] [aR x]∧∃x1,Gv 21 [aI (J7 .i64 i_6)] [aR x1]∧∃x2,Gv 21 [aI (J7 .i64 (J7 .i64 i_4+1))] [aR x2]∧∃e2 i_8,Gv 20 [aT x x1 x2] [Hu [Hx e2],aI i_8]∧bB (i_7==4) ((6:Int)≠(0:Int)∧(2:Int)≠(0:Int)∧(J5 (es.length+1)∧lens 4 [[Hy s,dI i_7,dI (J7 .i64 (12+J7 .i64 (M3 (J7 .u8 (Pl i_4 (6:Int))) (2:Int)))),Hx e2]])∧I0 [] [dI (J7 .i64 (i+1)),dI i_1,Hx (es++[[Hy s,dI i_7,dI (J7 .i64 (12+J7 .i64 (M3 (J7 .u8 (Pl i_4 (6:Int))) (2:Int)))),Hx e2]])]∧M0 [dI (J7 .i64 (i+1)),dI i_1,Hx (es++[[Hy s,dI i_7,dI (J7 .i64 (12+J7 .i64 (M3 (J7 .u8 (Pl i_4 (6:Int))) (2:Int)))),Hx e2]])]<M0 [dI i,dI i_1,Hx es]) ((J5 (es.length+1)∧lens 4 [[Hy s,dI i_7,dI (J7 .i64 (3*J7 .i64 (M3 i_4 (6:Int)))),Hx e2]])∧I0 [] [dI (J7 .i64 (i+1)),dI i_1,Hx (es++[[Hy s,dI i_7,dI (J7 .i64 (3*J7 .i64 (M3 i_4 (6:Int)))),Hx e2]])]∧M0 [dI (J7 .i64 (i+1)),dI i_1,Hx (es++[[Hy s,dI i_7,dI (J7 .i64 (3*J7 .i64 (M3 i_4 (6:Int)))),Hx e2]])]<M0 [dI i,dI i_1,Hx es])) (∃e2 b,Gv 22 [aL e1,aI (6:Int)] [Hu [Hx e2],aB b]∧bB (!b) (Q [Hu [dI (0:Int),Hx []],aB false]) (bB (decide ((J9 l0.length)>4)) (Q [Hu [dI (0:Int),Hx []],aB false]) (bB (i_7==4) ((6:Int)≠(0:Int)∧(2:Int)≠(0:Int)∧(J5 (es.length+1)∧lens 4 [[Hy s,dI i_7,dI (J7 .i64 (12+J7 .i64 (M3 (J7 .u8 (Pl i_4 (6:Int))) (2:Int)))),Hx e2]])∧I0 [] [dI (J7 .i64 (i+1)),dI i_1,Hx (es++[[Hy s,dI i_7,dI (J7 .i64 (12+J7 .i64 (M3 (J7 .u8 (Pl i_4 (6:Int))) (2:Int)))),Hx e2]])]∧M0 [dI (J7 .i64 (i+1)),dI i_1,Hx (es++[[Hy s,dI i_7,dI (J7 .i64 (12+J7 .i64 (M3 (J7 .u8 (Pl i_4 (6:Int))) (2:Int)))),Hx e2]])]<M0 [dI i,dI i_1,Hx es]) ((J5 (es.length+1)∧lens 4 [[Hy s,dI i_7,dI (J7 .i64 (3*J7 .i64 (M3 i_4 (6:Int)))),Hx e2]])∧I0 [] [dI (J7 .i64 (i+1)),dI i_1,Hx (es++[[Hy s,dI i_7,dI (J7 .i64 (3*J7 .i64 (M3 i_4 (6:Int)))),Hx e2]])]∧M0 [dI (J7 .i64 (i+1)),dI i_1,Hx (es++[[Hy s,dI i_7,dI (J7 .i64 (3*J7 .i64 (M3 i_4 (6:Int)))),Hx e2]])]<M0 [dI i,dI i_1,Hx es]))))) (Q [Hu [dI i_1,Hx es],aB (decide ((J9 l0.length)≤4))])):=by kernel_rfl
end Eng
end
section
namespace Eng
open Go Go.Proofs Rl
set_option maxRecDepth 100000
def QG (fs:List Ft):Nat:=fs.countP fun f=>decide (f.kd=4)
noncomputable def DN (t:Int) (fs:List Ft):Int:=
 if 40<fs.length then 3 else if t<1∨10000000<t then 1 else if fs.all (XH t)=false then 1 else
 if 1<QG fs then 1 else if(fs.map Ft.nm).Nodup then 0 else 5
def ftA (t:Int) (fs:List Ft):A:= .ag [dI t,.sl (fs.map kFt)]
theorem Rp {fs:List Ft} {k:Nat} (h:k<fs.length):QG (fs.take (k+1))=QG (fs.take k)+(if fs[k].kd=4 then 1 else 0):=by
 unfold QG;rw[el h,List.countP_append];by_cases e:fs[k].kd=4<;>simp[e]
theorem An (fs:List Ft):QG fs≤fs.length:=List.countP_le_length
def vpI0 (t:Int) (fs:List Ft) (_ ds:List D):Prop:=∃k:Nat,k≤fs.length∧ds=[dI (k:Int),dI (QG (fs.take k):Int)]∧(fs.take k).all (XH t)=true
def vpI1 (fs:List Ft) (_ ds:List D):Prop:=∃k:Nat,k≤fs.length∧ds=[dI (k:Int)]∧((fs.take k).map Ft.nm).Nodup
def vpI2 (fs:List Ft) (gs ds:List D):Prop:=∃j:Nat,ds=[dI (j:Int)]∧j≤gK gs∧∀f,fs[gK gs]? =some f→f.nm∉(fs.take j).map Ft.nm
theorem IO {l:List Ft} {k:Nat} (h:k<l.length):cut (nth [] (l.map kFt) (J8 (k:Int))) 0 1 [.str l[k].nm]:=by
 rw[No,ZV kFt h];exact⟨rfl,by show 0+1≤4;omega⟩
theorem mb {l:List Ft} {k:Nat} (h:k<l.length):cut (nth [] (l.map kFt) (J8 (k:Int))) 1 1 [dI l[k].kd]:=by
 rw[No,ZV kFt h];exact⟨rfl,by show 1+1≤4;omega⟩
theorem mc {l:List Ft} {k:Nat} (h:k<l.length):cut (nth [] (l.map kFt) (J8 (k:Int))) 3 1 [.sl (kUs l[k].sh)]:=by
 rw[No,ZV kFt h];exact⟨rfl,by show 3+1≤4;omega⟩
theorem Mr {t:Int} {fs:List Ft} (h:∀f∈fs,f.ok):qc CC 8 [ftA t fs] [aI (DN t fs)]:=by
 have hv:=Mj (qc CC) (vpI0 t fs) (zo 10000000) (vpI1 fs) (zo 10000000) (vpI2 fs) (zo 10000000) t (fs.map kFt) (· =[aI (DN t fs)]);refine gOk Tryz.func8 hv ?_;clear hv;rw[jZ];refine brd (fun h1=>?_) (fun h1=>?_)
 ·have:40<fs.length:=by simp only[M2]at h1;omega
  unfold DN;rw[if_pos this]
 have ad:¬40<fs.length:=by simp only[M2]at h1;omega
 refine brd (fun h2=>?_) (fun h2=>?_)
 ·unfold DN;rw[if_neg ad,if_pos (.inl h2)]
 refine brd (fun h3=>?_) (fun h3=>?_)
 ·unfold DN;rw[if_neg ad,if_pos (.inr (by omega))]
 have ht:¬(t<1∨10000000<t):=by omega
 have e0:DN t fs=if fs.all (XH t)=false then 1 else if 1<QG fs then 1 else if(fs.map Ft.nm).Nodup then 0 else 5:=by unfold DN;rw[if_neg ad,if_neg ht]
 refine⟨⟨0,hC _,rfl,rfl⟩,?_⟩;rintro _ _ ⟨k,hk,he,a5⟩;simp only[g3,I3,and_true,true_and]at he;obtain⟨rfl,rfl⟩:=he;have hpl:=An (fs.take k);rw[cL]at hpl;refine brd (fun h4=>?_) (fun h4=>?_)
 ·have a3:k<fs.length:=by simp only[M2]at h4;omega
  have ok:=Z5 kX a3;refine⟨ok,_,_,_,_,ZW kX a3,_,Mp (h _ (ey a3)),?_⟩;have ps:=Rp a3;cases hb:XH t fs[k]with
  |false=>
   refine brb (fun _=>?_) (fun h=>by cases h);have:fs.all (XH t)=false:=by
    cases hh:fs.all (XH t)with
    |false=>rfl
    |true=>rw[gp.1 hh _ (ey a3)]at hb;cases hb
   rw[e0,if_pos this]
  |true=>
   refine brb (fun h=>by cases h) (fun _=>⟨ok,_,mb a3,?_⟩);have ha:(fs.take (k+1)).all (XH t)=true:=vM a5 a3 hb;refine brb (fun h5=>?_) (fun h5=>?_)
   ·have h5:fs[k].kd=4:=by simpa using h5
    rw[if_pos h5]at ps;refine⟨⟨k+1,a3,?_,ha⟩,qy⟩;rw[wI,wI,ps];rfl
   ·have h5:¬fs[k].kd=4:=by simpa using h5
    rw[if_neg h5]at ps;refine⟨⟨k+1,a3,?_,ha⟩,qy⟩;rw[wI,ps];rfl
 ·have a3:k=fs.length:=by simp only[M2]at h4;omega
  rw[a3,e8]at a5 ⊢;rw[if_neg (by rw[a5];simp)]at e0;refine brd (fun h5=>?_) (fun h5=>?_)
  ·rw[e0,if_pos (by omega)]
  rw[if_neg (by omega)]at e0;refine⟨⟨0,hC _,rfl,by simp⟩,?_⟩;rintro _ ⟨i,hi,he,ag⟩;simp only[g3,I3,and_true,true_and]at he;subst he;refine brd (fun h6=>?_) (fun h6=>?_)
  ·have a4:i<fs.length:=by simp only[M2]at h6;omega
   have al:fs[i]? =some fs[i]:=fS a4;have oki:=Z5 kX a4;refine⟨⟨0,rfl,hC _,fun f _=>by simp⟩,?_⟩;rintro _ ⟨j,he,hj,a8⟩;simp only[g3,I3,and_true,true_and]at he;subst he;have hj:j≤i:=hj;have a8:fs[i].nm∉(fs.take j).map Ft.nm:=a8 _ al;refine brd (fun h7=>?_) (fun h7=>?_)
   ·have a6:j<i:=by omega
    have a7:j<fs.length:=by omega
    have okj:=Z5 kX a7;refine⟨oki,_,IO a4,okj,_,IO a7,brb (fun h8=>?_) (fun h8=>?_)⟩
    ·have h8:fs[i].nm=fs[j].nm:=by simpa using h8
     rw[e0,if_neg];intro hn;have:=List.Nodup.sublist (List.Sublist.refl _) hn;rw[List.nodup_iff_pairwise_ne,List.pairwise_iff_getElem]at this;have:=this j i (by rw[fw];exact a7) (by rw[fw];exact a4) a6;simp only[List.getElem_map]at this;exact this h8.symm
    ·have h8:¬fs[i].nm=fs[j].nm:=by simpa using h8
     refine⟨⟨j+1,by rw[wI];rfl,a6,fun f hf=>?_⟩,qy⟩;have hf:fs[i]? =some f:=hf;rw[al]at hf;obtain rfl:=j1 hf;rw[el a7,ft,List.mem_append,not_or];exact⟨a8,by simpa using h8⟩
   ·have a6:j=i:=by omega
    subst a6;refine⟨⟨j+1,a4,by rw[wI];rfl,?_⟩,qy⟩;rw[el a4,ft,List.nodup_append];refine⟨ag,by simp,?_⟩;intro a ha b hb e;simp only[fR,gz,e7]at hb;rw[e,hb]at ha;exact a8 ha
  ·have a4:i=fs.length:=by simp only[M2]at h6;omega
   rw[a4,e8]at ag;rw[e0,if_pos ag]
end Eng
end
section
namespace Eng
open Go Go.Proofs Rl
set_option maxRecDepth 100000
structure It where
 k:Nat
 n:Nat
 d:Nat
 sh:List Fm
 x:Int
 y:Int
def It.ok (i:It):Prop:=i.k<256∧i.n<256∧i.d<256∧(∀f∈i.sh,f.ok)∧sm8 i.x∧sm8 i.y
def kIt (i:It):List D:=[.int .u8 i.k,.int .u8 i.n,.int .u8 i.d,.sl (i.sh.map kFm),.int .i8 i.x,.int .i8 i.y]
theorem CP (i:It):(kIt i).length=6:=rfl
def nmR (n:Nat):List UInt8:=match n with
 |0=>[97]
 |1=>[98]
 |2=>[99,45,49]
 |3=>[100]
 |_=>[57]
def kdR (n:Nat):Int:=match n with
 |0=>1
 |1=>3
 |2=>4
 |3=>1
 |_=>2
def dpR (k d:Nat):Int:=if kdR (k%5)=4 then 12+((d/6%2:Nat):Int)else 3*((d%6:Nat):Int)
def itC (i:It):Ci:=⟨i.x,i.y,(i.d:Int)+1⟩
noncomputable def itS (i:It):List Cu×Bool:=if kdR (i.k%5)=3 then((Gy (itC i)).1,true)else Qq i.sh 6
noncomputable def itF (i:It):Ft:=⟨nmR (i.n%5),kdR (i.k%5),dpR i.k i.d,(itS i).1⟩
theorem IP {i:It} (h:i.ok):HC (itC i)∧0<(itC i).q:=by
 obtain⟨_,_,hd,_,hx,hy⟩:=h;have e:(10:Nat)^20=100000000000000000000:=by decide
 refine⟨⟨Hz.int (by rw[e];obtain⟨a,b⟩:=hx;omega),Hz.int (by rw[e];obtain⟨a,b⟩:=hy;omega),?_⟩,?_⟩
 ·show Hz 20 ((i.d:Int)+1:Rat);have:(((i.d:Int):Rat)+1)=(((i.d:Int)+1:Int):Rat):=by rw[ky];rfl
  rw[this];exact Hz.int (by rw[e];omega)
 ·show(0:Rat)<((i.d:Int):Rat)+1;have h1:(0:Rat)≤((i.d:Int):Rat):=by exact_mod_cast Int.natCast_nonneg i.d
  have h2:(0:Rat)<1:=by decide
  grind
theorem me {i:It} (h:i.ok):(itF i).ok:=by
 refine⟨?_,?_⟩
 ·show(nmR (i.n%5)).length≤1073741824;unfold nmR;split<;>simp
 ·show(∀c∈(itS i).1,Mo c)∧(itS i).1.length≤400;unfold itS;split
  ·obtain⟨h1,h2⟩:=IP h;exact O1 h1 h2
  ·exact CG h.2.2.2.1 6
theorem mf {n:Nat} (h:n<5):cut (nth [] [[Hy [97]],[Hy [98]],[Hy [99,45,49]],[Hy [100]],[Hy [57]]] n) 0 1 [Hy (nmR n)]:=by
 match n,h with
 |0,_|1,_|2,_|3,_|4,_=>exact⟨rfl,by decide⟩
theorem mg {n:Nat} (h:n<5):cut (nth [] [[dI 1],[dI 3],[dI 4],[dI 1],[dI 2]] n) 0 1 [dI (kdR n)]:=by
 match n,h with
 |0,_|1,_|2,_|3,_|4,_=>exact⟨rfl,by decide⟩
noncomputable def WO (n:Nat) (i:It):Bool:=decide (kdR (i.k%5)=3)||((Qq i.sh 6).2&&decide (n≤4))
noncomputable def VN (l:List It):List A:=if l.all (WO l.length)=true then [.ag [dI 12,.sl (l.map fun i=>kFt (itF i))],aB (decide (l.length≤4))]else [.ag [dI 0,.sl []],aB false]
def bdI (l:List It) (_ ds:List D):Prop:=∃k:Nat,k≤l.length∧ds=[dI (k:Int),dI 12,.sl ((l.take k).map fun i=>kFt (itF i))]∧(l.take k).all (WO l.length)=true
theorem O4 {n k:Nat} {r s:List D} (h:k<n:=by omega) (hn:n≤5000000000000:=by omega):zo n (dI (J7 .i64 ((k:Int)+1))::r)<zo n (dI (k:Int)::s):=by
 rw[Ga,Ga,wI];omega
theorem u8w {n:Int} (h1:0≤n) (h2:n<256):J7 .u8 n=n:=by
 simp[J7,IntKind.bits,IntKind.signed];omega
theorem tm {a b:Nat}:M3 (a:Int) (b:Int)=((a%b:Nat):Int):=by rw[←Int.ofNat_tmod]
theorem Ms {l:List It} (h:∀i∈l,i.ok) (hn:l.length≤3999999999999):qc CC 6 [aL (l.map kIt)] (VN l):=by
 have hv:=Mq (qc CC) (bdI l) (zo 5000000000000) (l.map kIt) (· =VN l);refine gOk Tryz.func6 hv ?_;clear hv;refine⟨⟨0,hC _,rfl,rfl⟩,?_⟩;rintro _ _ _ ⟨k,hk,he,a5⟩;simp only[g3,I3,D.sl.injEq,and_true,true_and]at he;obtain⟨rfl,rfl,rfl⟩:=he;rw[jZ];refine brd (fun h4=>?_) (fun h4=>?_)
 ·have a3:k<l.length:=by simp only[M2]at h4;omega
  have ok:=Z5 CP a3;have hi:=h _ (ey a3);have hio:=hi;obtain⟨ik,inn,idd,ish,ix,iy⟩:=hi;have t1:M3 (l[k].n:Int) 5=((l[k].n%5:Nat):Int):=tm (b:=5);have t2:M3 (l[k].k:Int) 5=((l[k].k%5:Nat):Int):=tm (b:=5);have t3:M3 (l[k].d:Int) 6=((l[k].d%6:Nat):Int):=tm (b:=6);have t4:Pl (l[k].d:Int) 6=((l[k].d/6:Nat):Int):=(Int.ofNat_tdiv _ _).symm;have t5:M3 ((l[k].d/6:Nat):Int) 2=((l[k].d/6%2:Nat):Int):=tm (b:=2);have w8:J7 .u8 ((l[k].d/6:Nat):Int)=((l[k].d/6:Nat):Int):=u8w (by omega) (by omega);have m5:=hE l[k].n (show 5>0 by omega);have k5:=hE l[k].k (show 5>0 by omega);have nx:WO l.length l[k]=true→∀w,w=kFt (itF l[k])→bdI l [] [dI (J7 .i64 ((k:Int)+1)),dI 12,.sl (((l.take k).map fun i=>kFt (itF i))++[w])]:=by intro hg w hw;refine⟨k+1,a3,?_,vM a5 a3 hg⟩;rw[wI,hw,el a3,ft];rfl
  have a4:J5 (((l.take k).map fun i=>kFt (itF i)).length+1):=by unfold J5;rw[fw,cL];omega
  refine⟨ok,_,_,_,_,_,_,ZW CP a3,by omega,by rw[t1];omega,nmR (l[k].n%5),by rw[t1,No];exact mf m5,by omega,by rw[t2];omega,kdR (l[k].k%5),by rw[t2,No];exact mg k5,by omega,?_⟩;have a6:∀(sh:List Cu),(itS l[k]).1=sh→WO l.length l[k]=true→
   br (toB (I2 (kdR (l[k].k%5)==(4:Int))))
    ((6:Int)≠0∧(2:Int)≠0∧(J5 (((l.take k).map fun i=>kFt (itF i)).length+1)∧lens 4 [[Hy (nmR (l[k].n%5)),dI (kdR (l[k].k%5)),Hv .i64 (J7 .i64 (12+J7 .i64 (M3 (J7 .u8 (Pl (l[k].d:Int) 6)) 2))),Hx (kUs sh)]])∧
      bdI l [] [dI (J7 .i64 ((k:Int)+1)),dI 12,.sl (((l.take k).map fun i=>kFt (itF i))++[[Hy (nmR (l[k].n%5)),dI (kdR (l[k].k%5)),Hv .i64 (J7 .i64 (12+J7 .i64 (M3 (J7 .u8 (Pl (l[k].d:Int) 6)) 2))),Hx (kUs sh)]])]∧
      zo 5000000000000 [dI (J7 .i64 ((k:Int)+1)),dI 12,.sl (((l.take k).map fun i=>kFt (itF i))++[[Hy (nmR (l[k].n%5)),dI (kdR (l[k].k%5)),Hv .i64 (J7 .i64 (12+J7 .i64 (M3 (J7 .u8 (Pl (l[k].d:Int) 6)) 2))),Hx (kUs sh)]])]<zo 5000000000000 [dI (k:Int),dI 12,.sl ((l.take k).map fun i=>kFt (itF i))])
    ((J5 (((l.take k).map fun i=>kFt (itF i)).length+1)∧lens 4 [[Hy (nmR (l[k].n%5)),dI (kdR (l[k].k%5)),dI (J7 .i64 (3*J7 .i64 (M3 (l[k].d:Int) 6))),Hx (kUs sh)]])∧
      bdI l [] [dI (J7 .i64 ((k:Int)+1)),dI 12,.sl (((l.take k).map fun i=>kFt (itF i))++[[Hy (nmR (l[k].n%5)),dI (kdR (l[k].k%5)),dI (J7 .i64 (3*J7 .i64 (M3 (l[k].d:Int) 6))),Hx (kUs sh)]])]∧
      zo 5000000000000 [dI (J7 .i64 ((k:Int)+1)),dI 12,.sl (((l.take k).map fun i=>kFt (itF i))++[[Hy (nmR (l[k].n%5)),dI (kdR (l[k].k%5)),dI (J7 .i64 (3*J7 .i64 (M3 (l[k].d:Int) 6))),Hx (kUs sh)]])]<zo 5000000000000 [dI (k:Int),dI 12,.sl ((l.take k).map fun i=>kFt (itF i))]):=by
   intro sh a8 hg;refine brb (fun e=>?_) (fun e=>?_)
   ·have e:kdR (l[k].k%5)=4:=by simpa using e
    refine⟨by omega,by omega,⟨a4,fun x hx=>by rw[e7.1 hx];rfl⟩,nx hg _ ?_,O4⟩;rw[t4,w8,t5,wI (n:=((l[k].d/6%2:Nat):Int)) (by omega),wI];show _=[Hy (nmR (l[k].n%5)),dI (kdR (l[k].k%5)),dI (dpR l[k].k l[k].d),Hx (kUs (itS l[k]).1)];unfold dpR;rw[if_pos e,a8]
   ·have e:¬kdR (l[k].k%5)=4:=by simpa using e
    refine⟨⟨a4,fun x hx=>by rw[e7.1 hx];rfl⟩,nx hg _ ?_,O4⟩;rw[t3,wI (n:=((l[k].d%6:Nat):Int)) (by omega),wI];show _=[Hy (nmR (l[k].n%5)),dI (kdR (l[k].k%5)),dI (dpR l[k].k l[k].d),Hx (kUs (itS l[k]).1)];unfold dpR;rw[if_neg e,a8]
  have a7:WO l.length l[k]=false→[Hu [dI 0,Hx []],aB false]=VN l:=by intro hb;unfold VN;rw[if_neg];intro ha;rw[gp.1 ha _ (ey a3)]at hb;cases hb
  refine brb (fun e=>?_) (fun e=>?_)
  ·have e:kdR (l[k].k%5)=3:=by simpa using e
   obtain⟨c1,c2⟩:=IP hio;rw[wI (n:=l[k].x) (by obtain⟨a,b⟩:=ix;omega),wI (n:=l[k].y) (by obtain⟨a,b⟩:=iy;omega),wI (n:=(l[k].d:Int)) (by omega),wI];have eq:q4 (((l[k].d:Int)+1:Int):Rat)=q4 (itC l[k]).q:=by show _=q4 (((l[k].d:Int):Rat)+1);rw[ky];rfl
   refine⟨_,eW (by obtain⟨a,b⟩:=ix;omega) (by obtain⟨a,b⟩:=ix;omega),_,eW (by obtain⟨a,b⟩:=iy;omega) (by obtain⟨a,b⟩:=iy;omega),_,eW (by omega) (by omega),kUs (Gy (itC l[k])).1,(Gy (itC l[k])).2,?_,?_⟩
   ·rw[eq];exact VL c1 c2
   ·exact a6 _ (by unfold itS;rw[if_pos e]) (by unfold WO;rw[decide_eq_true e,Bool.true_or])
  ·have e:¬kdR (l[k].k%5)=3:=by simpa using e
   refine⟨_,_,Mm ish (m:=6) (by omega),?_⟩;cases hb:(Qq l[k].sh 6).2 with
   |false=>refine brb (fun _=>?_) (fun h=>by cases h);exact a7 (by unfold WO;rw[decide_eq_false e,hb];rfl)
   |true=>
    refine brb (fun h=>by cases h) (fun _=>brd (fun h5=>?_) (fun h5=>?_))
    ·have:¬l.length≤4:=by simp only[M2]at h5;omega
     exact a7 (by unfold WO;rw[decide_eq_false e,decide_eq_false this,hb];rfl)
    ·have:l.length≤4:=by simp only[M2]at h5;omega
     exact a6 _ (by unfold itS;rw[if_neg e]) (by unfold WO;rw[decide_eq_true this,hb];simp)
 ·have a3:k=l.length:=by simp only[M2]at h4;omega
  rw[a3,e8]at a5 ⊢;unfold VN;rw[if_pos a5];have:decide ((J9 l.length)≤4)=decide (l.length≤4):=decide_eq_decide.2 (by simp only[M2];omega);rw[this]
end Eng
end
section
open Go Go.Proofs Eng
namespace Eng
def Wl (I0:List D→List D→Prop) (M0:List D→Nat) (es e2 e3 e4:List (List D)) (n1 g:Int):Prop:=((0≤n1∧n1≤J7 .i64 (J7 .i64 (n1+(J9 es.length))+1)∧J7 .i64 (J7 .i64 (n1+(J9 es.length))+1)≤(J9 e3.length))∧((e2≠[]∧Q2 e2=true∧e2.length≤1073741824)∧0<(J8 (J7 .i64 (J7 .i64 (n1+(J9 es.length))+1))-J8 n1)∧J8 n1+(J8 (J7 .i64 (J7 .i64 (n1+(J9 es.length))+1))-J8 n1)≤e3.length∧Q2 (U3 (J8 (J7 .i64 (J7 .i64 (n1+(J9 es.length))+1))-J8 n1) (V1 (J8 n1) e3))=true)∧br (toB (I2 (decide (0<j3 (j3 (wB g (xp (U3 (J8 (J7 .i64 (J7 .i64 (n1+(J9 es.length))+1))-J8 n1) (V1 (J8 n1) e3))) (xp e2) (0:Int) (0:Int))))||decide (0<j2 (j3 (wB g (xp (U3 (J8 (J7 .i64 (J7 .i64 (n1+(J9 es.length))+1))-J8 n1) (V1 (J8 n1) e3))) (xp e2) (0:Int) (0:Int))))))) ((0≤n1∧n1≤J7 .i64 (J7 .i64 (n1+(J9 es.length))+1)∧J7 .i64 (J7 .i64 (n1+(J9 es.length))+1)≤(J9 (cH (U3 (J8 n1) e3++xM (j2 (wB g (xp (U3 (J8 (J7 .i64 (J7 .i64 (n1+(J9 es.length))+1))-J8 n1) (V1 (J8 n1) e3))) (xp e2) (0:Int) (0:Int)))++V1 (J8 n1+(J8 (J7 .i64 (J7 .i64 (n1+(J9 es.length))+1))-J8 n1)) e3))))∧((e2≠[]∧Q2 e2=true∧e2.length≤1073741824)∧0<(J8 (J7 .i64 (J7 .i64 (n1+(J9 es.length))+1))-J8 n1)∧J8 n1+(J8 (J7 .i64 (J7 .i64 (n1+(J9 es.length))+1))-J8 n1)≤cH (U3 (J8 n1) e3++xM (j2 (wB g (xp (U3 (J8 (J7 .i64 (J7 .i64 (n1+(J9 es.length))+1))-J8 n1) (V1 (J8 n1) e3))) (xp e2) (0:Int) (0:Int)))++V1 (J8 n1+(J8 (J7 .i64 (J7 .i64 (n1+(J9 es.length))+1))-J8 n1)) e3)∧Q2 (U3 (J8 (J7 .i64 (J7 .i64 (n1+(J9 es.length))+1))-J8 n1) (V1 (J8 n1) (U3 (J8 n1) e3++xM (j2 (wB g (xp (U3 (J8 (J7 .i64 (J7 .i64 (n1+(J9 es.length))+1))-J8 n1) (V1 (J8 n1) e3))) (xp e2) (0:Int) (0:Int)))++V1 (J8 n1+(J8 (J7 .i64 (J7 .i64 (n1+(J9 es.length))+1))-J8 n1)) e3)))=true)∧(0≤n1∧n1<(J9 e4.length))∧0<1∧I0 [] [Hx (U3 (J8 n1) (U3 (J8 n1) e3++xM (j2 (wB g (xp (U3 (J8 (J7 .i64 (J7 .i64 (n1+(J9 es.length))+1))-J8 n1) (V1 (J8 n1) e3))) (xp e2) (0:Int) (0:Int)))++V1 (J8 n1+(J8 (J7 .i64 (J7 .i64 (n1+(J9 es.length))+1))-J8 n1)) e3)++xM (Wz (xp (U3 (J8 (J7 .i64 (J7 .i64 (n1+(J9 es.length))+1))-J8 n1) (V1 (J8 n1) (U3 (J8 n1) e3++xM (j2 (wB g (xp (U3 (J8 (J7 .i64 (J7 .i64 (n1+(J9 es.length))+1))-J8 n1) (V1 (J8 n1) e3))) (xp e2) (0:Int) (0:Int)))++V1 (J8 n1+(J8 (J7 .i64 (J7 .i64 (n1+(J9 es.length))+1))-J8 n1)) e3)))) (xp e2) (0:Int))++V1 (J8 n1+(J8 (J7 .i64 (J7 .i64 (n1+(J9 es.length))+1))-J8 n1)) (U3 (J8 n1) e3++xM (j2 (wB g (xp (U3 (J8 (J7 .i64 (J7 .i64 (n1+(J9 es.length))+1))-J8 n1) (V1 (J8 n1) e3))) (xp e2) (0:Int) (0:Int)))++V1 (J8 n1+(J8 (J7 .i64 (J7 .i64 (n1+(J9 es.length))+1))-J8 n1)) e3)),Hx (upd e4 (J8 n1) (upd (nth [] e4 (J8 n1)) 0 (Hv .u32 (J7 .u32 (J7 .u64 (g-1)))))),Hv .i64 (J7 .i64 (n1-1))]∧M0 [Hx (U3 (J8 n1) (U3 (J8 n1) e3++xM (j2 (wB g (xp (U3 (J8 (J7 .i64 (J7 .i64 (n1+(J9 es.length))+1))-J8 n1) (V1 (J8 n1) e3))) (xp e2) (0:Int) (0:Int)))++V1 (J8 n1+(J8 (J7 .i64 (J7 .i64 (n1+(J9 es.length))+1))-J8 n1)) e3)++xM (Wz (xp (U3 (J8 (J7 .i64 (J7 .i64 (n1+(J9 es.length))+1))-J8 n1) (V1 (J8 n1) (U3 (J8 n1) e3++xM (j2 (wB g (xp (U3 (J8 (J7 .i64 (J7 .i64 (n1+(J9 es.length))+1))-J8 n1) (V1 (J8 n1) e3))) (xp e2) (0:Int) (0:Int)))++V1 (J8 n1+(J8 (J7 .i64 (J7 .i64 (n1+(J9 es.length))+1))-J8 n1)) e3)))) (xp e2) (0:Int))++V1 (J8 n1+(J8 (J7 .i64 (J7 .i64 (n1+(J9 es.length))+1))-J8 n1)) (U3 (J8 n1) e3++xM (j2 (wB g (xp (U3 (J8 (J7 .i64 (J7 .i64 (n1+(J9 es.length))+1))-J8 n1) (V1 (J8 n1) e3))) (xp e2) (0:Int) (0:Int)))++V1 (J8 n1+(J8 (J7 .i64 (J7 .i64 (n1+(J9 es.length))+1))-J8 n1)) e3)),Hx (upd e4 (J8 n1) (upd (nth [] e4 (J8 n1)) 0 (Hv .u32 (J7 .u32 (J7 .u64 (g-1)))))),Hv .i64 (J7 .i64 (n1-1))]<M0 [Hx e3,Hx e4,Hv .i64 n1]) ((0≤n1∧n1<(J9 e4.length))∧0<1∧I0 [] [Hx (U3 (J8 n1) e3++xM (j2 (wB g (xp (U3 (J8 (J7 .i64 (J7 .i64 (n1+(J9 es.length))+1))-J8 n1) (V1 (J8 n1) e3))) (xp e2) (0:Int) (0:Int)))++V1 (J8 n1+(J8 (J7 .i64 (J7 .i64 (n1+(J9 es.length))+1))-J8 n1)) e3),Hx (upd e4 (J8 n1) (upd (nth [] e4 (J8 n1)) 0 (Hv .u32 (J7 .u32 g)))),Hv .i64 (J7 .i64 (n1-1))]∧M0 [Hx (U3 (J8 n1) e3++xM (j2 (wB g (xp (U3 (J8 (J7 .i64 (J7 .i64 (n1+(J9 es.length))+1))-J8 n1) (V1 (J8 n1) e3))) (xp e2) (0:Int) (0:Int)))++V1 (J8 n1+(J8 (J7 .i64 (J7 .i64 (n1+(J9 es.length))+1))-J8 n1)) e3),Hx (upd e4 (J8 n1) (upd (nth [] e4 (J8 n1)) 0 (Hv .u32 (J7 .u32 g)))),Hv .i64 (J7 .i64 (n1-1))]<M0 [Hx e3,Hx e4,Hv .i64 n1]))
theorem Wm (Gv:Nat→List A→List A→Prop) (I0:List D→List D→Prop) (M0:List D→Nat) (I1:List D→List D→Prop) (M1:List D→Nat) (chk:List A→Bool) (mk:List A→List (List D)) (es fs:List (List D)) (Q:List A→Prop):wpF (CM chk mk) Gv (G7 ⟨[.own 8 180 1,.own 10 181 1,.slot 11 (.int .i64 0)],[],I0,M0⟩ ⟨[.slot 13 (.int .u64 0),.slot 14 (.int .u64 0)],[.slot 12 (.int .u64 0),.slot 11 (.int .i64 0),.own 8 180 1],I1,M1⟩) Tryz.f337 [.c (.sl es),.c (.sl fs)] Q=(∃e1,Gv 324 [F2 (Hx es)] [F2 (Hx e1)]∧∃es,Gv 324 [F2 (Hx fs)] [F2 (Hx es)]∧br (toB (I2 ((J9 es.length)==1))) (((0:Int)≤(0:Int)∧0<(J9 es.length)∧cH (nth [] es 0)=1)∧∃n,cut (nth [] es 0) 0 1 [Hv .u32 n]∧∃es e2,Gv 358 [F2 (Hx e1),F2 (Hv .u32 n)] [F2 (Hx es),F2 (Hx e2)]∧Q [F2 (Hx es),F2 (Hx e2)]) (∃n,Gv 273 [F2 (Hx e1),F2 (Hx es)] [F2 (Hv .i64 n)]∧br (toB (I2 (decide (n<0)))) ((room e1.length∧lens 1 e1)∧Q [F2 (Hx []),F2 (Hx e1)]) ((0≤J7 .i64 ((J9 es.length)-1)∧J7 .i64 ((J9 es.length)-1)<(J9 es.length)∧cH (nth [] es (J8 (J7 .i64 ((J9 es.length)-1))))=1)∧∃n,cut (nth [] es (J8 (J7 .i64 ((J9 es.length)-1)))) 0 1 [Hv .u32 n]∧J7 .u64 (J7 .u64 n+1)≠0∧chk [F2 (Hx e1),F2 (Hx [[Hv .u32 (J7 .u32 (J7 .u64 (Pl (1000000000:Int) (J7 .u64 (J7 .u64 n+1)))))]])]=true∧(room (cH (mk [F2 (Hx e1),F2 (Hx [[Hv .u32 (J7 .u32 (J7 .u64 (Pl (1000000000:Int) (J7 .u64 (J7 .u64 n+1)))))]])])+1)∧lens 1 [[Hv .u32 0]])∧chk [F2 (Hx es),F2 (Hx [[Hv .u32 (J7 .u32 (J7 .u64 (Pl (1000000000:Int) (J7 .u64 (J7 .u64 n+1)))))]])]=true∧∃e2,Gv 324 [F2 (Hx (mk [F2 (Hx es),F2 (Hx [[Hv .u32 (J7 .u32 (J7 .u64 (Pl (1000000000:Int) (J7 .u64 (J7 .u64 n+1)))))]])]))] [F2 (Hx e2)]∧(0≤J7 .i64 ((J9 (cH (mk [F2 (Hx e1),F2 (Hx [[Hv .u32 (J7 .u32 (J7 .u64 (Pl (1000000000:Int) (J7 .u64 (J7 .u64 n+1)))))]])]++[[Hv .u32 0]])))-(J9 es.length))∧J7 .i64 ((J9 (cH (mk [F2 (Hx e1),F2 (Hx [[Hv .u32 (J7 .u32 (J7 .u64 (Pl (1000000000:Int) (J7 .u64 (J7 .u64 n+1)))))]])]++[[Hv .u32 0]])))-(J9 es.length))≤J7 .i64 ((J9 (cH (mk [F2 (Hx e1),F2 (Hx [[Hv .u32 (J7 .u32 (J7 .u64 (Pl (1000000000:Int) (J7 .u64 (J7 .u64 n+1)))))]])]++[[Hv .u32 0]])))-(J9 es.length))∧room (J8 (J7 .i64 ((J9 (cH (mk [F2 (Hx e1),F2 (Hx [[Hv .u32 (J7 .u32 (J7 .u64 (Pl (1000000000:Int) (J7 .u64 (J7 .u64 n+1)))))]])]++[[Hv .u32 0]])))-(J9 es.length)))))∧I0 [] [Hx (mk [F2 (Hx e1),F2 (Hx [[Hv .u32 (J7 .u32 (J7 .u64 (Pl (1000000000:Int) (J7 .u64 (J7 .u64 n+1)))))]])]++[[Hv .u32 0]]),Hx (fx (J8 (J7 .i64 ((J9 (cH (mk [F2 (Hx e1),F2 (Hx [[Hv .u32 (J7 .u32 (J7 .u64 (Pl (1000000000:Int) (J7 .u64 (J7 .u64 n+1)))))]])]++[[Hv .u32 0]])))-(J9 es.length)))) [Hv .u32 0]),Hv .i64 (J7 .i64 (J7 .i64 ((J9 (cH (mk [F2 (Hx e1),F2 (Hx [[Hv .u32 (J7 .u32 (J7 .u64 (Pl (1000000000:Int) (J7 .u64 (J7 .u64 n+1)))))]])]++[[Hv .u32 0]])))-(J9 es.length))-1))]∧∀(e3 e4:List (List D)) (n1:Int),I0 [] [Hx e3,Hx e4,Hv .i64 n1]→br (toB (I2 (decide (n1≥0)))) ((0≤J7 .i64 (n1+(J9 es.length))∧J7 .i64 (n1+(J9 es.length))<(J9 e3.length))∧∃n,cut (nth [] e3 (J8 (J7 .i64 (n1+(J9 es.length))))) 0 1 [Hv .u32 n]∧(0≤J7 .i64 (J7 .i64 (n1+(J9 es.length))-1)∧J7 .i64 (J7 .i64 (n1+(J9 es.length))-1)<(J9 e3.length))∧∃n2,cut (nth [] e3 (J8 (J7 .i64 (J7 .i64 (n1+(J9 es.length))-1)))) 0 1 [Hv .u32 n2]∧(0≤J7 .i64 ((J9 es.length)-1)∧J7 .i64 ((J9 es.length)-1)<(J9 e2.length)∧cH (nth [] e2 (J8 (J7 .i64 ((J9 es.length)-1))))=1)∧∃n3,cut (nth [] e2 (J8 (J7 .i64 ((J9 es.length)-1)))) 0 1 [Hv .u32 n3]∧J7 .u64 n3≠0∧(0≤J7 .i64 ((J9 es.length)-1)∧J7 .i64 ((J9 es.length)-1)<(J9 e2.length)∧cH (nth [] e2 (J8 (J7 .i64 ((J9 es.length)-1))))=1)∧∃n4,cut (nth [] e2 (J8 (J7 .i64 ((J9 es.length)-1)))) 0 1 [Hv .u32 n4]∧J7 .u64 n4≠0∧I1 [Hv .u64 (J7 .u64 (J7 .u64 (J7 .u64 n*1000000000)+J7 .u64 n2)),Hv .i64 n1,Hx e3] [Hv .u64 (J7 .u64 (Pl (J7 .u64 (J7 .u64 (J7 .u64 n*1000000000)+J7 .u64 n2)) (J7 .u64 n3))),Hv .u64 (M3 (J7 .u64 (J7 .u64 (J7 .u64 n*1000000000)+J7 .u64 n2)) (J7 .u64 n4))]∧∀(n5 n6:Int),I1 [Hv .u64 (J7 .u64 (J7 .u64 (J7 .u64 n*1000000000)+J7 .u64 n2)),Hv .i64 n1,Hx e3] [Hv .u64 n5,Hv .u64 n6]→br (toB (I2 (decide (n5≥1000000000)))) ((0≤J7 .i64 ((J9 es.length)-1)∧J7 .i64 ((J9 es.length)-1)<(J9 e2.length)∧cH (nth [] e2 (J8 (J7 .i64 ((J9 es.length)-1))))=1)∧∃n7,cut (nth [] e2 (J8 (J7 .i64 ((J9 es.length)-1)))) 0 1 [Hv .u32 n7]∧br (toB (I2 (decide (J7 .u64 (n6+J7 .u64 n7)≥1000000000)))) (Wl I0 M0 es e2 e3 e4 n1 (J7 .u64 (n5-1))) (I1 [Hv .u64 (J7 .u64 (J7 .u64 (J7 .u64 n*1000000000)+J7 .u64 n2)),Hv .i64 n1,Hx e3] [Hv .u64 (J7 .u64 (n5-1)),Hv .u64 (J7 .u64 (n6+J7 .u64 n7))]∧M1 [Hv .u64 (J7 .u64 (n5-1)),Hv .u64 (J7 .u64 (n6+J7 .u64 n7))]<M1 [Hv .u64 n5,Hv .u64 n6])) ((0≤J7 .i64 ((J9 es.length)-2)∧J7 .i64 ((J9 es.length)-2)<(J9 e2.length)∧cH (nth [] e2 (J8 (J7 .i64 ((J9 es.length)-2))))=1)∧∃n7,cut (nth [] e2 (J8 (J7 .i64 ((J9 es.length)-2)))) 0 1 [Hv .u32 n7]∧(0≤J7 .i64 (J7 .i64 (n1+(J9 es.length))-2)∧J7 .i64 (J7 .i64 (n1+(J9 es.length))-2)<(J9 e3.length))∧∃n8,cut (nth [] e3 (J8 (J7 .i64 (J7 .i64 (n1+(J9 es.length))-2)))) 0 1 [Hv .u32 n8]∧br (toB (I2 (decide (J7 .u64 (n5*J7 .u64 n7)>J7 .u64 (J7 .u64 (n6*1000000000)+J7 .u64 n8))))) ((0≤J7 .i64 ((J9 es.length)-1)∧J7 .i64 ((J9 es.length)-1)<(J9 e2.length)∧cH (nth [] e2 (J8 (J7 .i64 ((J9 es.length)-1))))=1)∧∃n9,cut (nth [] e2 (J8 (J7 .i64 ((J9 es.length)-1)))) 0 1 [Hv .u32 n9]∧br (toB (I2 (decide (J7 .u64 (n6+J7 .u64 n9)≥1000000000)))) (Wl I0 M0 es e2 e3 e4 n1 (J7 .u64 (n5-1))) (I1 [Hv .u64 (J7 .u64 (J7 .u64 (J7 .u64 n*1000000000)+J7 .u64 n2)),Hv .i64 n1,Hx e3] [Hv .u64 (J7 .u64 (n5-1)),Hv .u64 (J7 .u64 (n6+J7 .u64 n9))]∧M1 [Hv .u64 (J7 .u64 (n5-1)),Hv .u64 (J7 .u64 (n6+J7 .u64 n9))]<M1 [Hv .u64 n5,Hv .u64 n6])) (Wl I0 M0 es e2 e3 e4 n1 n5))) (((0:Int)≤(0:Int)∧0≤(J9 es.length)∧(J9 es.length)≤(J9 e3.length)∧lens 1 e3)∧∃e5,Gv 324 [F2 (Hx (V1 0 (U3 (J8 (J9 es.length)) e3)))] [F2 (Hx e5)]∧∃es e6,Gv 358 [F2 (Hx e5),F2 (Hv .u32 (J7 .u32 (J7 .u64 (Pl (1000000000:Int) (J7 .u64 (J7 .u64 n+1))))))] [F2 (Hx es),F2 (Hx e6)]∧Q [F2 (Hx e4),F2 (Hx es)])))):=by kernel_rfl
end Eng
end
section
namespace Eng
open Go Go.Proofs
set_option maxRecDepth 100000
theorem Wn (l:List Nat):xp (raw l)=yc l:=by simp[xp,raw,yc,tz]
theorem Wo (l:List Nat):xM (yc l)=raw l:=by simp[xM,raw,yc]
theorem yF:∀(l:List Nat),Q2 (raw l)=true
 |[]=>rfl
 |x::l=>by have:=yF l;simp only[raw,fR,Q2]at this ⊢;rw[this];rfl
theorem IQ {l:List Nat} (h:l≠[]):raw l≠[]:=by
 intro e;apply h;exact List.map_eq_nil_iff.1 e
def I0v (n m V U0:Nat):List D→List D→Prop:=fun _ ds=>∃(kk:Nat) (ul ql:List Nat),ds=[.sl (raw ul),.sl (raw ql),.int .i64 ((kk:Int)-1)]∧DInv n m V U0 kk ul ql
def M0v:List D→Nat:=fun ds=>(toI (nth .undef ds 2)+1).toNat
def ow (es:List (List D)) (k n:Nat):Nat:=WI ((es.drop k).take (n+1))
def I1v (n v1 V:Nat):List D→List D→Prop:=fun gs ds=>∃(top k:Nat) (es:List (List D)) (g r:Nat),gs=[.int .u64 (top:Int),.int .i64 (k:Int),.sl es]∧ds=[.int .u64 (g:Int),.int .u64 (r:Int)]∧top=g*v1+r∧ow es k n/V≤g∧g≤1000000001∧r<1000000000
def M1v:List D→Nat:=fun ds=>(toI (nth .undef ds 0)).toNat
theorem Ao (ul:List Nat) (k n:Nat):ow (raw ul) k n=val ((ul.drop k).take (n+1)):=by
 unfold ow;rw[Xl,ke,Xp]
theorem Ap {n m V U0 k g:Nat} {bl ul ql vl:List Nat} (hn:2≤n) (hb:bl.length=n) (hv:vl.length=n) (lv:Limbs vl) (vV:val vl=V) (hD:DInv n m V U0 (k+1) ul ql) (hm:n+m≤1000000) (hV0:0<V)
 (hq:val ((ul.drop k).take (n+1))/V≤g) (hg:g≤1000000000) (hgV:g*V≤val ((ul.drop k).take (n+1))+V):Wl (I0v n m V U0) M0v (raw bl) (raw vl) (raw ul) (raw ql) (k:Int) (g:Int):=by
 have hk:=hD.hk;have lu:=hD.lu;have lq:=hD.lq;have a6:V<1000000000^n:=by have:=qX lv;rw[hv,vV]at this;exact this
 obtain⟨hlt,a4⟩:=hD.mid a6 hV0;have l1:(ul.take k).length=k:=by rw[cL];omega
 have l2:((ul.drop k).take (n+1)).length=n+1:=by rw[cL,eH];omega
 have Lm:Limbs ((ul.drop k).take (n+1)):=(hD.Lu.drop k).take _;have hdv:val ((ul.drop k).take (n+1))/V<1000000000:=by rw[hG hV0,g5];exact hlt
 obtain⟨r,c,b,hs,Lr,lr,a3⟩:=B1 (us:=(ul.drop k).take (n+1)) (vs:=vl) (V:=V) (g:=g) Lm lv (by omega) vV hV0
  (by rw[l2];exact Nat.le_trans (Nat.le_of_lt a6) (hR (by omega) (by omega))) hq hg hgV
 rw[l2]at lr;have a7:vl≠[]:=by intro e;rw[e]at hv;simp at hv;omega
 have w1:J7 .i64 (J7 .i64 ((k:Int)+(n:Int))+1)=((k+n+1:Nat):Int):=by rw[zr (n:=(k:Int)+(n:Int)),zr];omega
 have w2:J7 .i64 ((k:Int)-1)=(k:Int)-1:=zr;unfold Wl;simp only[M2,qi,hb,w1,No];rw[show k+n+1-k=n+1 by omega,Xl,ke,Wn,Wn,hs];simp only;rw[Wo];rw[Xl,ke,←xc,←xc];have l3:(ul.take k++r++ul.drop (k+(n+1))).length=n+m:=by rw[gb,gb,l1,lr,eH];omega
 refine⟨⟨by omega,by omega,by omega⟩,⟨⟨IQ a7,yF _,by rw[hv];omega⟩,by omega,by omega,yF _⟩,brb (fun h=>?_) (fun h=>?_)⟩
 ·have hcb:c≠0∨b≠0:=by rw[Bool.or_eq_true,decide_eq_true_eq,decide_eq_true_eq]at h;omega
  rcases a3 with⟨e1,e2,_,_⟩|⟨_,a5,r2,h2,Lr2,a8,vr2⟩
  ·omega
  rw[l2]at a8;have e3:(ul.take k++r++ul.drop (k+(n+1))).take k=ul.take k:=by rw[gm,fg (by omega),List.take_take,Nat.min_self]
  have e4:((ul.take k++r++ul.drop (k+(n+1))).drop k).take (n+1)=r:=by rw[gm,fl (by omega),er (by omega),gq,fg (by omega),en (by omega)]
  have e5:(ul.take k++r++ul.drop (k+(n+1))).drop (k+(n+1))=ul.drop (k+(n+1)):=by rw[fl (by simp[l1,lr])];rw[er (by simp[l1,lr]),gq]
  rw[Xl,ke,Wn,e4,h2,Wo,ke,e3,Xl,e5,←xc,←xc];have w3:J7 .u32 (J7 .u64 ((g:Int)-1))=((val ((ul.drop k).take (n+1))/V:Nat):Int):=by
   have hg1':1≤g:=by rw[a5];exact Nat.le_add_left 1 _
   have hg2:g-1=val ((ul.drop k).take (n+1))/V:=by rw[a5];exact Nat.add_sub_cancel ..
   rw[←hg2,xS,kf];omega
  rw[w3,zf (by omega),qi,l3,w2];refine⟨⟨by omega,by omega,by omega⟩,⟨⟨IQ a7,yF _,by rw[hv];omega⟩,by omega,by omega,yF _⟩,⟨by omega,by omega⟩,by omega,⟨k,_,_,rfl,a4 r2 Lr2 a8 vr2⟩,?_⟩;simp only[M0v,nth,toI];omega
 ·have hcb:c=0∧b=0:=by rw[Bool.or_eq_false_iff,decide_eq_false_iff_not,decide_eq_false_iff_not]at h;omega
  rcases a3 with⟨_,_,a5,vr⟩|⟨e1,_⟩
  ·have w3:J7 .u32 (g:Int)=((val ((ul.drop k).take (n+1))/V:Nat):Int):=by rw[kf];omega
   rw[w3,zf (by omega),w2];refine⟨⟨by omega,by omega⟩,by omega,⟨k,_,_,rfl,a4 r Lr lr vr⟩,?_⟩;simp only[M0v,nth,toI];omega
  ·omega
theorem CR {a b:List Nat} (ha:Limbs a) (hb:Limbs b) (h1:a.length≤536870912) (h2:b.length≤536870912) (h3:0<a.length+b.length):zQ [.c (.sl (raw a)),.c (.sl (raw b))]=true:=by
 simp only[zQ,Ze ha,Ze hb,qi,Dd,Aw,Nat.ble_eq,hK];exact⟨h1,h2,h3⟩
theorem IR (a b:List Nat):kE [.c (.sl (raw a)),.c (.sl (raw b))]=raw (pad (a.length+b.length) (val a*val b)):=by
 simp only[kE,qi,Xp]
theorem Gz {ul:List Nat} {k n i:Nat} (hi:i≤n):((ul.drop k).take (n+1)).getD i 0=ul.getD (k+i) 0:=by
 simp only[List.getD,List.getElem?_take,List.getElem?_drop];rw[if_pos (by omega)]
def eZ (I0:List D→List D→Prop) (M0:List D→Nat) (I1:List D→List D→Prop) (M1:List D→Nat):Nat→Ann:=
 G7 ⟨[.own 8 180 1,.own 10 181 1,.slot 11 (.int .i64 0)],[],I0,M0⟩ ⟨[.slot 13 (.int .u64 0),.slot 14 (.int .u64 0)],[.slot 12 (.int .u64 0),.slot 11 (.int .i64 0),.own 8 180 1],I1,M1⟩
theorem CS {a b al:List Nat} {d:Nat} (ta:qc CC 324 [.c (.sl (raw a))] [.c (.sl (raw al))]) (tb:qc CC 324 [.c (.sl (raw b))] [.c (.sl (raw [d]))]) (lA:Limbs al) (ra:al.length≤100000) (hd0:0<d) (hd1:d<1000000000):
 qc CC 337 [.c (.sl (raw a)),.c (.sl (raw b))] [.c (.sl (raw (pad al.length (val al/d)))),.c (.sl (raw [val al%d]))]:=by
 refine qu (anns:=eZ (fun _ _=>True) (fun _=>0) (fun _ _=>True) (fun _=>0)) mixedT Tryz.func337 ?_;show wpF (CM zQ kE) _ _ _ _ _;unfold eZ;rw[Wm];refine⟨_,ta,_,tb,brb (fun _=>?_) (fun h=>?_)⟩
 ·exact⟨⟨by omega,by simp[raw],rfl⟩,_,qF (l:=[d]) (i:=0) (by simp),_,_,up (Vp lA hd0 hd1 (by omega)),rfl⟩
 ·simp[raw]at h
theorem Aq {a b al bl:List Nat} (ta:qc CC 324 [.c (.sl (raw a))] [.c (.sl (raw al))]) (tb:qc CC 324 [.c (.sl (raw b))] [.c (.sl (raw bl))]) (lA:Limbs al) (lB:Limbs bl) (ra:al.length≤100000) (rb:bl.length≤100000) (hn:2≤bl.length) (hlt:val al<val bl):
 qc CC 337 [.c (.sl (raw a)),.c (.sl (raw b))] [.c (.sl (raw [])),.c (.sl (raw al))]:=by
 refine qu (anns:=eZ (fun _ _=>True) (fun _=>0) (fun _ _=>True) (fun _=>0)) mixedT Tryz.func337 ?_;show wpF (CM zQ kE) _ _ _ _ _;unfold eZ;rw[Wm];refine⟨_,ta,_,tb,brb (fun h=>?_) (fun h=>?_)⟩
 ·rw[qi]at h;simp only[M2,beq_iff_eq]at h;omega
 ·refine⟨_,up (kD lA lB (by omega) (by omega)),brd (fun h2=>?_) (fun h2=>?_)⟩
  ·exact⟨⟨by rw[qi];unfold room;omega,je _⟩,rfl⟩
  ·rw[XP,if_pos hlt]at h2;omega
set_option maxHeartbeats 2000000 in
theorem CU {a b al bl:List Nat} (ta:qc CC 324 [.c (.sl (raw a))] [.c (.sl (raw al))]) (tb:qc CC 324 [.c (.sl (raw b))] [.c (.sl (raw bl))]) (lA:Limbs al) (lB:Limbs bl) (ra:al.length≤100000) (rb:bl.length≤100000)
 (vA:val al=val a) (vB:val bl=val b) (zB:bl.getLast?≠some 0) {p:Nat} (hn:bl.length=p+2) (hle:val bl≤val al):
 ∃q r,qc CC 337 [.c (.sl (raw a)),.c (.sl (raw b))] [.c (.sl (raw q)),.c (.sl (raw r))]∧Limbs q∧Limbs r∧val q=val a/val b∧val r=val a%val b∧q.length≤1073741824∧r.length≤1073741824:=by
 have hBn:bl≠[]:=by intro e;rw[e]at hn;simp at hn
 have b8:p+1<bl.length:=by omega
 obtain⟨d,ba⟩:∃d,bl[p+1]=d:=⟨_,rfl⟩;have hd0:0<d:=by
  rcases hT d with h0|h0
  ·exfalso;apply zB;rw[List.getLast?_eq_getElem?,hn,show p+2-1=p+1 by omega,fS b8,ba,h0]
  ·exact h0
 have hd1:d<1000000000:=ba▸lB.get b8;obtain⟨s,hs⟩:∃s,s=1000000000/(d+1):=⟨_,rfl⟩;obtain⟨hs1,hs2,hs3⟩:=Vw hd0 hd1 hs;have dn:s<1000000000:=by have:s*2≤s*(d+1):=h9 _ (by omega);omega
 obtain⟨B,hB⟩:∃B,val b=B:=⟨_,rfl⟩;obtain⟨A,hA⟩:∃A,val a=A:=⟨_,rfl⟩;rw[hA]at vA ⊢;rw[hB]at vB ⊢;rw[vA,vB]at hle
 --the scaled divisor
 obtain⟨V,hV⟩:∃V,V=B*s:=⟨_,rfl⟩;have bw:B=val (bl.take (p+1))+1000000000^(p+1)*d:=by rw[←vB,←ba,←xz b8,←qQ,en (by omega)]
 have hlo:val (bl.take (p+1))<1000000000^(p+1):=by have:=qX (lB.take (p+1));rw[cL,hn,hr (by omega)]at this;exact this
 obtain⟨P1,a5⟩:∃P1,1000000000^(p+1)=P1:=⟨_,rfl⟩;have b4:1000000000^(p+2)=P1*1000000000:=by rw[←a5];exact hL ..
 rw[a5]at bw hlo;have hP0:0<P1:=by rw[←a5];exact Nat.pow_pos (by omega)
 have an:V<P1*1000000000:=by
  have h1:B<P1*(d+1):=by rw[im,ie];omega
  have h2:B*s<P1*(d+1)*s:=hM h1 (by omega);have h3:P1*(d+1)*s=P1*(s*(d+1)):=by rw[ia,g5 (d+1) s]
  have h4:P1*(s*(d+1))≤P1*1000000000:=h9 _ hs3;omega
 have bv:500000000*P1≤V:=by
  have h1:P1*d*s≤B*s:=g7 s (by omega);have h2:P1*d*s=d*s*P1:=by rw[ia,g5]
  have h3:500000000*P1≤d*s*P1:=g7 P1 hs1;omega
 have a6:0<V:=by omega
 obtain⟨vl,bb⟩:∃vl,lim V=vl:=⟨_,rfl⟩;have Lv:Limbs vl:=bb▸qh _;have vV:val vl=V:=bb▸qj _;have lv:vl.length=p+2:=by have h1:(lim V).length≤p+2:=qx (by rw[b4];exact an);have h2:p+1<(lim V).length:=jV (by rw[a5];omega);rw[bb]at h1 h2;omega
 obtain⟨v1,b2⟩:∃v1,vl[p+1]=v1:=⟨_,rfl⟩;obtain⟨v2,ci⟩:∃v2,vl[p]=v2:=⟨_,rfl⟩;have hv1B:v1<1000000000:=b2▸Lv.get _;have hv2B:v2<1000000000:=ci▸Lv.get _;have bt:=val2 (v:=vl) (p:=p);rw[en (by omega),xz (by omega),xz (by omega),b2,ci,vV]at bt;have cl:val (vl.take p)<1000000000^p:=by have:=qX (Lv.take p);rw[cL,lv,hr (by omega)]at this;exact this
 have hVd1:V=val (vl.take (p+1))+P1*v1:=by rw[←a5,←b2,←xz,←qQ,en (by omega),vV]
 have ds:val (vl.take (p+1))<P1:=by have:=qX (Lv.take (p+1));rw[cL,lv,hr (by omega),a5]at this;exact this
 have ct:V<(v1+1)*P1:=by rw[g5,im];omega
 have hVb:v1*P1≤V:=by rw[g5];omega
 have cg:500000000≤v1:=by apply Nat.le_of_lt_succ;exact Nat.lt_of_mul_lt_mul_right (a:=P1) (hH bv ct)
 --the scaled dividend
 have hal:p+2≤al.length:=by apply Nat.le_of_not_lt;intro h;have:=ZK lA zB hBn (by omega);omega
 obtain⟨m,hm⟩:∃m,al.length=p+m:=⟨al.length-p,by omega⟩;have bh:A*s<1000000000^(al.length+1):=by have h1:=qX lA;rw[vA]at h1;have h2:A*s≤A*1000000000:=h9 _ (by omega);have h3:A*1000000000<1000000000^al.length*1000000000:=hM h1 (by omega);rw[hL];omega
 obtain⟨b3,a7⟩:∃b3,pad (al.length+1) (A*s)++[0]=b3:=⟨_,rfl⟩;have cp:b3.length=al.length+2:=by rw[←a7];simp[xB]
 have a4:DInv (p+2) m V (A*s) m b3 (fx m 0):=by
  have bc:val b3=A*s:=by rw[←a7,qU,kB,g4 bh,show val [0]=0 from rfl,Nat.mul_zero,ib]
  refine⟨it _,by omega,List.length_replicate,?_,?_,?_,?_⟩
  ·rw[←a7];exact(zl _ _).append (J4 (by omega) J3)
  ·intro x hx;rw[List.eq_of_mem_replicate hx];omega
  ·rw[bc];have h1:P1*1000000000^m≤V*1000000000^m:=g7 _ (by omega);have h2:P1*1000000000^m=1000000000^(al.length+1):=by rw[←a5,←Nat.pow_add,show p+1+m=al.length+1 by omega]
   omega
  ·rw[er (by simp),bc];simp[val]
 have hsc:J7 .u32 (J7 .u64 (Pl 1000000000 (J7 .u64 (J7 .u64 (d:Int)+1))))=(s:Int):=by
  have e:Pl 1000000000 ((d:Int)+1)=(s:Int):=by rw[hs,Ts (by omega),Int.natCast_ediv];have e2:((d+1:Nat):Int)=(d:Int)+1:=Int.natCast_add d 1;rw[e2];exact congrArg (· /((d:Int)+1)) (show(1000000000:Int)=((1000000000:Nat):Int)from rfl)
  rw[xS (n:=(d:Int)),xS (n:=(d:Int)+1),e,xS,kf]
 have mkA:kE [.c (.sl (raw al)),.c (.sl [[.int .u32 (s:Int)]])]=raw (pad (al.length+1) (A*s)):=(IR al [s]).trans (by rw[vA];simp[val]);have mkB:kE [.c (.sl (raw bl)),.c (.sl [[.int .u32 (s:Int)]])]=raw (pad (p+3) V):=(IR bl [s]).trans (by rw[vB,hV,hn];simp[val]);have Ls:Limbs [s]:=J4 dn J3;have be:zQ [.c (.sl (raw al)),.c (.sl [[.int .u32 (s:Int)]])]=true:=CR lA Ls (by omega) (by simp) (by simp);have bg:zQ [.c (.sl (raw bl)),.c (.sl [[.int .u32 (s:Int)]])]=true:=CR lB Ls (by omega) (by simp) (by simp);have tv:qc CC 324 [.c (.sl (raw (pad (p+3) V)))] [.c (.sl (raw vl))]:=by have:=up (yS (zl (p+3) V) (by rw[xB];omega));rw[kB,g4 (show V<1000000000^(p+3)from g8 an (by rw[←b4];exact hR (by omega) (by omega))),bb]at this;exact this
 have eU:raw (pad (al.length+1) (A*s))++[[Hv .u32 (0:Int)]]=raw b3:=by rw[←a7,xc];rfl
 have b7:A*s/V=A/B:=by rw[hV];exact Nat.mul_div_mul_right _ _ (by omega)
 have b1:A*s%V=A%B*s:=by rw[hV];exact Nat.mul_mod_mul_right _ _ _
 refine⟨pad m (A/B),pad (lim (A%B*s)).length (A%B),qu (anns:=eZ (I0v (p+2) m V (A*s)) M0v (I1v (p+2) v1 V) M1v) mixedT Tryz.func337 ?_,zl _ _,zl _ _,?_,?_,by rw[xB];omega,?_⟩
 ·show wpF (CM zQ kE) _ _ _ _ _;unfold eZ;rw[Wm];refine⟨_,ta,_,tb,?_⟩;have wn1:J7 .i64 (((p+2:Nat):Int)-1)=((p+1:Nat):Int):=by rw[zr];omega
  have wn2:J7 .i64 (((p+2:Nat):Int)-2)=(p:Int):=by rw[zr];omega
  simp only[M2,qi,hn,wn1,wn2,No];refine brb (fun h=>?_) (fun _=>⟨_,up (kD lA lB (by omega) (by omega)),brd (fun h2=>?_) (fun _=>?_)⟩)
  ·simp only[beq_iff_eq]at h;omega
  ·rw[XP,vA,vB,if_neg (by omega)]at h2;split at h2<;>omega
  refine⟨⟨by omega,by omega,qC b8⟩,_,qF b8,?_⟩;rw[ba];simp only[hsc,mkA,mkB,eU,qi,cp];have wm:J7 .i64 (((al.length+2:Nat):Int)-((p+2:Nat):Int))=(m:Int):=by rw[zr];omega
  have wm1:J7 .i64 ((m:Int)-1)=(m:Int)-1:=zr;simp only[wm,wm1,No,xB];refine⟨?_,be,⟨by unfold room;omega,je [0]⟩,bg,_,tv,⟨by omega,by omega,by unfold room;omega⟩,⟨m,b3,fx m 0,by rw[xy],a4⟩,?_⟩
  ·rw[xS (n:=(d:Int)),xS];omega
  rintro es_3 es_4 n_1 ⟨kk,ul,ql,he,hD⟩;simp only[g3,D.sl.injEq,I3,true_and,and_true]at he;obtain⟨rfl,rfl,rfl⟩:=he;have dd:=hD.lu;have hkm:=hD.hk;refine brd (fun h=>?_) (fun h=>?_)
  ·obtain⟨k,rfl⟩:∃k,kk=k+1:=⟨kk-1,by omega⟩;rw[show((k+1:Nat):Int)-1=(k:Int)by omega];have W0:J7 .i64 ((k:Int)+((p+2:Nat):Int))=((k+p+2:Nat):Int):=by rw[zr];omega
   have W1:J7 .i64 (((k+p+2:Nat):Int)-1)=((k+p+1:Nat):Int):=by rw[zr];omega
   have W2:J7 .i64 (((k+p+2:Nat):Int)-2)=((k+p:Nat):Int):=by rw[zr];omega
   simp only[W0,W1,W2,No,qi,dd,lv];have hVn:V<1000000000^(p+2):=by rw[b4];exact an
   obtain⟨ag,_⟩:=hD.mid hVn a6;have hlm:((ul.drop k).take (p+2+1)).length=p+3:=by rw[cL,eH];omega
   have Lm:Limbs ((ul.drop k).take (p+2+1)):=(hD.Lu.drop k).take _;obtain⟨t3,cc⟩:∃t,ul[k+p+2]=t:=⟨_,rfl⟩;obtain⟨t2,ca⟩:∃t,ul[k+p+1]=t:=⟨_,rfl⟩;obtain⟨t0,c3⟩:∃t,ul[k+p]=t:=⟨_,rfl⟩;have ht3B:t3<1000000000:=cc▸hD.Lu.get _;have cb:t2<1000000000:=ca▸hD.Lu.get _;have ht0B:t0<1000000000:=c3▸hD.Lu.get _;obtain⟨U,hU⟩:∃U,val ((ul.drop k).take (p+2+1))=U:=⟨_,rfl⟩;rw[hU]at ag;have ad:=val3 (u:=(ul.drop k).take (p+2+1)) (p:=p);rw[en (by omega),Gz (by omega),Gz (by omega),Gz (by omega),xz (by omega),xz (by omega),xz (by omega)]at ad;simp only[←Nat.add_assoc,cc,ca,c3]at ad;rw[hU]at ad;have bs:val (((ul.drop k).take (p+2+1)).take p)<1000000000^p:=by have:=qX (Lm.take p);rw[cL,hlm,hr (by omega)]at this;exact this
   obtain⟨a3,cd⟩:∃a3,t3*1000000000+t2=a3:=⟨_,rfl⟩;have bm:U=(t3*1000000000+t2)*P1+(t0*1000000000^p+val (((ul.drop k).take (p+2+1)).take p)):=by rw[ad,←a5,hL];grind
   have b5:t0*1000000000^p+val (((ul.drop k).take (p+2+1)).take p)<P1:=by have:(t0+1)*1000000000^p≤1000000000*1000000000^p:=g7 _ (by omega);rw[iz,ic]at this;rw[←a5,hL];omega
   obtain⟨c0,c1,hg3⟩:=Lh ct hVb cg bm b5 cb ag a6;rw[cd]at c0 c1 ad;have cs:J7 .u64 (J7 .u64 (J7 .u64 (t3:Int)*1000000000)+J7 .u64 (t2:Int))=(a3:Int):=by rw[xS (n:=(t3:Int)),xS (n:=(t3:Int)*1000000000),xS (n:=(t2:Int)),xS];omega
   have bd:J7 .u64 (v1:Int)=(v1:Int):=xS;have wv2:J7 .u64 (v2:Int)=(v2:Int):=xS;have wt0:J7 .u64 (t0:Int)=(t0:Int):=xS;have cv:=Nat.div_add_mod a3 v1;have hml:=hE a3 (show 0<v1 by omega);have a8:Pl (a3:Int) (v1:Int)=((a3/v1:Nat):Int):=by rw[Ts (by omega)];rfl
   have b9:M3 (a3:Int) (v1:Int)=((a3%v1:Nat):Int):=by rw[Int.tmod_eq_emod_of_nonneg (by omega)];rfl
   obtain⟨g0,hg0⟩:∃g0,a3/v1=g0:=⟨_,rfl⟩;obtain⟨r0,hr0⟩:∃r0,a3%v1=r0:=⟨_,rfl⟩;rw[hg0]at c0 c1 cv a8;rw[hr0]at cv hml b9;have cr:J7 .u64 (Pl (a3:Int) (v1:Int))=(g0:Int):=by rw[a8,xS]
   have c2:ow (raw ul) k (p+2)=U:=by rw[Ao,hU]
   refine⟨⟨by omega,by omega⟩,_,qF (by omega),⟨by omega,by omega⟩,_,qF (by omega),⟨by omega,by omega,qC (by omega)⟩,_,qF (by omega),?_⟩;rw[cc,ca,b2];refine⟨by rw[bd];omega,⟨by omega,by omega,qC (by omega)⟩,_,qF (by omega),?_⟩;rw[b2,cs,bd,cr,b9];refine⟨by omega,⟨a3,k,raw ul,g0,r0,rfl,rfl,by rw[g5];omega,by rw[c2];exact c0,c1,by omega⟩,?_⟩;rintro n_5 n_6 ⟨cq,k',es',g,r,cx,cy,dc,dl,hgB,hrB⟩;simp only[g3,I3,D.sl.injEq,true_and,and_true]at cx cy;obtain⟨e1,e2,rfl⟩:=cx;obtain⟨rfl,rfl⟩:=cy;obtain rfl:a3=cq:=by omega
   obtain rfl:k=k':=by omega
   rw[c2]at dl;have b6:∀g' r',a3=g'*v1+r'→U/V≤g'→g'≤1000000000→g'*v2≤r'*1000000000+t0→Wl (I0v (p+2) m V (A*s)) M0v (raw bl) (raw vl) (raw ul) (raw ql) (k:Int) (g':Int):=fun g' r' h1 h2 h3 h4=>
    Ap (by omega) hn lv Lv vV hD (by omega) a6 (by rw[hU];exact h2) h3 (by rw[hU];exact P7 bt ad cl h1 h4 h3 (by omega))
   have cw:U/V<g→br (toB (I2 (decide (J7 .u64 ((r:Int)+(v1:Int))≥1000000000))))
    (Wl (I0v (p+2) m V (A*s)) M0v (raw bl) (raw vl) (raw ul) (raw ql) (k:Int) (J7 .u64 ((g:Int)-1)))
    (I1v (p+2) v1 V [.int .u64 (a3:Int),.int .i64 (k:Int),.sl (raw ul)] [.int .u64 (J7 .u64 ((g:Int)-1)),.int .u64 (J7 .u64 ((r:Int)+(v1:Int)))]∧
     M1v [.int .u64 (J7 .u64 ((g:Int)-1)),.int .u64 (J7 .u64 ((r:Int)+(v1:Int)))]<M1v [.int .u64 (g:Int),.int .u64 (r:Int)]):=by
    intro ap;have hgp:1≤g:=hH (hC _) ap;have wg:J7 .u64 ((g:Int)-1)=((g-1:Nat):Int):=by rw[xS];omega
    have wr:J7 .u64 ((r:Int)+(v1:Int))=((r+v1:Nat):Int):=by rw[xS];omega
    have dp:a3=(g-1)*v1+(r+v1):=by
     have:g*v1=(g-1)*v1+v1:=by
      conv=>lhs;rw[show g=(g-1)+1 by omega]
      rw[iz,ic]
     omega
    rw[wg,wr];refine brd (fun h3=>?_) (fun h3=>?_)
    ·refine b6 (g-1) (r+v1) dp (hS ap) (by omega) ?_;have h5:(g-1)*v2≤1000000000*1000000000:=hY (by omega) (by omega);have h6:1000000000*1000000000≤(r+v1)*1000000000:=g7 _ (by omega);omega
    ·exact⟨⟨a3,k,raw ul,g-1,r+v1,rfl,rfl,dp,by rw[c2];exact hS ap,by omega,by omega⟩,by simp only[M1v,nth,toI,No];omega⟩
   have hqB:U/V<1000000000:=by rw[hG a6,g5];exact ag
   refine brd (fun h3=>?_) (fun h3=>?_)
   ·refine⟨⟨by omega,by omega,qC (by omega)⟩,_,qF (by omega),?_⟩;rw[b2,bd];exact cw (by omega)
   ·refine⟨⟨by omega,by omega,qC (by omega)⟩,_,qF (by omega),⟨by omega,by omega⟩,_,qF (by omega),?_⟩;rw[ci,c3,wv2,wt0];have hgv:g*v2≤1000000000*1000000000:=hY (by omega) (by omega);have wgv:J7 .u64 ((g:Int)*(v2:Int))=((g*v2:Nat):Int):=by have e:(g:Int)*(v2:Int)=((g*v2:Nat):Int):=(Int.natCast_mul ..).symm;rw[e,xS]
    have wrt:J7 .u64 (J7 .u64 ((r:Int)*1000000000)+(t0:Int))=((r*1000000000+t0:Nat):Int):=by rw[xS (n:=(r:Int)*1000000000),xS];omega
    rw[wgv,wrt];refine brd (fun h4=>?_) (fun h4=>?_)
    ·refine⟨⟨by omega,by omega,qC (by omega)⟩,_,qF (by omega),?_⟩;rw[b2,bd];exact cw (P6 bt ad bs dc (by omega) a6)
    ·exact b6 g r dc dl (by omega) (by omega)
  ·have hk0:kk=0:=by omega
   subst hk0;have ap:=hD.hlt;have bx:=hD.heq;simp only[Nat.pow_zero,ie,gr]at ap bx;have bc:val ul=A*s%V:=by rw[bx,g5,Nat.mul_add_mod,g4 ap]
   have dt:val ql=A/B:=by rw[←b7,bx,g5,Nat.mul_add_div a6,hX ap,ib]
   have htk:val (ul.take (p+2))=A%B*s:=by
    rw[←b1,←bc];have h1:val ul=val (ul.take (p+2))+1000000000^(p+2)*val (ul.drop (p+2)):=by
     conv=>lhs;rw[←List.take_append_drop (p+2) ul]
     rw[qU,cL,hr (by omega)]
    rcases hT (val (ul.drop (p+2)))with h0|h0
    ·rw[h0]at h1;omega
    ·exfalso;have h2:1000000000^(p+2)≤1000000000^(p+2)*val (ul.drop (p+2)):=Nat.le_mul_of_pos_right _ h0;rw[b4]at h2 h1;omega
   have hlul:(lim (A%B*s)).length≤p+2:=by rw[←b1];refine qx ?_;have:=hE (A*s) a6;rw[b4];omega
   have g1:=up (yS (hD.Lu.take (p+2)) (by rw[cL];omega));rw[htk]at g1;have g2:=up (Vp (qh (A%B*s)) (d:=s) (by omega) dn (by omega));rw[qj,Nat.mul_div_cancel _ (show 0<s by omega)]at g2;simp only[gr,ke,qi,dd];refine⟨⟨by omega,by omega,by omega,je _⟩,_,g1,_,_,g2,?_⟩;have:ql=pad m (A/B):=by refine SL hD.Lq (zl _ _) (by rw[xB];exact hD.lq) ?_;have h1:=qX hD.Lq;rw[hD.lq,dt]at h1;rw[kB,g4 h1,dt]
   rw[this]
 ·rw[kB,g4];rw[←b7,hG a6];have h1:=a4.hlt;have h2:=a4.heq;rw[er (by simp)]at h2;simp only[val,Nat.zero_mul,Nat.zero_add]at h2;rw[←h2]at h1;rw[g5 (1000000000^m)];exact h1
 ·rw[kB,g4];have h1:=qX (qh (A%B*s));rw[qj]at h1;have:A%B*1≤A%B*s:=h9 _ hs2;omega
 ·rw[xB,←b1];have:(lim (A*s%V)).length≤p+2:=by refine qx ?_;have:=hE (A*s) a6;rw[b4];omega
  omega
theorem Wp:HH:=by
 intro a b la lb hb0 ra rb;have ta:=up (yS la (by omega));have tb:=up (yS lb (by omega));have nA:(lim (val a)).length≤a.length:=qx (qX la);have nB:(lim (val b)).length≤b.length:=qx (qX lb);have a3:lim (val b)≠[]:=by rw[ne_eq,Q3];exact hb0
 have hpos:0<(lim (val b)).length:=List.length_pos_iff.2 a3;by_cases h1:(lim (val b)).length=1
 ·obtain⟨d,hd⟩:=List.length_eq_one_iff.1 h1;have hv:val b=d:=by rw[←qj (val b),hd];simp[val]
  rw[hd]at tb;have hd1:d<1000000000:=(qh (val b)) d (by rw[hd];simp);refine⟨_,_,CS ta tb (qh _) (by omega) (by omega) hd1,zl _ _,J4 ?_ J3,?_,?_,by rw[xB];omega,by simp⟩
  ·have:=hE (val (lim (val a))) (show 0<d by omega);omega
  ·rw[kB,qj,hv,g4];have h2:=qX (qh (val a));rw[qj]at h2;exact hH (Nat.div_le_self _ _) h2
  ·rw[qj,hv];simp[val]
 ·by_cases h2:val a<val b
  ·refine⟨_,_,Aq ta tb (qh _) (qh _) (by omega) (by omega) (by omega) (by rw[qj,qj];exact h2),J3,qh _,?_,?_,by simp,by omega⟩
   ·rw[hX h2];rfl
   ·rw[g4 h2,qj]
  ·exact CU (p:=(lim (val b)).length-2) ta tb (qh _) (qh _) (by omega) (by omega) (qj _) (qj _) ((kc _).resolve_left a3) (by omega) (by rw[qj,qj];omega)
end Eng
end
section
namespace Eng
open Go Go.Proofs
set_option maxRecDepth 100000
def tabL (_:Nat) (_:List A):Option (List A):=none
theorem tabL_ok (f:Nat) (al rs:List A) (h:tabL f al=some rs):qc CC f al rs:=by simp[tabL]at h
def Wq:List (List D)→Bool
 |[]=>true
 |[e]=>hQ 0 (bE e)
 |_::r=>Wq r
theorem VO:∀{l:List Nat},Wq (raw l)=true→l=[]∨l.getLast?≠some 0
 |[],_=> .inl rfl
 |[x],h=> .inr (by
  simp only[raw,fR,gz,Wq,bE,No]at h;rw[hK]at h;simp;omega)
 |x::y::l,h=> .inr (by
  have h2:Wq (raw (y::l))=true:=h;rcases VO h2 with h3|h3
  ·simp at h3
  ·rw[List.getLast?_cons_cons];exact h3)
def DO (b:Bool) (es:List (List D)):Int:=match b with|true=> -(WI es:Int)|false=>(WI es:Int)
def okZ (b:Bool) (es:List (List D)):Bool:=ZL es&&(Wq es&&(match es with|[]=>!b|_=>true))
theorem CW {b:Bool} {es:List (List D)} (h:okZ b es=true):cI (DO b es)=[.bool b,.sl es]:=by
 unfold okZ at h;simp only[Aw]at h;obtain⟨h1,h2,h3⟩:=h;obtain⟨e1,e2,e3⟩:=Xo h1;rw[e1]at h2;have hu:=yR e2 (VO h2);rw[e3]at hu;have hn:(DO b es).natAbs=WI es:=by
  unfold DO;cases b
  ·simp
  ·simp
 have hb:decide (DO b es<0)=b:=by
  cases b with
  |false=>unfold DO;exact decide_eq_false (by simp)
  |true=>
   unfold DO;refine decide_eq_true ?_;have:WI es≠0:=by
    intro h0;rw[h0]at hu;have h4:WH es=[]:=by rw[←hu];rfl
    rw[h4]at e1;rw[e1]at h3;simp[raw]at h3
   show-(WI es:Int)<0;omega
 unfold cI;rw[hn,hb,hu,←e1]
def rdI:A→Option Int
 | .ag [.bool b,.sl es]=>match okZ b es with
  |true=>some (DO b es)
  |false=>none
 |_=>none
theorem CY {a:A} {z:Int} (h:rdI a=some z):a=qS z:=by
 unfold rdI at h;split at h
 ·split at h
  ·rename_i hz;simp only[j0]at h;subst h;unfold qS;rw[CW hz]
  ·simp at h
 ·simp at h
def dC (n:Int) (d:Nat):Option Rat:=
 if hd:d≠0 then if h:hW n.natAbs d=1 then some ⟨n,d,hd,h⟩else none else none
theorem Ar {n:Int} {d:Nat} {r:Rat} (h:dC n d=some r):r.num=n∧r.den=d:=by
 unfold dC at h;split at h
 ·split at h
  ·simp only[j0]at h;subst h;exact⟨rfl,rfl⟩
  ·simp at h
 ·simp at h
def hN:Nat:=(1000000000^100)^4
theorem mh:hN≤Zg:=by decide
def tN:Nat:=(1000000000^100)^10
theorem mi:tN≤Vq:=by decide
def IS (z:Int):Bool:=hQ z.natAbs hN
def rdR:A→Option Rat
 | .ag [.bool b,.sl es,.bool c,.sl fs]=>match okZ b es&&(okZ c fs&&(!c&&(IS (DO b es)&&hQ (WI fs) hN)))with
  |true=>dC (DO b es) (WI fs)
  |false=>none
 |_=>none
theorem VP {a:A} {r:Rat} (h:rdR a=some r):a=jC r∧Sr r:=by
 unfold rdR at h;split at h
 ·rename_i b es c fs;split at h
  ·rename_i hz;simp only[Aw,Bool.not_eq_true']at hz;obtain⟨h1,h2,rfl,h3,h4⟩:=hz;obtain⟨e1,e2⟩:=Ar h;have hd:DO false fs=(r.den:Int):=by rw[e2];rfl
   refine⟨?_,?_,?_⟩
   ·unfold jC cR;rw[e1,CW h1,←hd,CW h2];rfl
   ·rw[e1];unfold IS at h3;rw[hK]at h3;exact g8 h3 mh
   ·rw[hK]at h4;show((r.den:Int)).natAbs<Zg;rw[Int.natAbs_natCast,e2];exact g8 h4 mh
  ·simp at h
 ·simp at h
def O5 (al:List A):Option (Int×Int):=match al with
 |[a,b]=>match rdI a,rdI b with
  |some x,some y=>match hQ x.natAbs tN&&hQ y.natAbs tN with
   |true=>some (x,y)
   |false=>none
  |_,_=>none
 |_=>none
theorem jX {al:List A} {x y:Int} (h:O5 al=some (x,y)):al=[qS x,qS y]∧Sm x∧Sm y:=by
 unfold O5 at h;split at h
 ·split at h
  ·rename_i x' y' h1 h2;split at h
   ·rename_i h3;simp only[j0,Prod.mk.injEq]at h;obtain⟨rfl,rfl⟩:=h;simp only[Aw,hK]at h3;rw[CY h1,CY h2];exact⟨rfl,g8 h3.1 mi,g8 h3.2 mi⟩
   ·simp at h
  ·simp at h
 ·simp at h
def DP (al:List A):Option (Rat×Rat):=match al with
 |[a,b]=>match rdR a,rdR b with
  |some x,some y=>some (x,y)
  |_,_=>none
 |_=>none
theorem yG {al:List A} {x y:Rat} (h:DP al=some (x,y)):al=[jC x,jC y]∧Sr x∧Sr y:=by
 unfold DP at h;split at h
 ·split at h
  ·rename_i x' y' h1 h2;simp only[j0,Prod.mk.injEq]at h;obtain⟨rfl,rfl⟩:=h;rw[(VP h1).1,(VP h2).1];exact⟨rfl,(VP h1).2,(VP h2).2⟩
  ·simp at h
 ·simp at h
def fa (a b:Int):Int:=match decide (a<b)with|true=> -1|false=>match decide (b<a)with|true=>1|false=>0
theorem G0 (a b:Int):fa a b=Ql a b:=by
 unfold fa Ql;by_cases h:a<b
 ·rw[decide_eq_true h,if_pos h]
 ·rw[decide_eq_false h,if_neg h];by_cases h2:b<a
  ·rw[decide_eq_true h2,if_pos h2]
  ·rw[decide_eq_false h2,if_neg h2]
def DQ (n d:Int):A:= .ag (cI (n/(hW n.natAbs d.natAbs:Nat))++cI (d/(hW n.natAbs d.natAbs:Nat)))
def tT (f:Nat) (al:List A):Option (List A):=
 match f with
 |232=>match DP al with|some (x,y)=>some [DQ (x.num*y.num) (x.den*y.den)]|none=>none
 |233=>match DP al with|some (x,y)=>some [DQ (x.num*y.den+y.num*x.den) (x.den*y.den)]|none=>none
 |175=>match DP al with|some (x,y)=>some [DQ (x.num*y.den+(-y.num)*x.den) (x.den*y.den)]|none=>none
 |172=>match DP al with|some (x,y)=>some [.c (.int .i64 (fa (x.num*y.den) (y.num*x.den)))]|none=>none
 |111=>match al with
  |[.c (.int .i64 n)]=>match decide (-9223372036854775808≤n)&&decide (n<9223372036854775808)with
   |true=>some [.ag (cI n++cI 1)]
   |false=>none
  |_=>none
 |230=>match O5 al with|some (x,y)=>some [qS (x*y)]|none=>none
 |229=>match O5 al with|some (x,y)=>some [.c (.int .i64 (fa x y))]|none=>none
 |277=>match O5 al with|some (x,y)=>some [qS (x+y)]|none=>none
 |356=>match O5 al with|some (x,y)=>some [qS (x-y)]|none=>none
 |306=>match O5 al with|some (x,y)=>some [qS (hW x.natAbs y.natAbs:Nat)]|none=>none
 |170=>match al with
  |[.c (.int .i64 n)]=>match decide (-9223372036854775808≤n)&&decide (n<9223372036854775808)with
   |true=>some [qS n]
   |false=>none
  |_=>none
 |_=>tabL f al
theorem Z6 {n d:Int} (hd:0<d):DQ n d=jC (j5 n d):=(vD hd).symm
theorem dD (f:Nat) (al rs:List A) (h:tT f al=some rs):qc CC f al rs:=by
 unfold tT at h;split at h
 ·split at h
  ·rename_i x y h1;obtain⟨rfl,hx,hy⟩:=yG h1;simp only[j0]at h;subst h;rw[Z6 (T1 (den_pos x) (den_pos y))];have e:x*y=j5 (x.num*y.num) (x.den*y.den):=by rw[←Rat.divInt_mul_divInt,j4,j4]
   rw[←e];exact SU Wp hx hy
  ·simp at h
 ·split at h
  ·rename_i x y h1;obtain⟨rfl,hx,hy⟩:=yG h1;simp only[j0]at h;subst h;have px:=den_pos x;have py:=den_pos y;rw[Z6 (T1 px py)];have e:x+y=j5 (x.num*y.den+y.num*x.den) (x.den*y.den):=by rw[←ks _ _ (by omega) (by omega),j4,j4]
   rw[←e];exact TT Wp hx hy
  ·simp at h
 ·split at h
  ·rename_i x y h1;obtain⟨rfl,hx,hy⟩:=yG h1;simp only[j0]at h;subst h;have px:=den_pos x;have py:=den_pos y;rw[Z6 (T1 px py)];have e:x-y=j5 (x.num*y.den+(-y.num)*x.den) (x.den*y.den):=by
    rw[Rat.sub_eq_add_neg,←ks _ _ (by omega) (by omega),j4];have:j5 (-y.num) y.den= -y:=by rw[←Rat.neg_num];exact j4 (-y)
    rw[this]
   rw[←e];exact SV Wp hx hy
  ·simp at h
 ·split at h
  ·rename_i x y h1;obtain⟨rfl,hx,hy⟩:=yG h1;simp only[j0]at h;subst h;rw[G0,←K2];exact ST hx hy
  ·simp at h
 ·split at h
  ·split at h
   ·rename_i hb;simp only[j0]at h;subst h;simp only[Aw,decide_eq_true_eq]at hb;have g:=Xq hb.1 hb.2;unfold jC cR at g;rw[Rat.num_intCast,Rat.den_intCast]at g;exact g
   ·simp at h
  ·simp at h
 ·split at h
  ·rename_i x y h1;obtain⟨rfl,hx,hy⟩:=jX h1;simp only[j0]at h;subst h;exact up (wz hx hy)
  ·simp at h
 ·split at h
  ·rename_i x y h1;obtain⟨rfl,hx,hy⟩:=jX h1;simp only[j0]at h;subst h;rw[G0];exact up (yr hx hy)
  ·simp at h
 ·split at h
  ·rename_i x y h1;obtain⟨rfl,hx,hy⟩:=jX h1;simp only[j0]at h;subst h;exact up (Zc hx hy)
  ·simp at h
 ·split at h
  ·rename_i x y h1;obtain⟨rfl,hx,hy⟩:=jX h1;simp only[j0]at h;subst h;exact up (SO hx hy)
  ·simp at h
 ·split at h
  ·rename_i x y h1;obtain⟨rfl,hx,hy⟩:=jX h1;simp only[j0]at h;subst h;exact SR Wp hx hy
  ·simp at h
 ·split at h
  ·split at h
   ·rename_i hb;simp only[j0]at h;subst h;simp only[Aw,decide_eq_true_eq]at hb;exact up (xA hb.1 hb.2)
   ·simp at h
  ·simp at h
 ·exact tabL_ok f al rs h
end Eng
end
section
namespace Eng
open Go Go.Proofs
def eqL {α:Type} (e:α→α→Bool):List α→List α→Bool
 |[],[]=>true
 |a::xs,b::ys=>e a b&&eqL e xs ys
 |_,_=>false
theorem ZX {α:Type} {e:α→α→Bool} (h:∀a b,e a b=true→a=b):∀{xs ys:List α},eqL e xs ys=true→xs=ys
 |[],[],_=>rfl
 |a::xs,b::ys,hh=>by simp only[eqL,Aw]at hh;rw[h a b hh.1,ZX h hh.2]
 |[],_::_,hh=>by simp[eqL]at hh
 |_::_,[],hh=>by simp[eqL]at hh
def eqB:UInt8→UInt8→Bool:=fun a b=>hP a.toNat b.toNat
def eqD:Nat→D→D→Bool
 |0,_,_=>false
 |_+1,.undef,.undef=>true
 |_+1,.bool a,.bool b=>a==b
 |_+1,.int k a,.int k' b=>decide (k=k')&&decide (a=b)
 |_+1,.str s,.str t=>eqL eqB s t
 |n+1,.sl es,.sl fs=>eqL (eqL (eqD n)) es fs
 |_+1,.ifc a,.ifc b=>a==b
 |_+1,.fn a,.fn b=>hP a b
 |_+1,.nilP,.nilP=>true
 |n+1,.ptr cs,.ptr ds=>eqL (eqD n) cs ds
 |n+1,.clo f ps,.clo g qs=>hP f g&&eqL (eqD n) ps qs
 |_+1,_,_=>false
theorem mj (a b:UInt8) (h:eqB a b=true):a=b:=UInt8.toNat_inj.1 (ho h)
theorem IT (n:Nat):∀(a b:D),eqD n a b=true→a=b:=by
 induction n with
 |zero=>intro a b h;simp[eqD]at h
 |succ n ih=>
  intro a b h;cases a<;>cases b<;>simp only[eqD,Aw,decide_eq_true_eq,beq_iff_eq,Bool.false_eq_true]at h
  all_goals first
   |rfl
   |(rw[h];done)
   |(rw[h.1,h.2];done)
   |(rw[ZX mj h];done)
   |(rw[ZX ih h];done)
   |(rw[ho h.1,ZX ih h.2];done)
   |(rw[ZX (fun a b hh=>ZX ih hh) h];done)
   |rw[ho h]
def eqA:A→A→Bool
 | .c a,.c b=>eqD 20 a b
 | .ag a,.ag b=>eqL (eqD 20) a b
 |_,_=>false
theorem mn (a b:A) (h:eqA a b=true):a=b:=by
 unfold eqA at h;split at h
 ·rw[IT _ _ _ h]
 ·rw[ZX (IT 20) h]
 ·simp at h
end Eng
end
section
namespace Eng
open Go Go.Proofs
def W (acc w:Nat):Nat:=acc*4722366482869645213696+w
def tU:IntKind→Nat
 | .u8=>0| .u16=>1| .u32=>2| .u64=>3| .i8=>4| .i16=>5| .i32=>6| .i64=>7
def mo (acc:Nat):Int→Nat
 | .ofNat n=>W (W acc 0) n
 | .negSucc n=>W (W acc 1) n
def dE {α:Type} (e:Nat→α→Nat) (acc:Nat) (l:List α):Nat:=l.foldl e (W acc l.length)
def mp:Nat→Nat→D→Nat
 |0,acc,_=>W acc 99
 |_+1,acc,.undef=>W acc 0
 |_+1,acc,.bool b=>W (W acc 1) (match b with|true=>1|false=>0)
 |_+1,acc,.int k n=>mo (W (W acc 2) (tU k)) n
 |_+1,acc,.str s=>dE (fun a (b:UInt8)=>W a b.toNat) (W acc 3) s
 |n+1,acc,.sl es=>dE (dE (mp n)) (W acc 4) es
 |_+1,acc,.ifc b=>W (W acc 5) (match b with|true=>1|false=>0)
 |_+1,acc,.nilP=>W acc 6
 |_+1,acc,.fn f=>W (W acc 7) f
 |n+1,acc,.ptr cs=>dE (mp n) (W acc 8) cs
 |n+1,acc,.clo f ps=>dE (mp n) (W (W acc 9) f) ps
def encA (acc:Nat):A→Nat
 | .c d=>mp 20 (W acc 0) d
 | .ag cs=>dE (mp 20) (W acc 1) cs
def keyA (al:List A):Nat:=dE encA (W 1 2) al%2305843009213693951%99991
abbrev qm:=Nat×Nat×List A×List A
def Mt (f key:Nat) (al:List A):List qm→Option (List A)
 |[]=>none
 |(f0,k0,al0,rs0)::r=>match hP f f0 with
  |true=>match hP key k0 with
   |true=>match eqL eqA al al0 with
    |true=>some rs0
    |false=>Mt f key al r
   |false=>Mt f key al r
  |false=>Mt f key al r
def R2 (C:Cx):List qm→Prop
 |[]=>True
 |(f0,_,al0,rs0)::r=>qc C f0 al0 rs0∧R2 C r
def hasF (f:Nat):List qm→Bool
 |[]=>false
 |(f0,_)::r=>match hP f f0 with
  |true=>true
  |false=>hasF f r
def fb (ents:List qm) (tab:Nat→List A→Option (List A)) (f:Nat) (al:List A):Option (List A):=
 match hasF f ents with
 |true=>match keyA al with
  |0=>tab f al
  |k+1=>match Mt f (k+1) al ents with
   |some rs=>some rs
   |none=>tab f al
 |false=>tab f al
theorem Jx {C:Cx} {f key:Nat} {al rs:List A}:∀{ents:List qm},R2 C ents→Mt f key al ents=some rs→qc C f al rs
 |[],_,h=>by simp[Mt]at h
 |(f0,k0,al0,rs0)::r,hg,h=>by
  obtain⟨h1,h2⟩:=hg;unfold Mt at h;split at h
  ·rename_i hf;split at h
   ·split at h
    ·rename_i ha;obtain rfl:=ho hf;obtain rfl:=ZX mn ha;simp only[j0]at h;subst h;exact h1
    ·exact Jx h2 h
   ·exact Jx h2 h
  ·exact Jx h2 h
theorem Mu {C:Cx} {ents:List qm} {tab:Nat→List A→Option (List A)} (h0:R2 C ents) (h:∀f al rs,tab f al=some rs→qc C f al rs) (f:Nat) (al rs:List A) (hh:fb ents tab f al=some rs):qc C f al rs:=by
 unfold fb at hh;split at hh
 ·split at hh
  ·exact h _ _ _ hh
  ·split at hh
   ·rename_i rs' hf;simp only[j0]at hh;subst hh;exact Jx h0 hf
   ·exact h _ _ _ hh
 ·exact h _ _ _ hh
end Eng
end
