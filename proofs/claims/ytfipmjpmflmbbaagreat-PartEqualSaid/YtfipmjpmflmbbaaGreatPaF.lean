/- Drawings as plain data: their texts, and what is read back from a line. -/
import Derived.Test.YtfipmjpmflmbbaaGreatPaE
import Derived.Test.YtfipmjpmflmbbaaGreatPaD
import Derived.Test.YtfipmjpmflmbbaaGreatPaA
import Derived.Test.YtfipmjpmflmbbaaGreatPaC
import Derived.KernelRfl
open Bool renaming and_eq_true→Aw, eq_iff_iff→Bx, true_and→Dd, false_and→F0
open Eng.A renaming c→F2, ag→Hu
open Eng.D renaming int→Hv, sl→Hx, str→Hy, bool→I2
open Eng.D.int renaming injEq→I3
open Eng.Limbs renaming nil→J3, cons→J4
open Go.IntKind renaming wrap→J7
open Int renaming toNat→J8, ofNat→J9, ofNat_eq_natCast→M2, tmod→M3, toNat_natCast→No, tdiv→Pl, tdiv_eq_ediv_of_nonneg→Ts, mul_pos→T1
open List renaming take→U3, drop→V1, length→cH, length_take→cL, take_succ_eq_append_getElem→dn, take_of_length_le→el, drop_eq_nil_of_le→en, getElem_mem→ey, mem_singleton→ez, take_length→e7, length_cons→eH, length_drop→fg, take_append_of_le_length→ft, drop_append_of_le_length→fx, map_append→fz, length_map→fR, replicate→fS, drop_eq_getElem_cons→ga, map_cons→gb, getElem?_eq_getElem→gm, drop_of_length_le→gp, length_append→gq, append_assoc→gr, all_eq_true→gz, nil_append→g3, mem_append→g4, drop_zero→g5, map_nil→g7
open List.cons renaming injEq→g8
open Nat renaming mod_eq_of_lt→ho, mul_comm→hr, mul_le_mul_right→h9, lt_of_lt_of_le→hC, zero_le→hE, min_eq_left→hG, mul_le_mul_left→hH, mod_lt→hK, eq_of_beq_eq_true→hL, div_lt_iff_lt_mul→hM, lt_of_le_of_lt→hP, blt_eq→hQ, pow_succ→hR, mul_lt_mul_of_pos_right→hS, blt→hT, pow_le_pow_right→hW, le_sub_one_of_lt→hX, eq_zero_or_pos→hY, gcd→ia, div_eq_of_lt→ib, mul_le_mul→ic, mul_assoc→ie, beq→im, add_zero→it, one_mul→iz, mul_one→j0, mul_add→j1, le_refl→j2, add_mul→j3
open Option.some renaming injEq→j4, inj→j5
open Prod renaming fst→ks, snd→ky
open Rat renaming num_divInt_den→k0, divInt→k1, divInt_add_divInt→k2, intCast_add→k3
set_option maxRecDepth 1000000
section
namespace Eng
open Go
end Eng
end
section
namespace Eng
open Go
structure Ly where
 name:List UInt8
 kind:Int
 depth:Int
structure En where
 kind:Int
 layer:List UInt8
 pts:List V2
 rad:Rat
def UL (w:List UInt8):Bool:=decide (w.length≤24)&&(w.all nmc&&match w with|[]=>false|c::_=>ltr c)
end Eng
end
section
namespace Eng
open Go
end Eng
end
section
namespace Eng
open Go
end Eng
end
section
namespace Eng
open Go
end Eng
end
section
namespace Eng
open Go
end Eng
end
section
namespace Eng
open Go
end Eng
end
section
namespace Eng
open Go
end Eng
end
section
namespace Eng
open Go
theorem Oo {s:List UInt8} {i:Nat} (h:i<s.length):s.drop i=nth 0 s i::s.drop (i+1):=by
 induction s generalizing i with
 |nil=>simp at h
 |cons c s ih=>
  match i with
  |0=>rfl
  |i+1=>simp only[eH]at h;exact ih (by omega)
end Eng
end
section
namespace Eng
open Go
theorem Cz {p:UInt8→Bool} {s:List UInt8} {i:Nat} (h:i<s.length) (hp:p (nth 0 s i)=true):G9 p (s.drop i)=G9 p (s.drop (i+1))+1:=by
 rw[Oo h,G9,hp]
theorem UM {p:UInt8→Bool} {s:List UInt8} {i:Nat} (h:s.length≤i∨p (nth 0 s i)=false):G9 p (s.drop i)=0:=by
 by_cases hi:s.length≤i
 ·rw[en hi];rfl
 ·rw[Oo (by omega),G9];rcases h with h|h
  ·omega
  ·rw[h]
theorem Oq {p:UInt8→Bool}:∀{s:List UInt8},G9 p s=s.length↔s.all p=true
 |[]=>by simp[G9]
 |c::s=>by
  have ih:=Oq (p:=p) (s:=s);rw[G9,List.all_cons,eH];cases hp:p c with
  |false=>simp
  |true=>simp[ih]
theorem PZ (w:List UInt8):UL w=(!w.isEmpty&&(decide (w.length≤24)&&(ltr (nth 0 w 0)&&decide (G9 nmc w=w.length)))):=by
 unfold UL
 match w with
 |[]=>rfl
 |c::t=>
  have e:nth 0 (c::t) 0=c:=rfl;rw[e];have ha:decide (G9 nmc (c::t)=(c::t).length)=(c::t).all nmc:=by rw[Bx];simp only[decide_eq_true_eq];exact Oq
  rw[ha];simp only[List.isEmpty_cons,Bool.not_false,Dd];cases(c::t).all nmc<;>cases ltr c<;>rfl
end Eng
end
section
namespace Eng
open Go Go.Proofs
set_option maxRecDepth 100000
theorem VH (c:UInt8):qe CC 89 [.c (.int .u8 c.toNat)] [.c (.bool (ltr c))]:=by
 refine qw (anns:=an0) mixedT Tryz.func89 ?_;rw[PX];unfold ltr;have e1:(decide ((c.toNat:Int)≥97))=decide (97≤c.toNat):=decide_eq_decide.2 (by omega);have e2:(decide ((c.toNat:Int)≤122))=decide (c.toNat≤122):=decide_eq_decide.2 (by omega);have e3:(decide ((c.toNat:Int)≥65))=decide (65≤c.toNat):=decide_eq_decide.2 (by omega);have e4:(decide ((c.toNat:Int)≤90))=decide (c.toNat≤90):=decide_eq_decide.2 (by omega);rw[e1,e2,e3,e4];cases decide (97≤c.toNat)<;>cases decide (c.toNat≤122)<;>cases decide (65≤c.toNat)<;>cases decide (c.toNat≤90)<;>rfl
theorem C1 (c:UInt8):qe CC 154 [.c (.int .u8 c.toNat)] [.c (.bool (isD c))]:=by
 refine qw (anns:=an0) mixedT Tryz.func154 ?_;rw[Cy];unfold isD;have e1:(decide ((c.toNat:Int)≥48))=decide (48≤c.toNat):=decide_eq_decide.2 (by omega);have e2:(decide ((c.toNat:Int)≤57))=decide (c.toNat≤57):=decide_eq_decide.2 (by omega);rw[e1,e2];cases decide (48≤c.toNat)<;>cases decide (c.toNat≤57)<;>rfl
theorem tW (a:UInt8) (n:Nat) (hn:n<256):((a.toNat:Int)==(n:Int))=decide (a=UInt8.ofNat n):=by
 rw[Bx];simp only[beq_iff_eq,decide_eq_true_eq];constructor
 ·intro h;have:a.toNat=n:=by omega
  rw[←this];simp
 ·rintro rfl;simp[UInt8.toNat_ofNat'];omega
theorem u8b (c:UInt8) (n:Nat) (hn:n<256):(((c.toNat:Nat):Int)==(n:Int))=decide (c=UInt8.ofNat n):=tW c n hn
theorem FT {s:List UInt8} (hs:s.length≤1073741824):qe CC 90 [.c (.str s)] [.c (.int .i64 ((G9 nmc s:Nat):Int))]:=by
 refine qw (anns:=fun _=>⟨[.slot 3 (.int .i64 0)],[],fun _ ds=>∃k:Nat,k≤s.length∧ds=[.int .i64 (k:Int)]∧G9 nmc s=k+G9 nmc (s.drop k),fun ds=>(s.length-toI (nth .undef ds 0)).toNat⟩) mixedT Tryz.func90 ?_;rw[FS];simp only[M2];refine⟨⟨0,by omega,rfl,by simp⟩,?_⟩;rintro n ⟨k,hk,he,hl⟩;simp only[g8,I3,true_and,and_true]at he;subst he;refine brd (fun h=>?_) (fun h=>?_)
 ·have hkl:k<s.length:=by omega
  rw[No];have a3:nmc (nth 0 s k)=true→(∃k':Nat,k'≤s.length∧[Hv .i64 (J7 .i64 ((k:Int)+1))]=[.int .i64 (k':Int)]∧G9 nmc s=k'+G9 nmc (s.drop k'))∧(s.length-toI (nth .undef [Hv .i64 (J7 .i64 ((k:Int)+1))] 0)).toNat<(s.length-toI (nth .undef [Hv .i64 (k:Int)] 0)).toNat:=fun hc=>by
   have hw:J7 .i64 ((k:Int)+1)=((k+1:Nat):Int):=by rw[zJ];omega
   rw[hw];refine⟨⟨k+1,by omega,rfl,?_⟩,by simp only[nth,toI];omega⟩;rw[hl,Cz hkl hc];omega
  have hb:(0:Int)≤(k:Int)∧(k:Int)<(s.length:Int):=⟨by omega,by omega⟩;have a4:ltr (nth 0 s k)=true∨isD (nth 0 s k)=true∨nth 0 s k=95∨nth 0 s k=45→nmc (nth 0 s k)=true:=fun h=>by
   unfold nmc;rcases h with h|h|h|h
   ·rw[h];rfl
   ·rw[h];simp
   ·rw[h];decide
   ·rw[h];decide
  have e95:=u8b (nth 0 s k) 95 (by omega);have a5:=u8b (nth 0 s k) 45 (by omega);refine⟨hb,_,VH _,zQ (fun h1=>a3 (a4 (.inl h1))) (fun h1=>⟨hb,_,C1 _,zQ (fun h2=>a3 (a4 (.inr (.inl h2)))) (fun h2=>⟨hb,brb (fun h3=>a3 (a4 (.inr (.inr (.inl ?_))))) (fun h3=>⟨hb,brb (fun h4=>a3 (a4 (.inr (.inr (.inr ?_))))) (fun h4=>?_)⟩)⟩)⟩)⟩
  ·rw[show(95:Int)=((95:Nat):Int)from rfl,e95]at h3;exact of_decide_eq_true h3
  ·rw[show(45:Int)=((45:Nat):Int)from rfl,a5]at h4;exact of_decide_eq_true h4
  ·rw[show(95:Int)=((95:Nat):Int)from rfl,e95]at h3;rw[show(45:Int)=((45:Nat):Int)from rfl,a5]at h4;have h3:¬nth 0 s k=95:=of_decide_eq_false h3;have h4:¬nth 0 s k=45:=of_decide_eq_false h4;have hno:nmc (nth 0 s k)=false:=by unfold nmc;rw[h1,h2,decide_eq_false h3,decide_eq_false h4];rfl
   rw[hl,UM (.inr hno)];simp
 ·rw[hl,UM (.inl (by omega))];simp
theorem Ra {s:List UInt8} (hs:s.length≤1073741824):qe CC 49 [.c (.str s)] [.c (.bool (UL s))]:=by
 refine qw (anns:=an0) mixedT Tryz.func49 ?_;rw[PY,PZ];simp only[M2];have hz:J8 0=0:=rfl;refine brd (fun h=>brd (fun h2=>⟨⟨by omega,by omega⟩,_,by rw[hz];exact VH _,zQ (fun h3=>⟨_,FT hs,?_⟩) (fun h3=>?_)⟩) (fun h2=>?_)) (fun h=>?_)
 ·have a3:s.isEmpty=false:=by cases s with|nil=>simp at h|cons _ _=>rfl
  rw[a3,decide_eq_true (by omega:s.length≤24),h3];have:(((G9 nmc s:Nat):Int)==(s.length:Int))=decide (G9 nmc s=s.length):=by rw[Bx];simp only[beq_iff_eq,decide_eq_true_eq];omega
  rw[this];rfl
 ·have a3:s.isEmpty=false:=by cases s with|nil=>simp at h|cons _ _=>rfl
  rw[a3,decide_eq_true (by omega:s.length≤24),h3];rfl
 ·have a3:s.isEmpty=false:=by cases s with|nil=>simp at h|cons _ _=>rfl
  rw[a3,decide_eq_false (by omega:¬s.length≤24)];rfl
 ·have a3:s.isEmpty=true:=by cases s with|nil=>rfl|cons _ _=>simp only[eH]at h;omega
  rw[a3];rfl
end Eng
end
section
namespace Eng
open Go Go.Proofs Rl
set_option maxRecDepth 100000
def FU (n:Nat) (P:Nat→Prop) (_ ds:List D):Prop:=∃k:Nat,k≤n∧ds=[.int .i64 (k:Int)]∧P k
theorem Q9 {l m:List Cu} (hl:∀c∈l,Gc c) (hm:∀c∈m,Gc c) (hn:l.length≤6000000):qe CC 33 [.ag [.sl (kUs l)],.ag [.sl (kUs m)]] [.c (.bool (ZN l m))]:=by
 have hv:=LX (qe CC) (FU l.length fun k=>ZN (l.drop k) (m.drop k)=ZN l m) (zP 10000000) (kUs l) (kUs m) (· =[.c (.bool (ZN l m))]);refine gOk Tryz.func33 hv ?_;clear hv;rw[qu,qu];have ne:∀a b:List Cu,a.length≠b.length→ZN a b=false:=by
  intro a
  induction a with
  |nil=>intro b h;cases b with
   |nil=>simp at h
   |cons _ _=>rfl
  |cons c r ih=>intro b h;cases b with
   |nil=>rfl
   |cons d s=>simp only[eH,ne_eq,Nat.add_right_cancel_iff]at h;simp only[ZN,ih s h,Bool.and_false]
 refine brb (fun h=>?_) (fun h=>?_)
 ·have h:l.length≠m.length:=fun e=>by rw[e]at h;simp at h
  rw[ne l m h]
 ·have hlen:l.length=m.length:=by
   have:¬((J9 l.length) !=(J9 m.length))=true:=by rw[h];simp
   simp only[bne_iff_ne,ne_eq,Decidable.not_not,M2]at this;omega
  refine⟨⟨0,hE _,rfl,rfl⟩,?_⟩;rintro _ ⟨k,hk,he,hd⟩;simp only[g8,I3,and_true]at he;rw[he.2];refine brd (fun h3=>?_) (fun h3=>?_)
  ·have a3:k<l.length:=by simp only[M2]at h3;omega
   have a4:k<m.length:=by omega
   have ok1:=xj a3;have ok2:=xj a4;refine⟨ok1,_,xf a3,ok2,_,xf a4,_,KL (hl _ (ey a3)) (hm _ (ey a4)),?_⟩;rw[ga a3,ga a4]at hd;cases hb:eqC l[k] m[k]with
   |false=>refine brb (fun _=>?_) (fun h=>by cases h);rw[←hd];simp only[ZN,hb,F0]
   |true=>refine brb (fun h=>by cases h) (fun _=>?_);refine⟨⟨k+1,a3,by rw[wI];rfl,?_⟩,qt⟩;rw[←hd];simp only[ZN,hb,Dd]
  ·have a3:k=l.length:=by simp only[M2]at h3;omega
   rw[a3,gp (j2 _),gp (by omega)]at hd;rw[←hd];rfl
theorem Md {l:List Cu} (hl:∀c∈l,Gc c) (hn:l.length≤6000000):qe CC 50 [.ag [.sl (kUs l)]] [.c (.bool (Nt l))]:=by
 refine wpG Tryz.func50 ((LW ..).mpr ?_);refine⟨_,_,Zw hl hn,?_⟩;unfold Nt;refine brb (fun h=>?_) (fun h=>?_)
 ·have h:(wv l).2=0:=by simpa using h
  rw[decide_eq_true h,Dd];exact⟨_,Q9 hl (fun c hc=>((Gm hl).1 c hc).1.1) hn,rfl⟩
 ·have h:¬(wv l).2=0:=by simpa using h
  rw[decide_eq_false h,F0]
structure Ft where
 nm:List UInt8
 kd:Int
 dp:Int
 sh:List Cu
def kFt (f:Ft):List D:=[.str f.nm,.int .i64 f.kd,.int .i64 f.dp,.sl (kUs f.sh)]
theorem zk (f:Ft):(kFt f).length=4:=rfl
def Ft.ok (f:Ft):Prop:=f.nm.length≤1073741824∧(∀c∈f.sh,Mo c)∧f.sh.length≤400
noncomputable def C2:List Cu→Bool
 |[a,b]=>a.arc&&(b.arc&&(Rr a.ci b.ci&&ZN [a,b] (Gw a.ci).1))
 |_=>false
theorem C3 {l:List Cu} {k:Nat} (h:k<l.length):cut (nth [] (kUs l) k) 0 1 [.bool l[k].arc]:=by
 rw[y5 h,←yx];exact⟨rfl,by show 0+1≤66;omega⟩
theorem C4 {l:List Cu} {k:Nat} (h:k<l.length) (ha:l[k].arc=true):cut (nth [] (kUs l) k) 13 12 (kC l[k].ci []):=by
 rw[y5 h];have e:kU l[k]=⟨true,l[k].jk,l[k].jk,l[k].jk,q4 l[k].ci.x,q4 l[k].ci.y,q4 l[k].ci.q,l[k].cw,kP l[k].fr,kP l[k].tt⟩:=by unfold kU;rw[ha]
 rw[e];exact⟨rfl,by show 13+12≤66;omega⟩
theorem Rb {l:List Cu} (hl:∀c∈l,Gd c):qe CC 51 [.ag [.sl (kUs l)]] [.c (.bool (C2 l))]:=by
 refine wpG Tryz.func51 ((PV ..).mpr ?_);rw[qu];refine brb (fun h=>?_) (fun h=>?_)
 ·have h:l.length≠2:=fun e=>by rw[e]at h;simp at h
  have:C2 l=false:=by
   unfold C2;split
   ·simp at h
   ·rfl
  rw[this]
 ·have a3:l.length=2:=by
   have:¬((J9 l.length) !=(2:Int))=true:=by rw[h];simp
   simp only[bne_iff_ne,ne_eq,Decidable.not_not,M2]at this;omega
  clear h;obtain⟨a,b,rfl⟩:∃a b,l=[a,b]:=by
   cases l with
   |nil=>simp at a3
   |cons a r=>cases r with
    |nil=>simp at a3
    |cons b t=>cases t with
     |nil=>exact⟨a,b,rfl⟩
     |cons _ _=>simp at a3
  have h0:0<[a,b].length:=by simp
  have h1:1<[a,b].length:=by simp
  have ha:=hl a (by simp);have hb:=hl b (by simp);have a4:(0:Int)≤(0:Int)∧(0:Int)<(J9 [a,b].length)∧cH (nth [] (kUs [a,b]) 0)=66:=⟨by omega,by simp,rfl⟩;have a5:(0:Int)≤(1:Int)∧(1:Int)<(J9 [a,b].length)∧cH (nth [] (kUs [a,b]) 1)=66:=⟨by omega,by simp,rfl⟩;have ed:C2 [a,b]=(a.arc&&(b.arc&&(Rr a.ci b.ci&&ZN [a,b] (Gw a.ci).1))):=rfl;rw[ed];refine⟨a4,_,C3 h0,?_⟩;show br (toB (I2 !a.arc)) _ _;cases ea:a.arc with
  |false=>exact brb (fun _=>rfl) (fun h=>by cases h)
  |true=>
   refine brb (fun h=>by cases h) (fun _=>⟨a5,_,C3 h1,?_⟩);show br (toB (I2 !b.arc)) _ _;cases eb:b.arc with
   |false=>exact brb (fun _=>rfl) (fun h=>by cases h)
   |true=>
    obtain⟨ca,qa⟩:=ha.circ ea;obtain⟨cb,qb⟩:=hb.circ eb;refine brb (fun h=>by cases h) (fun _=>⟨a4,_,_,_,C4 h0 ea,a5,_,_,_,C4 h1 eb,_,yv ca cb,?_⟩);show br (toB (I2 !Rr a.ci b.ci)) _ _;cases es:Rr a.ci b.ci with
    |false=>exact brb (fun _=>rfl) (fun h=>by cases h)
    |true=>refine brb (fun h=>by cases h) (fun _=>⟨a4,_,_,_,C4 h0 ea,_,_,VG ca qa,_,Q9 (fun c hc=>(hl c hc).1) (fun c hc=>((On ca qa).1 c hc).1.1) (by simp),rfl⟩)
noncomputable def XG (t:Int) (f:Ft):Bool:=UL f.nm&&(Nt f.sh&&(!f.sh.isEmpty&&(decide (1≤f.dp)&&(decide (f.dp≤t)&&
 (if f.kd=1 then true else if f.kd=3 then C2 f.sh else if f.kd=4 then decide (f.dp=t)else false)))))
theorem Me {f:Ft} {t:Int} (h:f.ok):qe CC 26 [.ag (kFt f),.c (.int .i64 t)] [.c (.bool (XG t f))]:=by
 obtain⟨hn,hm,hl⟩:=h;refine wpG Tryz.func26 ((LY ..).mpr ?_);unfold XG;refine⟨_,Ra hn,?_⟩;cases e1:UL f.nm with
 |false=>exact brb (fun _=>rfl) (fun h=>by cases h)
 |true=>
  refine brb (fun h=>by cases h) (fun _=>⟨_,Md (fun c hc=>(hm c hc).1.1) (by omega),?_⟩);cases e2:Nt f.sh with
  |false=>exact brb (fun _=>rfl) (fun h=>by cases h)
  |true=>
   refine brb (fun h=>by cases h) (fun _=>?_);rw[qu];refine brb (fun h=>?_) (fun h=>?_)
   ·have:f.sh.isEmpty=true:=by
     cases hs:f.sh with
     |nil=>rfl
     |cons _ _=>rw[hs]at h;simp at h;omega
    rw[this];rfl
   ·have:f.sh.isEmpty=false:=by
     cases hs:f.sh with
     |nil=>rw[hs]at h;simp at h
     |cons _ _=>rfl
    rw[this];refine brd (fun h3=>?_) (fun h3=>?_)
    ·rw[decide_eq_false (by omega:¬1≤f.dp)];rfl
    ·rw[decide_eq_true (by omega:1≤f.dp)];refine brd (fun h4=>?_) (fun h4=>?_)
     ·rw[decide_eq_false (by omega:¬f.dp≤t)];rfl
     ·rw[decide_eq_true (by omega:f.dp≤t)];refine brb (fun h5=>?_) (fun h5=>?_)
      ·rw[if_pos (by simpa using h5)];rfl
      ·rw[if_neg (by simpa using h5)];refine brb (fun h6=>?_) (fun h6=>?_)
       ·rw[if_pos (by simpa using h6)];exact⟨_,Rb (fun c hc=>(hm c hc).1),rfl⟩
       ·rw[if_neg (by simpa using h6)];refine brb (fun h7=>?_) (fun h7=>?_)
        ·rw[if_pos (by simpa using h7)];have:(f.dp==t)=decide (f.dp=t):=by rw[Bx];simp
         rw[this];rfl
        ·rw[if_neg (by simpa using h7)];rfl
end Eng
end
section
open Go Go.Proofs Eng
namespace Eng
theorem Mf (Gv:Nat→List A→List A→Prop) (I0:List D→List D→Prop) (M0:List D→Nat) (l0:List (List D)) (Q:List A→Prop):wpF CC Gv (fun _=>⟨[.slot 5 (.int .i64 0),.mix 4 [.dat (.int .i64 12),.own 97 4]],[],I0,M0⟩) Tryz.f6 [.c (.sl l0)] Q=(I0 [] [dI (0:Int),dI (12:Int),Hx []]∧∀(i i_1:Int) (es:List (List D)),I0 [] [dI i,dI i_1,Hx es]→bB (decide (i<(J9 l0.length))) (rO l0 i 6∧∃i_2 i_3 i_4 e1 i_5 i_6,cU l0 i 0 6 [Hv .u8 i_2,Hv .u8 i_3,Hv .u8 i_4,Hx e1,Hv .i8 i_5,Hv .i8 i_6]∧(5:Int)≠(0:Int)∧(0≤M3 i_3 (5:Int)∧M3 i_3 (5:Int)<(5:Int))∧∃s,cut (nth [] [[Hy [97]],[Hy [98]],[Hy [99,45,49]],[Hy [100]],[Hy [57]]] (J8 (M3 i_3 (5:Int)))) 0 1 [Hy s]∧(5:Int)≠(0:Int)∧(0≤M3 i_2 (5:Int)∧M3 i_2 (5:Int)<(5:Int))∧∃i_7,cut (nth [] [[dI (1:Int)],[dI (3:Int)],[dI (4:Int)],[dI (1:Int)],[dI (2:Int)]] (J8 (M3 i_2 (5:Int)))) 0 1 [dI i_7]∧(6:Int)≠(0:Int)∧bB (i_7==3) (∃x,Gv 21 [aI (J7 .i64 i_5)] [aR x]∧∃x1,Gv 21 [aI (J7 .i64 i_6)] [aR x1]∧∃x2,Gv 21 [aI (J7 .i64 (J7 .i64 i_4+1))] [aR x2]∧∃e2 i_8,Gv 20 [aT x x1 x2] [Hu [Hx e2],aI i_8]∧bB (i_7==4) ((6:Int)≠(0:Int)∧(2:Int)≠(0:Int)∧(Jz (es.length+1)∧lens 4 [[Hy s,dI i_7,dI (J7 .i64 (12+J7 .i64 (M3 (J7 .u8 (Pl i_4 (6:Int))) (2:Int)))),Hx e2]])∧I0 [] [dI (J7 .i64 (i+1)),dI i_1,Hx (es++[[Hy s,dI i_7,dI (J7 .i64 (12+J7 .i64 (M3 (J7 .u8 (Pl i_4 (6:Int))) (2:Int)))),Hx e2]])]∧M0 [dI (J7 .i64 (i+1)),dI i_1,Hx (es++[[Hy s,dI i_7,dI (J7 .i64 (12+J7 .i64 (M3 (J7 .u8 (Pl i_4 (6:Int))) (2:Int)))),Hx e2]])]<M0 [dI i,dI i_1,Hx es]) ((Jz (es.length+1)∧lens 4 [[Hy s,dI i_7,dI (J7 .i64 (3*J7 .i64 (M3 i_4 (6:Int)))),Hx e2]])∧I0 [] [dI (J7 .i64 (i+1)),dI i_1,Hx (es++[[Hy s,dI i_7,dI (J7 .i64 (3*J7 .i64 (M3 i_4 (6:Int)))),Hx e2]])]∧M0 [dI (J7 .i64 (i+1)),dI i_1,Hx (es++[[Hy s,dI i_7,dI (J7 .i64 (3*J7 .i64 (M3 i_4 (6:Int)))),Hx e2]])]<M0 [dI i,dI i_1,Hx es])) (∃e2 b,Gv 22 [aL e1,aI (6:Int)] [Hu [Hx e2],aB b]∧bB (!b) (Q [Hu [dI (0:Int),Hx []],aB false]) (bB (decide ((J9 l0.length)>4)) (Q [Hu [dI (0:Int),Hx []],aB false]) (bB (i_7==4) ((6:Int)≠(0:Int)∧(2:Int)≠(0:Int)∧(Jz (es.length+1)∧lens 4 [[Hy s,dI i_7,dI (J7 .i64 (12+J7 .i64 (M3 (J7 .u8 (Pl i_4 (6:Int))) (2:Int)))),Hx e2]])∧I0 [] [dI (J7 .i64 (i+1)),dI i_1,Hx (es++[[Hy s,dI i_7,dI (J7 .i64 (12+J7 .i64 (M3 (J7 .u8 (Pl i_4 (6:Int))) (2:Int)))),Hx e2]])]∧M0 [dI (J7 .i64 (i+1)),dI i_1,Hx (es++[[Hy s,dI i_7,dI (J7 .i64 (12+J7 .i64 (M3 (J7 .u8 (Pl i_4 (6:Int))) (2:Int)))),Hx e2]])]<M0 [dI i,dI i_1,Hx es]) ((Jz (es.length+1)∧lens 4 [[Hy s,dI i_7,dI (J7 .i64 (3*J7 .i64 (M3 i_4 (6:Int)))),Hx e2]])∧I0 [] [dI (J7 .i64 (i+1)),dI i_1,Hx (es++[[Hy s,dI i_7,dI (J7 .i64 (3*J7 .i64 (M3 i_4 (6:Int)))),Hx e2]])]∧M0 [dI (J7 .i64 (i+1)),dI i_1,Hx (es++[[Hy s,dI i_7,dI (J7 .i64 (3*J7 .i64 (M3 i_4 (6:Int)))),Hx e2]])]<M0 [dI i,dI i_1,Hx es]))))) (Q [Hu [dI i_1,Hx es],aB (decide ((J9 l0.length)≤4))])):=by kernel_rfl
end Eng
end
section
namespace Eng
open Go Go.Proofs Rl
set_option maxRecDepth 100000
def Mg (fs:List Ft):Nat:=fs.countP fun f=>decide (f.kd=4)
noncomputable def dh (t:Int) (fs:List Ft):Int:=
 if 40<fs.length then 3 else if t<1∨10000000<t then 1 else if fs.all (XG t)=false then 1 else
 if 1<Mg fs then 1 else if(fs.map Ft.nm).Nodup then 0 else 5
def ftA (t:Int) (fs:List Ft):A:= .ag [.int .i64 t,.sl (fs.map kFt)]
theorem Rc {fs:List Ft} {k:Nat} (h:k<fs.length):Mg (fs.take (k+1))=Mg (fs.take k)+(if fs[k].kd=4 then 1 else 0):=by
 unfold Mg;rw[dn h,List.countP_append];by_cases e:fs[k].kd=4<;>simp[e]
theorem FV (fs:List Ft):Mg fs≤fs.length:=List.countP_le_length
def vpI0 (t:Int) (fs:List Ft) (_ ds:List D):Prop:=∃k:Nat,k≤fs.length∧ds=[.int .i64 (k:Int),.int .i64 (Mg (fs.take k):Int)]∧(fs.take k).all (XG t)=true
def vpI1 (fs:List Ft) (_ ds:List D):Prop:=∃k:Nat,k≤fs.length∧ds=[.int .i64 (k:Int)]∧((fs.take k).map Ft.nm).Nodup
def vpI2 (fs:List Ft) (gs ds:List D):Prop:=∃j:Nat,ds=[.int .i64 (j:Int)]∧j≤gK gs∧∀f,fs[gK gs]? =some f→f.nm∉(fs.take j).map Ft.nm
theorem C5 {l:List Ft} {k:Nat} (h:k<l.length):cut (nth [] (l.map kFt) (J8 (k:Int))) 0 1 [.str l[k].nm]:=by
 rw[No,y7 kFt h];exact⟨rfl,by show 0+1≤4;omega⟩
theorem lY {l:List Ft} {k:Nat} (h:k<l.length):cut (nth [] (l.map kFt) (J8 (k:Int))) 1 1 [.int .i64 l[k].kd]:=by
 rw[No,y7 kFt h];exact⟨rfl,by show 1+1≤4;omega⟩
theorem lZ {l:List Ft} {k:Nat} (h:k<l.length):cut (nth [] (l.map kFt) (J8 (k:Int))) 2 1 [.int .i64 l[k].dp]:=by
 rw[No,y7 kFt h];exact⟨rfl,by show 2+1≤4;omega⟩
theorem Mh {t:Int} {fs:List Ft} (h:∀f∈fs,f.ok):qe CC 8 [ftA t fs] [.c (.int .i64 (dh t fs))]:=by
 have hv:=LZ (qe CC) (vpI0 t fs) (zP 10000000) (vpI1 fs) (zP 10000000) (vpI2 fs) (zP 10000000) t (fs.map kFt) (· =[.c (.int .i64 (dh t fs))]);refine gOk Tryz.func8 hv ?_;clear hv;rw[qY];refine brd (fun h1=>?_) (fun h1=>?_)
 ·have:40<fs.length:=by simp only[M2]at h1;omega
  unfold dh;rw[if_pos this]
 have a9:¬40<fs.length:=by simp only[M2]at h1;omega
 refine brd (fun h2=>?_) (fun h2=>?_)
 ·unfold dh;rw[if_neg a9,if_pos (.inl h2)]
 refine brd (fun h3=>?_) (fun h3=>?_)
 ·unfold dh;rw[if_neg a9,if_pos (.inr (by omega))]
 have ht:¬(t<1∨10000000<t):=by omega
 have e0:dh t fs=if fs.all (XG t)=false then 1 else if 1<Mg fs then 1 else if(fs.map Ft.nm).Nodup then 0 else 5:=by unfold dh;rw[if_neg a9,if_neg ht]
 refine⟨⟨0,hE _,rfl,rfl⟩,?_⟩;rintro _ _ ⟨k,hk,he,a5⟩;simp only[g8,I3,and_true,true_and]at he;obtain⟨rfl,rfl⟩:=he;have hpl:=FV (fs.take k);rw[cL]at hpl;refine brd (fun h4=>?_) (fun h4=>?_)
 ·have a3:k<fs.length:=by simp only[M2]at h4;omega
  have ok:=vW zk a3;refine⟨ok,_,_,_,_,y8 zk a3,_,Me (h _ (ey a3)),?_⟩;have ps:=Rc a3;cases hb:XG t fs[k]with
  |false=>
   refine brb (fun _=>?_) (fun h=>by cases h);have:fs.all (XG t)=false:=by
    cases hh:fs.all (XG t)with
    |false=>rfl
    |true=>rw[gz.1 hh _ (ey a3)]at hb;cases hb
   rw[e0,if_pos this]
  |true=>
   refine brb (fun h=>by cases h) (fun _=>⟨ok,_,lY a3,?_⟩);have ha:(fs.take (k+1)).all (XG t)=true:=vK a5 a3 hb;refine brb (fun h5=>?_) (fun h5=>?_)
   ·have h5:fs[k].kd=4:=by simpa using h5
    rw[if_pos h5]at ps;refine⟨⟨k+1,a3,?_,ha⟩,qt⟩;rw[wI,wI,ps];rfl
   ·have h5:¬fs[k].kd=4:=by simpa using h5
    rw[if_neg h5]at ps;refine⟨⟨k+1,a3,?_,ha⟩,qt⟩;rw[wI,ps];rfl
 ·have a3:k=fs.length:=by simp only[M2]at h4;omega
  rw[a3,e7]at a5 ⊢;rw[if_neg (by rw[a5];simp)]at e0;refine brd (fun h5=>?_) (fun h5=>?_)
  ·rw[e0,if_pos (by omega)]
  rw[if_neg (by omega)]at e0;refine⟨⟨0,hE _,rfl,by simp⟩,?_⟩;rintro _ ⟨i,hi,he,ad⟩;simp only[g8,I3,and_true,true_and]at he;subst he;refine brd (fun h6=>?_) (fun h6=>?_)
  ·have a4:i<fs.length:=by simp only[M2]at h6;omega
   have ag:fs[i]? =some fs[i]:=gm a4;have oki:=vW zk a4;refine⟨⟨0,rfl,hE _,fun f _=>by simp⟩,?_⟩;rintro _ ⟨j,he,hj,a8⟩;simp only[g8,I3,and_true,true_and]at he;subst he;have hj:j≤i:=hj;have a8:fs[i].nm∉(fs.take j).map Ft.nm:=a8 _ ag;refine brd (fun h7=>?_) (fun h7=>?_)
   ·have a6:j<i:=by omega
    have a7:j<fs.length:=by omega
    have okj:=vW zk a7;refine⟨oki,_,C5 a4,okj,_,C5 a7,brb (fun h8=>?_) (fun h8=>?_)⟩
    ·have h8:fs[i].nm=fs[j].nm:=by simpa using h8
     rw[e0,if_neg];intro hn;have:=List.Nodup.sublist (List.Sublist.refl _) hn;rw[List.nodup_iff_pairwise_ne,List.pairwise_iff_getElem]at this;have:=this j i (by rw[fR];exact a7) (by rw[fR];exact a4) a6;simp only[List.getElem_map]at this;exact this h8.symm
    ·have h8:¬fs[i].nm=fs[j].nm:=by simpa using h8
     refine⟨⟨j+1,by rw[wI];rfl,a6,fun f hf=>?_⟩,qt⟩;have hf:fs[i]? =some f:=hf;rw[ag]at hf;obtain rfl:=j5 hf;rw[dn a7,fz,g4,not_or];exact⟨a8,by simpa using h8⟩
   ·have a6:j=i:=by omega
    subst a6;refine⟨⟨j+1,a4,by rw[wI];rfl,?_⟩,qt⟩;rw[dn a4,fz,List.nodup_append];refine⟨ad,by simp,?_⟩;intro a ha b hb e;simp only[gb,g7,ez]at hb;rw[e,hb]at ha;exact a8 ha
  ·have a4:i=fs.length:=by simp only[M2]at h6;omega
   rw[a4,e7]at ad;rw[e0,if_pos ad]
def Mi (fs:List Ft) (s:List UInt8):Option Nat:=fs.findIdx? fun f=>decide (f.nm=s)
def fdI (fs:List Ft) (s:List UInt8) (_ ds:List D):Prop:=∃k:Nat,k≤fs.length∧ds=[.int .i64 (k:Int)]∧∀f∈fs.take k,¬f.nm=s
theorem VI {fs:List Ft} {s:List UInt8} {k:Nat} (h:k<fs.length) (h1:∀f∈fs.take k,¬f.nm=s) (h2:fs[k].nm=s):Mi fs s=some k:=by
 unfold Mi;rw[List.findIdx?_eq_some_iff_getElem];refine⟨h,by simpa using h2,fun j hj=>?_⟩;have:=h1 fs[j] (List.mem_take_iff_getElem.2 ⟨j,by omega,rfl⟩)
 simpa using this
theorem VJ {fs:List Ft} {s:List UInt8} (h1:∀f∈fs,¬f.nm=s):Mi fs s=none:=by
 unfold Mi;rw[List.findIdx?_eq_none_iff];intro f hf
 simpa using h1 f hf
def FW (fs:List Ft) (s:List UInt8):List A:=match Mi fs s with
 |some k=>[.c (.int .i64 (k:Int)),.c (.int .i64 0)]
 |none=>[.c (.int .i64 0),.c (.int .i64 4)]
theorem Rd {t:Int} {fs:List Ft} {s:List UInt8} (hn:fs.length≤1000000):qe CC 12 [ftA t fs,.c (.str s)] (FW fs s):=by
 have hv:=PW (qe CC) (fdI fs s) (zP 10000000) t (fs.map kFt) s (· =FW fs s);refine gOk Tryz.func12 hv ?_;clear hv;rw[qY];refine⟨⟨0,hE _,rfl,by simp⟩,?_⟩;rintro _ ⟨k,hk,he,a4⟩;simp only[g8,I3,and_true,true_and]at he;subst he;refine brd (fun h4=>?_) (fun h4=>?_)
 ·have a3:k<fs.length:=by simp only[M2]at h4;omega
  have ok:=vW zk a3;refine⟨ok,_,C5 a3,brb (fun h8=>?_) (fun h8=>?_)⟩
  ·have h8:fs[k].nm=s:=by simpa using h8
   unfold FW;rw[VI a3 a4 h8]
  ·have h8:¬fs[k].nm=s:=by simpa using h8
   refine⟨⟨k+1,a3,by rw[wI];rfl,fun f hf=>?_⟩,qt⟩;rw[dn a3]at hf;rcases g4.1 hf with hf|hf
   ·exact a4 f hf
   ·rw[ez.1 hf];exact h8
 ·have a3:k=fs.length:=by simp only[M2]at h4;omega
  rw[a3,e7]at a4;unfold FW;rw[VJ a4]
end Eng
end
section
namespace Eng
open Go Go.Proofs Rl
set_option maxRecDepth 100000
structure It where
 k:Nat
 n:Nat
 d:Nat
 sh:List Fm
 x:Int
 y:Int
def It.ok (i:It):Prop:=i.k<256∧i.n<256∧i.d<256∧(∀f∈i.sh,f.ok)∧sm8 i.x∧sm8 i.y
def kIt (i:It):List D:=[.int .u8 i.k,.int .u8 i.n,.int .u8 i.d,.sl (i.sh.map kFm),.int .i8 i.x,.int .i8 i.y]
theorem C6 (i:It):(kIt i).length=6:=rfl
def nmR (n:Nat):List UInt8:=match n with
 |0=>[97]
 |1=>[98]
 |2=>[99,45,49]
 |3=>[100]
 |_=>[57]
def kdR (n:Nat):Int:=match n with
 |0=>1
 |1=>3
 |2=>4
 |3=>1
 |_=>2
def dpR (k d:Nat):Int:=if kdR (k%5)=4 then 12+((d/6%2:Nat):Int)else 3*((d%6:Nat):Int)
def itC (i:It):Ci:=⟨i.x,i.y,(i.d:Int)+1⟩
noncomputable def itS (i:It):List Cu×Bool:=if kdR (i.k%5)=3 then((Gw (itC i)).1,true)else Qk i.sh 6
noncomputable def itF (i:It):Ft:=⟨nmR (i.n%5),kdR (i.k%5),dpR i.k i.d,(itS i).1⟩
theorem Iz {i:It} (h:i.ok):HC (itC i)∧0<(itC i).q:=by
 obtain⟨_,_,hd,_,hx,hy⟩:=h;have e:(10:Nat)^20=100000000000000000000:=by decide
 refine⟨⟨Hz.int (by rw[e];obtain⟨a,b⟩:=hx;omega),Hz.int (by rw[e];obtain⟨a,b⟩:=hy;omega),?_⟩,?_⟩
 ·show Hz 20 ((i.d:Int)+1:Rat);have:(((i.d:Int):Rat)+1)=(((i.d:Int)+1:Int):Rat):=by rw[k3];rfl
  rw[this];exact Hz.int (by rw[e];omega)
 ·show(0:Rat)<((i.d:Int):Rat)+1;have h1:(0:Rat)≤((i.d:Int):Rat):=by exact_mod_cast Int.natCast_nonneg i.d
  have h2:(0:Rat)<1:=by decide
  grind
theorem I4 {i:It} (h:i.ok):(itF i).ok:=by
 refine⟨?_,?_⟩
 ·show(nmR (i.n%5)).length≤1073741824;unfold nmR;split<;>simp
 ·show(∀c∈(itS i).1,Mo c)∧(itS i).1.length≤400;unfold itS;split
  ·obtain⟨h1,h2⟩:=Iz h;exact On h1 h2
  ·exact Cw h.2.2.2.1 6
theorem ma {n:Nat} (h:n<5):cut (nth [] [[Hy [97]],[Hy [98]],[Hy [99,45,49]],[Hy [100]],[Hy [57]]] n) 0 1 [Hy (nmR n)]:=by
 match n,h with
 |0,_|1,_|2,_|3,_|4,_=>exact⟨rfl,by decide⟩
theorem mb {n:Nat} (h:n<5):cut (nth [] [[Hv .i64 1],[Hv .i64 3],[Hv .i64 4],[Hv .i64 1],[Hv .i64 2]] n) 0 1 [Hv .i64 (kdR n)]:=by
 match n,h with
 |0,_|1,_|2,_|3,_|4,_=>exact⟨rfl,by decide⟩
noncomputable def Wd (n:Nat) (i:It):Bool:=decide (kdR (i.k%5)=3)||((Qk i.sh 6).2&&decide (n≤4))
noncomputable def We (l:List It):List A:=if l.all (Wd l.length)=true then [.ag [.int .i64 12,.sl (l.map fun i=>kFt (itF i))],.c (.bool (decide (l.length≤4)))]else [.ag [.int .i64 0,.sl []],.c (.bool false)]
def bdI (l:List It) (_ ds:List D):Prop:=∃k:Nat,k≤l.length∧ds=[.int .i64 (k:Int),.int .i64 12,.sl ((l.take k).map fun i=>kFt (itF i))]∧(l.take k).all (Wd l.length)=true
theorem Ot {n k:Nat} {r s:List D} (h:k<n:=by omega) (hn:n≤5000000000000:=by omega):zP n (.int .i64 (J7 .i64 ((k:Int)+1))::r)<zP n (.int .i64 (k:Int)::s):=by
 rw[YY,YY,wI];omega
theorem u8w {n:Int} (h1:0≤n) (h2:n<256):J7 .u8 n=n:=by
 simp[J7,IntKind.bits,IntKind.signed];omega
theorem tm {a b:Nat}:M3 (a:Int) (b:Int)=((a%b:Nat):Int):=by rw[←Int.ofNat_tmod]
theorem Wf {l:List It} (h:∀i∈l,i.ok) (hn:l.length≤3999999999999):qe CC 6 [.c (.sl (l.map kIt))] (We l):=by
 have hv:=Mf (qe CC) (bdI l) (zP 5000000000000) (l.map kIt) (· =We l);refine gOk Tryz.func6 hv ?_;clear hv;refine⟨⟨0,hE _,rfl,rfl⟩,?_⟩;rintro _ _ _ ⟨k,hk,he,a5⟩;simp only[g8,I3,D.sl.injEq,and_true,true_and]at he;obtain⟨rfl,rfl,rfl⟩:=he;rw[qY];refine brd (fun h4=>?_) (fun h4=>?_)
 ·have a3:k<l.length:=by simp only[M2]at h4;omega
  have ok:=vW C6 a3;have hi:=h _ (ey a3);have hio:=hi;obtain⟨ik,inn,idd,ish,ix,iy⟩:=hi;have t1:M3 (l[k].n:Int) 5=((l[k].n%5:Nat):Int):=tm (b:=5);have t2:M3 (l[k].k:Int) 5=((l[k].k%5:Nat):Int):=tm (b:=5);have t3:M3 (l[k].d:Int) 6=((l[k].d%6:Nat):Int):=tm (b:=6);have t4:Pl (l[k].d:Int) 6=((l[k].d/6:Nat):Int):=(Int.ofNat_tdiv _ _).symm;have t5:M3 ((l[k].d/6:Nat):Int) 2=((l[k].d/6%2:Nat):Int):=tm (b:=2);have w8:J7 .u8 ((l[k].d/6:Nat):Int)=((l[k].d/6:Nat):Int):=u8w (by omega) (by omega);have m5:=hK l[k].n (show 5>0 by omega);have k5:=hK l[k].k (show 5>0 by omega);have nx:Wd l.length l[k]=true→∀w,w=kFt (itF l[k])→bdI l [] [.int .i64 (J7 .i64 ((k:Int)+1)),.int .i64 12,.sl (((l.take k).map fun i=>kFt (itF i))++[w])]:=by intro hg w hw;refine⟨k+1,a3,?_,vK a5 a3 hg⟩;rw[wI,hw,dn a3,fz];rfl
  have a4:Jz (((l.take k).map fun i=>kFt (itF i)).length+1):=by unfold Jz;rw[fR,cL];omega
  refine⟨ok,_,_,_,_,_,_,y8 C6 a3,by omega,by rw[t1];omega,nmR (l[k].n%5),by rw[t1,No];exact ma m5,by omega,by rw[t2];omega,kdR (l[k].k%5),by rw[t2,No];exact mb k5,by omega,?_⟩;have a6:∀(sh:List Cu),(itS l[k]).1=sh→Wd l.length l[k]=true→
   br (toB (I2 (kdR (l[k].k%5)==(4:Int))))
    ((6:Int)≠0∧(2:Int)≠0∧(Jz (((l.take k).map fun i=>kFt (itF i)).length+1)∧lens 4 [[Hy (nmR (l[k].n%5)),Hv .i64 (kdR (l[k].k%5)),Hv .i64 (J7 .i64 (12+J7 .i64 (M3 (J7 .u8 (Pl (l[k].d:Int) 6)) 2))),Hx (kUs sh)]])∧
      bdI l [] [.int .i64 (J7 .i64 ((k:Int)+1)),.int .i64 12,.sl (((l.take k).map fun i=>kFt (itF i))++[[Hy (nmR (l[k].n%5)),Hv .i64 (kdR (l[k].k%5)),Hv .i64 (J7 .i64 (12+J7 .i64 (M3 (J7 .u8 (Pl (l[k].d:Int) 6)) 2))),Hx (kUs sh)]])]∧
      zP 5000000000000 [.int .i64 (J7 .i64 ((k:Int)+1)),.int .i64 12,.sl (((l.take k).map fun i=>kFt (itF i))++[[Hy (nmR (l[k].n%5)),Hv .i64 (kdR (l[k].k%5)),Hv .i64 (J7 .i64 (12+J7 .i64 (M3 (J7 .u8 (Pl (l[k].d:Int) 6)) 2))),Hx (kUs sh)]])]<zP 5000000000000 [.int .i64 (k:Int),.int .i64 12,.sl ((l.take k).map fun i=>kFt (itF i))])
    ((Jz (((l.take k).map fun i=>kFt (itF i)).length+1)∧lens 4 [[Hy (nmR (l[k].n%5)),Hv .i64 (kdR (l[k].k%5)),Hv .i64 (J7 .i64 (3*J7 .i64 (M3 (l[k].d:Int) 6))),Hx (kUs sh)]])∧
      bdI l [] [.int .i64 (J7 .i64 ((k:Int)+1)),.int .i64 12,.sl (((l.take k).map fun i=>kFt (itF i))++[[Hy (nmR (l[k].n%5)),Hv .i64 (kdR (l[k].k%5)),Hv .i64 (J7 .i64 (3*J7 .i64 (M3 (l[k].d:Int) 6))),Hx (kUs sh)]])]∧
      zP 5000000000000 [.int .i64 (J7 .i64 ((k:Int)+1)),.int .i64 12,.sl (((l.take k).map fun i=>kFt (itF i))++[[Hy (nmR (l[k].n%5)),Hv .i64 (kdR (l[k].k%5)),Hv .i64 (J7 .i64 (3*J7 .i64 (M3 (l[k].d:Int) 6))),Hx (kUs sh)]])]<zP 5000000000000 [.int .i64 (k:Int),.int .i64 12,.sl ((l.take k).map fun i=>kFt (itF i))]):=by
   intro sh a8 hg;refine brb (fun e=>?_) (fun e=>?_)
   ·have e:kdR (l[k].k%5)=4:=by simpa using e
    refine⟨by omega,by omega,⟨a4,fun x hx=>by rw[ez.1 hx];rfl⟩,nx hg _ ?_,Ot⟩;rw[t4,w8,t5,wI (n:=((l[k].d/6%2:Nat):Int)) (by omega),wI];show _=[Hy (nmR (l[k].n%5)),Hv .i64 (kdR (l[k].k%5)),Hv .i64 (dpR l[k].k l[k].d),Hx (kUs (itS l[k]).1)];unfold dpR;rw[if_pos e,a8]
   ·have e:¬kdR (l[k].k%5)=4:=by simpa using e
    refine⟨⟨a4,fun x hx=>by rw[ez.1 hx];rfl⟩,nx hg _ ?_,Ot⟩;rw[t3,wI (n:=((l[k].d%6:Nat):Int)) (by omega),wI];show _=[Hy (nmR (l[k].n%5)),Hv .i64 (kdR (l[k].k%5)),Hv .i64 (dpR l[k].k l[k].d),Hx (kUs (itS l[k]).1)];unfold dpR;rw[if_neg e,a8]
  have a7:Wd l.length l[k]=false→[Hu [Hv .i64 0,Hx []],F2 (I2 false)]=We l:=by intro hb;unfold We;rw[if_neg];intro ha;rw[gz.1 ha _ (ey a3)]at hb;cases hb
  refine brb (fun e=>?_) (fun e=>?_)
  ·have e:kdR (l[k].k%5)=3:=by simpa using e
   obtain⟨c1,c2⟩:=Iz hio;rw[wI (n:=l[k].x) (by obtain⟨a,b⟩:=ix;omega),wI (n:=l[k].y) (by obtain⟨a,b⟩:=iy;omega),wI (n:=(l[k].d:Int)) (by omega),wI];have eq:q4 (((l[k].d:Int)+1:Int):Rat)=q4 (itC l[k]).q:=by show _=q4 (((l[k].d:Int):Rat)+1);rw[k3];rfl
   refine⟨_,eR (by obtain⟨a,b⟩:=ix;omega) (by obtain⟨a,b⟩:=ix;omega),_,eR (by obtain⟨a,b⟩:=iy;omega) (by obtain⟨a,b⟩:=iy;omega),_,eR (by omega) (by omega),kUs (Gw (itC l[k])).1,(Gw (itC l[k])).2,?_,?_⟩
   ·rw[eq];exact VG c1 c2
   ·exact a6 _ (by unfold itS;rw[if_pos e]) (by unfold Wd;rw[decide_eq_true e,Bool.true_or])
  ·have e:¬kdR (l[k].k%5)=3:=by simpa using e
   refine⟨_,_,Mc ish (m:=6) (by omega),?_⟩;cases hb:(Qk l[k].sh 6).2 with
   |false=>refine brb (fun _=>?_) (fun h=>by cases h);exact a7 (by unfold Wd;rw[decide_eq_false e,hb];rfl)
   |true=>
    refine brb (fun h=>by cases h) (fun _=>brd (fun h5=>?_) (fun h5=>?_))
    ·have:¬l.length≤4:=by simp only[M2]at h5;omega
     exact a7 (by unfold Wd;rw[decide_eq_false e,decide_eq_false this,hb];rfl)
    ·have:l.length≤4:=by simp only[M2]at h5;omega
     exact a6 _ (by unfold itS;rw[if_neg e]) (by unfold Wd;rw[decide_eq_true this,hb];simp)
 ·have a3:k=l.length:=by simp only[M2]at h4;omega
  rw[a3,e7]at a5 ⊢;unfold We;rw[if_pos a5];have:decide ((J9 l.length)≤4)=decide (l.length≤4):=decide_eq_decide.2 (by simp only[M2];omega);rw[this]
end Eng
end
section
open Go Go.Proofs Eng
namespace Eng
def Wg (I0:List D→List D→Prop) (M0:List D→Nat) (es e2 e3 e4:List (List D)) (n1 g:Int):Prop:=((0≤n1∧n1≤J7 .i64 (J7 .i64 (n1+(J9 es.length))+1)∧J7 .i64 (J7 .i64 (n1+(J9 es.length))+1)≤(J9 e3.length))∧((e2≠[]∧Qw e2=true∧e2.length≤1073741824)∧0<(J8 (J7 .i64 (J7 .i64 (n1+(J9 es.length))+1))-J8 n1)∧J8 n1+(J8 (J7 .i64 (J7 .i64 (n1+(J9 es.length))+1))-J8 n1)≤e3.length∧Qw (U3 (J8 (J7 .i64 (J7 .i64 (n1+(J9 es.length))+1))-J8 n1) (V1 (J8 n1) e3))=true)∧br (toB (I2 (decide (0<ky (ky (w5 g (xp (U3 (J8 (J7 .i64 (J7 .i64 (n1+(J9 es.length))+1))-J8 n1) (V1 (J8 n1) e3))) (xp e2) (0:Int) (0:Int))))||decide (0<ks (ky (w5 g (xp (U3 (J8 (J7 .i64 (J7 .i64 (n1+(J9 es.length))+1))-J8 n1) (V1 (J8 n1) e3))) (xp e2) (0:Int) (0:Int))))))) ((0≤n1∧n1≤J7 .i64 (J7 .i64 (n1+(J9 es.length))+1)∧J7 .i64 (J7 .i64 (n1+(J9 es.length))+1)≤(J9 (cH (U3 (J8 n1) e3++xJ (ks (w5 g (xp (U3 (J8 (J7 .i64 (J7 .i64 (n1+(J9 es.length))+1))-J8 n1) (V1 (J8 n1) e3))) (xp e2) (0:Int) (0:Int)))++V1 (J8 n1+(J8 (J7 .i64 (J7 .i64 (n1+(J9 es.length))+1))-J8 n1)) e3))))∧((e2≠[]∧Qw e2=true∧e2.length≤1073741824)∧0<(J8 (J7 .i64 (J7 .i64 (n1+(J9 es.length))+1))-J8 n1)∧J8 n1+(J8 (J7 .i64 (J7 .i64 (n1+(J9 es.length))+1))-J8 n1)≤cH (U3 (J8 n1) e3++xJ (ks (w5 g (xp (U3 (J8 (J7 .i64 (J7 .i64 (n1+(J9 es.length))+1))-J8 n1) (V1 (J8 n1) e3))) (xp e2) (0:Int) (0:Int)))++V1 (J8 n1+(J8 (J7 .i64 (J7 .i64 (n1+(J9 es.length))+1))-J8 n1)) e3)∧Qw (U3 (J8 (J7 .i64 (J7 .i64 (n1+(J9 es.length))+1))-J8 n1) (V1 (J8 n1) (U3 (J8 n1) e3++xJ (ks (w5 g (xp (U3 (J8 (J7 .i64 (J7 .i64 (n1+(J9 es.length))+1))-J8 n1) (V1 (J8 n1) e3))) (xp e2) (0:Int) (0:Int)))++V1 (J8 n1+(J8 (J7 .i64 (J7 .i64 (n1+(J9 es.length))+1))-J8 n1)) e3)))=true)∧(0≤n1∧n1<(J9 e4.length))∧0<1∧I0 [] [Hx (U3 (J8 n1) (U3 (J8 n1) e3++xJ (ks (w5 g (xp (U3 (J8 (J7 .i64 (J7 .i64 (n1+(J9 es.length))+1))-J8 n1) (V1 (J8 n1) e3))) (xp e2) (0:Int) (0:Int)))++V1 (J8 n1+(J8 (J7 .i64 (J7 .i64 (n1+(J9 es.length))+1))-J8 n1)) e3)++xJ (Wt (xp (U3 (J8 (J7 .i64 (J7 .i64 (n1+(J9 es.length))+1))-J8 n1) (V1 (J8 n1) (U3 (J8 n1) e3++xJ (ks (w5 g (xp (U3 (J8 (J7 .i64 (J7 .i64 (n1+(J9 es.length))+1))-J8 n1) (V1 (J8 n1) e3))) (xp e2) (0:Int) (0:Int)))++V1 (J8 n1+(J8 (J7 .i64 (J7 .i64 (n1+(J9 es.length))+1))-J8 n1)) e3)))) (xp e2) (0:Int))++V1 (J8 n1+(J8 (J7 .i64 (J7 .i64 (n1+(J9 es.length))+1))-J8 n1)) (U3 (J8 n1) e3++xJ (ks (w5 g (xp (U3 (J8 (J7 .i64 (J7 .i64 (n1+(J9 es.length))+1))-J8 n1) (V1 (J8 n1) e3))) (xp e2) (0:Int) (0:Int)))++V1 (J8 n1+(J8 (J7 .i64 (J7 .i64 (n1+(J9 es.length))+1))-J8 n1)) e3)),Hx (upd e4 (J8 n1) (upd (nth [] e4 (J8 n1)) 0 (Hv .u32 (J7 .u32 (J7 .u64 (g-1)))))),Hv .i64 (J7 .i64 (n1-1))]∧M0 [Hx (U3 (J8 n1) (U3 (J8 n1) e3++xJ (ks (w5 g (xp (U3 (J8 (J7 .i64 (J7 .i64 (n1+(J9 es.length))+1))-J8 n1) (V1 (J8 n1) e3))) (xp e2) (0:Int) (0:Int)))++V1 (J8 n1+(J8 (J7 .i64 (J7 .i64 (n1+(J9 es.length))+1))-J8 n1)) e3)++xJ (Wt (xp (U3 (J8 (J7 .i64 (J7 .i64 (n1+(J9 es.length))+1))-J8 n1) (V1 (J8 n1) (U3 (J8 n1) e3++xJ (ks (w5 g (xp (U3 (J8 (J7 .i64 (J7 .i64 (n1+(J9 es.length))+1))-J8 n1) (V1 (J8 n1) e3))) (xp e2) (0:Int) (0:Int)))++V1 (J8 n1+(J8 (J7 .i64 (J7 .i64 (n1+(J9 es.length))+1))-J8 n1)) e3)))) (xp e2) (0:Int))++V1 (J8 n1+(J8 (J7 .i64 (J7 .i64 (n1+(J9 es.length))+1))-J8 n1)) (U3 (J8 n1) e3++xJ (ks (w5 g (xp (U3 (J8 (J7 .i64 (J7 .i64 (n1+(J9 es.length))+1))-J8 n1) (V1 (J8 n1) e3))) (xp e2) (0:Int) (0:Int)))++V1 (J8 n1+(J8 (J7 .i64 (J7 .i64 (n1+(J9 es.length))+1))-J8 n1)) e3)),Hx (upd e4 (J8 n1) (upd (nth [] e4 (J8 n1)) 0 (Hv .u32 (J7 .u32 (J7 .u64 (g-1)))))),Hv .i64 (J7 .i64 (n1-1))]<M0 [Hx e3,Hx e4,Hv .i64 n1]) ((0≤n1∧n1<(J9 e4.length))∧0<1∧I0 [] [Hx (U3 (J8 n1) e3++xJ (ks (w5 g (xp (U3 (J8 (J7 .i64 (J7 .i64 (n1+(J9 es.length))+1))-J8 n1) (V1 (J8 n1) e3))) (xp e2) (0:Int) (0:Int)))++V1 (J8 n1+(J8 (J7 .i64 (J7 .i64 (n1+(J9 es.length))+1))-J8 n1)) e3),Hx (upd e4 (J8 n1) (upd (nth [] e4 (J8 n1)) 0 (Hv .u32 (J7 .u32 g)))),Hv .i64 (J7 .i64 (n1-1))]∧M0 [Hx (U3 (J8 n1) e3++xJ (ks (w5 g (xp (U3 (J8 (J7 .i64 (J7 .i64 (n1+(J9 es.length))+1))-J8 n1) (V1 (J8 n1) e3))) (xp e2) (0:Int) (0:Int)))++V1 (J8 n1+(J8 (J7 .i64 (J7 .i64 (n1+(J9 es.length))+1))-J8 n1)) e3),Hx (upd e4 (J8 n1) (upd (nth [] e4 (J8 n1)) 0 (Hv .u32 (J7 .u32 g)))),Hv .i64 (J7 .i64 (n1-1))]<M0 [Hx e3,Hx e4,Hv .i64 n1]))
theorem Wh (Gv:Nat→List A→List A→Prop) (I0:List D→List D→Prop) (M0:List D→Nat) (I1:List D→List D→Prop) (M1:List D→Nat) (chk:List A→Bool) (mk:List A→List (List D)) (es fs:List (List D)) (Q:List A→Prop):wpF (CM chk mk) Gv (Vd ⟨[.own 8 180 1,.own 10 181 1,.slot 11 (.int .i64 0)],[],I0,M0⟩ ⟨[.slot 13 (.int .u64 0),.slot 14 (.int .u64 0)],[.slot 12 (.int .u64 0),.slot 11 (.int .i64 0),.own 8 180 1],I1,M1⟩) Tryz.f337 [.c (.sl es),.c (.sl fs)] Q=(∃e1,Gv 324 [F2 (Hx es)] [F2 (Hx e1)]∧∃es,Gv 324 [F2 (Hx fs)] [F2 (Hx es)]∧br (toB (I2 ((J9 es.length)==1))) (((0:Int)≤(0:Int)∧0<(J9 es.length)∧cH (nth [] es 0)=1)∧∃n,cut (nth [] es 0) 0 1 [Hv .u32 n]∧∃es e2,Gv 358 [F2 (Hx e1),F2 (Hv .u32 n)] [F2 (Hx es),F2 (Hx e2)]∧Q [F2 (Hx es),F2 (Hx e2)]) (∃n,Gv 273 [F2 (Hx e1),F2 (Hx es)] [F2 (Hv .i64 n)]∧br (toB (I2 (decide (n<0)))) ((room e1.length∧lens 1 e1)∧Q [F2 (Hx []),F2 (Hx e1)]) ((0≤J7 .i64 ((J9 es.length)-1)∧J7 .i64 ((J9 es.length)-1)<(J9 es.length)∧cH (nth [] es (J8 (J7 .i64 ((J9 es.length)-1))))=1)∧∃n,cut (nth [] es (J8 (J7 .i64 ((J9 es.length)-1)))) 0 1 [Hv .u32 n]∧J7 .u64 (J7 .u64 n+1)≠0∧chk [F2 (Hx e1),F2 (Hx [[Hv .u32 (J7 .u32 (J7 .u64 (Pl (1000000000:Int) (J7 .u64 (J7 .u64 n+1)))))]])]=true∧(room (cH (mk [F2 (Hx e1),F2 (Hx [[Hv .u32 (J7 .u32 (J7 .u64 (Pl (1000000000:Int) (J7 .u64 (J7 .u64 n+1)))))]])])+1)∧lens 1 [[Hv .u32 0]])∧chk [F2 (Hx es),F2 (Hx [[Hv .u32 (J7 .u32 (J7 .u64 (Pl (1000000000:Int) (J7 .u64 (J7 .u64 n+1)))))]])]=true∧∃e2,Gv 324 [F2 (Hx (mk [F2 (Hx es),F2 (Hx [[Hv .u32 (J7 .u32 (J7 .u64 (Pl (1000000000:Int) (J7 .u64 (J7 .u64 n+1)))))]])]))] [F2 (Hx e2)]∧(0≤J7 .i64 ((J9 (cH (mk [F2 (Hx e1),F2 (Hx [[Hv .u32 (J7 .u32 (J7 .u64 (Pl (1000000000:Int) (J7 .u64 (J7 .u64 n+1)))))]])]++[[Hv .u32 0]])))-(J9 es.length))∧J7 .i64 ((J9 (cH (mk [F2 (Hx e1),F2 (Hx [[Hv .u32 (J7 .u32 (J7 .u64 (Pl (1000000000:Int) (J7 .u64 (J7 .u64 n+1)))))]])]++[[Hv .u32 0]])))-(J9 es.length))≤J7 .i64 ((J9 (cH (mk [F2 (Hx e1),F2 (Hx [[Hv .u32 (J7 .u32 (J7 .u64 (Pl (1000000000:Int) (J7 .u64 (J7 .u64 n+1)))))]])]++[[Hv .u32 0]])))-(J9 es.length))∧room (J8 (J7 .i64 ((J9 (cH (mk [F2 (Hx e1),F2 (Hx [[Hv .u32 (J7 .u32 (J7 .u64 (Pl (1000000000:Int) (J7 .u64 (J7 .u64 n+1)))))]])]++[[Hv .u32 0]])))-(J9 es.length)))))∧I0 [] [Hx (mk [F2 (Hx e1),F2 (Hx [[Hv .u32 (J7 .u32 (J7 .u64 (Pl (1000000000:Int) (J7 .u64 (J7 .u64 n+1)))))]])]++[[Hv .u32 0]]),Hx (fS (J8 (J7 .i64 ((J9 (cH (mk [F2 (Hx e1),F2 (Hx [[Hv .u32 (J7 .u32 (J7 .u64 (Pl (1000000000:Int) (J7 .u64 (J7 .u64 n+1)))))]])]++[[Hv .u32 0]])))-(J9 es.length)))) [Hv .u32 0]),Hv .i64 (J7 .i64 (J7 .i64 ((J9 (cH (mk [F2 (Hx e1),F2 (Hx [[Hv .u32 (J7 .u32 (J7 .u64 (Pl (1000000000:Int) (J7 .u64 (J7 .u64 n+1)))))]])]++[[Hv .u32 0]])))-(J9 es.length))-1))]∧∀(e3 e4:List (List D)) (n1:Int),I0 [] [Hx e3,Hx e4,Hv .i64 n1]→br (toB (I2 (decide (n1≥0)))) ((0≤J7 .i64 (n1+(J9 es.length))∧J7 .i64 (n1+(J9 es.length))<(J9 e3.length))∧∃n,cut (nth [] e3 (J8 (J7 .i64 (n1+(J9 es.length))))) 0 1 [Hv .u32 n]∧(0≤J7 .i64 (J7 .i64 (n1+(J9 es.length))-1)∧J7 .i64 (J7 .i64 (n1+(J9 es.length))-1)<(J9 e3.length))∧∃n2,cut (nth [] e3 (J8 (J7 .i64 (J7 .i64 (n1+(J9 es.length))-1)))) 0 1 [Hv .u32 n2]∧(0≤J7 .i64 ((J9 es.length)-1)∧J7 .i64 ((J9 es.length)-1)<(J9 e2.length)∧cH (nth [] e2 (J8 (J7 .i64 ((J9 es.length)-1))))=1)∧∃n3,cut (nth [] e2 (J8 (J7 .i64 ((J9 es.length)-1)))) 0 1 [Hv .u32 n3]∧J7 .u64 n3≠0∧(0≤J7 .i64 ((J9 es.length)-1)∧J7 .i64 ((J9 es.length)-1)<(J9 e2.length)∧cH (nth [] e2 (J8 (J7 .i64 ((J9 es.length)-1))))=1)∧∃n4,cut (nth [] e2 (J8 (J7 .i64 ((J9 es.length)-1)))) 0 1 [Hv .u32 n4]∧J7 .u64 n4≠0∧I1 [Hv .u64 (J7 .u64 (J7 .u64 (J7 .u64 n*1000000000)+J7 .u64 n2)),Hv .i64 n1,Hx e3] [Hv .u64 (J7 .u64 (Pl (J7 .u64 (J7 .u64 (J7 .u64 n*1000000000)+J7 .u64 n2)) (J7 .u64 n3))),Hv .u64 (M3 (J7 .u64 (J7 .u64 (J7 .u64 n*1000000000)+J7 .u64 n2)) (J7 .u64 n4))]∧∀(n5 n6:Int),I1 [Hv .u64 (J7 .u64 (J7 .u64 (J7 .u64 n*1000000000)+J7 .u64 n2)),Hv .i64 n1,Hx e3] [Hv .u64 n5,Hv .u64 n6]→br (toB (I2 (decide (n5≥1000000000)))) ((0≤J7 .i64 ((J9 es.length)-1)∧J7 .i64 ((J9 es.length)-1)<(J9 e2.length)∧cH (nth [] e2 (J8 (J7 .i64 ((J9 es.length)-1))))=1)∧∃n7,cut (nth [] e2 (J8 (J7 .i64 ((J9 es.length)-1)))) 0 1 [Hv .u32 n7]∧br (toB (I2 (decide (J7 .u64 (n6+J7 .u64 n7)≥1000000000)))) (Wg I0 M0 es e2 e3 e4 n1 (J7 .u64 (n5-1))) (I1 [Hv .u64 (J7 .u64 (J7 .u64 (J7 .u64 n*1000000000)+J7 .u64 n2)),Hv .i64 n1,Hx e3] [Hv .u64 (J7 .u64 (n5-1)),Hv .u64 (J7 .u64 (n6+J7 .u64 n7))]∧M1 [Hv .u64 (J7 .u64 (n5-1)),Hv .u64 (J7 .u64 (n6+J7 .u64 n7))]<M1 [Hv .u64 n5,Hv .u64 n6])) ((0≤J7 .i64 ((J9 es.length)-2)∧J7 .i64 ((J9 es.length)-2)<(J9 e2.length)∧cH (nth [] e2 (J8 (J7 .i64 ((J9 es.length)-2))))=1)∧∃n7,cut (nth [] e2 (J8 (J7 .i64 ((J9 es.length)-2)))) 0 1 [Hv .u32 n7]∧(0≤J7 .i64 (J7 .i64 (n1+(J9 es.length))-2)∧J7 .i64 (J7 .i64 (n1+(J9 es.length))-2)<(J9 e3.length))∧∃n8,cut (nth [] e3 (J8 (J7 .i64 (J7 .i64 (n1+(J9 es.length))-2)))) 0 1 [Hv .u32 n8]∧br (toB (I2 (decide (J7 .u64 (n5*J7 .u64 n7)>J7 .u64 (J7 .u64 (n6*1000000000)+J7 .u64 n8))))) ((0≤J7 .i64 ((J9 es.length)-1)∧J7 .i64 ((J9 es.length)-1)<(J9 e2.length)∧cH (nth [] e2 (J8 (J7 .i64 ((J9 es.length)-1))))=1)∧∃n9,cut (nth [] e2 (J8 (J7 .i64 ((J9 es.length)-1)))) 0 1 [Hv .u32 n9]∧br (toB (I2 (decide (J7 .u64 (n6+J7 .u64 n9)≥1000000000)))) (Wg I0 M0 es e2 e3 e4 n1 (J7 .u64 (n5-1))) (I1 [Hv .u64 (J7 .u64 (J7 .u64 (J7 .u64 n*1000000000)+J7 .u64 n2)),Hv .i64 n1,Hx e3] [Hv .u64 (J7 .u64 (n5-1)),Hv .u64 (J7 .u64 (n6+J7 .u64 n9))]∧M1 [Hv .u64 (J7 .u64 (n5-1)),Hv .u64 (J7 .u64 (n6+J7 .u64 n9))]<M1 [Hv .u64 n5,Hv .u64 n6])) (Wg I0 M0 es e2 e3 e4 n1 n5))) (((0:Int)≤(0:Int)∧0≤(J9 es.length)∧(J9 es.length)≤(J9 e3.length)∧lens 1 e3)∧∃e5,Gv 324 [F2 (Hx (V1 0 (U3 (J8 (J9 es.length)) e3)))] [F2 (Hx e5)]∧∃es e6,Gv 358 [F2 (Hx e5),F2 (Hv .u32 (J7 .u32 (J7 .u64 (Pl (1000000000:Int) (J7 .u64 (J7 .u64 n+1))))))] [F2 (Hx es),F2 (Hx e6)]∧Q [F2 (Hx e4),F2 (Hx es)])))):=by kernel_rfl
end Eng
end
section
namespace Eng
open Go Go.Proofs
set_option maxRecDepth 100000
theorem Wi (l:List Nat):xp (raw l)=vU l:=by simp[xp,raw,vU,tC]
theorem Wj (l:List Nat):xJ (vU l)=raw l:=by simp[xJ,raw,vU]
theorem yC:∀(l:List Nat),Qw (raw l)=true
 |[]=>rfl
 |x::l=>by have:=yC l;simp only[raw,gb,Qw]at this ⊢;rw[this];rfl
theorem I5 {l:List Nat} (h:l≠[]):raw l≠[]:=by
 intro e;apply h;exact List.map_eq_nil_iff.1 e
def I0v (n m V U0:Nat):List D→List D→Prop:=fun _ ds=>∃(kk:Nat) (ul ql:List Nat),ds=[.sl (raw ul),.sl (raw ql),.int .i64 ((kk:Int)-1)]∧DInv n m V U0 kk ul ql
def M0v:List D→Nat:=fun ds=>(toI (nth .undef ds 2)+1).toNat
def ow (es:List (List D)) (k n:Nat):Nat:=WA ((es.drop k).take (n+1))
def I1v (n v1 V:Nat):List D→List D→Prop:=fun gs ds=>∃(top k:Nat) (es:List (List D)) (g r:Nat),gs=[.int .u64 (top:Int),.int .i64 (k:Int),.sl es]∧ds=[.int .u64 (g:Int),.int .u64 (r:Int)]∧top=g*v1+r∧ow es k n/V≤g∧g≤1000000001∧r<1000000000
def M1v:List D→Nat:=fun ds=>(toI (nth .undef ds 0)).toNat
theorem FX (ul:List Nat) (k n:Nat):ow (raw ul) k n=val ((ul.drop k).take (n+1)):=by
 unfold ow;rw[Xi,jW,Xm]
theorem FY {n m V U0 k g:Nat} {bl ul ql vl:List Nat} (hn:2≤n) (hb:bl.length=n) (hv:vl.length=n) (lv:Limbs vl) (vV:val vl=V) (hD:DInv n m V U0 (k+1) ul ql) (hm:n+m≤1000000) (hV0:0<V)
 (hq:val ((ul.drop k).take (n+1))/V≤g) (hg:g≤1000000000) (hgV:g*V≤val ((ul.drop k).take (n+1))+V):Wg (I0v n m V U0) M0v (raw bl) (raw vl) (raw ul) (raw ql) (k:Int) (g:Int):=by
 have hk:=hD.hk;have lu:=hD.lu;have lq:=hD.lq;have a6:V<1000000000^n:=by have:=qW lv;rw[hv,vV]at this;exact this
 obtain⟨hlt,a4⟩:=hD.mid a6 hV0;have l1:(ul.take k).length=k:=by rw[cL];omega
 have l2:((ul.drop k).take (n+1)).length=n+1:=by rw[cL,fg];omega
 have Lm:Limbs ((ul.drop k).take (n+1)):=(hD.Lu.drop k).take _;have hdv:val ((ul.drop k).take (n+1))/V<1000000000:=by rw[hM hV0,hr];exact hlt
 obtain⟨r,c,b,hs,Lr,lr,a3⟩:=Bl (us:=(ul.drop k).take (n+1)) (vs:=vl) (V:=V) (g:=g) Lm lv (by omega) vV hV0
  (by rw[l2];exact Nat.le_trans (Nat.le_of_lt a6) (hW (by omega) (by omega))) hq hg hgV
 rw[l2]at lr;have a7:vl≠[]:=by intro e;rw[e]at hv;simp at hv;omega
 have w1:J7 .i64 (J7 .i64 ((k:Int)+(n:Int))+1)=((k+n+1:Nat):Int):=by rw[zJ (n:=(k:Int)+(n:Int)),zJ];omega
 have w2:J7 .i64 ((k:Int)-1)=(k:Int)-1:=zJ;unfold Wg;simp only[M2,qi,hb,w1,No];rw[show k+n+1-k=n+1 by omega,Xi,jW,Wi,Wi,hs];simp only;rw[Wj];rw[Xi,jW,←xc,←xc];have l3:(ul.take k++r++ul.drop (k+(n+1))).length=n+m:=by rw[gq,gq,l1,lr,fg];omega
 refine⟨⟨by omega,by omega,by omega⟩,⟨⟨I5 a7,yC _,by rw[hv];omega⟩,by omega,by omega,yC _⟩,brb (fun h=>?_) (fun h=>?_)⟩
 ·have hcb:c≠0∨b≠0:=by rw[Bool.or_eq_true,decide_eq_true_eq,decide_eq_true_eq]at h;omega
  rcases a3 with⟨e1,e2,_,_⟩|⟨_,a5,r2,h2,Lr2,a8,vr2⟩
  ·omega
  rw[l2]at a8;have e3:(ul.take k++r++ul.drop (k+(n+1))).take k=ul.take k:=by rw[gr,ft (by omega),List.take_take,Nat.min_self]
  have e4:((ul.take k++r++ul.drop (k+(n+1))).drop k).take (n+1)=r:=by rw[gr,fx (by omega),en (by omega),g3,ft (by omega),el (by omega)]
  have e5:(ul.take k++r++ul.drop (k+(n+1))).drop (k+(n+1))=ul.drop (k+(n+1)):=by rw[fx (by simp[l1,lr])];rw[en (by simp[l1,lr]),g3]
  rw[Xi,jW,Wi,e4,h2,Wj,jW,e3,Xi,e5,←xc,←xc];have w3:J7 .u32 (J7 .u64 ((g:Int)-1))=((val ((ul.drop k).take (n+1))/V:Nat):Int):=by
   have hg1':1≤g:=by rw[a5];exact Nat.le_add_left 1 _
   have hg2:g-1=val ((ul.drop k).take (n+1))/V:=by rw[a5];exact Nat.add_sub_cancel ..
   rw[←hg2,xO,jX];omega
  rw[w3,zb (by omega),qi,l3,w2];refine⟨⟨by omega,by omega,by omega⟩,⟨⟨I5 a7,yC _,by rw[hv];omega⟩,by omega,by omega,yC _⟩,⟨by omega,by omega⟩,by omega,⟨k,_,_,rfl,a4 r2 Lr2 a8 vr2⟩,?_⟩;simp only[M0v,nth,toI];omega
 ·have hcb:c=0∧b=0:=by rw[Bool.or_eq_false_iff,decide_eq_false_iff_not,decide_eq_false_iff_not]at h;omega
  rcases a3 with⟨_,_,a5,vr⟩|⟨e1,_⟩
  ·have w3:J7 .u32 (g:Int)=((val ((ul.drop k).take (n+1))/V:Nat):Int):=by rw[jX];omega
   rw[w3,zb (by omega),w2];refine⟨⟨by omega,by omega⟩,by omega,⟨k,_,_,rfl,a4 r Lr lr vr⟩,?_⟩;simp only[M0v,nth,toI];omega
  ·omega
theorem C7 {a b:List Nat} (ha:Limbs a) (hb:Limbs b) (h1:a.length≤536870912) (h2:b.length≤536870912) (h3:0<a.length+b.length):zR [.c (.sl (raw a)),.c (.sl (raw b))]=true:=by
 simp only[zR,Zc ha,Zc hb,qi,Dd,Aw,Nat.ble_eq,hQ];exact⟨h1,h2,h3⟩
theorem I6 (a b:List Nat):kx [.c (.sl (raw a)),.c (.sl (raw b))]=raw (pad (a.length+b.length) (val a*val b)):=by
 simp only[kx,qi,Xm]
theorem Gx {ul:List Nat} {k n i:Nat} (hi:i≤n):((ul.drop k).take (n+1)).getD i 0=ul.getD (k+i) 0:=by
 simp only[List.getD,List.getElem?_take,List.getElem?_drop];rw[if_pos (by omega)]
def eW (I0:List D→List D→Prop) (M0:List D→Nat) (I1:List D→List D→Prop) (M1:List D→Nat):Nat→Ann:=
 Vd ⟨[.own 8 180 1,.own 10 181 1,.slot 11 (.int .i64 0)],[],I0,M0⟩ ⟨[.slot 13 (.int .u64 0),.slot 14 (.int .u64 0)],[.slot 12 (.int .u64 0),.slot 11 (.int .i64 0),.own 8 180 1],I1,M1⟩
theorem C8 {a b al:List Nat} {d:Nat} (ta:qe CC 324 [.c (.sl (raw a))] [.c (.sl (raw al))]) (tb:qe CC 324 [.c (.sl (raw b))] [.c (.sl (raw [d]))]) (lA:Limbs al) (ra:al.length≤100000) (hd0:0<d) (hd1:d<1000000000):
 qe CC 337 [.c (.sl (raw a)),.c (.sl (raw b))] [.c (.sl (raw (pad al.length (val al/d)))),.c (.sl (raw [val al%d]))]:=by
 refine qw (anns:=eW (fun _ _=>True) (fun _=>0) (fun _ _=>True) (fun _=>0)) mixedT Tryz.func337 ?_;show wpF (CM zR kx) _ _ _ _ _;unfold eW;rw[Wh];refine⟨_,ta,_,tb,brb (fun _=>?_) (fun h=>?_)⟩
 ·exact⟨⟨by omega,by simp[raw],rfl⟩,_,qG (l:=[d]) (i:=0) (by simp),_,_,up (Vj lA hd0 hd1 (by omega)),rfl⟩
 ·simp[raw]at h
theorem FZ {a b al bl:List Nat} (ta:qe CC 324 [.c (.sl (raw a))] [.c (.sl (raw al))]) (tb:qe CC 324 [.c (.sl (raw b))] [.c (.sl (raw bl))]) (lA:Limbs al) (lB:Limbs bl) (ra:al.length≤100000) (rb:bl.length≤100000) (hn:2≤bl.length) (hlt:val al<val bl):
 qe CC 337 [.c (.sl (raw a)),.c (.sl (raw b))] [.c (.sl (raw [])),.c (.sl (raw al))]:=by
 refine qw (anns:=eW (fun _ _=>True) (fun _=>0) (fun _ _=>True) (fun _=>0)) mixedT Tryz.func337 ?_;show wpF (CM zR kx) _ _ _ _ _;unfold eW;rw[Wh];refine⟨_,ta,_,tb,brb (fun h=>?_) (fun h=>?_)⟩
 ·rw[qi]at h;simp only[M2,beq_iff_eq]at h;omega
 ·refine⟨_,up (kw lA lB (by omega) (by omega)),brd (fun h2=>?_) (fun h2=>?_)⟩
  ·exact⟨⟨by rw[qi];unfold room;omega,jd _⟩,rfl⟩
  ·rw[XN,if_pos hlt]at h2;omega
set_option maxHeartbeats 2000000 in
theorem C9 {a b al bl:List Nat} (ta:qe CC 324 [.c (.sl (raw a))] [.c (.sl (raw al))]) (tb:qe CC 324 [.c (.sl (raw b))] [.c (.sl (raw bl))]) (lA:Limbs al) (lB:Limbs bl) (ra:al.length≤100000) (rb:bl.length≤100000)
 (vA:val al=val a) (vB:val bl=val b) (zB:bl.getLast?≠some 0) {p:Nat} (hn:bl.length=p+2) (hle:val bl≤val al):
 ∃q r,qe CC 337 [.c (.sl (raw a)),.c (.sl (raw b))] [.c (.sl (raw q)),.c (.sl (raw r))]∧Limbs q∧Limbs r∧val q=val a/val b∧val r=val a%val b∧q.length≤1073741824∧r.length≤1073741824:=by
 have hBn:bl≠[]:=by intro e;rw[e]at hn;simp at hn
 have b7:p+1<bl.length:=by omega
 obtain⟨d,b9⟩:∃d,bl[p+1]=d:=⟨_,rfl⟩;have hd0:0<d:=by
  rcases hY d with h0|h0
  ·exfalso;apply zB;rw[List.getLast?_eq_getElem?,hn,show p+2-1=p+1 by omega,gm b7,b9,h0]
  ·exact h0
 have hd1:d<1000000000:=b9▸lB.get b7;obtain⟨s,hs⟩:∃s,s=1000000000/(d+1):=⟨_,rfl⟩;obtain⟨hs1,hs2,hs3⟩:=Vr hd0 hd1 hs;have dc:s<1000000000:=by have:s*2≤s*(d+1):=hH _ (by omega);omega
 obtain⟨B,hB⟩:∃B,val b=B:=⟨_,rfl⟩;obtain⟨A,hA⟩:∃A,val a=A:=⟨_,rfl⟩;rw[hA]at vA ⊢;rw[hB]at vB ⊢;rw[vA,vB]at hle
 --the scaled divisor
 obtain⟨V,hV⟩:∃V,V=B*s:=⟨_,rfl⟩;have bv:B=val (bl.take (p+1))+1000000000^(p+1)*d:=by rw[←vB,←b9,←xy b7,←qQ,el (by omega)]
 have hlo:val (bl.take (p+1))<1000000000^(p+1):=by have:=qW (lB.take (p+1));rw[cL,hn,hG (by omega)]at this;exact this
 obtain⟨P1,a5⟩:∃P1,1000000000^(p+1)=P1:=⟨_,rfl⟩;have b3:1000000000^(p+2)=P1*1000000000:=by rw[←a5];exact hR ..
 rw[a5]at bv hlo;have hP0:0<P1:=by rw[←a5];exact Nat.pow_pos (by omega)
 have ag:V<P1*1000000000:=by
  have h1:B<P1*(d+1):=by rw[j1,j0];omega
  have h2:B*s<P1*(d+1)*s:=hS h1 (by omega);have h3:P1*(d+1)*s=P1*(s*(d+1)):=by rw[ie,hr (d+1) s]
  have h4:P1*(s*(d+1))≤P1*1000000000:=hH _ hs3;omega
 have bt:500000000*P1≤V:=by
  have h1:P1*d*s≤B*s:=h9 s (by omega);have h2:P1*d*s=d*s*P1:=by rw[ie,hr]
  have h3:500000000*P1≤d*s*P1:=h9 P1 hs1;omega
 have a6:0<V:=by omega
 obtain⟨vl,ba⟩:∃vl,lim V=vl:=⟨_,rfl⟩;have Lv:Limbs vl:=ba▸qh _;have vV:val vl=V:=ba▸qj _;have lv:vl.length=p+2:=by have h1:(lim V).length≤p+2:=qy (by rw[b3];exact ag);have h2:p+1<(lim V).length:=jP (by rw[a5];omega);rw[ba]at h1 h2;omega
 obtain⟨v1,b1⟩:∃v1,vl[p+1]=v1:=⟨_,rfl⟩;obtain⟨v2,cb⟩:∃v2,vl[p]=v2:=⟨_,rfl⟩;have hv1B:v1<1000000000:=b1▸Lv.get _;have hv2B:v2<1000000000:=cb▸Lv.get _;have bs:=val2 (v:=vl) (p:=p);rw[el (by omega),xy (by omega),xy (by omega),b1,cb,vV]at bs;have cc:val (vl.take p)<1000000000^p:=by have:=qW (Lv.take p);rw[cL,lv,hG (by omega)]at this;exact this
 have hVd1:V=val (vl.take (p+1))+P1*v1:=by rw[←a5,←b1,←xy,←qQ,el (by omega),vV]
 have dk:val (vl.take (p+1))<P1:=by have:=qW (Lv.take (p+1));rw[cL,lv,hG (by omega),a5]at this;exact this
 have cp:V<(v1+1)*P1:=by rw[hr,j1];omega
 have hVb:v1*P1≤V:=by rw[hr];omega
 have ca:500000000≤v1:=by apply Nat.le_of_lt_succ;exact Nat.lt_of_mul_lt_mul_right (a:=P1) (hP bt cp)
 --the scaled dividend
 have hal:p+2≤al.length:=by apply Nat.le_of_not_lt;intro h;have:=ZD lA zB hBn (by omega);omega
 obtain⟨m,hm⟩:∃m,al.length=p+m:=⟨al.length-p,by omega⟩;have bg:A*s<1000000000^(al.length+1):=by have h1:=qW lA;rw[vA]at h1;have h2:A*s≤A*1000000000:=hH _ (by omega);have h3:A*1000000000<1000000000^al.length*1000000000:=hS h1 (by omega);rw[hR];omega
 obtain⟨b2,a7⟩:∃b2,pad (al.length+1) (A*s)++[0]=b2:=⟨_,rfl⟩;have cd:b2.length=al.length+2:=by rw[←a7];simp[xA]
 have a4:DInv (p+2) m V (A*s) m b2 (fS m 0):=by
  have bb:val b2=A*s:=by rw[←a7,qU,kv,ho bg,show val [0]=0 from rfl,Nat.mul_zero,it]
  refine⟨j2 _,by omega,List.length_replicate,?_,?_,?_,?_⟩
  ·rw[←a7];exact(zh _ _).append (J4 (by omega) J3)
  ·intro x hx;rw[List.eq_of_mem_replicate hx];omega
  ·rw[bb];have h1:P1*1000000000^m≤V*1000000000^m:=h9 _ (by omega);have h2:P1*1000000000^m=1000000000^(al.length+1):=by rw[←a5,←Nat.pow_add,show p+1+m=al.length+1 by omega]
   omega
  ·rw[en (by simp),bb];simp[val]
 have hsc:J7 .u32 (J7 .u64 (Pl 1000000000 (J7 .u64 (J7 .u64 (d:Int)+1))))=(s:Int):=by
  have e:Pl 1000000000 ((d:Int)+1)=(s:Int):=by rw[hs,Ts (by omega),Int.natCast_ediv];have e2:((d+1:Nat):Int)=(d:Int)+1:=Int.natCast_add d 1;rw[e2];exact congrArg (· /((d:Int)+1)) (show(1000000000:Int)=((1000000000:Nat):Int)from rfl)
  rw[xO (n:=(d:Int)),xO (n:=(d:Int)+1),e,xO,jX]
 have mkA:kx [.c (.sl (raw al)),.c (.sl [[.int .u32 (s:Int)]])]=raw (pad (al.length+1) (A*s)):=(I6 al [s]).trans (by rw[vA];simp[val]);have mkB:kx [.c (.sl (raw bl)),.c (.sl [[.int .u32 (s:Int)]])]=raw (pad (p+3) V):=(I6 bl [s]).trans (by rw[vB,hV,hn];simp[val]);have Ls:Limbs [s]:=J4 dc J3;have bd:zR [.c (.sl (raw al)),.c (.sl [[.int .u32 (s:Int)]])]=true:=C7 lA Ls (by omega) (by simp) (by simp);have be:zR [.c (.sl (raw bl)),.c (.sl [[.int .u32 (s:Int)]])]=true:=C7 lB Ls (by omega) (by simp) (by simp);have tv:qe CC 324 [.c (.sl (raw (pad (p+3) V)))] [.c (.sl (raw vl))]:=by have:=up (yO (zh (p+3) V) (by rw[xA];omega));rw[kv,ho (show V<1000000000^(p+3)from hC ag (by rw[←b3];exact hW (by omega) (by omega))),ba]at this;exact this
 have eU:raw (pad (al.length+1) (A*s))++[[Hv .u32 (0:Int)]]=raw b2:=by rw[←a7,xc];rfl
 have b6:A*s/V=A/B:=by rw[hV];exact Nat.mul_div_mul_right _ _ (by omega)
 have ap:A*s%V=A%B*s:=by rw[hV];exact Nat.mul_mod_mul_right _ _ _
 refine⟨pad m (A/B),pad (lim (A%B*s)).length (A%B),qw (anns:=eW (I0v (p+2) m V (A*s)) M0v (I1v (p+2) v1 V) M1v) mixedT Tryz.func337 ?_,zh _ _,zh _ _,?_,?_,by rw[xA];omega,?_⟩
 ·show wpF (CM zR kx) _ _ _ _ _;unfold eW;rw[Wh];refine⟨_,ta,_,tb,?_⟩;have wn1:J7 .i64 (((p+2:Nat):Int)-1)=((p+1:Nat):Int):=by rw[zJ];omega
  have wn2:J7 .i64 (((p+2:Nat):Int)-2)=(p:Int):=by rw[zJ];omega
  simp only[M2,qi,hn,wn1,wn2,No];refine brb (fun h=>?_) (fun _=>⟨_,up (kw lA lB (by omega) (by omega)),brd (fun h2=>?_) (fun _=>?_)⟩)
  ·simp only[beq_iff_eq]at h;omega
  ·rw[XN,vA,vB,if_neg (by omega)]at h2;split at h2<;>omega
  refine⟨⟨by omega,by omega,qC b7⟩,_,qG b7,?_⟩;rw[b9];simp only[hsc,mkA,mkB,eU,qi,cd];have wm:J7 .i64 (((al.length+2:Nat):Int)-((p+2:Nat):Int))=(m:Int):=by rw[zJ];omega
  have wm1:J7 .i64 ((m:Int)-1)=(m:Int)-1:=zJ;simp only[wm,wm1,No,xA];refine⟨?_,bd,⟨by unfold room;omega,jd [0]⟩,be,_,tv,⟨by omega,by omega,by unfold room;omega⟩,⟨m,b2,fS m 0,by rw[xx],a4⟩,?_⟩
  ·rw[xO (n:=(d:Int)),xO];omega
  rintro es_3 es_4 n_1 ⟨kk,ul,ql,he,hD⟩;simp only[g8,D.sl.injEq,I3,true_and,and_true]at he;obtain⟨rfl,rfl,rfl⟩:=he;have cx:=hD.lu;have hkm:=hD.hk;refine brd (fun h=>?_) (fun h=>?_)
  ·obtain⟨k,rfl⟩:∃k,kk=k+1:=⟨kk-1,by omega⟩;rw[show((k+1:Nat):Int)-1=(k:Int)by omega];have W0:J7 .i64 ((k:Int)+((p+2:Nat):Int))=((k+p+2:Nat):Int):=by rw[zJ];omega
   have W1:J7 .i64 (((k+p+2:Nat):Int)-1)=((k+p+1:Nat):Int):=by rw[zJ];omega
   have W2:J7 .i64 (((k+p+2:Nat):Int)-2)=((k+p:Nat):Int):=by rw[zJ];omega
   simp only[W0,W1,W2,No,qi,cx,lv];have hVn:V<1000000000^(p+2):=by rw[b3];exact ag
   obtain⟨ad,_⟩:=hD.mid hVn a6;have hlm:((ul.drop k).take (p+2+1)).length=p+3:=by rw[cL,fg];omega
   have Lm:Limbs ((ul.drop k).take (p+2+1)):=(hD.Lu.drop k).take _;obtain⟨t3,c5⟩:∃t,ul[k+p+2]=t:=⟨_,rfl⟩;obtain⟨t2,c3⟩:∃t,ul[k+p+1]=t:=⟨_,rfl⟩;obtain⟨t0,c2⟩:∃t,ul[k+p]=t:=⟨_,rfl⟩;have ht3B:t3<1000000000:=c5▸hD.Lu.get _;have c4:t2<1000000000:=c3▸hD.Lu.get _;have ht0B:t0<1000000000:=c2▸hD.Lu.get _;obtain⟨U,hU⟩:∃U,val ((ul.drop k).take (p+2+1))=U:=⟨_,rfl⟩;rw[hU]at ad;have a9:=val3 (u:=(ul.drop k).take (p+2+1)) (p:=p);rw[el (by omega),Gx (by omega),Gx (by omega),Gx (by omega),xy (by omega),xy (by omega),xy (by omega)]at a9;simp only[←Nat.add_assoc,c5,c3,c2]at a9;rw[hU]at a9;have bm:val (((ul.drop k).take (p+2+1)).take p)<1000000000^p:=by have:=qW (Lm.take p);rw[cL,hlm,hG (by omega)]at this;exact this
   obtain⟨a3,c9⟩:∃a3,t3*1000000000+t2=a3:=⟨_,rfl⟩;have bh:U=(t3*1000000000+t2)*P1+(t0*1000000000^p+val (((ul.drop k).take (p+2+1)).take p)):=by rw[a9,←a5,hR];grind
   have b4:t0*1000000000^p+val (((ul.drop k).take (p+2+1)).take p)<P1:=by have:(t0+1)*1000000000^p≤1000000000*1000000000^p:=h9 _ (by omega);rw[j3,iz]at this;rw[←a5,hR];omega
   obtain⟨bx,c0,hg3⟩:=Ld cp hVb ca bh b4 c4 ad a6;rw[c9]at bx c0 a9;have cl:J7 .u64 (J7 .u64 (J7 .u64 (t3:Int)*1000000000)+J7 .u64 (t2:Int))=(a3:Int):=by rw[xO (n:=(t3:Int)),xO (n:=(t3:Int)*1000000000),xO (n:=(t2:Int)),xO];omega
   have bc:J7 .u64 (v1:Int)=(v1:Int):=xO;have wv2:J7 .u64 (v2:Int)=(v2:Int):=xO;have wt0:J7 .u64 (t0:Int)=(t0:Int):=xO;have cq:=Nat.div_add_mod a3 v1;have hml:=hK a3 (show 0<v1 by omega);have a8:Pl (a3:Int) (v1:Int)=((a3/v1:Nat):Int):=by rw[Ts (by omega)];rfl
   have b8:M3 (a3:Int) (v1:Int)=((a3%v1:Nat):Int):=by rw[Int.tmod_eq_emod_of_nonneg (by omega)];rfl
   obtain⟨g0,hg0⟩:∃g0,a3/v1=g0:=⟨_,rfl⟩;obtain⟨r0,hr0⟩:∃r0,a3%v1=r0:=⟨_,rfl⟩;rw[hg0]at bx c0 cq a8;rw[hr0]at cq hml b8;have ci:J7 .u64 (Pl (a3:Int) (v1:Int))=(g0:Int):=by rw[a8,xO]
   have c1:ow (raw ul) k (p+2)=U:=by rw[FX,hU]
   refine⟨⟨by omega,by omega⟩,_,qG (by omega),⟨by omega,by omega⟩,_,qG (by omega),⟨by omega,by omega,qC (by omega)⟩,_,qG (by omega),?_⟩;rw[c5,c3,b1];refine⟨by rw[bc];omega,⟨by omega,by omega,qC (by omega)⟩,_,qG (by omega),?_⟩;rw[b1,cl,bc,ci,b8];refine⟨by omega,⟨a3,k,raw ul,g0,r0,rfl,rfl,by rw[hr];omega,by rw[c1];exact bx,c0,by omega⟩,?_⟩;rintro n_5 n_6 ⟨cg,k',es',g,r,ct,cv,cw,cy,hgB,hrB⟩;simp only[g8,I3,D.sl.injEq,true_and,and_true]at ct cv;obtain⟨e1,e2,rfl⟩:=ct;obtain⟨rfl,rfl⟩:=cv;obtain rfl:a3=cg:=by omega
   obtain rfl:k=k':=by omega
   rw[c1]at cy;have b5:∀g' r',a3=g'*v1+r'→U/V≤g'→g'≤1000000000→g'*v2≤r'*1000000000+t0→Wg (I0v (p+2) m V (A*s)) M0v (raw bl) (raw vl) (raw ul) (raw ql) (k:Int) (g':Int):=fun g' r' h1 h2 h3 h4=>
    FY (by omega) hn lv Lv vV hD (by omega) a6 (by rw[hU];exact h2) h3 (by rw[hU];exact Ps bs a9 cc h1 h4 h3 (by omega))
   have cs:U/V<g→br (toB (I2 (decide (J7 .u64 ((r:Int)+(v1:Int))≥1000000000))))
    (Wg (I0v (p+2) m V (A*s)) M0v (raw bl) (raw vl) (raw ul) (raw ql) (k:Int) (J7 .u64 ((g:Int)-1)))
    (I1v (p+2) v1 V [.int .u64 (a3:Int),.int .i64 (k:Int),.sl (raw ul)] [.int .u64 (J7 .u64 ((g:Int)-1)),.int .u64 (J7 .u64 ((r:Int)+(v1:Int)))]∧
     M1v [.int .u64 (J7 .u64 ((g:Int)-1)),.int .u64 (J7 .u64 ((r:Int)+(v1:Int)))]<M1v [.int .u64 (g:Int),.int .u64 (r:Int)]):=by
    intro an;have hgp:1≤g:=hP (hE _) an;have wg:J7 .u64 ((g:Int)-1)=((g-1:Nat):Int):=by rw[xO];omega
    have wr:J7 .u64 ((r:Int)+(v1:Int))=((r+v1:Nat):Int):=by rw[xO];omega
    have dd:a3=(g-1)*v1+(r+v1):=by
     have:g*v1=(g-1)*v1+v1:=by
      conv=>lhs;rw[show g=(g-1)+1 by omega]
      rw[j3,iz]
     omega
    rw[wg,wr];refine brd (fun h3=>?_) (fun h3=>?_)
    ·refine b5 (g-1) (r+v1) dd (hX an) (by omega) ?_;have h5:(g-1)*v2≤1000000000*1000000000:=ic (by omega) (by omega);have h6:1000000000*1000000000≤(r+v1)*1000000000:=h9 _ (by omega);omega
    ·exact⟨⟨a3,k,raw ul,g-1,r+v1,rfl,rfl,dd,by rw[c1];exact hX an,by omega,by omega⟩,by simp only[M1v,nth,toI,No];omega⟩
   have hqB:U/V<1000000000:=by rw[hM a6,hr];exact ad
   refine brd (fun h3=>?_) (fun h3=>?_)
   ·refine⟨⟨by omega,by omega,qC (by omega)⟩,_,qG (by omega),?_⟩;rw[b1,bc];exact cs (by omega)
   ·refine⟨⟨by omega,by omega,qC (by omega)⟩,_,qG (by omega),⟨by omega,by omega⟩,_,qG (by omega),?_⟩;rw[cb,c2,wv2,wt0];have hgv:g*v2≤1000000000*1000000000:=ic (by omega) (by omega);have wgv:J7 .u64 ((g:Int)*(v2:Int))=((g*v2:Nat):Int):=by have e:(g:Int)*(v2:Int)=((g*v2:Nat):Int):=(Int.natCast_mul ..).symm;rw[e,xO]
    have wrt:J7 .u64 (J7 .u64 ((r:Int)*1000000000)+(t0:Int))=((r*1000000000+t0:Nat):Int):=by rw[xO (n:=(r:Int)*1000000000),xO];omega
    rw[wgv,wrt];refine brd (fun h4=>?_) (fun h4=>?_)
    ·refine⟨⟨by omega,by omega,qC (by omega)⟩,_,qG (by omega),?_⟩;rw[b1,bc];exact cs (Pr bs a9 bm cw (by omega) a6)
    ·exact b5 g r cw cy (by omega) (by omega)
  ·have hk0:kk=0:=by omega
   subst hk0;have an:=hD.hlt;have bw:=hD.heq;simp only[Nat.pow_zero,j0,g5]at an bw;have bb:val ul=A*s%V:=by rw[bw,hr,Nat.mul_add_mod,ho an]
   have dl:val ql=A/B:=by rw[←b6,bw,hr,Nat.mul_add_div a6,ib an,it]
   have htk:val (ul.take (p+2))=A%B*s:=by
    rw[←ap,←bb];have h1:val ul=val (ul.take (p+2))+1000000000^(p+2)*val (ul.drop (p+2)):=by
     conv=>lhs;rw[←List.take_append_drop (p+2) ul]
     rw[qU,cL,hG (by omega)]
    rcases hY (val (ul.drop (p+2)))with h0|h0
    ·rw[h0]at h1;omega
    ·exfalso;have h2:1000000000^(p+2)≤1000000000^(p+2)*val (ul.drop (p+2)):=Nat.le_mul_of_pos_right _ h0;rw[b3]at h2 h1;omega
   have hlul:(lim (A%B*s)).length≤p+2:=by rw[←ap];refine qy ?_;have:=hK (A*s) a6;rw[b3];omega
   have g1:=up (yO (hD.Lu.take (p+2)) (by rw[cL];omega));rw[htk]at g1;have g2:=up (Vj (qh (A%B*s)) (d:=s) (by omega) dc (by omega));rw[qj,Nat.mul_div_cancel _ (show 0<s by omega)]at g2;simp only[g5,jW,qi,cx];refine⟨⟨by omega,by omega,by omega,jd _⟩,_,g1,_,_,g2,?_⟩;have:ql=pad m (A/B):=by refine S8 hD.Lq (zh _ _) (by rw[xA];exact hD.lq) ?_;have h1:=qW hD.Lq;rw[hD.lq,dl]at h1;rw[kv,ho h1,dl]
   rw[this]
 ·rw[kv,ho];rw[←b6,hM a6];have h1:=a4.hlt;have h2:=a4.heq;rw[en (by simp)]at h2;simp only[val,Nat.zero_mul,Nat.zero_add]at h2;rw[←h2]at h1;rw[hr (1000000000^m)];exact h1
 ·rw[kv,ho];have h1:=qW (qh (A%B*s));rw[qj]at h1;have:A%B*1≤A%B*s:=hH _ hs2;omega
 ·rw[xA,←ap];have:(lim (A*s%V)).length≤p+2:=by refine qy ?_;have:=hK (A*s) a6;rw[b3];omega
  omega
theorem Wk:HB:=by
 intro a b la lb hb0 ra rb;have ta:=up (yO la (by omega));have tb:=up (yO lb (by omega));have nA:(lim (val a)).length≤a.length:=qy (qW la);have nB:(lim (val b)).length≤b.length:=qy (qW lb);have a3:lim (val b)≠[]:=by rw[ne_eq,Qx];exact hb0
 have hpos:0<(lim (val b)).length:=List.length_pos_iff.2 a3;by_cases h1:(lim (val b)).length=1
 ·obtain⟨d,hd⟩:=List.length_eq_one_iff.1 h1;have hv:val b=d:=by rw[←qj (val b),hd];simp[val]
  rw[hd]at tb;have hd1:d<1000000000:=(qh (val b)) d (by rw[hd];simp);refine⟨_,_,C8 ta tb (qh _) (by omega) (by omega) hd1,zh _ _,J4 ?_ J3,?_,?_,by rw[xA];omega,by simp⟩
  ·have:=hK (val (lim (val a))) (show 0<d by omega);omega
  ·rw[kv,qj,hv,ho];have h2:=qW (qh (val a));rw[qj]at h2;exact hP (Nat.div_le_self _ _) h2
  ·rw[qj,hv];simp[val]
 ·by_cases h2:val a<val b
  ·refine⟨_,_,FZ ta tb (qh _) (qh _) (by omega) (by omega) (by omega) (by rw[qj,qj];exact h2),J3,qh _,?_,?_,by simp,by omega⟩
   ·rw[ib h2];rfl
   ·rw[ho h2,qj]
  ·exact C9 (p:=(lim (val b)).length-2) ta tb (qh _) (qh _) (by omega) (by omega) (qj _) (qj _) ((jV _).resolve_left a3) (by omega) (by rw[qj,qj];omega)
end Eng
end
section
namespace Eng
open Go Go.Proofs
set_option maxRecDepth 100000
def tabL (_:Nat) (_:List A):Option (List A):=none
theorem tabL_ok (f:Nat) (al rs:List A) (h:tabL f al=some rs):qe CC f al rs:=by simp[tabL]at h
def Wl:List (List D)→Bool
 |[]=>true
 |[e]=>hT 0 (aU e)
 |_::r=>Wl r
theorem VK:∀{l:List Nat},Wl (raw l)=true→l=[]∨l.getLast?≠some 0
 |[],_=> .inl rfl
 |[x],h=> .inr (by
  simp only[raw,gb,g7,Wl,aU,No]at h;rw[hQ]at h;simp;omega)
 |x::y::l,h=> .inr (by
  have h2:Wl (raw (y::l))=true:=h;rcases VK h2 with h3|h3
  ·simp at h3
  ·rw[List.getLast?_cons_cons];exact h3)
def D9 (b:Bool) (es:List (List D)):Int:=match b with|true=> -(WA es:Int)|false=>(WA es:Int)
def okZ (b:Bool) (es:List (List D)):Bool:=ZE es&&(Wl es&&(match es with|[]=>!b|_=>true))
theorem CE {b:Bool} {es:List (List D)} (h:okZ b es=true):cI (D9 b es)=[.bool b,.sl es]:=by
 unfold okZ at h;simp only[Aw]at h;obtain⟨h1,h2,h3⟩:=h;obtain⟨e1,e2,e3⟩:=Xl h1;rw[e1]at h2;have hu:=yN e2 (VK h2);rw[e3]at hu;have hn:(D9 b es).natAbs=WA es:=by
  unfold D9;cases b
  ·simp
  ·simp
 have hb:decide (D9 b es<0)=b:=by
  cases b with
  |false=>unfold D9;exact decide_eq_false (by simp)
  |true=>
   unfold D9;refine decide_eq_true ?_;have:WA es≠0:=by
    intro h0;rw[h0]at hu;have h4:W9 es=[]:=by rw[←hu];rfl
    rw[h4]at e1;rw[e1]at h3;simp[raw]at h3
   show-(WA es:Int)<0;omega
 unfold cI;rw[hn,hb,hu,←e1]
def rdI:A→Option Int
 | .ag [.bool b,.sl es]=>match okZ b es with
  |true=>some (D9 b es)
  |false=>none
 |_=>none
theorem CF {a:A} {z:Int} (h:rdI a=some z):a=qS z:=by
 unfold rdI at h;split at h
 ·split at h
  ·rename_i hz;simp only[j4]at h;subst h;unfold qS;rw[CE hz]
  ·simp at h
 ·simp at h
def di (n:Int) (d:Nat):Option Rat:=
 if hd:d≠0 then if h:ia n.natAbs d=1 then some ⟨n,d,hd,h⟩else none else none
theorem Aa {n:Int} {d:Nat} {r:Rat} (h:di n d=some r):r.num=n∧r.den=d:=by
 unfold di at h;split at h
 ·split at h
  ·simp only[j4]at h;subst h;exact⟨rfl,rfl⟩
  ·simp at h
 ·simp at h
def hN:Nat:=(1000000000^100)^4
theorem mc:hN≤Ze:=by decide
def tN:Nat:=(1000000000^100)^10
theorem me:tN≤Vk:=by decide
def I7 (z:Int):Bool:=hT z.natAbs hN
def rdR:A→Option Rat
 | .ag [.bool b,.sl es,.bool c,.sl fs]=>match okZ b es&&(okZ c fs&&(!c&&(I7 (D9 b es)&&hT (WA fs) hN)))with
  |true=>di (D9 b es) (WA fs)
  |false=>none
 |_=>none
theorem VL {a:A} {r:Rat} (h:rdR a=some r):a=jz r∧Sr r:=by
 unfold rdR at h;split at h
 ·rename_i b es c fs;split at h
  ·rename_i hz;simp only[Aw,Bool.not_eq_true']at hz;obtain⟨h1,h2,rfl,h3,h4⟩:=hz;obtain⟨e1,e2⟩:=Aa h;have hd:D9 false fs=(r.den:Int):=by rw[e2];rfl
   refine⟨?_,?_,?_⟩
   ·unfold jz cR;rw[e1,CE h1,←hd,CE h2];rfl
   ·rw[e1];unfold I7 at h3;rw[hQ]at h3;exact hC h3 mc
   ·rw[hQ]at h4;show((r.den:Int)).natAbs<Ze;rw[Int.natAbs_natCast,e2];exact hC h4 mc
  ·simp at h
 ·simp at h
def Ou (al:List A):Option (Int×Int):=match al with
 |[a,b]=>match rdI a,rdI b with
  |some x,some y=>match hT x.natAbs tN&&hT y.natAbs tN with
   |true=>some (x,y)
   |false=>none
  |_,_=>none
 |_=>none
theorem jQ {al:List A} {x y:Int} (h:Ou al=some (x,y)):al=[qS x,qS y]∧Sm x∧Sm y:=by
 unfold Ou at h;split at h
 ·split at h
  ·rename_i x' y' h1 h2;split at h
   ·rename_i h3;simp only[j4,Prod.mk.injEq]at h;obtain⟨rfl,rfl⟩:=h;simp only[Aw,hQ]at h3;rw[CF h1,CF h2];exact⟨rfl,hC h3.1 me,hC h3.2 me⟩
   ·simp at h
  ·simp at h
 ·simp at h
def DA (al:List A):Option (Rat×Rat):=match al with
 |[a,b]=>match rdR a,rdR b with
  |some x,some y=>some (x,y)
  |_,_=>none
 |_=>none
theorem yD {al:List A} {x y:Rat} (h:DA al=some (x,y)):al=[jz x,jz y]∧Sr x∧Sr y:=by
 unfold DA at h;split at h
 ·split at h
  ·rename_i x' y' h1 h2;simp only[j4,Prod.mk.injEq]at h;obtain⟨rfl,rfl⟩:=h;rw[(VL h1).1,(VL h2).1];exact⟨rfl,(VL h1).2,(VL h2).2⟩
  ·simp at h
 ·simp at h
def eX (a b:Int):Int:=match decide (a<b)with|true=> -1|false=>match decide (b<a)with|true=>1|false=>0
theorem Gy (a b:Int):eX a b=Qi a b:=by
 unfold eX Qi;by_cases h:a<b
 ·rw[decide_eq_true h,if_pos h]
 ·rw[decide_eq_false h,if_neg h];by_cases h2:b<a
  ·rw[decide_eq_true h2,if_pos h2]
  ·rw[decide_eq_false h2,if_neg h2]
def DB (n d:Int):A:= .ag (cI (n/(ia n.natAbs d.natAbs:Nat))++cI (d/(ia n.natAbs d.natAbs:Nat)))
def tX (f:Nat) (al:List A):Option (List A):=
 match f with
 |232=>match DA al with|some (x,y)=>some [DB (x.num*y.num) (x.den*y.den)]|none=>none
 |233=>match DA al with|some (x,y)=>some [DB (x.num*y.den+y.num*x.den) (x.den*y.den)]|none=>none
 |175=>match DA al with|some (x,y)=>some [DB (x.num*y.den+(-y.num)*x.den) (x.den*y.den)]|none=>none
 |172=>match DA al with|some (x,y)=>some [.c (.int .i64 (eX (x.num*y.den) (y.num*x.den)))]|none=>none
 |111=>match al with
  |[.c (.int .i64 n)]=>match decide (-9223372036854775808≤n)&&decide (n<9223372036854775808)with
   |true=>some [.ag (cI n++cI 1)]
   |false=>none
  |_=>none
 |230=>match Ou al with|some (x,y)=>some [qS (x*y)]|none=>none
 |229=>match Ou al with|some (x,y)=>some [.c (.int .i64 (eX x y))]|none=>none
 |277=>match Ou al with|some (x,y)=>some [qS (x+y)]|none=>none
 |356=>match Ou al with|some (x,y)=>some [qS (x-y)]|none=>none
 |306=>match Ou al with|some (x,y)=>some [qS (ia x.natAbs y.natAbs:Nat)]|none=>none
 |170=>match al with
  |[.c (.int .i64 n)]=>match decide (-9223372036854775808≤n)&&decide (n<9223372036854775808)with
   |true=>some [qS n]
   |false=>none
  |_=>none
 |_=>tabL f al
theorem Zx {n d:Int} (hd:0<d):DB n d=jz (k1 n d):=(v6 hd).symm
theorem dj (f:Nat) (al rs:List A) (h:tX f al=some rs):qe CC f al rs:=by
 unfold tX at h;split at h
 ·split at h
  ·rename_i x y h1;obtain⟨rfl,hx,hy⟩:=yD h1;simp only[j4]at h;subst h;rw[Zx (T1 (den_pos x) (den_pos y))];have e:x*y=k1 (x.num*y.num) (x.den*y.den):=by rw[←Rat.divInt_mul_divInt,k0,k0]
   rw[←e];exact SH Wk hx hy
  ·simp at h
 ·split at h
  ·rename_i x y h1;obtain⟨rfl,hx,hy⟩:=yD h1;simp only[j4]at h;subst h;have px:=den_pos x;have py:=den_pos y;rw[Zx (T1 px py)];have e:x+y=k1 (x.num*y.den+y.num*x.den) (x.den*y.den):=by rw[←k2 _ _ (by omega) (by omega),k0,k0]
   rw[←e];exact TP Wk hx hy
  ·simp at h
 ·split at h
  ·rename_i x y h1;obtain⟨rfl,hx,hy⟩:=yD h1;simp only[j4]at h;subst h;have px:=den_pos x;have py:=den_pos y;rw[Zx (T1 px py)];have e:x-y=k1 (x.num*y.den+(-y.num)*x.den) (x.den*y.den):=by
    rw[Rat.sub_eq_add_neg,←k2 _ _ (by omega) (by omega),k0];have:k1 (-y.num) y.den= -y:=by rw[←Rat.neg_num];exact k0 (-y)
    rw[this]
   rw[←e];exact SI Wk hx hy
  ·simp at h
 ·split at h
  ·rename_i x y h1;obtain⟨rfl,hx,hy⟩:=yD h1;simp only[j4]at h;subst h;rw[Gy,←Kz];exact SG hx hy
  ·simp at h
 ·split at h
  ·split at h
   ·rename_i hb;simp only[j4]at h;subst h;simp only[Aw,decide_eq_true_eq]at hb;have g:=Xn hb.1 hb.2;unfold jz cR at g;rw[Rat.num_intCast,Rat.den_intCast]at g;exact g
   ·simp at h
  ·simp at h
 ·split at h
  ·rename_i x y h1;obtain⟨rfl,hx,hy⟩:=jQ h1;simp only[j4]at h;subst h;exact up (wo hx hy)
  ·simp at h
 ·split at h
  ·rename_i x y h1;obtain⟨rfl,hx,hy⟩:=jQ h1;simp only[j4]at h;subst h;rw[Gy];exact up (yk hx hy)
  ·simp at h
 ·split at h
  ·rename_i x y h1;obtain⟨rfl,hx,hy⟩:=jQ h1;simp only[j4]at h;subst h;exact up (Za hx hy)
  ·simp at h
 ·split at h
  ·rename_i x y h1;obtain⟨rfl,hx,hy⟩:=jQ h1;simp only[j4]at h;subst h;exact up (SB hx hy)
  ·simp at h
 ·split at h
  ·rename_i x y h1;obtain⟨rfl,hx,hy⟩:=jQ h1;simp only[j4]at h;subst h;exact SE Wk hx hy
  ·simp at h
 ·split at h
  ·split at h
   ·rename_i hb;simp only[j4]at h;subst h;simp only[Aw,decide_eq_true_eq]at hb;exact up (xz hb.1 hb.2)
   ·simp at h
  ·simp at h
 ·exact tabL_ok f al rs h
end Eng
end
section
namespace Eng
open Go Go.Proofs
def eqL {α:Type} (e:α→α→Bool):List α→List α→Bool
 |[],[]=>true
 |a::xs,b::ys=>e a b&&eqL e xs ys
 |_,_=>false
theorem ZU {α:Type} {e:α→α→Bool} (h:∀a b,e a b=true→a=b):∀{xs ys:List α},eqL e xs ys=true→xs=ys
 |[],[],_=>rfl
 |a::xs,b::ys,hh=>by simp only[eqL,Aw]at hh;rw[h a b hh.1,ZU h hh.2]
 |[],_::_,hh=>by simp[eqL]at hh
 |_::_,[],hh=>by simp[eqL]at hh
def eqB:UInt8→UInt8→Bool:=fun a b=>im a.toNat b.toNat
def eqD:Nat→D→D→Bool
 |0,_,_=>false
 |_+1,.undef,.undef=>true
 |_+1,.bool a,.bool b=>a==b
 |_+1,.int k a,.int k' b=>decide (k=k')&&decide (a=b)
 |_+1,.str s,.str t=>eqL eqB s t
 |n+1,.sl es,.sl fs=>eqL (eqL (eqD n)) es fs
 |_+1,.ifc a,.ifc b=>a==b
 |_+1,.fn a,.fn b=>im a b
 |_+1,.nilP,.nilP=>true
 |n+1,.ptr cs,.ptr ds=>eqL (eqD n) cs ds
 |n+1,.clo f ps,.clo g qs=>im f g&&eqL (eqD n) ps qs
 |_+1,_,_=>false
theorem mf (a b:UInt8) (h:eqB a b=true):a=b:=UInt8.toNat_inj.1 (hL h)
theorem I8 (n:Nat):∀(a b:D),eqD n a b=true→a=b:=by
 induction n with
 |zero=>intro a b h;simp[eqD]at h
 |succ n ih=>
  intro a b h;cases a<;>cases b<;>simp only[eqD,Aw,decide_eq_true_eq,beq_iff_eq,Bool.false_eq_true]at h
  all_goals first
   |rfl
   |(rw[h];done)
   |(rw[h.1,h.2];done)
   |(rw[ZU mf h];done)
   |(rw[ZU ih h];done)
   |(rw[hL h.1,ZU ih h.2];done)
   |(rw[ZU (fun a b hh=>ZU ih hh) h];done)
   |rw[hL h]
def eqA:A→A→Bool
 | .c a,.c b=>eqD 20 a b
 | .ag a,.ag b=>eqL (eqD 20) a b
 |_,_=>false
theorem mg (a b:A) (h:eqA a b=true):a=b:=by
 unfold eqA at h;split at h
 ·rw[I8 _ _ _ h]
 ·rw[ZU (I8 20) h]
 ·simp at h
end Eng
end
