/- Drawings, the program's side: decimal texts. -/
import Derived.Test.YtbehlcfelmbmlaaGreatDoorDbA
import Derived.Test.YtbehlcfelmbmlaaGreatDoorTabF
import Derived.Test.YtbehlcfelmbmlaaGreatDoorCtxB
import Derived.Test.YtbehlcfelmbmlaaGreatDoorTxA
import Derived.Test.YtbehlcfelmbmlaaGreatDoorLexA
import Derived.KernelRfl
open Bool renaming eq_iff_iff→Aw
open Eng.A renaming c→Bx, ag→Dd
open Eng.D renaming int→F0, bool→F2, str→Hu, sl→Hv
open Go.IntKind renaming wrap→Hx
open Go.Lib renaming trimLeftS→Hy, indexByte→J3, trimS→J4
open Int renaming toNat→J6, ofNat→J7, toNat_natCast→J9, ofNat_eq_natCast→Lm, natAbs_natCast→Lr
open List renaming take→Ls, drop→Lv, length_cons→No, length_append→Pl, length_map→P1, length_drop→Ts, length→T1, length_nil→U0, not_mem_nil→U3, dropWhile_cons→V1, mem_cons→W0, map_append→W1, append_nil→W2, take_of_length_le→ad, count_le_length→ae, length_take→af, all_reverse→ah, replicate→ai, drop_zero→aj, drop_take→ak, all_cons→am
open List.cons renaming injEq→an
open Nat renaming pow_lt_pow_right→ao, pow_le_pow_right→ap, lt_of_lt_of_le→aq, lt_of_le_of_lt→ar, lt_or_ge→au, le_of_lt→av, pow_pos→aw
open Option.some renaming injEq→ax
open Rat renaming intCast_natCast→ay, divInt_eq_div→az, divInt→a8
open UInt8 renaming toNat→aA
section
namespace Eng
open Go Go.Proofs
set_option maxRecDepth 1000000
def digL:List UInt8:=[48,49,50,51,52,53,54,55,56,57]
theorem RB (c:UInt8):digL.contains c=isD c:=by
 rw[Aw,jc,List.contains_iff_mem];simp only[digL,W0,U3,or_false,←UInt8.toNat_inj];have e:(48:UInt8).toNat=48∧(49:UInt8).toNat=49∧(50:UInt8).toNat=50∧(51:UInt8).toNat=51∧(52:UInt8).toNat=52∧(53:UInt8).toNat=53∧(54:UInt8).toNat=54∧(55:UInt8).toNat=55∧(56:UInt8).toNat=56∧(57:UInt8).toNat=57:=by decide
 omega
theorem Zl {α:Type} {p:α→Bool}:∀{l:List α},l.dropWhile p=[]↔l.all p=true
 |[]=>by simp
 |a::l=>by
  rw[V1,am];cases h:p a with
  |true=>simp[Zl (l:=l)]
  |false=>simp
theorem Kh {α:Type} {p:α→Bool}:∀{l:List α} {a:α} {r:List α},l.dropWhile p=a::r→p a=false
 |[],_,_,h=>by simp at h
 |b::l,a,r,h=>by
  rw[V1]at h;cases hb:p b with
  |true=>rw[hb]at h;exact Kh (l:=l) (by simpa using h)
  |false=>rw[hb]at h;simp at h;rw[←h.1];exact hb
theorem Nt (s:List UInt8):(J4 s digL==[])=s.all isD:=by
 have hp:(fun c=>digL.contains c)=isD:=funext RB;have e:J4 s digL=((s.reverse.dropWhile isD).reverse).dropWhile isD:=by unfold J4 Hy Lib.trimRightS;rw[hp]
 rw[Aw,beq_iff_eq,e,Zl];have h2:s.all isD=true↔s.reverse.dropWhile isD=[]:=by rw[Zl,ah]
 rw[h2];constructor
 ·intro h;cases hd:s.reverse.dropWhile isD with
  |nil=>rfl
  |cons a r=>rw[hd]at h;have:=Kh hd;rw[ah,am,this]at h;simp at h
 ·intro h;rw[h];rfl
theorem Nu:∀s:List UInt8,Hy s [48]=xh s
 |[]=>rfl
 |c::s=>by
  have ih:=Nu s;unfold Hy at ih ⊢;rw[V1,xh];by_cases h:c=48
  ·rw[if_pos h,←ih];simp[h]
  ·rw[if_neg h];simp[h]
theorem Zm (s:List UInt8):(xh s).length≤s.length:=by
 induction s with
 |nil=>simp[xh]
 |cons c s ih=>rw[xh];split<;>simp;omega
theorem VF {s:List UInt8} (hs:s.length≤1073741824):qf CC 249 [.c (.str s)] [.c (.bool (decide (s≠[]∧s.all isD=true)))]:=by
 refine qg (anns:=an0) mixedT Tryz.func249 ?_;have ht:=PT (s:=s) (cut:=digL) hs (by decide) (JF (by decide));have e:=Nt s;unfold digL at ht e;rw[Nm];cases s with
 |nil=>refine brb (fun h=>by simp at h) (fun _=>rfl)
 |cons c r=>refine brb (fun _=>⟨_,ht,?_⟩) (fun h=>by simp at h);rw[e];congr 3;rw[Aw,decide_eq_true_eq];simp
def Fm (s:List UInt8):List A:=
 let b:=(qA s).1
 let w:=(qB 46 b).1
 let p:=(qB 46 b).2
 if ¬(w≠[]∧w.all isD=true)∨(1<w.length∧nth 0 w 0=48)∨(p.isSome=true∧(¬(p.getD []≠[]∧(p.getD []).all isD=true)∨30<(p.getD []).length))then [.c (.str []),.c (.int .i64 0),.c (.bool false)]
 else if xh (w++p.getD [])=[]then [.c (.str [48]),.c (.int .i64 ((p.getD []).length:Int)),.c (.bool !(qA s).2)]
 else [.c (.str (if(qA s).2=true then 45::xh (w++p.getD [])else xh (w++p.getD []))),.c (.int .i64 ((p.getD []).length:Int)),.c (.bool true)]
theorem QK (c:UInt8):∀s:List UInt8,(qB c s).1.length+((qB c s).2.getD []).length≤s.length
 |[]=>by simp[qB]
 |a::s=>by
  have:=QK c s;rw[qB];split
  ·simp
  ·simp;omega
theorem Ki {s:List UInt8} (hs:s.length≤65536):qf CC 159 [.c (.str s)] (Fm s):=by
 refine qg (anns:=an0) mixedT Tryz.func159 ?_;have h1:=Tm (s:=s) (by omega);have l1:=kB s;have h2:=Fd (s:=(qA s).1) 46 (by omega);have l2:=QK 46 (qA s).1;unfold AP at h2;unfold Fm;simp only;rw[TE];simp only[Lm];generalize qA s=g at *;obtain⟨b,a3⟩:=g;simp only at h1 h2 l1 l2 ⊢;generalize qB 46 b=q at *;obtain⟨w,p⟩:=q;simp only at h2 l2 ⊢;have hw:=VF (s:=w) (by omega);have hp:=VF (s:=p.getD []) (by omega);have hT:=Tj (s:=w++p.getD []) (cut:=[48]) (by decide) (JF (by decide));rw[Nu]at hT;have lT:=Zm (w++p.getD []);rw[Pl]at lT;have hr:room (w.length+(p.getD []).length):=by unfold room;omega
 generalize hR:(if ¬(w≠[]∧w.all isD=true)∨(1<w.length∧nth 0 w 0=48)∨(p.isSome=true∧(¬(p.getD []≠[]∧(p.getD []).all isD=true)∨30<(p.getD []).length))then [Bx (.str []),Bx (.int .i64 0),Bx (.bool false)]
  else if xh (w++p.getD [])=[]then [Bx (.str [48]),Bx (.int .i64 ((p.getD []).length:Int)),Bx (.bool !a3)]
  else [Bx (.str (if a3=true then 45::xh (w++p.getD [])else xh (w++p.getD []))),Bx (.int .i64 ((p.getD []).length:Int)),Bx (.bool true)])=R
 have a2:(¬(w≠[]∧w.all isD=true)∨(1<w.length∧nth 0 w 0=48)∨(p.isSome=true∧(¬(p.getD []≠[]∧(p.getD []).all isD=true)∨30<(p.getD []).length)))→[Bx (.str []),Bx (.int .i64 0),Bx (.bool false)]=R:=fun h=>by rw[if_pos h]at hR;exact hR
 have a4:¬(¬(w≠[]∧w.all isD=true)∨(1<w.length∧nth 0 w 0=48)∨(p.isSome=true∧(¬(p.getD []≠[]∧(p.getD []).all isD=true)∨30<(p.getD []).length)))→
  room (w.length+(p.getD []).length)∧∃s_3,qf CC 250 [Bx (Hu (w++p.getD [])),Bx (Hu [48])] [Bx (Hu s_3)]∧
   br (toB (F2 (s_3==[]))) ([Bx (Hu [48]),Bx (F0 .i64 ((p.getD []).length:Int)),Bx (F2 !a3)]=R)
    (br a3 (room (1+s_3.length)∧[Bx (Hu (45::s_3)),Bx (F0 .i64 ((p.getD []).length:Int)),Bx (F2 true)]=R)
     ([Bx (Hu s_3),Bx (F0 .i64 ((p.getD []).length:Int)),Bx (F2 true)]=R)):=by
  intro h;rw[if_neg h]at hR;refine⟨hr,_,hT,brb (fun h=>?_) (fun h=>?_)⟩
  ·rw[←hR,if_pos (by simpa using h)]
  ·rw[←hR,if_neg (by simpa using h)];cases a3 with
   |true=>exact⟨by unfold room;omega,rfl⟩
   |false=>rfl
 clear hR hT;refine brd (fun h=>absurd h (by omega)) (fun _=>⟨_,_,h1,_,_,_,h2,_,hw,?_⟩);by_cases a0:¬(w≠[]∧w.all isD=true)
 ·rw[decide_eq_false a0];exact brb (fun _=>a2 (.inl a0)) (fun h=>by simp at h)
 have a0:=Decidable.not_not.1 a0;rw[decide_eq_true a0];refine brb (fun h=>by simp at h) (fun _=>?_);have e48:(((nth 0 w 0).toNat:Int)==48)=decide (nth 0 w 0=48):=u8b (nth 0 w 0) 48 (by omega);refine brd (fun h3=>⟨⟨by omega,by omega⟩,?_⟩) (fun h3=>?_)
 ·show br (toB (F2 (((nth 0 w 0).toNat:Int)==48))) _ _;rw[e48];refine brd (fun h4=>a2 (.inr (.inl ⟨by omega,h4⟩))) (fun h4=>?_);cases p with
  |none=>exact a4 (fun h=>h.elim (fun h=>h a0) fun h=>h.elim (fun h=>h4 h.2) fun h=>by simp at h)
  |some t=>
   refine⟨_,hp,?_⟩;by_cases ht:t≠[]∧t.all isD=true
   ·have a1:decide ((some t).getD []≠[]∧((some t).getD []).all isD=true)=true:=decide_eq_true ht;rw[a1];refine brb (fun h=>by simp at h) (fun _=>brd (fun h5=>a2 (.inr (.inr ⟨rfl,.inr (by omega)⟩))) (fun h5=>a4 (fun h=>?_)));rcases h with h|h|⟨_,h|h⟩
    ·exact h a0
    ·exact h4 h.2
    ·exact h ht
    ·omega
   ·have a1:decide ((some t).getD []≠[]∧((some t).getD []).all isD=true)=false:=decide_eq_false ht;rw[a1];exact brb (fun _=>a2 (.inr (.inr ⟨rfl,.inl ht⟩))) (fun h=>by simp at h)
 ·cases p with
  |none=>exact a4 (fun h=>h.elim (fun h=>h a0) fun h=>h.elim (fun h=>h3 (by omega)) fun h=>by simp at h)
  |some t=>
   refine⟨_,hp,?_⟩;by_cases ht:t≠[]∧t.all isD=true
   ·have a1:decide ((some t).getD []≠[]∧((some t).getD []).all isD=true)=true:=decide_eq_true ht;rw[a1];refine brb (fun h=>by simp at h) (fun _=>brd (fun h5=>a2 (.inr (.inr ⟨rfl,.inr (by omega)⟩))) (fun h5=>a4 (fun h=>?_)));rcases h with h|h|⟨_,h|h⟩
    ·exact h a0
    ·exact h3 (by omega)
    ·exact h ht
    ·omega
   ·have a1:decide ((some t).getD []≠[]∧((some t).getD []).all isD=true)=false:=decide_eq_false ht;rw[a1];exact brb (fun _=>a2 (.inr (.inr ⟨rfl,.inl ht⟩))) (fun h=>by simp at h)
end Eng
end

section
namespace Eng
open Go Go.Proofs
set_option maxRecDepth 100000
theorem VG {s t:List UInt8} {k:Nat} (h:C8 s=some (t,k)):Fm s=[.c (.str t),.c (.int .i64 (k:Int)),.c (.bool true)]:=by
 unfold C8 at h;unfold Fm;simp only at h ⊢;generalize qA s=g at *;obtain⟨b,neg⟩:=g;simp only at h ⊢;generalize qB 46 b=q at *;obtain⟨w,p⟩:=q;simp only at h ⊢;by_cases h1:¬(w≠[]∧w.all isD=true)∨(1<w.length∧nth 0 w 0=48)∨(p.isSome=true∧(¬(p.getD []≠[]∧(p.getD []).all isD=true)∨30<(p.getD []).length))
 ·rw[if_pos h1]at h;simp at h
 rw[if_neg h1]at h ⊢;by_cases h2:xh (w++p.getD [])=[]
 ·rw[if_pos h2]at h ⊢;cases neg with
  |true=>simp at h
  |false=>simp at h;rw[←h.1,←h.2];rfl
 ·rw[if_neg h2]at h ⊢;simp only[ax,Prod.mk.injEq]at h;rw[h.1,h.2]
theorem VH {s:List UInt8} (h:C8 s=none):∃t k,Fm s=[.c (.str t),.c (.int .i64 k),.c (.bool false)]:=by
 unfold C8 at h;unfold Fm;simp only at h ⊢;generalize qA s=g at *;obtain⟨b,neg⟩:=g;simp only at h ⊢;generalize qB 46 b=q at *;obtain⟨w,p⟩:=q;simp only at h ⊢;by_cases h1:¬(w≠[]∧w.all isD=true)∨(1<w.length∧nth 0 w 0=48)∨(p.isSome=true∧(¬(p.getD []≠[]∧(p.getD []).all isD=true)∨30<(p.getD []).length))
 ·rw[if_pos h1];exact⟨_,_,rfl⟩
 rw[if_neg h1]at h ⊢;by_cases h2:xh (w++p.getD [])=[]
 ·rw[if_pos h2]at h ⊢;cases neg with
  |true=>exact⟨_,_,rfl⟩
  |false=>simp at h
 ·rw[if_neg h2]at h;simp at h
theorem Nv {s t:List UInt8} {k:Nat} (h:C8 s=some (t,k)):t.length≤max 1 s.length∧k≤30:=by
 unfold C8 at h;have l1:=kB s;have l2:=QK 46 (qA s).1;have l3:(qA s).2=true→(qA s).1.length+1≤s.length:=by
  cases s with
  |nil=>simp[qA]
  |cons c s=>rw[xj];split<;>simp
 simp only at h;generalize qA s=g at *;obtain⟨b,a0⟩:=g;simp only at h l1 l2 l3;generalize qB 46 b=q at *;obtain⟨w,p⟩:=q;simp only at h l2;have lT:=Zm (w++p.getD []);rw[Pl]at lT;by_cases h1:¬(w≠[]∧w.all isD=true)∨(1<w.length∧nth 0 w 0=48)∨(p.isSome=true∧(¬(p.getD []≠[]∧(p.getD []).all isD=true)∨30<(p.getD []).length))
 ·rw[if_pos h1]at h;simp at h
 rw[if_neg h1]at h;have hk:(p.getD []).length≤30:=by
  cases p with
  |none=>simp
  |some t=>simp only[not_or]at h1;have h3:=h1.2.2;simp only[Option.isSome_some,true_and,not_or]at h3;have:=h3.2;omega
 by_cases h2:xh (w++p.getD [])=[]
 ·rw[if_pos h2]at h;cases a0 with
  |true=>simp at h
  |false=>simp at h;rw[←h.1,←h.2];exact⟨by simp;omega,hk⟩
 ·rw[if_neg h2]at h;simp only[ax,Prod.mk.injEq]at h;rw[←h.1,←h.2];refine⟨?_,hk⟩;cases a0 with
  |true=>have:=l3 rfl;simp;omega
  |false=>simp;omega
theorem Kj {s:List UInt8} (hs:s.length≤7000):qf CC 156 [.c (.str s)] (CJ (XU s)):=by
 refine qg (anns:=an0) mixedT Tryz.func156 ?_;have hd:=Ki (s:=s) (by omega);have he:=P4 s;unfold XU;rw[TF];cases h:vS s with
 |none=>rw[h]at he;obtain⟨t,k,h2⟩:=VH he;rw[h2]at hd;exact⟨_,_,_,hd,brb (fun _=>rfl) (fun h=>by simp at h)⟩
 |some mk=>
  obtain⟨m,k⟩:=mk;rw[h]at he;have h2:=VG he;obtain⟨b1,b2⟩:=Nv he;rw[h2]at hd;have hp:=Rh (s:=z8 m) (by omega);rw[Vv]at hp;have hsm:=Fg (Vv m) (by omega);have a1:=VA (k:=k) (by omega);have hpp:10^k<10^32:=ao (by omega) (by omega);have hpos:0<10^k:=aw (by omega);have a0:=HY (x:=m) (y:=((10^k:Nat):Int)) hsm (G2 (by rw[Lr];exact Nat.lt_trans hpp (by decide))) (by omega);have e:a8 m ((10^k:Nat):Int)=(m:Rat)/((10^k:Nat):Rat):=by rw[az,ay]
  rw[e]at a0;simp only;generalize (m:Rat)/((10^k:Nat):Rat)=r at *;have ho:F9 (some m)=[qJ m,.c (.int .i64 0)]:=rfl;rw[ho,qm]at hp;rw[qm]at a1;rw[qm,qm,qb]at a0;refine⟨_,_,_,hd,brb (fun h=>by simp at h) (fun _=>⟨_,_,_,hp,brb (fun h=>by simp at h) (fun _=>⟨_,_,a1,_,_,_,_,_,a0,?_⟩)⟩)⟩;show _=[xk r,Bx (.int .i64 0)];rw[qb]
end Eng
end

section
open Go Go.Proofs Eng
set_option maxRecDepth 1000000
namespace Eng
section
variable (Gv:Nat→List A→List A→Prop) (Q:List A→Prop) (I0 I1 I2 I3:List D→List D→Prop) (M0 M1 M2 M3:List D→Nat)
theorem Db (s:List UInt8) (c:UInt8):wpF CC Gv an0 Tryz.f244 [.c (.str s),.c (.str [c])] Q=(
 ∃n,Gv 318 [Bx (Hu s),Bx (Hu [c])] [Bx (F0 .i64 n)]∧Q [Bx (F0 .i64 n)]):=by kernel_rfl
theorem Dc (s:List UInt8) (c:UInt8):wpF CC Gv (fun _=>⟨[.slot 0 (.string ⟨#[]⟩),.slot 5 (.int .i64 0)],[],I0,M0⟩) Tryz.f243 [.c (.str s),.c (.str [c])] Q=(
 ((0:Int)≤(0:Int)∧(0:Int)<(1:Int))∧Q [Bx (F0 .i64 (J7 (Lib.countByte s (Nat.toUInt8 (J6 (J7 (aA (nth 0 [c] (J6 (0:Int))))))))))]):=by kernel_rfl
theorem De (s:List UInt8) (c:UInt8):wpF CC Gv (fun _=>⟨[.own 9 66 1,.slot 10 (.int .i64 0),.slot 0 (.string ⟨#[]⟩)],[],I0,M0⟩) Tryz.f149 [.c (.str s),.c (.str [c]),.c (.int .i64 0),.c (.int .i64 (-1))] Q=(
 ∃n,Gv 243 [Bx (Hu s),Bx (Hu [c])] [Bx (F0 .i64 n)]∧((0≤mnZ (Hx .i64 ((J7 s.length)+1)) (Hx .i64 (n+1)))∧((mnZ (Hx .i64 ((J7 s.length)+1)) (Hx .i64 (n+1)))≤mnZ (Hx .i64 ((J7 s.length)+1)) (Hx .i64 (n+1)))∧room (J6 (mnZ (Hx .i64 ((J7 s.length)+1)) (Hx .i64 (n+1)))))∧I0 [] [Hv (ai (J6 (mnZ (Hx .i64 ((J7 s.length)+1)) (Hx .i64 (n+1)))) [Hu []]),F0 .i64 0,Hu s]∧∀(es:List (List D)) (n1:Int) (s1:List UInt8),I0 [] [Hv es,F0 .i64 n1,Hu s1]→br (toB (F2 (decide (n1<Hx .i64 ((mnZ (Hx .i64 ((J7 s.length)+1)) (Hx .i64 (n+1)))-1))))) (∃n,Gv 244 [Bx (Hu s1),Bx (Hu [c])] [Bx (F0 .i64 n)]∧br (toB (F2 (decide (n<0)))) ((0≤n1∧n1<(J7 es.length))∧0<1∧((0:Int)≤(0:Int)∧0≤Hx .i64 (n1+1)∧Hx .i64 (n1+1)≤(J7 (T1 (upd es (J6 n1) (upd (nth [] es (J6 n1)) 0 (Hu s1)))))∧lens 1 (upd es (J6 n1) (upd (nth [] es (J6 n1)) 0 (Hu s1))))∧Q [Bx (Hv (Lv 0 (Ls (J6 (Hx .i64 (n1+1))) (upd es (J6 n1) (upd (nth [] es (J6 n1)) 0 (Hu s1))))))]) (((0:Int)≤(0:Int)∧0≤Hx .i64 (n+0)∧Hx .i64 (n+0)≤(J7 s1.length))∧(0≤n1∧n1<(J7 es.length))∧0<1∧(0≤Hx .i64 (n+1)∧Hx .i64 (n+1)≤(J7 s1.length)∧(J7 s1.length)≤(J7 s1.length))∧I0 [] [Hv (upd es (J6 n1) (upd (nth [] es (J6 n1)) 0 (Hu (Lv 0 (Ls (J6 (Hx .i64 (n+0))) s1))))),F0 .i64 (Hx .i64 (n1+1)),Hu (Lv (J6 (Hx .i64 (n+1))) (Ls (J6 (J7 s1.length)) s1))]∧M0 [Hv (upd es (J6 n1) (upd (nth [] es (J6 n1)) 0 (Hu (Lv 0 (Ls (J6 (Hx .i64 (n+0))) s1))))),F0 .i64 (Hx .i64 (n1+1)),Hu (Lv (J6 (Hx .i64 (n+1))) (Ls (J6 (J7 s1.length)) s1))]<M0 [Hv es,F0 .i64 n1,Hu s1])) ((0≤n1∧n1<(J7 es.length))∧0<1∧((0:Int)≤(0:Int)∧0≤Hx .i64 (n1+1)∧Hx .i64 (n1+1)≤(J7 (T1 (upd es (J6 n1) (upd (nth [] es (J6 n1)) 0 (Hu s1)))))∧lens 1 (upd es (J6 n1) (upd (nth [] es (J6 n1)) 0 (Hu s1))))∧Q [Bx (Hv (Lv 0 (Ls (J6 (Hx .i64 (n1+1))) (upd es (J6 n1) (upd (nth [] es (J6 n1)) 0 (Hu s1))))))])):=by kernel_rfl
theorem Nw (s:List UInt8) (c:UInt8):wpF CC Gv an0 Tryz.f80 [.c (.str s),.c (.str [c])] Q=(
 ∃es,Gv 149 [Bx (Hu s),Bx (Hu [c]),Bx (F0 .i64 0),Bx (F0 .i64 (-1))] [Bx (Hv es)]∧Q [Bx (Hv es)]):=by kernel_rfl
theorem RC (s:List UInt8) (c:Int):wpF CC Gv an0 Tryz.f157 [.c (.str s),.c (.int .u8 c)] Q=(
 ∃n,Gv 246 [Bx (Hu s),Bx (F0 .u8 c)] [Bx (F0 .i64 n)]∧Q [Bx (F0 .i64 n)]):=by kernel_rfl
theorem TL (s:List UInt8):wpF CC Gv (fun _=>⟨[.slot 6 (.int .i64 0),.own 5 106 3],[],I0,M0⟩) Tryz.f81 [.c (.str s)] Q=(
 br (toB (F2 (decide ((J7 s.length)>65536)))) (Q [Bx (Hv []),Bx (F0 .i64 0),Bx (F0 .i64 3)]) (I0 [] [F0 .i64 0,Hv []]∧∀(n:Int) (es:List (List D)),I0 [] [F0 .i64 n,Hv es]→br (toB (F2 (decide (n<(J7 s.length))))) ((0≤n∧n<(J7 s.length))∧br (toB (F2 ((J7 (aA (nth 0 s (J6 n)))) !=35))) ((0≤n∧n<(J7 s.length))∧br (toB (F2 ((J7 (aA (nth 0 s (J6 n))))==32))) (I0 [] [F0 .i64 (Hx .i64 (n+1)),Hv es]∧M0 [F0 .i64 (Hx .i64 (n+1)),Hv es]<M0 [F0 .i64 n,Hv es]) (∃b,Gv 150 [Bx (F0 .u8 (J7 (aA (nth 0 s (J6 n)))))] [Bx (F2 b)]∧br b (∃n1,Gv 151 [Bx (Hu s),Bx (F0 .i64 n),Bx (D.fn 152)] [Bx (F0 .i64 n1)]∧br (toB (F2 (decide (Hx .i64 (n1-n)>24)))) (Q [Bx (Hv []),Bx (F0 .i64 n),Bx (F0 .i64 3)]) ((0≤n∧n≤n1∧n1≤(J7 s.length))∧(room (es.length+1)∧lens 3 [[F0 .i64 1,F0 .i64 n,Hu (Lv (J6 n) (Ls (J6 n1) s))]])∧I0 [] [F0 .i64 n1,Hv (es++[[F0 .i64 1,F0 .i64 n,Hu (Lv (J6 n) (Ls (J6 n1) s))]])]∧M0 [F0 .i64 n1,Hv (es++[[F0 .i64 1,F0 .i64 n,Hu (Lv (J6 n) (Ls (J6 n1) s))]])]<M0 [F0 .i64 n,Hv es])) (∃b,Gv 153 [Bx (F0 .u8 (J7 (aA (nth 0 s (J6 n)))))] [Bx (F2 b)]∧br b (∃n1,Gv 155 [Bx (Hu s),Bx (F0 .i64 n)] [Bx (F0 .i64 n1)]∧(0≤n∧n≤n1∧n1≤(J7 s.length))∧∃b e1 b1 e2 n2,Gv 156 [Bx (Hu (Lv (J6 n) (Ls (J6 n1) s)))] [Dd [F2 b,Hv e1,F2 b1,Hv e2],Bx (F0 .i64 n2)]∧br (toB (F2 (n2 !=0))) (Q [Bx (Hv []),Bx (F0 .i64 n),Bx (F0 .i64 2)]) (∃n3,Gv 154 [Bx (Hu s),Bx (F0 .i64 n1)] [Bx (F0 .u8 n3)]∧∃b,Gv 150 [Bx (F0 .u8 n3)] [Bx (F2 b)]∧br b (Q [Bx (Hv []),Bx (F0 .i64 n1),Bx (F0 .i64 2)]) (br (toB (F2 (n3==95))) (Q [Bx (Hv []),Bx (F0 .i64 n1),Bx (F0 .i64 2)]) (br (toB (F2 (n3==46))) (Q [Bx (Hv []),Bx (F0 .i64 n1),Bx (F0 .i64 2)]) ((0≤n∧n≤n1∧n1≤(J7 s.length))∧(room (es.length+1)∧lens 3 [[F0 .i64 2,F0 .i64 n,Hu (Lv (J6 n) (Ls (J6 n1) s))]])∧I0 [] [F0 .i64 n1,Hv (es++[[F0 .i64 2,F0 .i64 n,Hu (Lv (J6 n) (Ls (J6 n1) s))]])]∧M0 [F0 .i64 n1,Hv (es++[[F0 .i64 2,F0 .i64 n,Hu (Lv (J6 n) (Ls (J6 n1) s))]])]<M0 [F0 .i64 n,Hv es]))))) (br (toB (F2 ((J7 (aA (nth 0 s (J6 n))))==45))) (∃n1,Gv 154 [Bx (Hu s),Bx (F0 .i64 (Hx .i64 (n+1)))] [Bx (F0 .u8 n1)]∧∃b,Gv 153 [Bx (F0 .u8 n1)] [Bx (F2 b)]∧br b (∃n2,Gv 155 [Bx (Hu s),Bx (F0 .i64 n)] [Bx (F0 .i64 n2)]∧(0≤n∧n≤n2∧n2≤(J7 s.length))∧∃b e1 b1 e2 n3,Gv 156 [Bx (Hu (Lv (J6 n) (Ls (J6 n2) s)))] [Dd [F2 b,Hv e1,F2 b1,Hv e2],Bx (F0 .i64 n3)]∧br (toB (F2 (n3 !=0))) (Q [Bx (Hv []),Bx (F0 .i64 n),Bx (F0 .i64 2)]) (∃n4,Gv 154 [Bx (Hu s),Bx (F0 .i64 n2)] [Bx (F0 .u8 n4)]∧∃b,Gv 150 [Bx (F0 .u8 n4)] [Bx (F2 b)]∧br b (Q [Bx (Hv []),Bx (F0 .i64 n2),Bx (F0 .i64 2)]) (br (toB (F2 (n4==95))) (Q [Bx (Hv []),Bx (F0 .i64 n2),Bx (F0 .i64 2)]) (br (toB (F2 (n4==46))) (Q [Bx (Hv []),Bx (F0 .i64 n2),Bx (F0 .i64 2)]) ((0≤n∧n≤n2∧n2≤(J7 s.length))∧(room (es.length+1)∧lens 3 [[F0 .i64 2,F0 .i64 n,Hu (Lv (J6 n) (Ls (J6 n2) s))]])∧I0 [] [F0 .i64 n2,Hv (es++[[F0 .i64 2,F0 .i64 n,Hu (Lv (J6 n) (Ls (J6 n2) s))]])]∧M0 [F0 .i64 n2,Hv (es++[[F0 .i64 2,F0 .i64 n,Hu (Lv (J6 n) (Ls (J6 n2) s))]])]<M0 [F0 .i64 n,Hv es]))))) (∃n2,Gv 157 [Bx (Hu [61,44,59,58,40,41]),Bx (F0 .u8 (J7 (aA (nth 0 s (J6 n)))))] [Bx (F0 .i64 n2)]∧br (toB (F2 (decide (n2≥0)))) ((0≤n∧n≤Hx .i64 (n+1)∧Hx .i64 (n+1)≤(J7 s.length))∧(room (es.length+1)∧lens 3 [[F0 .i64 3,F0 .i64 n,Hu (Lv (J6 n) (Ls (J6 (Hx .i64 (n+1))) s))]])∧I0 [] [F0 .i64 (Hx .i64 (n+1)),Hv (es++[[F0 .i64 3,F0 .i64 n,Hu (Lv (J6 n) (Ls (J6 (Hx .i64 (n+1))) s))]])]∧M0 [F0 .i64 (Hx .i64 (n+1)),Hv (es++[[F0 .i64 3,F0 .i64 n,Hu (Lv (J6 n) (Ls (J6 (Hx .i64 (n+1))) s))]])]<M0 [F0 .i64 n,Hv es]) (Q [Bx (Hv []),Bx (F0 .i64 n),Bx (F0 .i64 2)]))) (∃n1,Gv 157 [Bx (Hu [61,44,59,58,40,41]),Bx (F0 .u8 (J7 (aA (nth 0 s (J6 n)))))] [Bx (F0 .i64 n1)]∧br (toB (F2 (decide (n1≥0)))) ((0≤n∧n≤Hx .i64 (n+1)∧Hx .i64 (n+1)≤(J7 s.length))∧(room (es.length+1)∧lens 3 [[F0 .i64 3,F0 .i64 n,Hu (Lv (J6 n) (Ls (J6 (Hx .i64 (n+1))) s))]])∧I0 [] [F0 .i64 (Hx .i64 (n+1)),Hv (es++[[F0 .i64 3,F0 .i64 n,Hu (Lv (J6 n) (Ls (J6 (Hx .i64 (n+1))) s))]])]∧M0 [F0 .i64 (Hx .i64 (n+1)),Hv (es++[[F0 .i64 3,F0 .i64 n,Hu (Lv (J6 n) (Ls (J6 (Hx .i64 (n+1))) s))]])]<M0 [F0 .i64 n,Hv es]) (Q [Bx (Hv []),Bx (F0 .i64 n),Bx (F0 .i64 2)])))))) (Q [Bx (Hv es),Bx (F0 .i64 0),Bx (F0 .i64 0)])) (Q [Bx (Hv es),Bx (F0 .i64 0),Bx (F0 .i64 0)]))):=by kernel_rfl
theorem Nx (s:List UInt8):wpF CC Gv (fun _=>⟨[.slot 17 (.int .i64 0),.own 5 45 2],[],I0,M0⟩) Tryz.f38 [.c (.str s)] Q=(
 br (toB (F2 (decide ((J7 s.length)>65536)))) (Q [Bx (Hv []),Bx (F0 .i64 0),Bx (F0 .i64 3)]) (∃es,Gv 80 [Bx (Hu s),Bx (Hu [10])] [Bx (Hv es)]∧I0 [] [F0 .i64 0,Hv []]∧∀(n:Int) (e1:List (List D)),I0 [] [F0 .i64 n,Hv e1]→br (toB (F2 (decide (n<(J7 es.length))))) ((0≤n∧n<(J7 es.length)∧T1 (nth [] es (J6 n))=1)∧∃s,cut (nth [] es (J6 n)) 0 1 [Hu s]∧∃es n1 n2,Gv 81 [Bx (Hu s)] [Bx (Hv es),Bx (F0 .i64 n1),Bx (F0 .i64 n2)]∧br (toB (F2 (n2 !=0))) (Q [Bx (Hv []),Bx (F0 .i64 (Hx .i64 (n+1))),Bx (F0 .i64 n2)]) (br (toB (F2 (decide ((J7 es.length)>0)))) ((room (e1.length+1)∧lens 2 [[F0 .i64 (Hx .i64 (n+1)),Hv es]])∧I0 [] [F0 .i64 (Hx .i64 (n+1)),Hv (e1++[[F0 .i64 (Hx .i64 (n+1)),Hv es]])]∧M0 [F0 .i64 (Hx .i64 (n+1)),Hv (e1++[[F0 .i64 (Hx .i64 (n+1)),Hv es]])]<M0 [F0 .i64 n,Hv e1]) (I0 [] [F0 .i64 (Hx .i64 (n+1)),Hv e1]∧M0 [F0 .i64 (Hx .i64 (n+1)),Hv e1]<M0 [F0 .i64 n,Hv e1]))) (Q [Bx (Hv e1),Bx (F0 .i64 0),Bx (F0 .i64 0)]))):=by kernel_rfl
theorem TM (k n:Int) (s:List UInt8):wpF CC Gv an0 Tryz.f85 [.ag [.int .i64 k,.int .i64 n,.str s]] Q=(
 br (toB (F2 (k !=2))) (Q [Dd [F2 false,Hv [],F2 false,Hv []],Bx (F2 false)]) (∃b es b1 e1 n,Gv 156 [Bx (Hu s)] [Dd [F2 b,Hv es,F2 b1,Hv e1],Bx (F0 .i64 n)]∧br (toB (F2 (n !=0))) (Q [Dd [F2 false,Hv [],F2 false,Hv []],Bx (F2 false)]) (∃b2 e2 b3 e3,Gv 121 [Bx (F0 .i64 1000)] [Dd [F2 b2,Hv e2,F2 b3,Hv e3]]∧∃b4 e4 b5 e5,Gv 50 [Dd [F2 b,Hv es,F2 b1,Hv e1],Dd [F2 b2,Hv e2,F2 b3,Hv e3]] [Dd [F2 b4,Hv e4,F2 b5,Hv e5]]∧Q [Dd [F2 b4,Hv e4,F2 b5,Hv e5],Bx (F2 true)]))):=by kernel_rfl
theorem Ny (ts:List (List D)):wpF CC Gv (fun _=>⟨[.slot 8 (.int .i64 0),.bld 3 76 38],[],I0,M0⟩) Tryz.f82 [.c (.sl ts)] Q=(
 I0 [] [F0 .i64 0,Hv []]∧∀(n:Int) (es:List (List D)),I0 [] [F0 .i64 n,Hv es]→br (toB (F2 (decide (n<(J7 ts.length))))) ((0≤n∧n<(J7 ts.length)∧T1 (nth [] ts (J6 n))=3)∧∃n1 n2 s,cut (nth [] ts (J6 n)) 0 3 [F0 .i64 n1,F0 .i64 n2,Hu s]∧br (toB (F2 (n1==1))) (room (es.length+1)∧I0 [] [F0 .i64 (Hx .i64 (n+1)),Hv (es++[[F0 .u8 110]])]∧M0 [F0 .i64 (Hx .i64 (n+1)),Hv (es++[[F0 .u8 110]])]<M0 [F0 .i64 n,Hv es]) (br (toB (F2 (n1==2))) (room (es.length+1)∧I0 [] [F0 .i64 (Hx .i64 (n+1)),Hv (es++[[F0 .u8 100]])]∧M0 [F0 .i64 (Hx .i64 (n+1)),Hv (es++[[F0 .u8 100]])]<M0 [F0 .i64 n,Hv es]) (br (toB (F2 (n1==3))) (br (toB (F2 ((J7 s.length)==1))) (room (es.length+T1 (qp s))∧I0 [] [F0 .i64 (Hx .i64 (n+1)),Hv (es++qp s)]∧M0 [F0 .i64 (Hx .i64 (n+1)),Hv (es++qp s)]<M0 [F0 .i64 n,Hv es]) (room (es.length+1)∧I0 [] [F0 .i64 (Hx .i64 (n+1)),Hv (es++[[F0 .u8 63]])]∧M0 [F0 .i64 (Hx .i64 (n+1)),Hv (es++[[F0 .u8 63]])]<M0 [F0 .i64 n,Hv es])) (room (es.length+1)∧I0 [] [F0 .i64 (Hx .i64 (n+1)),Hv (es++[[F0 .u8 63]])]∧M0 [F0 .i64 (Hx .i64 (n+1)),Hv (es++[[F0 .u8 63]])]<M0 [F0 .i64 n,Hv es])))) ((es≠[]∧jK es=true)∧Q [Bx (Hu (zH es))])):=by kernel_rfl
end
end Eng
end

section
namespace Eng
open Go Go.Proofs
set_option maxRecDepth 100000
def vt (l:List (List UInt8)):List (List D):=l.map fun s=>[Hu s]
theorem zt (l:List (List UInt8)):(vt l).length=l.length:=by simp[vt]
theorem G4 (a b:List (List UInt8)):vt (a++b)=vt a++vt b:=by simp[vt]
theorem yG {l:List (List UInt8)} {i:Nat} (h:i<l.length):nth [] (vt l) i=[.str l[i]]:=by
 rw[qI];simp[vt,h]
theorem Wp {l:List (List UInt8)} {i:Nat} (h:i<l.length):cut (nth [] (vt l) i) 0 1 [.str l[i]]:=by
 rw[yG h];exact⟨rfl,by simp⟩
theorem Nz (l:List (List UInt8)):lens 1 (vt l):=fun e he=>by
 simp only[vt,List.mem_map]at he;obtain⟨x,_,rfl⟩:=he;rfl
theorem RD {l:List (List UInt8)} {i:Nat} (x:List UInt8) (h:i<l.length):upd (vt l) i (upd (nth [] (vt l) i) 0 (.str x))=vt (l.set i x):=by
 rw[yG h];have e:upd [Hu l[i]] 0 (Hu x)=[Hu x]:=rfl;rw[e,x3,vt,vt,List.map_set]
theorem zx (c:UInt8):∀s,(qC c s).length=s.count c+1
 |[]=>rfl
 |a::s=>by
  have ih:=zx c s;rw[qC];by_cases h:a=c
  ·rw[if_pos h,No,ih,h];simp
  ·rw[if_neg h,List.count_cons_of_ne h]
   match hw:qC c s,YF c s with
   |w::r,_=>rw[hw]at ih;exact ih
theorem Wq {c:UInt8} {s:List UInt8} (h:(qC c s).length=1):qC c s=[s]:=by
 have:=Jt c s
 match hw:qC c s,h with
 |[w],_=>rw[hw]at this;rw[←this];rfl
theorem TN {c:UInt8} {s t:List UInt8} (h:(qB c s).2=some t):qC c s=(qB c s).1::qC c t:=by
 have h1:=Vx (c:=c) s;rw[h]at h1
 conv=>lhs;rw[h1]
 exact vG (JJ s)
theorem Zn {c:UInt8} {s:List UInt8} (h:(qB c s).2=none):qC c s=[s]:=by
 have h2:=JJ (c:=c) s;rw[ye h]at h2;exact Xf h2
theorem Df (s:List UInt8) (c:UInt8):qf CC 244 [.c (.str s),.c (.str [c])] [.c (.int .i64 (J3 s c))]:=by
 refine qg (anns:=an0) mixedT Tryz.func244 ?_;rw[Db];exact⟨_,Rf s c,rfl⟩
theorem Dg (s:List UInt8) (c:UInt8):qf CC 243 [.c (.str s),.c (.str [c])] [.c (.int .i64 ((s.count c:Nat):Int))]:=by
 refine qg (anns:=fun _=>⟨[.slot 0 (.string ⟨#[]⟩),.slot 5 (.int .i64 0)],[],fun _ _=>True,fun _=>0⟩) mixedT Tryz.func243 ?_;rw[Dc];refine⟨⟨by omega,by omega⟩,?_⟩;have e:nth (0:UInt8) [c] (J6 0)=c:=rfl;rw[e];simp only[Lm,Re];rfl
theorem Dh {s:List UInt8} (c:UInt8) (hs:s.length≤1000000000):qf CC 149 [.c (.str s),.c (.str [c]),.c (.int .i64 0),.c (.int .i64 (-1))] [.c (.sl (vt (qC c s)))]:=by
 have hc:s.count c≤s.length:=ae;have hwl:=zx c s;refine qg (C:=CC) (anns:=fun _=>⟨[.own 9 66 1,.slot 10 (.int .i64 0),.slot 0 (.string ⟨#[]⟩)],[],fun _ ds=>∃(d r:List (List UInt8)) (t:List UInt8),ds=[.sl (vt (d++r)),.int .i64 (d.length:Int),.str t]∧qC c s=d++qC c t∧d.length+r.length=s.count c+1∧t.length≤s.length,
  fun ds=>(s.count c-toI (nth .undef ds 1)).toNat⟩) mixedT Tryz.func149 ?_
 rw[De];have w1:Hx .i64 (((s.count c:Nat):Int)+1)=((s.count c+1:Nat):Int):=by rw[qK (by omega) (by omega)];omega
 have w2:Hx .i64 ((s.length:Int)+1)=((s.length+1:Nat):Int):=by rw[qK (by omega) (by omega)];omega
 have w3:mnZ ((s.length+1:Nat):Int) ((s.count c+1:Nat):Int)=((s.count c+1:Nat):Int):=by rw[AN];omega
 have w4:Hx .i64 (((s.count c+1:Nat):Int)-1)=((s.count c:Nat):Int):=by rw[qK (by omega) (by omega)];omega
 refine⟨_,Dg s c,?_⟩;simp only[Lm,w1,w2,w3,w4,J9];refine⟨⟨by omega,by omega,by unfold room;omega⟩,⟨[],ai (s.count c+1) [],s,?_,rfl,by simp,by omega⟩,?_⟩
 ·rw[List.nil_append,vt,List.map_replicate];rfl
 rintro es n1 t ⟨d,r,t',he,hw,hl,htl⟩;simp only[an,D.int.injEq,D.sl.injEq,D.str.injEq,true_and,and_true]at he;obtain⟨rfl,rfl,rfl⟩:=he;have hwt:=zx c t;have a0:=congrArg T1 hw;rw[Pl,hwl]at a0;obtain⟨r0,r,rfl⟩:∃r0 r',r=r0::r':=by
  match r,hl with
  |[],hl=>simp only[U0]at hl;omega
  |r0::r',_=>exact⟨r0,r',rfl⟩
 simp only[No]at hl;have a2:∀x,(d++r0::r).set d.length x=(d++[x])++r:=fun x=>by simp
 have hdl:d.length<(d++r0::r).length:=by simp
 have a3:∀x,upd (vt (d++r0::r)) d.length (upd (nth [] (vt (d++r0::r)) d.length) 0 (.str x))=vt ((d++[x])++r):=fun x=>by rw[RD x hdl,a2]
 have a5:(vt (d++r0::r)).length=s.count c+1:=by rw[zt,Pl,No];omega
 have a1:∀x,(vt ((d++[x])++r)).length=s.count c+1:=fun x=>by rw[zt];simp only[Pl,No,U0];omega
 have wd:Hx .i64 ((d.length:Int)+1)=((d.length+1:Nat):Int):=by rw[qK (by omega) (by omega)];omega
 --the end
 have a4:qC c t=[t]→((0:Int)≤(d.length:Int)∧(d.length:Int)<((vt (d++r0::r)).length:Int))∧0<1∧
  ((0:Int)≤0∧(0:Int)≤((d.length+1:Nat):Int)∧((d.length+1:Nat):Int)≤((vt ((d++[t])++r)).length:Int)∧lens 1 (vt ((d++[t])++r)))∧
  [Bx (.sl (Lv 0 (Ls (d.length+1) (vt ((d++[t])++r)))))]=[Bx (.sl (vt (qC c s)))]:=fun h=>by
  refine⟨⟨by omega,by rw[a5];omega⟩,by omega,⟨by omega,by omega,by rw[a1];omega,Nz _⟩,?_⟩;rw[hw,h,aj,G4 (d++[t]) r,List.take_append_of_le_length (by rw[zt];simp),ad (by rw[zt];simp)]
 simp only[wd,J9,a3];refine brd (fun h=>⟨_,Df t c,?_⟩) (fun h=>a4 (Wq (by omega)));rw[Vr];cases hct:(qB c t).2 with
 |none=>exact brd (fun _=>a4 (Zn hct)) (fun h=>absurd (by simp) h)
 |some u=>
  obtain⟨e1,e2,e3⟩:=Xm t hct;have hwc:=TN hct;simp only;have wa:Hx .i64 (((qB c t).1.length:Int)+0)=(((qB c t).1.length:Nat):Int):=by rw[qK (by omega) (by omega)];omega
  have wb:Hx .i64 (((qB c t).1.length:Int)+1)=(((qB c t).1.length+1:Nat):Int):=by rw[qK (by omega) (by omega)];omega
  rw[wa,wb,J9,J9,List.take_length,aj,←e1,←e2];refine brd (fun h2=>absurd h2 (by omega)) (fun _=>⟨⟨by omega,by omega,by omega⟩,⟨by omega,by rw[a5];omega⟩,by omega,⟨by omega,by omega,by omega⟩,?_,?_⟩)
  ·refine⟨d++[(qB c t).1],r,u,?_,?_,?_,?_⟩
   ·simp
   ·rw[hw,hwc];simp
   ·simp only[Pl,No,U0];omega
   ·rw[e2,Ts];omega
  ·simp only[nth,toI];omega
theorem N0 {s:List UInt8} (c:UInt8) (hs:s.length≤1000000000):qf CC 80 [.c (.str s),.c (.str [c])] [.c (.sl (vt (qC c s)))]:=by
 refine qg (anns:=an0) mixedT Tryz.func80 ?_;rw[Nw];exact⟨_,Dh c hs,rfl⟩
end Eng
end

section
namespace Eng
open Go Go.Proofs
set_option maxRecDepth 100000
theorem N1 {s:List UInt8} {a:Nat} (h:a<s.length):Ex s a≤s.length:=by
 unfold Ex;have hl:=fun i (hi:i≤s.length)=>kH (p:=isD) hi
 have h1:(if nth 0 s a=45 then a+1 else a)≤s.length:=by split<;>omega
 have h2:=hl _ h1;simp only;generalize (if nth 0 s a=45 then a+1 else a)=g at *;generalize g+zc isD (s.drop g)=b at *;split
 ·rename_i h3;have h4:b<s.length:=by
   rcases au b s.length with h|h
   ·exact h
   ·rw[kj h]at h3;exact absurd h3.1 (by decide)
  exact hl _ (by omega)
 ·exact h2
theorem TO {s:List UInt8} {a:Nat} (hs:s.length≤1073741000) (h:a<s.length):qf CC 155 [.c (.str s),.c (.int .i64 (a:Int))] [.c (.int .i64 ((Ex s a:Nat):Int))]:=by
 refine qg (anns:=an0) mixedT Tryz.func155 ?_;rw[T5];simp only[Lm,J9];refine⟨⟨by omega,by omega⟩,?_⟩;have e45:(((nth 0 s a).toNat:Int)==45)=decide (nth 0 s a=45):=u8b (nth 0 s a) 45 (by omega);rw[e45];have a0:∀g:Nat,g≤s.length→(∀R:Nat,(let b:=g+zc isD (s.drop g);if nth 0 s b=46∧isD (nth 0 s (b+1))=true then b+1+zc isD (s.drop (b+1))else b)=R→
  ∃n_1,qf CC 151 [Bx (Hu s),Bx (F0 .i64 (g:Int)),Bx (D.fn 153)] [Bx (F0 .i64 n_1)]∧
   ∃n,qf CC 154 [Bx (Hu s),Bx (F0 .i64 n_1)] [Bx (F0 .u8 n)]∧
    br (toB (F2 (n==46)))
     (∃n,qf CC 154 [Bx (Hu s),Bx (F0 .i64 (Hx .i64 (n_1+1)))] [Bx (F0 .u8 n)]∧
      ∃b,qf CC 153 [Bx (F0 .u8 n)] [Bx (F2 b)]∧
       br b (∃n,qf CC 151 [Bx (Hu s),Bx (F0 .i64 (Hx .i64 (n_1+1))),Bx (D.fn 153)] [Bx (F0 .i64 n)]∧[Bx (F0 .i64 n)]=[Bx (F0 .i64 (R:Int))])
        ([Bx (F0 .i64 n_1)]=[Bx (F0 .i64 (R:Int))]))
     ([Bx (F0 .i64 n_1)]=[Bx (F0 .i64 (R:Int))])):=by
  intro g hg R hR;have h1:=Ua (s:=s) (by omega) hg;have hb:=kH (p:=isD) hg;simp only at hR;generalize g+zc isD (s.drop g)=b at *;have e46:(((nth 0 s b).toNat:Int)==46)=decide (nth 0 s b=46):=u8b (nth 0 s b) 46 (by omega);have hw:Hx .i64 ((b:Int)+1)=((b+1:Nat):Int):=by rw[qK (by omega) (by omega)];omega
  refine⟨_,h1,_,Wo s b,?_⟩;rw[e46,hw];refine brd (fun h3=>⟨_,Wo s (b+1),_,yE _,jm (fun h4=>?_) (fun h4=>?_)⟩) (fun h3=>?_)
  ·have hbl:b<s.length:=by
    rcases au b s.length with h|h
    ·exact h
    ·rw[kj h]at h3;exact absurd h3 (by decide)
   rw[if_pos ⟨h3,h4⟩]at hR;have h5:=Ua (s:=s) (i:=b+1) (by omega) (by omega);rw[hR]at h5;exact⟨_,h5,rfl⟩
  ·rw[if_neg (fun h=>by rw[h4]at h;simp at h)]at hR;rw[hR]
  ·rw[if_neg (fun h=>h3 h.1)]at hR;rw[hR]
 have hw:Hx .i64 ((a:Int)+1)=((a+1:Nat):Int):=by rw[qK (by omega) (by omega)];omega
 rw[hw];refine brd (fun h4=>a0 (a+1) (by omega) _ ?_) (fun h4=>a0 a (by omega) _ ?_)
 ·unfold Ex;rw[if_pos h4]
 ·unfold Ex;rw[if_neg h4]
def TP (c:UInt8) (s:List UInt8):Nat:=
 if ltr c=true then 0 else if kq (c::s)≠0∧vS ((c::s).take (kq (c::s)))≠none then kq (c::s)else 0
def BX:Nat→Nat→List UInt8→Nat
 |0,_,_=>0
 |_+1,_,[]=>0
 |f+1,n,c::r=>if c=35 then 0 else match kN c r with
  | .blank=>BX f (n+1) r
  | .bad _=>n+TP c r
  | .tok _ m=>BX f (n+m) ((c::r).drop m)
theorem Zo:∀(f g n:Nat) (s:List UInt8),s.length<f→s.length<g→BX f n s=BX g n s
 |0,_,_,_,h,_=>absurd h (by omega)
 |_,0,_,_,_,h=>absurd h (by omega)
 |f+1,g+1,n,[],_,_=>rfl
 |f+1,g+1,n,c::r,h1,h2=>by
  simp only[No]at h1 h2;rw[BX,BX];split
  ·rfl
  ·cases hs:kN c r with
   |blank=>exact Zo f g (n+1) r (by omega) (by omega)
   |bad e=>rfl
   |tok k m=>have:=wo hs;refine Zo f g (n+m) _ ?_ ?_<;>(rw[Ts];simp only[No];omega)
def VI (n:Nat) (s:List UInt8):Nat:=BX (s.length+1) n s
theorem Wr {s:List UInt8} {i:Nat} (h:i<s.length) (h35:nth 0 s i≠35):VI i (s.drop i)=match kN (nth 0 s i) (s.drop (i+1))with
 | .blank=>VI (i+1) (s.drop (i+1))
 | .bad _=>i+TP (nth 0 s i) (s.drop (i+1))
 | .tok _ m=>VI (i+m) (s.drop (i+m)):=by
 have hd:=zg h;unfold VI;have hl:(s.drop i).length=(s.drop (i+1)).length+1:=by rw[Ts,Ts];omega
 rw[hl]
 conv=>lhs;rw[hd]
 rw[BX,if_neg h35];cases hs:kN (nth 0 s i) (s.drop (i+1))with
 |blank=>rfl
 |bad e=>rfl
 |tok k m=>
  simp only;rw[←hd,List.drop_drop];have:=wo hs;refine Zo _ _ _ _ ?_ ?_
  ·rw[Ts,Ts];omega
  ·omega
def zQ (t:Tk):List D:=[.int .i64 (t.kind:Int),.int .i64 (t.pos:Int),.str t.text]
def VJ (s:List UInt8):List A:=match jU 0 s with
 | .ok l=>[.c (.sl (l.map zQ)),.c (.int .i64 0),.c (.int .i64 0)]
 | .error e=>[.c (.sl []),.c (.int .i64 ((VI 0 s:Nat):Int)),.c (.int .i64 (e:Int))]
end Eng
end

section
namespace Eng
open Go Go.Proofs
set_option maxRecDepth 100000
def Fo (s:List UInt8) (ds:List D):Prop:=∃(i:Nat) (out:List Tk),i≤s.length∧ds=[.int .i64 (i:Int),.sl (out.map zQ)]∧wH out (jU i (s.drop i))=jU 0 s∧VI i (s.drop i)=VI 0 s∧out.length≤i
def TQ (s:List UInt8) (ds:List D):Nat:=(s.length-toI (nth .undef ds 0)).toNat
theorem RE (s:List UInt8) (c:UInt8):qf CC 157 [.c (.str s),.c (.int .u8 c.toNat)] [.c (.int .i64 (J3 s c))]:=by
 refine qg (anns:=an0) mixedT Tryz.func157 ?_;rw[RC];exact⟨_,Tl s c,rfl⟩
theorem Di (c:UInt8):decide (J3 [61,44,59,58,40,41] c≥0)=Mo c:=by
 rw[Vr];unfold Mo;by_cases h1:c=61
 ·subst h1;rfl
 by_cases h2:c=44
 ·subst h2;rfl
 by_cases h3:c=59
 ·subst h3;rfl
 by_cases h4:c=58
 ·subst h4;rfl
 by_cases h5:c=40
 ·subst h5;rfl
 by_cases h6:c=41
 ·subst h6;rfl
 rw[Xp (fun a ha=>by simp only[W0,U3,or_false]at ha;rcases ha with rfl|rfl|rfl|rfl|rfl|rfl<;>exact Ne.symm (by assumption))];rw[decide_eq_false h1,decide_eq_false h2,decide_eq_false h3,decide_eq_false h4,decide_eq_false h5,decide_eq_false h6];rfl
section
variable {s:List UInt8} {i:Nat} {out:List Tk}
theorem yi {e:Nat} (h:i<s.length) (h35:nth 0 s i≠35) (hp:wH out (jU i (s.drop i))=jU 0 s) (hr:VI i (s.drop i)=VI 0 s) (hsc:kN (nth 0 s i) (s.drop (i+1))= .bad e):
 [Bx (.sl []),Bx (.int .i64 ((i+TP (nth 0 s i) (s.drop (i+1)):Nat):Int)),Bx (.int .i64 (e:Int))]=VJ s:=by
 rw[WW h h35,hsc]at hp;rw[Wr h h35,hsc]at hr;unfold VJ;simp only at hp hr;rw[←hp,←hr];rfl
theorem XH {k m:Nat} (h:i<s.length) (h35:nth 0 s i≠35) (hs:s.length≤7000) (ho:out.length≤i) (hp:wH out (jU i (s.drop i))=jU 0 s) (hr:VI i (s.drop i)=VI 0 s) (hsc:kN (nth 0 s i) (s.drop (i+1))= .tok k m) (hm:i+m≤s.length):
 ((0:Int)≤(i:Int)∧(i:Int)≤((i+m:Nat):Int)∧((i+m:Nat):Int)≤(s.length:Int))∧
   (room ((out.map zQ).length+1)∧lens 3 [[F0 .i64 (k:Int),F0 .i64 (i:Int),Hu (Lv (J6 (i:Int)) (Ls (J6 ((i+m:Nat):Int)) s))]])∧
    Fo s [F0 .i64 ((i+m:Nat):Int),Hv (out.map zQ++[[F0 .i64 (k:Int),F0 .i64 (i:Int),Hu (Lv (J6 (i:Int)) (Ls (J6 ((i+m:Nat):Int)) s))]])]∧
     TQ s [F0 .i64 ((i+m:Nat):Int),Hv (out.map zQ++[[F0 .i64 (k:Int),F0 .i64 (i:Int),Hu (Lv (J6 (i:Int)) (Ls (J6 ((i+m:Nat):Int)) s))]])]<TQ s [F0 .i64 (i:Int),Hv (out.map zQ)]:=by
 have hpos:=wo hsc;rw[WW h h35,hsc]at hp;rw[Wr h h35,hsc]at hr;simp only at hp hr;rw[J1]at hp;rw[J9,J9];have et:Lv i (Ls (i+m) s)=(s.drop i).take m:=by rw[ak];congr 1;omega
 rw[et];refine⟨⟨by omega,by omega,by omega⟩,⟨by unfold room;rw[P1];omega,?_⟩,⟨i+m,out++[⟨k,i,(s.drop i).take m⟩],hm,?_,hp,hr,?_⟩,?_⟩
 ·intro e he;simp only[W0,U3,or_false]at he;rw[he];rfl
 ·rw[W1];rfl
 ·rw[Pl];simp only[No,U0];omega
 ·simp only[TQ,nth,toI];omega
theorem N2 (h:i<s.length) (h35:nth 0 s i≠35) (h32:nth 0 s i≠32) (hl:ltr (nth 0 s i)=false) (hs:s.length≤7000) (ho:out.length≤i) (hp:wH out (jU i (s.drop i))=jU 0 s) (hr:VI i (s.drop i)=VI 0 s) (hn:Ba s i=true):
 ∃n_1,qf CC 155 [Bx (Hu s),Bx (F0 .i64 (i:Int))] [Bx (F0 .i64 n_1)]∧
  ((0:Int)≤(i:Int)∧(i:Int)≤n_1∧n_1≤(s.length:Int))∧
    ∃b es_1 b_1 es_2 n_2,
     qf CC 156 [Bx (Hu (Lv (J6 (i:Int)) (Ls (J6 n_1) s)))] [Dd [F2 b,Hv es_1,F2 b_1,Hv es_2],Bx (F0 .i64 n_2)]∧
      br (toB (F2 (n_2 !=(0:Int)))) ([Bx (Hv []),Bx (F0 .i64 (i:Int)),Bx (F0 .i64 (2:Int))]=VJ s)
       (∃n_3,qf CC 154 [Bx (Hu s),Bx (F0 .i64 n_1)] [Bx (F0 .u8 n_3)]∧
        ∃b,qf CC 150 [Bx (F0 .u8 n_3)] [Bx (F2 b)]∧
         br b ([Bx (Hv []),Bx (F0 .i64 n_1),Bx (F0 .i64 (2:Int))]=VJ s)
          (br (toB (F2 (n_3==(95:Int)))) ([Bx (Hv []),Bx (F0 .i64 n_1),Bx (F0 .i64 (2:Int))]=VJ s)
           (br (toB (F2 (n_3==(46:Int)))) ([Bx (Hv []),Bx (F0 .i64 n_1),Bx (F0 .i64 (2:Int))]=VJ s)
            (((0:Int)≤(i:Int)∧(i:Int)≤n_1∧n_1≤(s.length:Int))∧
              (room ((out.map zQ).length+1)∧lens 3 [[F0 .i64 (2:Int),F0 .i64 (i:Int),Hu (Lv (J6 (i:Int)) (Ls (J6 n_1) s))]])∧
               Fo s [F0 .i64 n_1,Hv (out.map zQ++[[F0 .i64 (2:Int),F0 .i64 (i:Int),Hu (Lv (J6 (i:Int)) (Ls (J6 n_1) s))]])]∧
                TQ s [F0 .i64 n_1,Hv (out.map zQ++[[F0 .i64 (2:Int),F0 .i64 (i:Int),Hu (Lv (J6 (i:Int)) (Ls (J6 n_1) s))]])]<TQ s [F0 .i64 (i:Int),Hv (out.map zQ)])))):=by
 have hd:=zg h;have a1:=TO (s:=s) (by omega) h;have hE:=P0 hn;have a7:=N1 h;have hN:kq (nth 0 s i::s.drop (i+1))≠0:=by rw[←hd];exact(WX s i).2 hn
 have a2:kN (nth 0 s i) (s.drop (i+1))=if vS ((s.drop i).take (kq (s.drop i)))=none then .bad 2
  else if wF (nth 0 s (i+kq (s.drop i)))=true then .bad 2 else .tok 2 (kq (s.drop i)):=by
  unfold kN;rw[if_neg h32,if_neg (by rw[hl];simp),if_pos hN,←hd,Qr]
 have hbo:TP (nth 0 s i) (s.drop (i+1))=if vS ((s.drop i).take (kq (s.drop i)))≠none then kq (s.drop i)else 0:=by
  unfold TP;rw[if_neg (by rw[hl];simp),←hd];rw[←hd]at hN;by_cases hq:vS ((s.drop i).take (kq (s.drop i)))≠none
  ·rw[if_pos ⟨hN,hq⟩,if_pos hq]
  ·rw[if_neg (fun h=>hq h.2),if_neg hq]
 rw[hE]at a1 a7;generalize hm:kq (s.drop i)=m at *;have et:Lv (J6 (i:Int)) (Ls (J6 ((i+m:Nat):Int)) s)=(s.drop i).take m:=by rw[J9,J9,ak];congr 1;omega
 have a5:((s.drop i).take m).length≤7000:=by rw[af,Ts];omega
 have hP:=Kj a5;have hpk:=Wo s (i+m);have hlt:=yF (nth 0 s (i+m));have e95:(((nth 0 s (i+m)).toNat:Int)==95)=decide (nth 0 s (i+m)=95):=u8b _ 95 (by omega);have e46:(((nth 0 s (i+m)).toNat:Int)==46)=decide (nth 0 s (i+m)=46):=u8b _ 46 (by omega);have a0:=fun e hx=>yi (e:=e) h h35 hp hr hx
 rw[hbo]at a0;have a3:=fun hx=>XH (k:=2) (m:=m) h h35 hs ho hp hr hx a7
 refine⟨_,a1,⟨by omega,by omega,by omega⟩,?_⟩;by_cases hdS:vS ((s.drop i).take m)=none
 ·rw[if_pos hdS]at a2;have hv:XU ((s.drop i).take m)=none:=by unfold XU;rw[hdS]
  rw[hv]at hP;rw[et];refine⟨_,_,_,_,_,hP,brb (fun _=>?_) (fun h=>by simp at h)⟩;have:=a0 2 a2;rw[if_neg (fun h=>h hdS)]at this;exact this
 ·rw[if_neg hdS]at a2;obtain⟨r,hv⟩:∃r,XU ((s.drop i).take m)=some r:=by
   unfold XU;cases hd2:vS ((s.drop i).take m)with
   |none=>exact absurd hd2 hdS
   |some q=>exact⟨_,rfl⟩
  rw[hv]at hP;have hoQ:CJ (some r)=[xk r,.c (.int .i64 0)]:=rfl;rw[hoQ,qb]at hP;rw[←et]at hP;have a6:=a0 2;rw[if_pos hdS]at a6;have a4:wF (nth 0 s (i+m))=true→[Bx (Hv []),Bx (F0 .i64 ((i+m:Nat):Int)),Bx (F0 .i64 (2:Int))]=VJ s:=fun hg=>a6 (by rw[a2,if_pos hg])
  refine⟨_,_,_,_,_,hP,brb (fun h=>by simp at h) (fun _=>⟨_,hpk,_,hlt,jm (fun h1=>a4 (by unfold wF;rw[h1];rfl)) (fun h1=>?_)⟩)⟩;rw[e95,e46];refine brd (fun h2=>a4 (by unfold wF;rw[h2];simp)) (fun h2=>brd (fun h3=>a4 (by unfold wF;rw[h3];simp)) (fun h3=>?_));have hg:¬wF (nth 0 s (i+m))=true:=by unfold wF;rw[h1,decide_eq_false h2,decide_eq_false h3];simp
  exact a3 (by rw[a2,if_neg hg])
theorem N3 (h:i<s.length) (h35:nth 0 s i≠35) (h32:nth 0 s i≠32) (hl:ltr (nth 0 s i)=false) (hs:s.length≤7000) (ho:out.length≤i) (hp:wH out (jU i (s.drop i))=jU 0 s) (hr:VI i (s.drop i)=VI 0 s) (hn:Ba s i=false):
 ∃n_2,qf CC 157 [Bx (Hu [61,44,59,58,40,41]),Bx (F0 .u8 ((nth 0 s i).toNat:Int))] [Bx (F0 .i64 n_2)]∧
  br (toB (F2 (decide (n_2≥(0:Int)))))
   (((0:Int)≤(i:Int)∧(i:Int)≤((i+1:Nat):Int)∧((i+1:Nat):Int)≤(s.length:Int))∧
     (room ((out.map zQ).length+1)∧lens 3 [[F0 .i64 (3:Int),F0 .i64 (i:Int),Hu (Lv (J6 (i:Int)) (Ls (J6 ((i+1:Nat):Int)) s))]])∧
      Fo s [F0 .i64 ((i+1:Nat):Int),Hv (out.map zQ++[[F0 .i64 (3:Int),F0 .i64 (i:Int),Hu (Lv (J6 (i:Int)) (Ls (J6 ((i+1:Nat):Int)) s))]])]∧
       TQ s [F0 .i64 ((i+1:Nat):Int),Hv (out.map zQ++[[F0 .i64 (3:Int),F0 .i64 (i:Int),Hu (Lv (J6 (i:Int)) (Ls (J6 ((i+1:Nat):Int)) s))]])]<TQ s [F0 .i64 (i:Int),Hv (out.map zQ)])
   ([Bx (Hv []),Bx (F0 .i64 (i:Int)),Bx (F0 .i64 (2:Int))]=VJ s):=by
 have hd:=zg h;have hN:¬kq (nth 0 s i::s.drop (i+1))≠0:=by rw[←hd];intro h2;have:=(WX s i).1 h2;rw[hn]at this;simp at this
 have a0:kN (nth 0 s i) (s.drop (i+1))=if Mo (nth 0 s i)=true then .tok 3 1 else .bad 2:=by unfold kN;rw[if_neg h32,if_neg (by rw[hl];simp),if_neg hN]
 have hbo:TP (nth 0 s i) (s.drop (i+1))=0:=by unfold TP;rw[if_neg (by rw[hl];simp),if_neg (fun h=>hN h.1)]
 refine⟨_,RE _ _,?_⟩;rw[Di];cases hy:Mo (nth 0 s i)with
 |true=>rw[hy,if_pos rfl]at a0;exact brb (fun _=>XH (k:=3) (m:=1) h h35 hs ho hp hr a0 (by omega)) (fun h=>by simp at h)
 |false=>rw[hy,if_neg (by simp)]at a0;refine brb (fun h=>by simp at h) (fun _=>?_);have:=yi h h35 hp hr a0;rw[hbo]at this;exact this
end
theorem TR {s:List UInt8} (hs:s.length≤7000):qf CC 81 [.c (.str s)] (VJ s):=by
 refine qg (anns:=fun _=>⟨[.slot 6 (.int .i64 0),.own 5 106 3],[],fun _ ds=>Fo s ds,TQ s⟩) mixedT Tryz.func81 ?_;rw[TL];simp only[Lm];refine brd (fun h=>absurd h (by omega)) (fun _=>⟨⟨0,[],by omega,rfl,vf _,rfl,by simp⟩,?_⟩);rintro n es ⟨i,a5,hi,he,hp,hr,ho⟩;simp only[an,D.int.injEq,D.sl.injEq,true_and,and_true]at he;obtain⟨rfl,rfl⟩:=he;have a3:jU i (s.drop i)= .ok []→[Bx (Hv (a5.map zQ)),Bx (F0 .i64 0),Bx (F0 .i64 0)]=VJ s:=fun h=>by rw[h]at hp;unfold VJ;rw[←hp];show _=[Bx (Hv ((a5++[]).map zQ)),_,_];rw[W2]
 refine brd (fun h=>?_) (fun h=>a3 (Qq (.inl (by omega))));have a1:i<s.length:=by omega
 rw[J9];have e35:(((nth 0 s i).toNat:Int) !=35)=!decide (nth 0 s i=35):=by rw[show(35:Int)=((35:Nat):Int)from rfl,bne,u8b _ 35 (by omega)];rfl
 have e32:(((nth 0 s i).toNat:Int)==32)=decide (nth 0 s i=32):=u8b _ 32 (by omega);have e45:(((nth 0 s i).toNat:Int)==45)=decide (nth 0 s i=45):=u8b _ 45 (by omega);rw[e35,e32,e45];have hb:(0:Int)≤(i:Int)∧(i:Int)<(s.length:Int):=⟨by omega,by omega⟩;refine⟨hb,brn (fun a0=>?_) (fun a0=>a3 (Qq (.inr (of_decide_eq_true a0))))⟩;have a0:=of_decide_eq_false a0;have hw:Hx .i64 ((i:Int)+1)=((i+1:Nat):Int):=by rw[qK (by omega) (by omega)];omega
 rw[hw];refine⟨hb,brd (fun h32=>?_) (fun h32=>⟨_,yF _,jm (fun hl=>⟨_,HZ (s:=s) (by omega) (i:=i) (by omega),?_⟩) (fun hl=>⟨_,yE _,jm (fun hd=>?_) (fun hd=>?_)⟩)⟩)⟩
 ·have a2:kN (nth 0 s i) (s.drop (i+1))= .blank:=by unfold kN;rw[if_pos h32]
  rw[WW a1 a0,a2]at hp;rw[Wr a1 a0,a2]at hr;exact⟨⟨i+1,a5,by omega,rfl,hp,hr,by omega⟩,by simp only[TQ,nth,toI];omega⟩
 ·have hd:=zg a1;have a4:=kH (p:=nmc) (s:=s) (i:=i) (by omega);have hww:Hx .i64 (((i+zc nmc (s.drop i):Nat):Int)-(i:Int))=((zc nmc (s.drop i):Nat):Int):=by rw[qK (by omega) (by omega)];omega
  rw[hww];have a2:kN (nth 0 s i) (s.drop (i+1))=if 24<zc nmc (s.drop i)then .bad 3 else .tok 1 (zc nmc (s.drop i)):=by unfold kN;rw[if_neg h32,if_pos hl,←hd]
  refine brd (fun h3=>?_) (fun h3=>?_)
  ·rw[if_pos (by omega)]at a2;have:=yi a1 a0 hp hr a2;have hbo:TP (nth 0 s i) (s.drop (i+1))=0:=by unfold TP;rw[if_pos hl]
   rw[hbo]at this;exact this
  ·rw[if_neg (by omega)]at a2;exact XH (k:=1) a1 a0 hs ho hp hr a2 a4
 ·exact N2 a1 a0 h32 hl hs ho hp hr (by unfold Ba;rw[hd];rfl)
 ·refine brd (fun h45=>⟨_,Wo s (i+1),_,yE _,jm (fun hd2=>?_) (fun hd2=>?_)⟩) (fun h45=>?_)
  ·exact N2 a1 a0 h32 hl hs ho hp hr (by unfold Ba;rw[decide_eq_true h45,hd2];simp)
  ·exact N3 a1 a0 h32 hl hs ho hp hr (by unfold Ba;rw[hd,hd2];simp)
  ·exact N3 a1 a0 h32 hl hs ho hp hr (by unfold Ba;rw[hd,decide_eq_false h45];rfl)
end Eng
end

section
namespace Eng
open Go Go.Proofs
set_option maxRecDepth 100000
theorem RF {c:UInt8} {s:List UInt8} {e:Nat} (h:kN c s= .bad e):e≠0:=by
 unfold kN at h;split at h
 ·simp at h
 split at h
 ·split at h
  ·simp at h;omega
  ·simp at h
 split at h
 ·split at h
  ·simp at h;omega
  ·split at h
   ·simp at h;omega
   ·simp at h
 split at h
 ·simp at h
 ·simp at h;omega
theorem yH:∀(k n:Nat) (s:List UInt8) (e:Nat),s.length≤k→jU n s= .error e→e≠0
 |_,n,[],e,_,h=>by rw[wq]at h;simp at h
 |0,n,c::r,e,hk,_=>absurd hk (by simp)
 |k+1,n,c::r,e,hk,h=>by
  simp only[No]at hk;rw[ji]at h;split at h
  ·simp at h
  ·cases hs:kN c r with
   |blank=>rw[hs]at h;exact yH k (n+1) r e (by omega) h
   |bad e2=>rw[hs]at h;simp only[Except.error.injEq]at h;rw[←h];exact RF hs
   |tok q m=>
    rw[hs]at h;have hp:=wo hs;simp only at h;split at h
    ·simp at h
    ·rename_i e2 h2;simp only[Except.error.injEq]at h;rw[←h];exact yH k (n+m) _ e2 (by rw[Ts];simp only[No];omega) h2
def yI (l:Li):List D:=[.int .i64 (l.number:Int),.sl (l.toks.map zQ)]
def Dj (s:List UInt8):List A:=match kD 1 (qC 10 s)with
 | .ok l=>[.c (.sl (l.map yI)),.c (.int .i64 0),.c (.int .i64 0)]
 | .error (n,e)=>[.c (.sl []),.c (.int .i64 (n:Int)),.c (.int .i64 (e:Int))]
theorem N4 {s:List UInt8} (hs:s.length≤65536) (hw:∀w∈qC 10 s,w.length≤7000):qf CC 38 [.c (.str s)] (Dj s):=by
 have hsp:=N0 (s:=s) 10 (by omega);have hcnt:=zx 10 s;have hcl:s.count 10≤s.length:=ae;generalize hW:qC 10 s=W at *;refine qg (anns:=fun _=>⟨[.slot 17 (.int .i64 0),.own 5 45 2],[],fun _ ds=>∃(i:Nat) (a0:List Li),i≤W.length∧ds=[.int .i64 (i:Int),.sl (a0.map yI)]∧wH a0 (kD (i+1) (W.drop i))=kD 1 W∧a0.length≤i,fun ds=>(W.length-toI (nth .undef ds 0)).toNat⟩) mixedT Tryz.func38 ?_;unfold Dj;rw[hW,Nx];simp only[Lm];refine brd (fun h=>absurd h (by omega)) (fun _=>⟨_,hsp,⟨0,[],by omega,rfl,vf _,by simp⟩,?_⟩);rintro n es ⟨i,a0,hi,he,hp,ho⟩;simp only[an,D.int.injEq,D.sl.injEq,true_and,and_true]at he;obtain⟨rfl,rfl⟩:=he;simp only[zt,P1,J9];refine brd (fun h=>?_) (fun h=>?_)
 ·have a1:i<W.length:=by omega
  have hwi:=hw W[i] (List.getElem_mem a1);have hT:=TR hwi;have hwr:Hx .i64 ((i:Int)+1)=((i+1:Nat):Int):=by rw[qK (by omega) (by omega)];omega
  rw[List.drop_eq_getElem_cons a1,J2]at hp;unfold VJ at hT;rw[hwr];refine⟨⟨by omega,by omega,by rw[yG a1];rfl⟩,_,Wp a1,?_⟩;cases ht:jU 0 W[i]with
  |error e=>rw[ht]at hT hp;have h0:=yH _ 0 _ e (Nat.le_refl _) ht;refine⟨_,_,_,hT,brb (fun _=>?_) (fun h=>by simp at h;omega)⟩;have hp:(Except.error (i+1,e):Except (Nat×Nat) (List Li))=kD 1 W:=hp;rw[←hp]
  |ok l=>
   rw[ht]at hT hp;simp only at hT hp;rw[J1]at hp;refine⟨_,_,_,hT,brb (fun h=>by simp at h) (fun _=>brd (fun h2=>?_) (fun h2=>?_))⟩
   ·rw[P1]at h2;have a2:l≠[]:=by intro e;subst e;simp at h2
    rw[if_neg a2]at hp;refine⟨⟨by unfold room;omega,?_⟩,⟨i+1,a0++[⟨i+1,l⟩],by omega,?_,hp,?_⟩,?_⟩
    ·intro e he;simp only[W0,U3,or_false]at he;rw[he];rfl
    ·rw[W1];rfl
    ·rw[Pl];simp only[No,U0];omega
    ·simp only[nth,toI];omega
   ·rw[P1]at h2;have a2:l=[]:=by cases l with|nil=>rfl|cons _ _=>simp at h2
    rw[if_pos a2,W2]at hp;exact⟨⟨i+1,a0,by omega,rfl,hp,by omega⟩,by simp only[nth,toI];omega⟩
 ·have a1:i=W.length:=by omega
  subst a1;rw[List.drop_length]at hp;have hp:(Except.ok (a0++[]):Except (Nat×Nat) (List Li))=kD 1 W:=hp;rw[W2]at hp;rw[←hp]
def Fp (t:Tk):Option Rat:=if t.kind=2 then(XU t.text).map (· *1000)else none
def RG:Option Rat→List A
 |none=>[.ag [.bool false,.sl [],.bool false,.sl []],.c (.bool false)]
 |some q=>[xk q,.c (.bool true)]
theorem Dk (k:Nat) (hk:k=9*100*4):y4=10^k:=by
 rw[Gf hk];rfl
theorem Kk {z:Int} {n:Nat} (h:z.natAbs<10^n) (hn:n≤3000):Sq z:=by
 obtain⟨k,hk⟩:∃k,k=9*100*4:=⟨_,rfl⟩;unfold Sq;rw[Dk k hk];exact aq h (ap (by omega) (by omega))
theorem val_sr {s:List UInt8} {r:Rat} (h:XU s=some r) (hs:s.length≤2000):Sr r:=by
 unfold XU at h;cases hd:vS s with
 |none=>rw[hd]at h;simp at h
 |some q=>
  obtain⟨m,k⟩:=q;rw[hd]at h;simp only[ax]at h;obtain⟨hk,hm⟩:=vH hd;have e:a8 m ((10^k:Nat):Int)=r:=by rw[←h,az,ay]
  have hp:0<10^k:=aw (by omega);obtain⟨n,hn⟩:∃n,n=s.length+31:=⟨_,rfl⟩;have hmn:m.natAbs<10^n:=aq hm (ap (by omega) (by omega));have hkn:10^k<10^n:=ao (by omega) (by omega);have hz:Sz n r:=by rw[←e];refine Sz.divInt (by omega) (av hmn) ?_;rw[Lr];exact av hkn
  have l1:10^n<10^(n+1):=ao (by omega) (by omega);refine⟨Kk (n:=n+1) (ar hz.1 l1) (by omega),Kk (n:=n+1) ?_ (by omega)⟩;rw[Lr];exact ar hz.2 l1
theorem TS {t:Tk} (hs:t.text.length≤2000):qf CC 85 [.ag (zQ t)] (RG (Fp t)):=by
 refine qg (anns:=an0) mixedT Tryz.func85 ?_;have er:Dd (zQ t)= .ag [.int .i64 (t.kind:Int),.int .i64 (t.pos:Int),.str t.text]:=rfl;rw[er,TM];unfold Fp;have hP:=Kj (s:=t.text) (by omega);have e2:(((t.kind:Nat):Int) !=2)=!decide (t.kind=2):=by rw[Aw];simp;omega
 rw[e2];refine brn (fun h=>?_) (fun h=>?_)
 ·rw[if_neg (of_decide_eq_false h)];rfl
 ·rw[if_pos (of_decide_eq_true h)];cases hv:XU t.text with
  |none=>rw[hv]at hP;exact⟨_,_,_,_,_,hP,brb (fun _=>rfl) (fun h=>by simp at h)⟩
  |some r=>have hsr:=val_sr hv hs;have h1:=wz (n:=1000) (by omega) (by omega);have sM:Sz 4 ((1000:Int):Rat):=Sz.int (by decide);have hm:=Vh XC hsr (sM.sr (by omega));rw[hv]at hP;have hoQ:CJ (some r)=[xk r,.c (.int .i64 0)]:=rfl;rw[hoQ,qb]at hP;rw[qb]at h1;rw[qb,qb ((1000:Int):Rat),qb (r*_)]at hm;refine⟨_,_,_,_,_,hP,brb (fun h=>by simp at h) (fun _=>⟨_,_,_,_,h1,_,_,_,_,hm,?_⟩)⟩;show _=[xk (r*1000),Bx (.bool true)];rw[qb];rfl
end Eng
end

section
namespace Eng
open Go Go.Proofs
set_option maxRecDepth 100000
def Tk.wd (t:Tk):Wd:=(t.kind,t.text)
theorem Dl (p:Wd):(shp p).length=1:=by
 unfold shp;split
 ·rfl
 ·split
  ·rfl
  ·split
   ·rename_i h;exact h.2
   ·rfl
theorem QL:∀l:List Wd,(zl l).length=l.length
 |[]=>rfl
 |p::r=>by show(shp p++zl r).length=_;rw[Pl,Dl,QL r];simp;omega
theorem G5 (l:List Wd) (p:Wd):zl (l++[p])=zl l++shp p:=by
 unfold zl;rw[List.flatMap_append];simp
theorem j8 (a b:List UInt8):qp (a++b)=qp a++qp b:=by unfold qp;rw[W1]
theorem N5 {ts:List Tk} (h0:ts≠[]) (hl:ts.length≤100000):qf CC 82 [.c (.sl (ts.map zQ))] [.c (.str (zl (ts.map Tk.wd)))]:=by
 refine qg (anns:=fun _=>⟨[.slot 8 (.int .i64 0),.bld 3 76 38],[],fun _ ds=>∃k:Nat,k≤ts.length∧ds=[.int .i64 (k:Int),.sl (qp (zl ((ts.map Tk.wd).take k)))],fun ds=>(ts.length-toI (nth .undef ds 0)).toNat⟩) mixedT Tryz.func82 ?_;rw[Ny];simp only[Lm,P1];refine⟨⟨0,by omega,rfl⟩,?_⟩;rintro n es ⟨k,hk,he⟩;simp only[an,D.int.injEq,D.sl.injEq,true_and,and_true]at he;obtain⟨rfl,rfl⟩:=he;have hlen:(qp (zl ((ts.map Tk.wd).take k))).length≤100000:=by rw[qu,QL,af,P1];omega
 refine brd (fun h=>?_) (fun h=>?_)
 ·have a3:k<ts.length:=by omega
  rw[J9,qM a3];have hw:Hx .i64 ((k:Int)+1)=((k+1:Nat):Int):=by rw[qK (by omega) (by omega)];omega
  rw[hw];have hsn:zl ((ts.map Tk.wd).take (k+1))=zl ((ts.map Tk.wd).take k)++shp ts[k].wd:=by rw[List.take_succ_eq_append_getElem (by rw[P1];exact a3),G5,List.getElem_map]
  have a2:∀u:List UInt8,shp ts[k].wd=u→
   (∃k':Nat,k'≤ts.length∧[F0 .i64 ((k+1:Nat):Int),Hv (qp (zl ((ts.map Tk.wd).take k))++qp u)]=[.int .i64 (k':Int),.sl (qp (zl ((ts.map Tk.wd).take k')))])∧
    (ts.length-toI (nth .undef [F0 .i64 ((k+1:Nat):Int),Hv (qp (zl ((ts.map Tk.wd).take k))++qp u)] 0)).toNat<(ts.length-toI (nth .undef [F0 .i64 (k:Int),Hv (qp (zl ((ts.map Tk.wd).take k)))] 0)).toNat:=fun u hu=>by
   refine⟨⟨k+1,a3,?_⟩,by simp only[nth,toI];omega⟩;rw[hsn,hu,j8]
  have a1:shp ts[k].wd=if ts[k].kind=1 then [110]else if ts[k].kind=2 then [100]else if ts[k].kind=3∧ts[k].text.length=1 then ts[k].text else [63]:=rfl
  have ek:∀m:Nat,(((ts[k].kind:Nat):Int)==(m:Int))=decide (ts[k].kind=m):=fun m=>by rw[Aw];simp;omega
  have el:(((ts[k].text.length:Nat):Int)==1)=decide (ts[k].text.length=1):=by rw[Aw];simp;omega
  refine⟨⟨by omega,by omega,rfl⟩,_,_,_,⟨rfl,by simp[zQ]⟩,?_⟩;rw[show(1:Int)=((1:Nat):Int)from rfl,show(2:Int)=((2:Nat):Int)from rfl,show(3:Int)=((3:Nat):Int)from rfl,ek 1,ek 2,ek 3];refine brd (fun h1=>⟨by unfold room;omega,a2 [110] (by rw[a1,if_pos h1])⟩) (fun h1=>brd (fun h2=>⟨by unfold room;omega,a2 [100] (by rw[a1,if_neg h1,if_pos h2])⟩) (fun h2=>brd (fun h3=>?_) (fun h3=>⟨by unfold room;omega,a2 [63] (by rw[a1,if_neg h1,if_neg h2,if_neg (fun h=>h3 h.1)])⟩)));show br (toB (F2 (((ts[k].text.length:Nat):Int)==1))) _ _;rw[el];refine brd (fun h4=>⟨by unfold room;rw[qu ts[k].text];omega,a2 ts[k].text (by rw[a1,if_neg h1,if_neg h2,if_pos ⟨h3,h4⟩])⟩) (fun h4=>⟨by unfold room;omega,a2 [63] (by rw[a1,if_neg h1,if_neg h2,if_neg (fun h=>h4 h.2)])⟩)
 ·have a3:k=ts.length:=by omega
  have a0:(ts.map Tk.wd).take k=ts.map Tk.wd:=ad (by rw[P1];omega);rw[a0];refine⟨⟨fun e=>?_,ko _⟩,by rw[kn]⟩;have:=congrArg T1 e;rw[qu,QL,P1]at this;cases ts with
  |nil=>exact h0 rfl
  |cons a r=>simp at this
end Eng
end
