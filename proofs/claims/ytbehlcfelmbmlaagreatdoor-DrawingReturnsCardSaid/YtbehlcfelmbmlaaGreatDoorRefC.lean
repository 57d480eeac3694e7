/- The verification conditions of functions, printed by a program (vcgen.py) and checked by the kernel. -/
import Derived.Test.YtbehlcfelmbmlaaGreatDoorCtxB
import Derived.Test.YtbehlcfelmbmlaaGreatDoorIntA
import Derived.Test.YtbehlcfelmbmlaaGreatDoorRefA
import Derived.Test.YtbehlcfelmbmlaaGreatDoorRefB
import Derived.KernelRfl
open Eng.A renaming c→Aw
open Eng.D renaming int→Bx, sl→Dd, bool→F0
open Eng.D.int renaming injEq→F2
open Eng.D.sl renaming injEq→Hu
open Go.IntKind renaming wrap→Hv, u64→Hx
open Int renaming ofNat→Hy, toNat→J3, tdiv→J6, toNat_natCast→J7, ofNat_tdiv→J9, tmod→Lm, ofNat_eq_natCast→Lr, ofNat_tmod→Ls
open List renaming replicate→Lv, length_replicate→No, length→Pl, length_append→P1, getElem?_eq_getElem→Ts, length_cons→T1, getD→U0, append_nil→U3
open List.cons renaming injEq→V1
open Nat renaming mul_comm→W0, div_lt_iff_lt_mul→W1, pow_succ→W2, div_div_eq_div_mul→ay, mul_le_mul_left→az, eq_zero_or_pos→aA, mod_eq_of_lt→aB, pow_pos→aC, mul_lt_mul_of_pos_right→aD, le_trans→aE, le_of_lt→aF, pow_le_pow_right→aG, mod_lt→aH, lt_of_lt_of_le→aI, div_eq_of_lt→aJ, div_le_self→aK, div_add_mod→aL, mul_assoc→aM, lt_or_ge→aN, mul_pos→aO, mul_add→aP
section
namespace Eng
open Go Go.Proofs
set_option maxRecDepth 1000000
section
variable (Gv:Nat→List A→List A→Prop) (Q:List A→Prop) (I0 I1 I2 I3:List D→List D→Prop) (M0 M1 M2 M3:List D→Nat)
theorem Gb (J4:List D→List D→Prop) (J18:List D→List D→Prop) (J20:List D→List D→Prop) (J23:List D→List D→Prop) (es fs:List (List D)):wpF CC Gv (wB (wB (wB (wB (Gl ⟨[.own 12 173 1,.slot 11 (.slice none 0 0),.slot 14 (.int .i64 0)],[],I0,M0⟩ ⟨[.slot 16 (.int .u64 0),.slot 17 (.slice none 0 0)],[.slot 11 (.slice none 0 0),.slot 14 (.int .i64 0),.own 12 173 1],I1,M1⟩ ⟨[.own 19 174 1,.slot 18 (.int .u64 0),.slot 20 (.int .i64 0)],[.slot 11 (.slice none 0 0)],I2,M2⟩) 4 ⟨[],[],J4,fun _=>0⟩) 18 ⟨[.slot 15 (.int .u64 0)],[.slot 11 (.slice none 0 0)],J18,fun _=>0⟩) 20 ⟨[.slot 15 (.int .u64 0)],[.slot 11 (.slice none 0 0)],J20,fun _=>0⟩) 23 ⟨[.slot 16 (.int .u64 0)],[.slot 11 (.slice none 0 0)],J23,fun _=>0⟩) Tryz.f274 [.c (.sl es),.c (.sl fs)] Q=(
 br (toB (F0 (decide ((Hy es.length)≤2)))) (br (toB (F0 (decide ((Hy fs.length)≤2)))) (∃n,Gv 275 [Aw (Dd es)] [Aw (Bx .u64 n)]∧∃n1,Gv 275 [Aw (Dd fs)] [Aw (Bx .u64 n1)]∧n1≠0∧∃es,Gv 129 [Aw (Bx .u64 (Hv .u64 (J6 n n1)))] [Aw (Dd es)]∧n1≠0∧∃e1,Gv 129 [Aw (Bx .u64 (Lm n n1))] [Aw (Dd e1)]∧Q [Aw (Dd es),Aw (Dd e1)]) (J4 [] [])) (J4 [] [])∧(J4 [] []→(0≤Hv .i64 ((Hy fs.length)-1)∧Hv .i64 ((Hy fs.length)-1)<(Hy fs.length)∧Pl (nth [] fs (J3 (Hv .i64 ((Hy fs.length)-1))))=1)∧∃n,cut (nth [] fs (J3 (Hv .i64 ((Hy fs.length)-1)))) 0 1 [Bx .u32 n]∧Hv .u64 (Hv .u64 n+1)≠0∧∃e1,Gv 337 [Aw (Dd fs),Aw (Bx .u32 (Hv .u32 (Hv .u64 (J6 (1000000000:Int) (Hv .u64 (Hv .u64 n+1))))))] [Aw (Dd e1)]∧(0≤Hv .i64 ((Hy e1.length)-1)∧Hv .i64 ((Hy e1.length)-1)<(Hy e1.length)∧Pl (nth [] e1 (J3 (Hv .i64 ((Hy e1.length)-1))))=1)∧∃n1,cut (nth [] e1 (J3 (Hv .i64 ((Hy e1.length)-1)))) 0 1 [Bx .u32 n1]∧(0≤Hv .i64 ((Hy es.length)+1)∧Hv .i64 ((Hy es.length)+1)≤Hv .i64 ((Hy es.length)+1)∧room (J3 (Hv .i64 ((Hy es.length)+1))))∧∃e2,Gv 337 [Aw (Dd es),Aw (Bx .u32 (Hv .u32 (Hv .u64 (J6 (1000000000:Int) (Hv .u64 (Hv .u64 n+1))))))] [Aw (Dd e2)]∧(0≤(Hy e2.length)∧(Hy e2.length)≤(Hy (Pl (Lv (J3 (Hv .i64 ((Hy es.length)+1))) [Bx .u32 0])))∧0<Pl (Lv (J3 (Hv .i64 ((Hy es.length)+1))) [Bx .u32 0]))∧I0 [] [Dd (List.take (J3 (Hy e2.length)) (Lv (J3 (Hv .i64 ((Hy es.length)+1))) [Bx .u32 0])),Dd [],Bx .i64 (Hv .i64 ((Hy e2.length)-1))]∧∀(es e3:List (List D)) (n2:Int),I0 [] [Dd es,Dd e3,Bx .i64 n2]→br (toB (F0 (decide (n2≥0)))) ((0≤n2∧n2<(Hy e2.length)∧Pl (nth [] e2 (J3 n2))=1)∧∃n,cut (nth [] e2 (J3 n2)) 0 1 [Bx .u32 n]∧(room (1+e3.length)∧lens 1 e3)∧∃e4,Gv 224 [Aw (Dd ([Bx .u32 n]::e3))] [Aw (Dd e4)]∧br (toB (F0 (decide ((Hy e4.length)>(Hy e1.length))))) ((0≤(Hy e1.length)∧(Hy e1.length)<(Hy e4.length)∧Pl (nth [] e4 (J3 (Hy e1.length)))=1)∧∃n,cut (nth [] e4 (J3 (Hy e1.length))) 0 1 [Bx .u32 n]∧J18 [Dd e4] [Bx .u64 (Hv .u64 (Hv .u64 n*1000000000))]) (J18 [Dd e4] [Bx .u64 0])∧∀(n:Int),J18 [Dd e4] [Bx .u64 n]→br (toB (F0 (decide ((Hy e4.length)≥(Hy e1.length))))) ((0≤Hv .i64 ((Hy e1.length)-1)∧Hv .i64 ((Hy e1.length)-1)<(Hy e4.length)∧Pl (nth [] e4 (J3 (Hv .i64 ((Hy e1.length)-1))))=1)∧∃n3,cut (nth [] e4 (J3 (Hv .i64 ((Hy e1.length)-1)))) 0 1 [Bx .u32 n3]∧J20 [Dd e4] [Bx .u64 (Hv .u64 (n+Hv .u64 n3))]) (J20 [Dd e4] [Bx .u64 n])∧∀(n:Int),J20 [Dd e4] [Bx .u64 n]→Hv .u64 n1≠0∧br (toB (F0 (decide (Hv .u64 (J6 n (Hv .u64 n1))>999999999)))) (J23 [Dd e4] [Bx .u64 999999999]) (J23 [Dd e4] [Bx .u64 (Hv .u64 (J6 n (Hv .u64 n1)))])∧∀(n:Int),J23 [Dd e4] [Bx .u64 n]→∃e5,Gv 337 [Aw (Dd e1),Aw (Bx .u32 (Hv .u32 n))] [Aw (Dd e5)]∧I1 [Dd e4,Bx .i64 n2,Dd es] [Bx .u64 n,Dd e5]∧∀(n:Int) (e6:List (List D)),I1 [Dd e4,Bx .i64 n2,Dd es] [Bx .u64 n,Dd e6]→∃n3,Gv 127 [Aw (Dd e6),Aw (Dd e4)] [Aw (Bx .i64 n3)]∧br (toB (F0 (decide (n3>0)))) (∃e7,Gv 338 [Aw (Dd e6),Aw (Dd e1)] [Aw (Dd e7)]∧I1 [Dd e4,Bx .i64 n2,Dd es] [Bx .u64 (Hv .u64 (n-1)),Dd e7]∧M1 [Bx .u64 (Hv .u64 (n-1)),Dd e7]<M1 [Bx .u64 n,Dd e6]) (∃e7,Gv 338 [Aw (Dd e4),Aw (Dd e6)] [Aw (Dd e7)]∧(0≤n2∧n2<(Hy es.length))∧0<1∧I0 [] [Dd (upd es (J3 n2) (upd (nth [] es (J3 n2)) 0 (Bx .u32 (Hv .u32 n)))),Dd e7,Bx .i64 (Hv .i64 (n2-1))]∧M0 [Dd (upd es (J3 n2) (upd (nth [] es (J3 n2)) 0 (Bx .u32 (Hv .u32 n)))),Dd e7,Bx .i64 (Hv .i64 (n2-1))]<M0 [Dd es,Dd e3,Bx .i64 n2])) ((0≤(Hy e3.length)∧(Hy e3.length)≤(Hy e3.length)∧room (J3 (Hy e3.length)))∧I2 [Dd e3] [Dd (Lv (J3 (Hy e3.length)) [Bx .u32 0]),Bx .u64 0,Bx .i64 (Hv .i64 ((Hy e3.length)-1))]∧∀(e4:List (List D)) (n3 n4:Int),I2 [Dd e3] [Dd e4,Bx .u64 n3,Bx .i64 n4]→br (toB (F0 (decide (n4≥0)))) ((0≤n4∧n4<(Hy e3.length)∧Pl (nth [] e3 (J3 n4))=1)∧∃n5,cut (nth [] e3 (J3 n4)) 0 1 [Bx .u32 n5]∧Hv .u64 (Hv .u32 (Hv .u64 (J6 (1000000000:Int) (Hv .u64 (Hv .u64 n+1)))))≠0∧(0≤n4∧n4<(Hy e4.length))∧0<1∧Hv .u64 (Hv .u32 (Hv .u64 (J6 (1000000000:Int) (Hv .u64 (Hv .u64 n+1)))))≠0∧I2 [Dd e3] [Dd (upd e4 (J3 n4) (upd (nth [] e4 (J3 n4)) 0 (Bx .u32 (Hv .u32 (Hv .u64 (J6 (Hv .u64 (Hv .u64 (n3*1000000000)+Hv .u64 n5)) (Hv .u64 (Hv .u32 (Hv .u64 (J6 (1000000000:Int) (Hv .u64 (Hv .u64 n+1)))))))))))),Bx .u64 (Lm (Hv .u64 (Hv .u64 (n3*1000000000)+Hv .u64 n5)) (Hv .u64 (Hv .u32 (Hv .u64 (J6 (1000000000:Int) (Hv .u64 (Hv .u64 n+1))))))),Bx .i64 (Hv .i64 (n4-1))]∧M2 [Dd (upd e4 (J3 n4) (upd (nth [] e4 (J3 n4)) 0 (Bx .u32 (Hv .u32 (Hv .u64 (J6 (Hv .u64 (Hv .u64 (n3*1000000000)+Hv .u64 n5)) (Hv .u64 (Hv .u32 (Hv .u64 (J6 (1000000000:Int) (Hv .u64 (Hv .u64 n+1)))))))))))),Bx .u64 (Lm (Hv .u64 (Hv .u64 (n3*1000000000)+Hv .u64 n5)) (Hv .u64 (Hv .u32 (Hv .u64 (J6 (1000000000:Int) (Hv .u64 (Hv .u64 n+1))))))),Bx .i64 (Hv .i64 (n4-1))]<M2 [Dd e4,Bx .u64 n3,Bx .i64 n4]) (∃e5,Gv 224 [Aw (Dd es)] [Aw (Dd e5)]∧∃es,Gv 224 [Aw (Dd e4)] [Aw (Dd es)]∧Q [Aw (Dd e5),Aw (Dd es)])))):=by kernel_rfl
end
end Eng
end

section
namespace Eng
open Go Go.Proofs
theorem Za:∀(i n:Nat),(lim n).getD i 0=n/1000000000^i%1000000000
 |0,n=>by
  rw[Nat.pow_zero,Nat.div_one];rcases aA n with h|h
  ·rw[h];rfl
  ·rw[Vj h];rfl
 |i+1,n=>by
  rcases aA n with h|h
  ·rw[h,Va,Nat.zero_div];rfl
  ·rw[Vj h,W2,W0,←ay];exact Za i (n/1000000000)
theorem Gc {n i:Nat} (h:(lim n).length≤i):n/1000000000^i=0:=by
 apply aJ;rcases aN n (1000000000^i)with h2|h2
 ·exact h2
 ·have:=jt h2;omega
theorem Gd {R n:Nat}:R/1000000000^(n+1)*1000000000+R/1000000000^n%1000000000=R/1000000000^n:=by
 rw[W2,←ay];generalize R/1000000000^n=q;omega
theorem AD {R V v1 P vl:Nat} (hV:V=v1*P+vl) (hV0:0<v1*P):R/V≤R/P/v1:=by
 rw[ay,W0 P v1];exact Nat.div_le_div_left (by omega) hV0
theorem AE {R V d:Nat} (hV:0<V) (h:R<V*d):R/V<d:=by
 rw[W1 hV,W0];exact h
theorem AF {R V d:Nat} (hV:0<V) (h:V*d≤R) (h2:R/V≤d):d=R/V:=by
 have:d≤R/V:=(Nat.le_div_iff_mul_le hV).2 (by rw[W0];exact h);omega
theorem EN {R V:Nat}:R-V*(R/V)=R%V:=by
 have:=aL R V;omega
theorem PO {V Q R c B:Nat}:(((c+B*R)/V)+B*Q)*V+(c+B*R)%V=c+B*(Q*V+R):=by
 have h:=aL (c+B*R) V;generalize (c+B*R)/V=d at *;generalize (c+B*R)%V=e at *;have e1:(d+B*Q)*V+e=(V*d+e)+B*(Q*V):=by rw[Nat.add_mul,W0 d V,aM];omega
 rw[e1,h,aP];omega
theorem Te {V R c B:Nat} (hc:c<B) (hR:R<V):c+B*R<B*V:=by
 have:B*(R+1)≤B*V:=az _ hR;rw[aP]at this;omega
theorem vj {V R c B:Nat} (hc:c<B) (hR:R<V):(c+B*R)/V<B:=by
 rw[W1 (by omega)];exact Te hc hR
theorem Bw {u:List Nat} {k:Nat} (h:k<u.length):val (u.drop k)=u[k]+1000000000*val (u.drop (k+1)):=by
 rw[List.drop_eq_getElem_cons h];rfl
theorem HG {U V q r:Nat} (h:q*V+r=U) (hr:r<V):q=U/V∧r=U%V:=by
 have hV:0<V:=by omega
 subst h;constructor
 ·rw[W0,Nat.mul_add_div hV,aJ hr];omega
 ·rw[W0,Nat.mul_add_mod,aB hr]
theorem Tf {k d:Nat} {q:List Nat}:(Lv (k+1) 0++q).set k d=Lv k 0++d::q:=by
 rw[List.replicate_succ',List.append_assoc,List.set_append];simp
end Eng
end

section
namespace Eng
open Go Go.Proofs
set_option maxRecDepth 100000
theorem Q2 {a b:Nat} (h:raw (lim a)=raw (lim b)):a=b:=by
 have:=Vb h;rw[←qj a,←qj b,this]
def Ip (a b c j4 j18 j20 j23:Ann):Nat→Ann:=wB (wB (wB (wB (Gl a b c) 4 j4) 18 j18) 20 j20) 23 j23
theorem y7 {x s:Nat} (hs:s<1000000000):(lim (x*s)).length≤(lim x).length+1:=by
 apply qq;have h:=qO (qe x);rw[qj]at h;rw[W2]
 calc x*s≤x*1000000000:=az _ (by omega)
  _<1000000000^(lim x).length*1000000000:=aD h (by omega)
theorem By {y:Nat} (hy:y≠0):∃d s:Nat,0<d∧d<1000000000∧(∀h:(lim y).length-1<(lim y).length,(lim y)[(lim y).length-1]=d)∧0<s∧s=1000000000/(d+1)∧s<1000000000:=by
 have hl:0<(lim y).length:=qG.2 (by omega);have a2:(lim y).length-1<(lim y).length:=by omega
 obtain⟨d,hd⟩:∃d,(lim y)[(lim y).length-1]=d:=⟨_,rfl⟩;have a1:d<1000000000:=hd▸(qe y).get a2;have a0:0<d:=by
  rcases aA d with h0|h0
  ·exfalso;rcases zr y with h|h
   ·rw[h]at hl;simp at hl
   ·apply h;rw[List.getLast?_eq_getElem?,Ts a2,hd,h0]
  ·exact h0
 obtain⟨_,hs2,hs3⟩:=Wa a0 a1 (s:=1000000000/(d+1)) rfl;refine⟨d,1000000000/(d+1),a0,a1,fun _=>hd,by omega,rfl,?_⟩;generalize 1000000000/(d+1)=s at *;have:s*2≤s*(d+1):=az _ (by omega);omega
theorem AG {V p:Nat} (hp:(lim V).length=p+1):∃v1:Nat,v1=V/1000000000^p∧0<v1∧v1<1000000000∧(∀h:p<(lim V).length,(lim V)[p]=v1)∧v1*1000000000^p≤V∧V<1000000000^(p+1):=by
 have hB:V<1000000000^(p+1):=by have h:=qO (qe V);rw[qj,hp]at h;exact h
 have hP:1000000000^p≤V:=by
  rcases aN V (1000000000^p)with h|h
  ·have:=qq h;omega
  ·exact h
 have a0:0<1000000000^p:=aC (by omega);have hv:V/1000000000^p<1000000000:=by rw[W1 a0,W0,←W2];exact hB
 refine⟨V/1000000000^p,rfl,Nat.div_pos hP a0,hv,fun h=>?_,Nat.div_mul_le_self _ _,hB⟩;have h2:=Za p V;rw[aB hv]at h2;rw[←h2];simp[U0,h]
theorem EO {T V p:Nat} (h:T<1000000000*V) (hV:V<1000000000^(p+1)):T/1000000000^(p+1)<1000000000∧T/1000000000^p<1000000000000000000:=by
 have h1:T<1000000000*1000000000^(p+1):=Nat.lt_trans h (Nat.mul_lt_mul_of_pos_left hV (by omega));constructor
 ·rw[W1 (aC (by omega))];exact h1
 ·rw[W1 (aC (by omega))];rw[W2]at h1
  calc T<1000000000*(1000000000^p*1000000000):=h1
   _=1000000000000000000*1000000000^p:=by rw[W0 (1000000000^p),←aM]
def qr (u:List Nat) (V:Nat) (kk:Nat) (ql:List Nat) (R:Nat):Prop:=
 kk+ql.length=u.length∧Limbs ql∧R<V∧val ql*V+R=val (u.drop kk)
theorem qr.start {u:List Nat} {V:Nat} (hV:0<V):qr u V u.length [] 0:=by
 refine⟨rfl,Limbs.nil,hV,?_⟩;rw[List.drop_length];simp[val]
theorem qr.next {u:List Nat} {V k R c:Nat} {ql:List Nat} (h:qr u V (k+1) ql R) (hc:c<1000000000) (hk:∀h:k<u.length,u[k]=c):qr u V k ((c+1000000000*R)/V::ql) ((c+1000000000*R)%V):=by
 obtain⟨h1,h2,h3,h4⟩:=h;have a0:k<u.length:=by omega
 refine⟨by simp only[T1];omega,h2.cons (vj hc h3),aH _ (by omega),?_⟩;rw[Bw a0,←h4,hk a0,←PO];rfl
theorem qr.fin {u:List Nat} {V R:Nat} {ql:List Nat} (h:qr u V 0 ql R):val ql=val u/V∧R=val u%V:=by
 obtain⟨h1,h2,h3,h4⟩:=h;rw[List.drop_zero]at h4;exact HG h4 h3
theorem HH {x y:Nat} (h1:(lim x).length≤2) (h2:(lim y).length≤2) (hy:y≠0) {Q:List A→Prop} (hQ:Q [.c (.sl (raw (lim (x/y)))),.c (.sl (raw (lim (x%y))))]):
 ∃n,qf CC 275 [Aw (Dd (raw (lim x)))] [Aw (Bx Hx n)]∧
  ∃n_1,qf CC 275 [Aw (Dd (raw (lim y)))] [Aw (Bx Hx n_1)]∧n_1≠(0:Int)∧
   ∃es,qf CC 129 [Aw (Bx Hx (Hv Hx (J6 n n_1)))] [Aw (Dd es)]∧
    n_1≠(0:Int)∧∃es_1,qf CC 129 [Aw (Bx Hx (Lm n n_1))] [Aw (Dd es_1)]∧Q [Aw (Dd es),Aw (Dd es_1)]:=by
 have hx:=Qz (qe x) h1;have a0:=Qz (qe y) h2;rw[qj]at hx a0;have bx:x<1000000000000000000:=by have h:=qO (qe x);rw[qj]at h;exact aI h (aE (aG (by omega) h1) (by decide))
 have by_:y<1000000000000000000:=by have h:=qO (qe y);rw[qj]at h;exact aI h (aE (aG (by omega) h2) (by decide))
 have e1:J6 (x:Int) (y:Int)=((x/y:Nat):Int):=(J9 x y).symm;have e2:Lm (x:Int) (y:Int)=((x%y:Nat):Int):=(Ls x y).symm;have l1:x/y≤x:=aK _ _;have l2:x%y<y:=aH _ (by omega);refine⟨_,hx,_,a0,by omega,?_⟩;rw[e1,e2];generalize x/y=q at *;generalize x%y=r at *;rw[x9 (by omega) (by omega)];exact⟨_,vi (by omega),by omega,_,vi (by omega),hQ⟩
theorem zN:w5:=by
 intro x y hy hlx hly;by_cases hsmall:(lim x).length≤2∧(lim y).length≤2
 ·refine qg (anns:=Ip ⟨[.own 12 173 1,.slot 11 (.slice none 0 0),.slot 14 (.int .i64 0)],[],fun _ _=>True,fun _=>0⟩ ⟨[.slot 16 (.int .u64 0),.slot 17 (.slice none 0 0)],[.slot 11 (.slice none 0 0),.slot 14 (.int .i64 0),.own 12 173 1],fun _ _=>True,fun _=>0⟩ ⟨[.own 19 174 1,.slot 18 (.int .u64 0),.slot 20 (.int .i64 0)],[.slot 11 (.slice none 0 0)],fun _ _=>True,fun _=>0⟩
   ⟨[],[],fun _ _=>False,fun _=>0⟩ ⟨[.slot 15 (.int .u64 0)],[.slot 11 (.slice none 0 0)],fun _ _=>True,fun _=>0⟩ ⟨[.slot 15 (.int .u64 0)],[.slot 11 (.slice none 0 0)],fun _ _=>True,fun _=>0⟩ ⟨[.slot 16 (.int .u64 0)],[.slot 11 (.slice none 0 0)],fun _ _=>True,fun _=>0⟩) mixedT Tryz.func274 ?_
  unfold Ip;rw[Gb];simp only[Lr,qh];refine⟨brd (fun _=>brd (fun _=>HH (Q:=fun rs=>rs=[.c (.sl (raw (lim (x/y)))),.c (.sl (raw (lim (x%y))))]) hsmall.1 hsmall.2 hy rfl) (fun h=>?_)) (fun h=>?_),fun h=>h.elim⟩
  ·exact h (by have:=hsmall.2;omega)
  ·exact h (by have:=hsmall.1;omega)
 ·--the scale
  obtain⟨d,s,hd0,hd1,hdl,af,hs,ag⟩:=By hy;have hlyp:0<(lim y).length:=qG.2 (by omega);obtain⟨V,hV⟩:∃V,V=y*s:=⟨_,rfl⟩;obtain⟨U,hU⟩:∃U,U=x*s:=⟨_,rfl⟩;have ae:0<V:=by rw[hV];exact aO (by omega) af
  have au:=PL (qe y) ag (by omega);have ar:=PL (qe x) ag (by omega);rw[qj,←hV]at au;rw[qj,←hU]at ar;have hlV:(lim V).length≤(lim y).length+1:=by rw[hV];exact y7 ag
  have hlU:(lim U).length≤(lim x).length+1:=by rw[hU];exact y7 ag
  have hlVp:0<(lim V).length:=qG.2 ae;obtain⟨p,hp⟩:∃p,(lim V).length=p+1:=⟨(lim V).length-1,by omega⟩;obtain⟨v1,hv1,hv0,hvB,hvl,hvP,ap⟩:=AG hp;have hwd:Hv .u32 (Hv .u64 (J6 1000000000 (Hv .u64 (Hv .u64 (d:Int)+1))))=(s:Int):=by rw[x9 (n:=(d:Int)) (by omega) (by omega),x9 (n:=(d:Int)+1) (by omega) (by omega)];have:J6 (1000000000:Int) ((d:Int)+1)=((1000000000/(d+1):Nat):Int):=(J9 1000000000 (d+1)).symm;rw[this,←hs,x9 (by omega) (by omega),zR (by omega) (by omega)]
  have hws:Hv .u64 (s:Int)=(s:Int):=x9 (by omega) (by omega);have hwp:Hv .i64 (((lim V).length:Int)-1)=(p:Int):=by rw[hp,qK (by omega) (by omega)];omega
  have hwv:Hv .u64 (v1:Int)=(v1:Int):=x9 (by omega) (by omega);refine qg (anns:=Ip
   ⟨[.own 12 173 1,.slot 11 (.slice none 0 0),.slot 14 (.int .i64 0)],[],fun _ ds=>∃(kk:Nat) (ql:List Nat) (R:Nat),ds=[.sl (raw (Lv kk 0++ql)),.sl (raw (lim R)),.int .i64 ((kk:Int)-1)]∧qr (lim U) V kk ql R,fun ds=>(toI (nth .undef ds 2)+1).toNat⟩
   ⟨[.slot 16 (.int .u64 0),.slot 17 (.slice none 0 0)],[.slot 11 (.slice none 0 0),.slot 14 (.int .i64 0),.own 12 173 1],fun gs ds=>∃(T g:Nat),nth .undef gs 0= .sl (raw (lim T))∧ds=[.int .u64 (g:Int),.sl (raw (lim (V*g)))]∧T/V≤g∧g≤999999999,fun ds=>(toI (nth .undef ds 0)).toNat⟩
   ⟨[.own 19 174 1,.slot 18 (.int .u64 0),.slot 20 (.int .i64 0)],[.slot 11 (.slice none 0 0)],fun gs ds=>∃(R kk:Nat) (ql:List Nat) (t:Nat),gs=[.sl (raw (lim R))]∧ds=[.sl (raw (Lv kk 0++ql)),.int .u64 (t:Int),.int .i64 ((kk:Int)-1)]∧qr (lim R) s kk ql t,fun ds=>(toI (nth .undef ds 2)+1).toNat⟩
   ⟨[],[],fun _ _=>True,fun _=>0⟩
   ⟨[.slot 15 (.int .u64 0)],[.slot 11 (.slice none 0 0)],fun gs ds=>∃T:Nat,gs=[.sl (raw (lim T))]∧ds=[.int .u64 ((T/1000000000^(p+1)*1000000000:Nat):Int)],fun _=>0⟩
   ⟨[.slot 15 (.int .u64 0)],[.slot 11 (.slice none 0 0)],fun gs ds=>∃T:Nat,gs=[.sl (raw (lim T))]∧ds=[.int .u64 ((T/1000000000^p:Nat):Int)],fun _=>0⟩
   ⟨[.slot 16 (.int .u64 0)],[.slot 11 (.slice none 0 0)],fun gs ds=>∃(T g:Nat),gs=[.sl (raw (lim T))]∧ds=[.int .u64 (g:Int)]∧T/V≤g∧g≤999999999,fun _=>0⟩) mixedT Tryz.func274 ?_
  unfold Ip;rw[Gb];simp only[Lr,qh];refine⟨brd (fun _=>brd (fun h=>?_) (fun _=>trivial)) (fun _=>trivial),fun _=>?_⟩
  ·exact absurd ⟨by omega,by omega⟩ hsmall
  have hwl:Hv .i64 (((lim y).length:Int)-1)=(((lim y).length-1:Nat):Int):=by rw[qK (by omega) (by omega)];omega
  have hwx:Hv .i64 (((lim x).length:Int)+1)=(((lim x).length+1:Nat):Int):=by rw[qK (by omega) (by omega)];omega
  rw[hwl,hwx,J7,J7];have hdc:cut (nth [] (raw (lim y)) ((lim y).length-1)) 0 1 [.int .u32 (d:Int)]:=by have:=qw (l:=lim y) (i:=(lim y).length-1) (by omega);rw[hdl (by omega)]at this;exact this
  refine⟨⟨by omega,by omega,qt (by omega)⟩,_,hdc,?_⟩;rw[hwd];refine⟨?_,_,au,?_⟩
  ·rw[x9 (n:=(d:Int)) (by omega) (by omega),x9 (n:=(d:Int)+1) (by omega) (by omega)];omega
  have hvc:cut (nth [] (raw (lim V)) p) 0 1 [.int .u32 (v1:Int)]:=by have:=qw (l:=lim V) (i:=p) (by omega);rw[hvl (by omega)]at this;exact this
  rw[qh,hwp,J7];refine⟨⟨by omega,by omega,qt (by omega)⟩,_,hvc,⟨by omega,by omega,by unfold room;omega⟩,_,ar,?_⟩;rw[hws,hwv];simp only[qh,No,J7];refine⟨⟨by omega,by omega,by omega⟩,⟨(lim U).length,[],0,?_,qr.start ae⟩,?_⟩
  ·rw[List.take_replicate,Nat.min_eq_left hlU,xe,U3,qK (by omega) (by omega)];rfl
  rintro es es_3 n_2 ⟨kk,ql,R,he,hq⟩;simp only[V1,Hu,F2,true_and,and_true]at he;obtain⟨rfl,rfl,rfl⟩:=he;refine brd (fun h=>?_) (fun h=>?_)
  ·obtain⟨k,rfl⟩:∃k,kk=k+1:=⟨kk-1,by omega⟩;have al:((k+1:Nat):Int)-1=(k:Int):=by omega
   have a3:k<(lim U).length:=by have:=hq.1;omega
   obtain⟨c,hc⟩:∃c,(lim U)[k]=c:=⟨_,rfl⟩;have a1:c<1000000000:=hc▸(qe U).get a3;have a6:R<V:=hq.2.2.1;obtain⟨T,hT⟩:∃T,T=c+1000000000*R:=⟨_,rfl⟩;have a0:=hq.next a1 (fun _=>hc)
   rw[←hT]at a0;have an:T<1000000000*V:=hT▸Te a1 a6;have ao:T/V<1000000000:=hT▸vj a1 a6;have hlR:(lim R).length≤(lim V).length:=CH (aF a6);have hlT:(lim T).length≤(lim V).length+1:=by refine aE (CH (aF an)) ?_;rw[W0];apply qq;rw[hp,W2];exact aD ap (by omega)
   have ad:qf CC 224 [.c (.sl ([Bx .u32 (c:Int)]::raw (lim R)))] [.c (.sl (raw (lim T)))]:=by have h:=j7 (l:=c::lim R) ((qe R).cons a1) (by rw[T1];omega);rw[show val (c::lim R)=T by show c+1000000000*val (lim R)=T;rw[qj,hT]]at h;exact h
   have a2:cut (nth [] (raw (lim U)) k) 0 1 [.int .u32 (c:Int)]:=by have h:=qw (l:=lim U) (i:=k) a3;rw[hc]at h;exact h
   obtain⟨hH1,hH0⟩:=EO an ap;rw[al,J7];refine⟨⟨by omega,by omega,qt a3⟩,_,a2,⟨by rw[qh];unfold room;omega,zL _⟩,_,ad,?_⟩;simp only[qh];rw[hp];refine⟨brd (fun h2=>?_) (fun h2=>?_),?_⟩
   ·have a4:p+1<(lim T).length:=by omega
    have a7:=qw (l:=lim T) (i:=p+1) a4;have hg:=Za (p+1) T;rw[aB hH1,U0,Ts a4,Option.getD_some]at hg;rw[hg]at a7;refine⟨⟨by omega,by omega,qt a4⟩,_,a7,T,rfl,?_⟩;generalize T/1000000000^(p+1)=t at *;rw[x9 (n:=(t:Int)) (by omega) (by omega),x9 (by omega) (by omega)];rfl
   ·have:=Gc (n:=T) (i:=p+1) (by omega);exact⟨T,rfl,by rw[this];rfl⟩
   rintro n ⟨T',h2,h3⟩;simp only[V1,Hu,F2,true_and,and_true]at h2 h3;obtain rfl:=Q2 h2;subst h3;refine⟨brd (fun h2=>?_) (fun h2=>?_),?_⟩
   ·have a4:p<(lim T).length:=by omega
    have a7:=qw (l:=lim T) (i:=p) a4;have hg:=Za p T;rw[U0,Ts a4,Option.getD_some]at hg;rw[hg]at a7;refine⟨⟨by omega,by omega,qt a4⟩,_,a7,T,rfl,?_⟩;have ah:=Gd (R:=T) (n:=p);have hm:=aH (T/1000000000^p) (show 1000000000>0 by omega);generalize T/1000000000^(p+1)=t at *;generalize T/1000000000^p=t2 at *;generalize t2%1000000000=t3 at *;rw[x9 (n:=(t3:Int)) (by omega) (by omega),x9 (by omega) (by omega),←ah];rfl
   ·have h4:=Gc (n:=T) (i:=p) (by omega);have ah:=Gd (R:=T) (n:=p);rw[h4,Nat.zero_mod,Nat.add_zero]at ah;exact⟨T,rfl,by rw[h4,ah]⟩
   rintro n ⟨T',h2,h3⟩;simp only[V1,Hu,F2,true_and,and_true]at h2 h3;obtain rfl:=Q2 h2;subst h3;have hup:T/V≤T/1000000000^p/v1:=AD (vl:=V-v1*1000000000^p) (Nat.add_sub_cancel' hvP).symm (aO hv0 (aC (by omega)));have htd:J6 ((T/1000000000^p:Nat):Int) (v1:Int)=((T/1000000000^p/v1:Nat):Int):=(J9 _ _).symm;have hle:T/1000000000^p/v1≤T/1000000000^p:=aK _ _;rw[htd];generalize T/1000000000^p/v1=G at *;generalize T/1000000000^p=H at *;rw[x9 (n:=(G:Int)) (by omega) (by omega)];refine⟨by omega,brd (fun h2=>?_) (fun h2=>?_),?_⟩
   ·exact⟨T,999999999,rfl,rfl,by generalize T/V=q at *;omega,by omega⟩
   ·exact⟨T,G,rfl,rfl,hup,by omega⟩
   rintro n ⟨T',g,h2,h3,av,hg2⟩;simp only[V1,Hu,F2,true_and,and_true]at h2 h3;obtain rfl:=Q2 h2;subst h3;have aq:=PL (qe V) (d:=g) (by omega) (by omega);rw[qj]at aq;rw[zR (n:=(g:Int)) (by omega) (by omega)];refine⟨_,aq,⟨T,g,rfl,rfl,av,hg2⟩,?_⟩;rintro n es_6 ⟨T',g',h2,h3,a8,hg2'⟩;simp only[nth,V1,Hu,F2,true_and,and_true]at h2 h3;obtain rfl:=Q2 h2;obtain⟨rfl,rfl⟩:=h3;have hlg:(lim (V*g')).length≤(lim V).length+1:=y7 (by omega);refine⟨_,jQ (x:=V*g') (y:=T) (by omega) (by omega),brd (fun h2=>?_) (fun h2=>?_)⟩
   ·have hgt:T<V*g':=by
     unfold Q9 at h2;split at h2
     ·omega
     ·split at h2
      ·assumption
      ·omega
    have ai:T/V<g':=AE ae hgt;have aj:0<g':=Nat.lt_of_le_of_lt (Nat.zero_le _) ai;have ak:T/V≤g'-1:=Nat.le_sub_one_of_lt ai;clear ai av a8 ao;have hm:=Q1 (qe (V*g')) (qe V) (by omega) (by rw[qj,qj];exact Nat.le_mul_of_pos_right _ aj);rw[qj,qj,show V*g'-V=V*(g'-1)by rw[Nat.mul_sub_one]]at hm;have hw:Hv .u64 ((g':Int)-1)=((g'-1:Nat):Int):=by rw[x9 (by omega) (by omega)];omega
    rw[hw];exact⟨_,hm,⟨T,g'-1,rfl,rfl,ak,by omega⟩,by simp only[nth,toI];omega⟩
   ·have a9:V*g'≤T:=by
     unfold Q9 at h2;split at h2
     ·omega
     ·split at h2
      ·omega
      ·omega
    have aw:=AF ae a9 a8;have hm:=Q1 (qe T) (qe (V*g')) (by omega) (by rw[qj,qj];exact a9);rw[qj,qj,aw,EN]at hm;rw[aw];have a5:Hv .u32 ((T/V:Nat):Int)=((T/V:Nat):Int):=by have h5:=ao;generalize T/V=q at h5;exact zR (by omega) (by omega)
    rw[a5,xG (by rw[P1,No];omega),Tf];have hw:Hv .i64 ((k:Int)-1)=(k:Int)-1:=qK (by omega) (by omega);rw[hw];refine⟨_,hm,⟨by omega,by simp only[P1,No];omega⟩,by omega,⟨k,_,_,rfl,a0⟩,?_⟩;simp only[nth,toI];omega
  ·obtain rfl:kk=0:=by omega
   have am:=hq.fin;rw[qj]at am;have e1:U/V=x/y:=by rw[hU,hV];exact Nat.mul_div_mul_right _ _ af
   have e2:U%V=x%y*s:=by rw[hU,hV];exact Nat.mul_mod_mul_right _ _ _
   rw[e1,e2]at am;obtain⟨hv,hR⟩:=am;have a6:R<V:=hq.2.2.1;have hlR:(lim R).length≤(lim V).length:=CH (aF a6);have hlq:ql.length=(lim U).length:=by have:=hq.1;omega
   have hLq:Limbs ql:=hq.2.1;simp only[qh];refine⟨⟨by omega,by omega,by unfold room;omega⟩,⟨R,(lim R).length,[],0,rfl,?_,qr.start af⟩,?_⟩
   ·rw[U3,xe,qK (by omega) (by omega)];rfl
   rintro es_4 n_3 n_4 ⟨R',kk,ll,t,h2,h3,hr⟩;simp only[V1,Hu,F2,true_and,and_true]at h2 h3;obtain rfl:=Q2 h2;obtain⟨rfl,rfl,rfl⟩:=h3;refine brd (fun h4=>?_) (fun h4=>?_)
   ·obtain⟨k,rfl⟩:∃k,kk=k+1:=⟨kk-1,by omega⟩;have al:((k+1:Nat):Int)-1=(k:Int):=by omega
    have a3:k<(lim R).length:=by have:=hr.1;omega
    obtain⟨c,hc⟩:∃c,(lim R)[k]=c:=⟨_,rfl⟩;have a1:c<1000000000:=hc▸(qe R).get a3;have hts:t<s:=hr.2.2.1;have a0:=hr.next a1 (fun _=>hc)
    have hq:=vj a1 hts;have a2:cut (nth [] (raw (lim R)) k) 0 1 [.int .u32 (c:Int)]:=by have h:=qw (l:=lim R) (i:=k) a3;rw[hc]at h;exact h
    have hw:Hv .u64 (Hv .u64 ((t:Int)*1000000000)+Hv .u64 (c:Int))=((c+1000000000*t:Nat):Int):=by rw[x9 (n:=(c:Int)) (by omega) (by omega),x9 (n:=(t:Int)*1000000000) (by omega) (by omega),x9 (by omega) (by omega)];omega
    generalize c+1000000000*t=T at *;have hd:=(J9 T s).symm;have hm:=(Ls T s).symm;rw[al,J7];refine⟨⟨by omega,by omega,qt a3⟩,_,a2,?_⟩;rw[hw];rw[hd,hm];have a5:Hv .u32 (Hv .u64 ((T/s:Nat):Int))=((T/s:Nat):Int):=by have h5:=hq;generalize T/s=q at h5;rw[x9 (by omega) (by omega)];exact zR (by omega) (by omega)
    rw[a5,xG (by rw[P1,No];omega),Tf];have hw:Hv .i64 ((k:Int)-1)=(k:Int)-1:=qK (by omega) (by omega);rw[hw];refine⟨by omega,⟨by omega,by simp only[qh,P1,No];omega⟩,by omega,by omega,⟨R,k,_,_,rfl,rfl,a0⟩,?_⟩;simp only[nth,toI];omega
   ·obtain rfl:kk=0:=by omega
    have ax:=hr.fin;rw[qj,hR,Nat.mul_div_cancel _ af]at ax;have ho:=j7 hLq (by omega);rw[hv]at ho;have hl:=j7 hr.2.1 (by have:=hr.1;omega);rw[ax.1]at hl;exact⟨_,ho,_,hl,rfl⟩
end Eng
end
