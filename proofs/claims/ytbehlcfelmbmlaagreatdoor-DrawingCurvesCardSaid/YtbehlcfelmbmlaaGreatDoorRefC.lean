/- The verification conditions of functions, printed by a program (vcgen.py) and checked by the kernel. -/
import Derived.Test.YtbehlcfelmbmlaaGreatDoorCtxB
import Derived.Test.YtbehlcfelmbmlaaGreatDoorIntA
import Derived.Test.YtbehlcfelmbmlaaGreatDoorRefA
import Derived.Test.YtbehlcfelmbmlaaGreatDoorRefB
import Derived.KernelRfl
open Eng.A renaming c→Aa
open Eng.D renaming int→Ab, sl→Ac, bool→Ad
open Eng.D.int renaming injEq→Ae
open Eng.D.sl renaming injEq→Af
open Go.IntKind renaming wrap→Ah, u64→Ai
open Int renaming ofNat→Aj, toNat→Ak, tdiv→Al, toNat_natCast→Am, ofNat_tdiv→An, tmod→Ao, ofNat_eq_natCast→Ap, ofNat_tmod→Aq
open List renaming replicate→Ar, length_replicate→As, length→At, length_append→Au, getElem?_eq_getElem→Av, length_cons→Aw, getD→Ax, append_nil→Ay
open List.cons renaming injEq→Az
open Nat renaming mul_comm→A0, div_lt_iff_lt_mul→A1, pow_succ→A2, div_div_eq_div_mul→A3, mul_le_mul_left→A4, eq_zero_or_pos→A5, mod_eq_of_lt→A6, pow_pos→A7, mul_lt_mul_of_pos_right→A8, le_trans→A9, le_of_lt→AA, pow_le_pow_right→AB, mod_lt→AC, lt_of_lt_of_le→AD, div_eq_of_lt→AE, div_le_self→AF, div_add_mod→AG, mul_assoc→AH, lt_or_ge→AI, mul_pos→AJ, mul_add→AK
section
namespace Eng
open Go Go.Proofs
set_option maxRecDepth 1000000
section
variable (Gv:Nat→List A→List A→Prop) (Q:List A→Prop) (I0 I1 I2 I3:List D→List D→Prop) (M0 M1 M2 M3:List D→Nat)
theorem JZ (J4:List D→List D→Prop) (J18:List D→List D→Prop) (J20:List D→List D→Prop) (J23:List D→List D→Prop) (es fs:List (List D)):wpF CC Gv (WR (WR (WR (WR (Rb ⟨[.own 12 173 1,.slot 11 (.slice none 0 0),.slot 14 (.int .i64 0)],[],I0,M0⟩ ⟨[.slot 16 (.int .u64 0),.slot 17 (.slice none 0 0)],[.slot 11 (.slice none 0 0),.slot 14 (.int .i64 0),.own 12 173 1],I1,M1⟩ ⟨[.own 19 174 1,.slot 18 (.int .u64 0),.slot 20 (.int .i64 0)],[.slot 11 (.slice none 0 0)],I2,M2⟩) 4 ⟨[],[],J4,fun _=>0⟩) 18 ⟨[.slot 15 (.int .u64 0)],[.slot 11 (.slice none 0 0)],J18,fun _=>0⟩) 20 ⟨[.slot 15 (.int .u64 0)],[.slot 11 (.slice none 0 0)],J20,fun _=>0⟩) 23 ⟨[.slot 16 (.int .u64 0)],[.slot 11 (.slice none 0 0)],J23,fun _=>0⟩) Tryz.f274 [.c (.sl es),.c (.sl fs)] Q=(
 br (toB (Ad (decide ((Aj es.length)≤2)))) (br (toB (Ad (decide ((Aj fs.length)≤2)))) (∃n,Gv 275 [Aa (Ac es)] [Aa (Ab .u64 n)]∧∃n1,Gv 275 [Aa (Ac fs)] [Aa (Ab .u64 n1)]∧n1≠0∧∃es,Gv 129 [Aa (Ab .u64 (Ah .u64 (Al n n1)))] [Aa (Ac es)]∧n1≠0∧∃e1,Gv 129 [Aa (Ab .u64 (Ao n n1))] [Aa (Ac e1)]∧Q [Aa (Ac es),Aa (Ac e1)]) (J4 [] [])) (J4 [] [])∧(J4 [] []→(0≤Ah .i64 ((Aj fs.length)-1)∧Ah .i64 ((Aj fs.length)-1)<(Aj fs.length)∧At (nth [] fs (Ak (Ah .i64 ((Aj fs.length)-1))))=1)∧∃n,cut (nth [] fs (Ak (Ah .i64 ((Aj fs.length)-1)))) 0 1 [Ab .u32 n]∧Ah .u64 (Ah .u64 n+1)≠0∧∃e1,Gv 337 [Aa (Ac fs),Aa (Ab .u32 (Ah .u32 (Ah .u64 (Al (1000000000:Int) (Ah .u64 (Ah .u64 n+1))))))] [Aa (Ac e1)]∧(0≤Ah .i64 ((Aj e1.length)-1)∧Ah .i64 ((Aj e1.length)-1)<(Aj e1.length)∧At (nth [] e1 (Ak (Ah .i64 ((Aj e1.length)-1))))=1)∧∃n1,cut (nth [] e1 (Ak (Ah .i64 ((Aj e1.length)-1)))) 0 1 [Ab .u32 n1]∧(0≤Ah .i64 ((Aj es.length)+1)∧Ah .i64 ((Aj es.length)+1)≤Ah .i64 ((Aj es.length)+1)∧room (Ak (Ah .i64 ((Aj es.length)+1))))∧∃e2,Gv 337 [Aa (Ac es),Aa (Ab .u32 (Ah .u32 (Ah .u64 (Al (1000000000:Int) (Ah .u64 (Ah .u64 n+1))))))] [Aa (Ac e2)]∧(0≤(Aj e2.length)∧(Aj e2.length)≤(Aj (At (Ar (Ak (Ah .i64 ((Aj es.length)+1))) [Ab .u32 0])))∧0<At (Ar (Ak (Ah .i64 ((Aj es.length)+1))) [Ab .u32 0]))∧I0 [] [Ac (List.take (Ak (Aj e2.length)) (Ar (Ak (Ah .i64 ((Aj es.length)+1))) [Ab .u32 0])),Ac [],Ab .i64 (Ah .i64 ((Aj e2.length)-1))]∧∀(es e3:List (List D)) (n2:Int),I0 [] [Ac es,Ac e3,Ab .i64 n2]→br (toB (Ad (decide (n2≥0)))) ((0≤n2∧n2<(Aj e2.length)∧At (nth [] e2 (Ak n2))=1)∧∃n,cut (nth [] e2 (Ak n2)) 0 1 [Ab .u32 n]∧(room (1+e3.length)∧lens 1 e3)∧∃e4,Gv 224 [Aa (Ac ([Ab .u32 n]::e3))] [Aa (Ac e4)]∧br (toB (Ad (decide ((Aj e4.length)>(Aj e1.length))))) ((0≤(Aj e1.length)∧(Aj e1.length)<(Aj e4.length)∧At (nth [] e4 (Ak (Aj e1.length)))=1)∧∃n,cut (nth [] e4 (Ak (Aj e1.length))) 0 1 [Ab .u32 n]∧J18 [Ac e4] [Ab .u64 (Ah .u64 (Ah .u64 n*1000000000))]) (J18 [Ac e4] [Ab .u64 0])∧∀(n:Int),J18 [Ac e4] [Ab .u64 n]→br (toB (Ad (decide ((Aj e4.length)≥(Aj e1.length))))) ((0≤Ah .i64 ((Aj e1.length)-1)∧Ah .i64 ((Aj e1.length)-1)<(Aj e4.length)∧At (nth [] e4 (Ak (Ah .i64 ((Aj e1.length)-1))))=1)∧∃n3,cut (nth [] e4 (Ak (Ah .i64 ((Aj e1.length)-1)))) 0 1 [Ab .u32 n3]∧J20 [Ac e4] [Ab .u64 (Ah .u64 (n+Ah .u64 n3))]) (J20 [Ac e4] [Ab .u64 n])∧∀(n:Int),J20 [Ac e4] [Ab .u64 n]→Ah .u64 n1≠0∧br (toB (Ad (decide (Ah .u64 (Al n (Ah .u64 n1))>999999999)))) (J23 [Ac e4] [Ab .u64 999999999]) (J23 [Ac e4] [Ab .u64 (Ah .u64 (Al n (Ah .u64 n1)))])∧∀(n:Int),J23 [Ac e4] [Ab .u64 n]→∃e5,Gv 337 [Aa (Ac e1),Aa (Ab .u32 (Ah .u32 n))] [Aa (Ac e5)]∧I1 [Ac e4,Ab .i64 n2,Ac es] [Ab .u64 n,Ac e5]∧∀(n:Int) (e6:List (List D)),I1 [Ac e4,Ab .i64 n2,Ac es] [Ab .u64 n,Ac e6]→∃n3,Gv 127 [Aa (Ac e6),Aa (Ac e4)] [Aa (Ab .i64 n3)]∧br (toB (Ad (decide (n3>0)))) (∃e7,Gv 338 [Aa (Ac e6),Aa (Ac e1)] [Aa (Ac e7)]∧I1 [Ac e4,Ab .i64 n2,Ac es] [Ab .u64 (Ah .u64 (n-1)),Ac e7]∧M1 [Ab .u64 (Ah .u64 (n-1)),Ac e7]<M1 [Ab .u64 n,Ac e6]) (∃e7,Gv 338 [Aa (Ac e4),Aa (Ac e6)] [Aa (Ac e7)]∧(0≤n2∧n2<(Aj es.length))∧0<1∧I0 [] [Ac (upd es (Ak n2) (upd (nth [] es (Ak n2)) 0 (Ab .u32 (Ah .u32 n)))),Ac e7,Ab .i64 (Ah .i64 (n2-1))]∧M0 [Ac (upd es (Ak n2) (upd (nth [] es (Ak n2)) 0 (Ab .u32 (Ah .u32 n)))),Ac e7,Ab .i64 (Ah .i64 (n2-1))]<M0 [Ac es,Ac e3,Ab .i64 n2])) ((0≤(Aj e3.length)∧(Aj e3.length)≤(Aj e3.length)∧room (Ak (Aj e3.length)))∧I2 [Ac e3] [Ac (Ar (Ak (Aj e3.length)) [Ab .u32 0]),Ab .u64 0,Ab .i64 (Ah .i64 ((Aj e3.length)-1))]∧∀(e4:List (List D)) (n3 n4:Int),I2 [Ac e3] [Ac e4,Ab .u64 n3,Ab .i64 n4]→br (toB (Ad (decide (n4≥0)))) ((0≤n4∧n4<(Aj e3.length)∧At (nth [] e3 (Ak n4))=1)∧∃n5,cut (nth [] e3 (Ak n4)) 0 1 [Ab .u32 n5]∧Ah .u64 (Ah .u32 (Ah .u64 (Al (1000000000:Int) (Ah .u64 (Ah .u64 n+1)))))≠0∧(0≤n4∧n4<(Aj e4.length))∧0<1∧Ah .u64 (Ah .u32 (Ah .u64 (Al (1000000000:Int) (Ah .u64 (Ah .u64 n+1)))))≠0∧I2 [Ac e3] [Ac (upd e4 (Ak n4) (upd (nth [] e4 (Ak n4)) 0 (Ab .u32 (Ah .u32 (Ah .u64 (Al (Ah .u64 (Ah .u64 (n3*1000000000)+Ah .u64 n5)) (Ah .u64 (Ah .u32 (Ah .u64 (Al (1000000000:Int) (Ah .u64 (Ah .u64 n+1)))))))))))),Ab .u64 (Ao (Ah .u64 (Ah .u64 (n3*1000000000)+Ah .u64 n5)) (Ah .u64 (Ah .u32 (Ah .u64 (Al (1000000000:Int) (Ah .u64 (Ah .u64 n+1))))))),Ab .i64 (Ah .i64 (n4-1))]∧M2 [Ac (upd e4 (Ak n4) (upd (nth [] e4 (Ak n4)) 0 (Ab .u32 (Ah .u32 (Ah .u64 (Al (Ah .u64 (Ah .u64 (n3*1000000000)+Ah .u64 n5)) (Ah .u64 (Ah .u32 (Ah .u64 (Al (1000000000:Int) (Ah .u64 (Ah .u64 n+1)))))))))))),Ab .u64 (Ao (Ah .u64 (Ah .u64 (n3*1000000000)+Ah .u64 n5)) (Ah .u64 (Ah .u32 (Ah .u64 (Al (1000000000:Int) (Ah .u64 (Ah .u64 n+1))))))),Ab .i64 (Ah .i64 (n4-1))]<M2 [Ac e4,Ab .u64 n3,Ab .i64 n4]) (∃e5,Gv 224 [Aa (Ac es)] [Aa (Ac e5)]∧∃es,Gv 224 [Aa (Ac e4)] [Aa (Ac es)]∧Q [Aa (Ac e5),Aa (Ac es)])))):=by kernel_rfl
end
end Eng
end

section
namespace Eng
open Go Go.Proofs
theorem yx:∀(i n:Nat),(lim n).getD i 0=n/1000000000^i%1000000000
 |0,n=>by
  rw[Nat.pow_zero,Nat.div_one];rcases A5 n with h|h
  ·rw[h];rfl
  ·rw[Z4 h];rfl
 |i+1,n=>by
  rcases A5 n with h|h
  ·rw[h,Zu,Nat.zero_div];rfl
  ·rw[Z4 h,A2,A0,←A3];exact yx i (n/1000000000)
theorem Ka {n i:Nat} (h:(lim n).length≤i):n/1000000000^i=0:=by
 apply AE;rcases AI n (1000000000^i)with h2|h2
 ·exact h2
 ·have:=zJ h2;omega
theorem Kb {R n:Nat}:R/1000000000^(n+1)*1000000000+R/1000000000^n%1000000000=R/1000000000^n:=by
 rw[A2,←A3];generalize R/1000000000^n=q;omega
theorem Sy {R V v1 P vl:Nat} (hV:V=v1*P+vl) (hV0:0<v1*P):R/V≤R/P/v1:=by
 rw[A3,A0 P v1];exact Nat.div_le_div_left (by omega) hV0
theorem S0 {R V d:Nat} (hV:0<V) (h:R<V*d):R/V<d:=by
 rw[A1 hV,A0];exact h
theorem S1 {R V d:Nat} (hV:0<V) (h:V*d≤R) (h2:R/V≤d):d=R/V:=by
 have:d≤R/V:=(Nat.le_div_iff_mul_le hV).2 (by rw[A0];exact h);omega
theorem PD {R V:Nat}:R-V*(R/V)=R%V:=by
 have:=AG R V;omega
theorem Td {V Q R c B:Nat}:(((c+B*R)/V)+B*Q)*V+(c+B*R)%V=c+B*(Q*V+R):=by
 have h:=AG (c+B*R) V;generalize (c+B*R)/V=d at *;generalize (c+B*R)%V=e at *;have e1:(d+B*Q)*V+e=(V*d+e)+B*(Q*V):=by rw[Nat.add_mul,A0 d V,AH];omega
 rw[e1,h,AK];omega
theorem VY {V R c B:Nat} (hc:c<B) (hR:R<V):c+B*R<B*V:=by
 have:B*(R+1)≤B*V:=A4 _ hR;rw[AK]at this;omega
theorem k8 {V R c B:Nat} (hc:c<B) (hR:R<V):(c+B*R)/V<B:=by
 rw[A1 (by omega)];exact VY hc hR
theorem MS {u:List Nat} {k:Nat} (h:k<u.length):val (u.drop k)=u[k]+1000000000*val (u.drop (k+1)):=by
 rw[List.drop_eq_getElem_cons h];rfl
theorem W6 {U V q r:Nat} (h:q*V+r=U) (hr:r<V):q=U/V∧r=U%V:=by
 have hV:0<V:=by omega
 subst h;constructor
 ·rw[A0,Nat.mul_add_div hV,AE hr];omega
 ·rw[A0,Nat.mul_add_mod,A6 hr]
theorem VZ {k d:Nat} {q:List Nat}:(Ar (k+1) 0++q).set k d=Ar k 0++d::q:=by
 rw[List.replicate_succ',List.append_assoc,List.set_append];simp
end Eng
end

section
namespace Eng
open Go Go.Proofs
set_option maxRecDepth 100000
theorem vf {a b:Nat} (h:raw (lim a)=raw (lim b)):a=b:=by
 have:=Zv h;rw[←qj a,←qj b,this]
def SW (a b c j4 j18 j20 j23:Ann):Nat→Ann:=WR (WR (WR (WR (Rb a b c) 4 j4) 18 j18) 20 j20) 23 j23
theorem wy {x s:Nat} (hs:s<1000000000):(lim (x*s)).length≤(lim x).length+1:=by
 apply qo;have h:=qG (qc x);rw[qj]at h;rw[A2]
 calc x*s≤x*1000000000:=A4 _ (by omega)
  _<1000000000^(lim x).length*1000000000:=A8 h (by omega)
theorem MT {y:Nat} (hy:y≠0):∃d s:Nat,0<d∧d<1000000000∧(∀h:(lim y).length-1<(lim y).length,(lim y)[(lim y).length-1]=d)∧0<s∧s=1000000000/(d+1)∧s<1000000000:=by
 have hl:0<(lim y).length:=qz.2 (by omega);have a2:(lim y).length-1<(lim y).length:=by omega
 obtain⟨d,hd⟩:∃d,(lim y)[(lim y).length-1]=d:=⟨_,rfl⟩;have a1:d<1000000000:=hd▸(qc y).get a2;have a0:0<d:=by
  rcases A5 d with h0|h0
  ·exfalso;rcases zl y with h|h
   ·rw[h]at hl;simp at hl
   ·apply h;rw[List.getLast?_eq_getElem?,Av a2,hd,h0]
  ·exact h0
 obtain⟨_,hs2,hs3⟩:=X5 a0 a1 (s:=1000000000/(d+1)) rfl;refine⟨d,1000000000/(d+1),a0,a1,fun _=>hd,by omega,rfl,?_⟩;generalize 1000000000/(d+1)=s at *;have:s*2≤s*(d+1):=A4 _ (by omega);omega
theorem S2 {V p:Nat} (hp:(lim V).length=p+1):∃v1:Nat,v1=V/1000000000^p∧0<v1∧v1<1000000000∧(∀h:p<(lim V).length,(lim V)[p]=v1)∧v1*1000000000^p≤V∧V<1000000000^(p+1):=by
 have hB:V<1000000000^(p+1):=by have h:=qG (qc V);rw[qj,hp]at h;exact h
 have hP:1000000000^p≤V:=by
  rcases AI V (1000000000^p)with h|h
  ·have:=qo h;omega
  ·exact h
 have a0:0<1000000000^p:=A7 (by omega);have hv:V/1000000000^p<1000000000:=by rw[A1 a0,A0,←A2];exact hB
 refine⟨V/1000000000^p,rfl,Nat.div_pos hP a0,hv,fun h=>?_,Nat.div_mul_le_self _ _,hB⟩;have h2:=yx p V;rw[A6 hv]at h2;rw[←h2];simp[Ax,h]
theorem PE {T V p:Nat} (h:T<1000000000*V) (hV:V<1000000000^(p+1)):T/1000000000^(p+1)<1000000000∧T/1000000000^p<1000000000000000000:=by
 have h1:T<1000000000*1000000000^(p+1):=Nat.lt_trans h (Nat.mul_lt_mul_of_pos_left hV (by omega));constructor
 ·rw[A1 (A7 (by omega))];exact h1
 ·rw[A1 (A7 (by omega))];rw[A2]at h1
  calc T<1000000000*(1000000000^p*1000000000):=h1
   _=1000000000000000000*1000000000^p:=by rw[A0 (1000000000^p),←AH]
def qr (u:List Nat) (V:Nat) (kk:Nat) (ql:List Nat) (R:Nat):Prop:=
 kk+ql.length=u.length∧Limbs ql∧R<V∧val ql*V+R=val (u.drop kk)
theorem qr.start {u:List Nat} {V:Nat} (hV:0<V):qr u V u.length [] 0:=by
 refine⟨rfl,Limbs.nil,hV,?_⟩;rw[List.drop_length];simp[val]
theorem qr.next {u:List Nat} {V k R c:Nat} {ql:List Nat} (h:qr u V (k+1) ql R) (hc:c<1000000000) (hk:∀h:k<u.length,u[k]=c):qr u V k ((c+1000000000*R)/V::ql) ((c+1000000000*R)%V):=by
 obtain⟨h1,h2,h3,h4⟩:=h;have a0:k<u.length:=by omega
 refine⟨by simp only[Aw];omega,h2.cons (k8 hc h3),AC _ (by omega),?_⟩;rw[MS a0,←h4,hk a0,←Td];rfl
theorem qr.fin {u:List Nat} {V R:Nat} {ql:List Nat} (h:qr u V 0 ql R):val ql=val u/V∧R=val u%V:=by
 obtain⟨h1,h2,h3,h4⟩:=h;rw[List.drop_zero]at h4;exact W6 h4 h3
theorem W7 {x y:Nat} (h1:(lim x).length≤2) (h2:(lim y).length≤2) (hy:y≠0) {Q:List A→Prop} (hQ:Q [.c (.sl (raw (lim (x/y)))),.c (.sl (raw (lim (x%y))))]):
 ∃n,qe CC 275 [Aa (Ac (raw (lim x)))] [Aa (Ab Ai n)]∧
  ∃n_1,qe CC 275 [Aa (Ac (raw (lim y)))] [Aa (Ab Ai n_1)]∧n_1≠(0:Int)∧
   ∃es,qe CC 129 [Aa (Ab Ai (Ah Ai (Al n n_1)))] [Aa (Ac es)]∧
    n_1≠(0:Int)∧∃es_1,qe CC 129 [Aa (Ab Ai (Ao n n_1))] [Aa (Ac es_1)]∧Q [Aa (Ac es),Aa (Ac es_1)]:=by
 have hx:=vc (qc x) h1;have a0:=vc (qc y) h2;rw[qj]at hx a0;have bx:x<1000000000000000000:=by have h:=qG (qc x);rw[qj]at h;exact AD h (A9 (AB (by omega) h1) (by decide))
 have by_:y<1000000000000000000:=by have h:=qG (qc y);rw[qj]at h;exact AD h (A9 (AB (by omega) h2) (by decide))
 have e1:Al (x:Int) (y:Int)=((x/y:Nat):Int):=(An x y).symm;have e2:Ao (x:Int) (y:Int)=((x%y:Nat):Int):=(Aq x y).symm;have l1:x/y≤x:=AF _ _;have l2:x%y<y:=AC _ (by omega);refine⟨_,hx,_,a0,by omega,?_⟩;rw[e1,e2];generalize x/y=q at *;generalize x%y=r at *;rw[x6 (by omega) (by omega)];exact⟨_,k6 (by omega),by omega,_,k6 (by omega),hQ⟩
theorem zz:qp:=by
 intro x y hy hlx hly;by_cases hsmall:(lim x).length≤2∧(lim y).length≤2
 ·refine qf (anns:=SW ⟨[.own 12 173 1,.slot 11 (.slice none 0 0),.slot 14 (.int .i64 0)],[],fun _ _=>True,fun _=>0⟩ ⟨[.slot 16 (.int .u64 0),.slot 17 (.slice none 0 0)],[.slot 11 (.slice none 0 0),.slot 14 (.int .i64 0),.own 12 173 1],fun _ _=>True,fun _=>0⟩ ⟨[.own 19 174 1,.slot 18 (.int .u64 0),.slot 20 (.int .i64 0)],[.slot 11 (.slice none 0 0)],fun _ _=>True,fun _=>0⟩
   ⟨[],[],fun _ _=>False,fun _=>0⟩ ⟨[.slot 15 (.int .u64 0)],[.slot 11 (.slice none 0 0)],fun _ _=>True,fun _=>0⟩ ⟨[.slot 15 (.int .u64 0)],[.slot 11 (.slice none 0 0)],fun _ _=>True,fun _=>0⟩ ⟨[.slot 16 (.int .u64 0)],[.slot 11 (.slice none 0 0)],fun _ _=>True,fun _=>0⟩) mixedT Tryz.func274 ?_
  unfold SW;rw[JZ];simp only[Ap,qh];refine⟨brd (fun _=>brd (fun _=>W7 (Q:=fun rs=>rs=[.c (.sl (raw (lim (x/y)))),.c (.sl (raw (lim (x%y))))]) hsmall.1 hsmall.2 hy rfl) (fun h=>?_)) (fun h=>?_),fun h=>h.elim⟩
  ·exact h (by have:=hsmall.2;omega)
  ·exact h (by have:=hsmall.1;omega)
 ·--the scale
  obtain⟨d,s,hd0,hd1,hdl,ac,hs,ad⟩:=MT hy;have hlyp:0<(lim y).length:=qz.2 (by omega);obtain⟨V,hV⟩:∃V,V=y*s:=⟨_,rfl⟩;obtain⟨U,hU⟩:∃U,U=x*s:=⟨_,rfl⟩;have ab:0<V:=by rw[hV];exact AJ (by omega) ac
  have ap:=Tb (qc y) ad (by omega);have ao:=Tb (qc x) ad (by omega);rw[qj,←hV]at ap;rw[qj,←hU]at ao;have hlV:(lim V).length≤(lim y).length+1:=by rw[hV];exact wy ad
  have hlU:(lim U).length≤(lim x).length+1:=by rw[hU];exact wy ad
  have hlVp:0<(lim V).length:=qz.2 ab;obtain⟨p,hp⟩:∃p,(lim V).length=p+1:=⟨(lim V).length-1,by omega⟩;obtain⟨v1,hv1,hv0,hvB,hvl,hvP,am⟩:=S2 hp;have hwd:Ah .u32 (Ah .u64 (Al 1000000000 (Ah .u64 (Ah .u64 (d:Int)+1))))=(s:Int):=by rw[x6 (n:=(d:Int)) (by omega) (by omega),x6 (n:=(d:Int)+1) (by omega) (by omega)];have:Al (1000000000:Int) ((d:Int)+1)=((1000000000/(d+1):Nat):Int):=(An 1000000000 (d+1)).symm;rw[this,←hs,x6 (by omega) (by omega),zK (by omega) (by omega)]
  have hws:Ah .u64 (s:Int)=(s:Int):=x6 (by omega) (by omega);have hwp:Ah .i64 (((lim V).length:Int)-1)=(p:Int):=by rw[hp,xL (by omega) (by omega)];omega
  have hwv:Ah .u64 (v1:Int)=(v1:Int):=x6 (by omega) (by omega);refine qf (anns:=SW
   ⟨[.own 12 173 1,.slot 11 (.slice none 0 0),.slot 14 (.int .i64 0)],[],fun _ ds=>∃(kk:Nat) (ql:List Nat) (R:Nat),ds=[.sl (raw (Ar kk 0++ql)),.sl (raw (lim R)),.int .i64 ((kk:Int)-1)]∧qr (lim U) V kk ql R,fun ds=>(toI (nth .undef ds 2)+1).toNat⟩
   ⟨[.slot 16 (.int .u64 0),.slot 17 (.slice none 0 0)],[.slot 11 (.slice none 0 0),.slot 14 (.int .i64 0),.own 12 173 1],fun gs ds=>∃(T g:Nat),nth .undef gs 0= .sl (raw (lim T))∧ds=[.int .u64 (g:Int),.sl (raw (lim (V*g)))]∧T/V≤g∧g≤999999999,fun ds=>(toI (nth .undef ds 0)).toNat⟩
   ⟨[.own 19 174 1,.slot 18 (.int .u64 0),.slot 20 (.int .i64 0)],[.slot 11 (.slice none 0 0)],fun gs ds=>∃(R kk:Nat) (ql:List Nat) (t:Nat),gs=[.sl (raw (lim R))]∧ds=[.sl (raw (Ar kk 0++ql)),.int .u64 (t:Int),.int .i64 ((kk:Int)-1)]∧qr (lim R) s kk ql t,fun ds=>(toI (nth .undef ds 2)+1).toNat⟩
   ⟨[],[],fun _ _=>True,fun _=>0⟩
   ⟨[.slot 15 (.int .u64 0)],[.slot 11 (.slice none 0 0)],fun gs ds=>∃T:Nat,gs=[.sl (raw (lim T))]∧ds=[.int .u64 ((T/1000000000^(p+1)*1000000000:Nat):Int)],fun _=>0⟩
   ⟨[.slot 15 (.int .u64 0)],[.slot 11 (.slice none 0 0)],fun gs ds=>∃T:Nat,gs=[.sl (raw (lim T))]∧ds=[.int .u64 ((T/1000000000^p:Nat):Int)],fun _=>0⟩
   ⟨[.slot 16 (.int .u64 0)],[.slot 11 (.slice none 0 0)],fun gs ds=>∃(T g:Nat),gs=[.sl (raw (lim T))]∧ds=[.int .u64 (g:Int)]∧T/V≤g∧g≤999999999,fun _=>0⟩) mixedT Tryz.func274 ?_
  unfold SW;rw[JZ];simp only[Ap,qh];refine⟨brd (fun _=>brd (fun h=>?_) (fun _=>trivial)) (fun _=>trivial),fun _=>?_⟩
  ·exact absurd ⟨by omega,by omega⟩ hsmall
  have hwl:Ah .i64 (((lim y).length:Int)-1)=(((lim y).length-1:Nat):Int):=by rw[xL (by omega) (by omega)];omega
  have hwx:Ah .i64 (((lim x).length:Int)+1)=(((lim x).length+1:Nat):Int):=by rw[xL (by omega) (by omega)];omega
  rw[hwl,hwx,Am,Am];have hdc:cut (nth [] (raw (lim y)) ((lim y).length-1)) 0 1 [.int .u32 (d:Int)]:=by have:=qu (l:=lim y) (i:=(lim y).length-1) (by omega);rw[hdl (by omega)]at this;exact this
  refine⟨⟨by omega,by omega,qt (by omega)⟩,_,hdc,?_⟩;rw[hwd];refine⟨?_,_,ap,?_⟩
  ·rw[x6 (n:=(d:Int)) (by omega) (by omega),x6 (n:=(d:Int)+1) (by omega) (by omega)];omega
  have hvc:cut (nth [] (raw (lim V)) p) 0 1 [.int .u32 (v1:Int)]:=by have:=qu (l:=lim V) (i:=p) (by omega);rw[hvl (by omega)]at this;exact this
  rw[qh,hwp,Am];refine⟨⟨by omega,by omega,qt (by omega)⟩,_,hvc,⟨by omega,by omega,by unfold room;omega⟩,_,ao,?_⟩;rw[hws,hwv];simp only[qh,As,Am];refine⟨⟨by omega,by omega,by omega⟩,⟨(lim U).length,[],0,?_,qr.start ab⟩,?_⟩
  ·rw[List.take_replicate,Nat.min_eq_left hlU,xg,Ay,xL (by omega) (by omega)];rfl
  rintro es es_3 n_2 ⟨kk,ql,R,he,hq⟩;simp only[Az,Af,Ae,true_and,and_true]at he;obtain⟨rfl,rfl,rfl⟩:=he;refine brd (fun h=>?_) (fun h=>?_)
  ·obtain⟨k,rfl⟩:∃k,kk=k+1:=⟨kk-1,by omega⟩;have ai:((k+1:Nat):Int)-1=(k:Int):=by omega
   have a3:k<(lim U).length:=by have:=hq.1;omega
   obtain⟨c,hc⟩:∃c,(lim U)[k]=c:=⟨_,rfl⟩;have a1:c<1000000000:=hc▸(qc U).get a3;have a6:R<V:=hq.2.2.1;obtain⟨T,hT⟩:∃T,T=c+1000000000*R:=⟨_,rfl⟩;have a0:=hq.next a1 (fun _=>hc)
   rw[←hT]at a0;have ak:T<1000000000*V:=hT▸VY a1 a6;have al:T/V<1000000000:=hT▸k8 a1 a6;have hlR:(lim R).length≤(lim V).length:=NI (AA a6);have hlT:(lim T).length≤(lim V).length+1:=by refine A9 (NI (AA ak)) ?_;rw[A0];apply qo;rw[hp,A2];exact A8 am (by omega)
   have aa:qe CC 224 [.c (.sl ([Ab .u32 (c:Int)]::raw (lim R)))] [.c (.sl (raw (lim T)))]:=by have h:=zT (l:=c::lim R) ((qc R).cons a1) (by rw[Aw];omega);rw[show val (c::lim R)=T by show c+1000000000*val (lim R)=T;rw[qj,hT]]at h;exact h
   have a2:cut (nth [] (raw (lim U)) k) 0 1 [.int .u32 (c:Int)]:=by have h:=qu (l:=lim U) (i:=k) a3;rw[hc]at h;exact h
   obtain⟨hH1,hH0⟩:=PE ak am;rw[ai,Am];refine⟨⟨by omega,by omega,qt a3⟩,_,a2,⟨by rw[qh];unfold room;omega,zm _⟩,_,aa,?_⟩;simp only[qh];rw[hp];refine⟨brd (fun h2=>?_) (fun h2=>?_),?_⟩
   ·have a4:p+1<(lim T).length:=by omega
    have a7:=qu (l:=lim T) (i:=p+1) a4;have hg:=yx (p+1) T;rw[A6 hH1,Ax,Av a4,Option.getD_some]at hg;rw[hg]at a7;refine⟨⟨by omega,by omega,qt a4⟩,_,a7,T,rfl,?_⟩;generalize T/1000000000^(p+1)=t at *;rw[x6 (n:=(t:Int)) (by omega) (by omega),x6 (by omega) (by omega)];rfl
   ·have:=Ka (n:=T) (i:=p+1) (by omega);exact⟨T,rfl,by rw[this];rfl⟩
   rintro n ⟨T',h2,h3⟩;simp only[Az,Af,Ae,true_and,and_true]at h2 h3;obtain rfl:=vf h2;subst h3;refine⟨brd (fun h2=>?_) (fun h2=>?_),?_⟩
   ·have a4:p<(lim T).length:=by omega
    have a7:=qu (l:=lim T) (i:=p) a4;have hg:=yx p T;rw[Ax,Av a4,Option.getD_some]at hg;rw[hg]at a7;refine⟨⟨by omega,by omega,qt a4⟩,_,a7,T,rfl,?_⟩;have ae:=Kb (R:=T) (n:=p);have hm:=AC (T/1000000000^p) (show 1000000000>0 by omega);generalize T/1000000000^(p+1)=t at *;generalize T/1000000000^p=t2 at *;generalize t2%1000000000=t3 at *;rw[x6 (n:=(t3:Int)) (by omega) (by omega),x6 (by omega) (by omega),←ae];rfl
   ·have h4:=Ka (n:=T) (i:=p) (by omega);have ae:=Kb (R:=T) (n:=p);rw[h4,Nat.zero_mod,Nat.add_zero]at ae;exact⟨T,rfl,by rw[h4,ae]⟩
   rintro n ⟨T',h2,h3⟩;simp only[Az,Af,Ae,true_and,and_true]at h2 h3;obtain rfl:=vf h2;subst h3;have hup:T/V≤T/1000000000^p/v1:=Sy (vl:=V-v1*1000000000^p) (Nat.add_sub_cancel' hvP).symm (AJ hv0 (A7 (by omega)));have htd:Al ((T/1000000000^p:Nat):Int) (v1:Int)=((T/1000000000^p/v1:Nat):Int):=(An _ _).symm;have hle:T/1000000000^p/v1≤T/1000000000^p:=AF _ _;rw[htd];generalize T/1000000000^p/v1=G at *;generalize T/1000000000^p=H at *;rw[x6 (n:=(G:Int)) (by omega) (by omega)];refine⟨by omega,brd (fun h2=>?_) (fun h2=>?_),?_⟩
   ·exact⟨T,999999999,rfl,rfl,by generalize T/V=q at *;omega,by omega⟩
   ·exact⟨T,G,rfl,rfl,hup,by omega⟩
   rintro n ⟨T',g,h2,h3,aq,hg2⟩;simp only[Az,Af,Ae,true_and,and_true]at h2 h3;obtain rfl:=vf h2;subst h3;have an:=Tb (qc V) (d:=g) (by omega) (by omega);rw[qj]at an;rw[zK (n:=(g:Int)) (by omega) (by omega)];refine⟨_,an,⟨T,g,rfl,rfl,aq,hg2⟩,?_⟩;rintro n es_6 ⟨T',g',h2,h3,a8,hg2'⟩;simp only[nth,Az,Af,Ae,true_and,and_true]at h2 h3;obtain rfl:=vf h2;obtain⟨rfl,rfl⟩:=h3;have hlg:(lim (V*g')).length≤(lim V).length+1:=wy (by omega);refine⟨_,jj (x:=V*g') (y:=T) (by omega) (by omega),brd (fun h2=>?_) (fun h2=>?_)⟩
   ·have hgt:T<V*g':=by
     unfold vg at h2;split at h2
     ·omega
     ·split at h2
      ·assumption
      ·omega
    have af:T/V<g':=S0 ab hgt;have ag:0<g':=Nat.lt_of_le_of_lt (Nat.zero_le _) af;have ah:T/V≤g'-1:=Nat.le_sub_one_of_lt af;clear af aq a8 al;have hm:=ve (qc (V*g')) (qc V) (by omega) (by rw[qj,qj];exact Nat.le_mul_of_pos_right _ ag);rw[qj,qj,show V*g'-V=V*(g'-1)by rw[Nat.mul_sub_one]]at hm;have hw:Ah .u64 ((g':Int)-1)=((g'-1:Nat):Int):=by rw[x6 (by omega) (by omega)];omega
    rw[hw];exact⟨_,hm,⟨T,g'-1,rfl,rfl,ah,by omega⟩,by simp only[nth,toI];omega⟩
   ·have a9:V*g'≤T:=by
     unfold vg at h2;split at h2
     ·omega
     ·split at h2
      ·omega
      ·omega
    have ar:=S1 ab a9 a8;have hm:=ve (qc T) (qc (V*g')) (by omega) (by rw[qj,qj];exact a9);rw[qj,qj,ar,PD]at hm;rw[ar];have a5:Ah .u32 ((T/V:Nat):Int)=((T/V:Nat):Int):=by have h5:=al;generalize T/V=q at h5;exact zK (by omega) (by omega)
    rw[a5,x9 (by rw[Au,As];omega),VZ];have hw:Ah .i64 ((k:Int)-1)=(k:Int)-1:=xL (by omega) (by omega);rw[hw];refine⟨_,hm,⟨by omega,by simp only[Au,As];omega⟩,by omega,⟨k,_,_,rfl,a0⟩,?_⟩;simp only[nth,toI];omega
  ·obtain rfl:kk=0:=by omega
   have aj:=hq.fin;rw[qj]at aj;have e1:U/V=x/y:=by rw[hU,hV];exact Nat.mul_div_mul_right _ _ ac
   have e2:U%V=x%y*s:=by rw[hU,hV];exact Nat.mul_mod_mul_right _ _ _
   rw[e1,e2]at aj;obtain⟨hv,hR⟩:=aj;have a6:R<V:=hq.2.2.1;have hlR:(lim R).length≤(lim V).length:=NI (AA a6);have hlq:ql.length=(lim U).length:=by have:=hq.1;omega
   have hLq:Limbs ql:=hq.2.1;simp only[qh];refine⟨⟨by omega,by omega,by unfold room;omega⟩,⟨R,(lim R).length,[],0,rfl,?_,qr.start ac⟩,?_⟩
   ·rw[Ay,xg,xL (by omega) (by omega)];rfl
   rintro es_4 n_3 n_4 ⟨R',kk,ll,t,h2,h3,hr⟩;simp only[Az,Af,Ae,true_and,and_true]at h2 h3;obtain rfl:=vf h2;obtain⟨rfl,rfl,rfl⟩:=h3;refine brd (fun h4=>?_) (fun h4=>?_)
   ·obtain⟨k,rfl⟩:∃k,kk=k+1:=⟨kk-1,by omega⟩;have ai:((k+1:Nat):Int)-1=(k:Int):=by omega
    have a3:k<(lim R).length:=by have:=hr.1;omega
    obtain⟨c,hc⟩:∃c,(lim R)[k]=c:=⟨_,rfl⟩;have a1:c<1000000000:=hc▸(qc R).get a3;have hts:t<s:=hr.2.2.1;have a0:=hr.next a1 (fun _=>hc)
    have hq:=k8 a1 hts;have a2:cut (nth [] (raw (lim R)) k) 0 1 [.int .u32 (c:Int)]:=by have h:=qu (l:=lim R) (i:=k) a3;rw[hc]at h;exact h
    have hw:Ah .u64 (Ah .u64 ((t:Int)*1000000000)+Ah .u64 (c:Int))=((c+1000000000*t:Nat):Int):=by rw[x6 (n:=(c:Int)) (by omega) (by omega),x6 (n:=(t:Int)*1000000000) (by omega) (by omega),x6 (by omega) (by omega)];omega
    generalize c+1000000000*t=T at *;have hd:=(An T s).symm;have hm:=(Aq T s).symm;rw[ai,Am];refine⟨⟨by omega,by omega,qt a3⟩,_,a2,?_⟩;rw[hw];rw[hd,hm];have a5:Ah .u32 (Ah .u64 ((T/s:Nat):Int))=((T/s:Nat):Int):=by have h5:=hq;generalize T/s=q at h5;rw[x6 (by omega) (by omega)];exact zK (by omega) (by omega)
    rw[a5,x9 (by rw[Au,As];omega),VZ];have hw:Ah .i64 ((k:Int)-1)=(k:Int)-1:=xL (by omega) (by omega);rw[hw];refine⟨by omega,⟨by omega,by simp only[qh,Au,As];omega⟩,by omega,by omega,⟨R,k,_,_,rfl,rfl,a0⟩,?_⟩;simp only[nth,toI];omega
   ·obtain rfl:kk=0:=by omega
    have au:=hr.fin;rw[qj,hR,Nat.mul_div_cancel _ ac]at au;have ho:=zT hLq (by omega);rw[hv]at ho;have hl:=zT hr.2.1 (by have:=hr.1;omega);rw[au.1]at hl;exact⟨_,ho,_,hl,rfl⟩
end Eng
end
