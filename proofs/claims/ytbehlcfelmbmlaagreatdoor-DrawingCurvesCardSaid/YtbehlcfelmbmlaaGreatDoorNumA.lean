/- Numbers as limbs of the base 10^9, and small lemmas for verification conditions. No program is named here. -/
import Derived.Test.YtbehlcfelmbmlaaGreatDoorEngE
open Go.IntKind renaming wrap→Aa, signed→Ab, bits→Ac
open List renaming length_cons→Ad, eq_nil_of_length_eq_zero→Ae, replicate→Af, mem_of_mem_tail→Ah, length_tail→Ai, tail_cons→Aj, map_cons→Ak
open Nat renaming mul_le_mul_right→Al, mul_assoc→Am, mul_comm→An, pow_succ→Ao, mul_add→Ap, lt_of_not_le→Aq, add_mul→Ar, lt_or_ge→As, pow_le_pow_right→At, one_mul→Au, mul_le_mul_left→Av, mod_lt→Aw, mul_le_mul→Ax, le_refl→Ay
section
namespace Eng
open Go
def raw (l:List Nat):List (List D):=l.map fun(x:Nat)=>[.int .u32 (x:Int)]
def Limbs (l:List Nat):Prop:=∀x∈l,x<1000000000
def val:List Nat→Nat
 |[]=>0
 |x::r=>x+1000000000*val r
def pad:Nat→Nat→List Nat
 |0,_=>[]
 |k+1,n=>n%1000000000::pad k (n/1000000000)
def T0:Nat→Nat→List Nat
 |0,_=>[]
 |f+1,n=>match n with
  |0=>[]
  |m+1=>(m+1)%1000000000::T0 f ((m+1)/1000000000)
def lim (n:Nat):List Nat:=T0 n n
theorem Limbs.nil:Limbs []:=fun _ h=>by simp at h
theorem Limbs.cons {x:Nat} {l:List Nat} (hx:x<1000000000) (h:Limbs l):Limbs (x::l):=fun y hy=>by
 rcases List.mem_cons.1 hy with rfl|hy
 ·exact hx
 ·exact h y hy
theorem Limbs.of_cons {x:Nat} {l:List Nat} (h:Limbs (x::l)):x<1000000000∧Limbs l:=⟨h x (by simp),fun y hy=>h y (by simp[hy])⟩
theorem Limbs.append {a b:List Nat} (ha:Limbs a) (hb:Limbs b):Limbs (a++b):=fun y hy=>by
 rcases List.mem_append.1 hy with hy|hy
 ·exact ha y hy
 ·exact hb y hy
theorem Limbs.take {l:List Nat} (h:Limbs l) (k:Nat):Limbs (l.take k):=fun y hy=>h y (List.mem_of_mem_take hy)
theorem Limbs.drop {l:List Nat} (h:Limbs l) (k:Nat):Limbs (l.drop k):=fun y hy=>h y (List.mem_of_mem_drop hy)
theorem Limbs.get {l:List Nat} (h:Limbs l) {i:Nat} (hi:i<l.length):l[i]<1000000000:=h _ (List.getElem_mem hi)
theorem qL (a b:List Nat):val (a++b)=val a+1000000000^a.length*val b:=by
 induction a with
 |nil=>simp[val]
 |cons x a ih=>simp only[List.cons_append,val,ih,Ad,Ao];rw[Ap,Nat.add_assoc,←Am,An (1000000000^a.length) 1000000000]
theorem qG {l:List Nat} (h:Limbs l):val l<1000000000^l.length:=by
 induction l with
 |nil=>simp[val]
 |cons x l ih=>obtain⟨h1,h2⟩:=h.of_cons;have:=ih h2;simp only[val,Ad,Ao];omega
theorem xh:∀(k n:Nat),(pad k n).length=k
 |0,_=>rfl
 |k+1,n=>by simp[pad,xh k]
theorem xA:∀(k n:Nat),Limbs (pad k n)
 |0,_=>Limbs.nil
 |k+1,n=>Limbs.cons (Aw _ (by omega)) (xA k _)
theorem ji:∀(k n:Nat),val (pad k n)=n%1000000000^k
 |0,n=>by simp[pad,val,Nat.mod_one]
 |k+1,n=>by simp only[pad,val,ji k];rw[Nat.pow_succ',Nat.mod_mul]
theorem jW {l:List Nat} (h:Limbs l):pad l.length (val l)=l:=by
 induction l with
 |nil=>rfl
 |cons x l ih=>
  obtain⟨h1,h2⟩:=h.of_cons;simp only[Ad,pad,val];have e1:(x+1000000000*val l)%1000000000=x:=by omega
  have e2:(x+1000000000*val l)/1000000000=val l:=by omega
  rw[e1,e2,ih h2]
theorem Ww {a b:List Nat} (ha:Limbs a) (hb:Limbs b) (hl:a.length=b.length) (hv:val a=val b):a=b:=by
 rw[←jW ha,←jW hb,hl,hv]
theorem X4:∀(f n:Nat),Limbs (T0 f n)
 |0,_=>Limbs.nil
 |f+1,0=>Limbs.nil
 |f+1,m+1=>Limbs.cons (Aw _ (by omega)) (X4 f _)
theorem yw:∀(f n:Nat),n≤f→val (T0 f n)=n
 |0,n,h=>by simp[T0,val];omega
 |f+1,0,_=>rfl
 |f+1,m+1,h=>by simp only[T0,val];rw[yw f _ (by omega)];omega
theorem qc (n:Nat):Limbs (lim n):=X4 n n
theorem qj (n:Nat):val (lim n)=n:=yw n n (Ay n)
theorem JU:∀(f n:Nat),n≤f→T0 f n=[]∨(T0 f n).getLast?≠some 0
 |0,_,_=> .inl rfl
 |f+1,0,_=> .inl rfl
 |f+1,m+1,h=>by
  refine .inr ?_;simp only[T0];rcases JU f ((m+1)/1000000000) (by omega)with h1|h1
  ·have:=yw f ((m+1)/1000000000) (by omega);rw[h1]at this ⊢;simp only[val]at this;simp only[List.getLast?_singleton,ne_eq,Option.some.injEq];omega
  ·rw[List.getLast?_cons];cases hh:(T0 f ((m+1)/1000000000)).getLast? with
   |none=>rw[List.getLast?_eq_none_iff]at hh;rw[hh]at h1;have:=yw f ((m+1)/1000000000) (by omega);rw[hh]at this;simp only[val]at this;simp only[Option.getD_none,ne_eq,Option.some.injEq];omega
   |some x=>
    rw[hh]at h1
    simpa using h1
theorem zl (n:Nat):lim n=[]∨(lim n).getLast?≠some 0:=JU n n (Ay n)
theorem ya {a b:List Nat} (ha:Limbs a) (hb:b.getLast?≠some 0) (hbn:b≠[]) (h:a.length<b.length):val a<val b:=by
 have h1:=qG ha;have h2:1000000000^(b.length-1)≤val b:=by
  have hd:=List.dropLast_concat_getLast hbn;have hz:b.getLast hbn≠0:=by intro e;apply hb;rw[List.getLast?_eq_some_getLast hbn,e]
  rw[←hd,qL];simp only[List.length_append,List.length_dropLast,List.length_singleton,val];have h0:0<b.getLast hbn:=Nat.pos_of_ne_zero hz;have e1:b.length-1+1-1=b.length-1:=by omega
  rw[e1];have:1000000000^(b.length-1)*1≤1000000000^(b.length-1)*(b.getLast hbn+1000000000*0):=Av _ (by omega);omega
 have h3:1000000000^a.length≤1000000000^(b.length-1):=At (by omega) (by omega);omega
theorem jX {l:List Nat} (hl:Limbs l) (hz:l=[]∨l.getLast?≠some 0):lim (val l)=l:=by
 have h1:=qc (val l);have h2:=qj (val l);have h3:=zl (val l);have a1:(lim (val l)).length=l.length:=by
  rcases Nat.lt_trichotomy (lim (val l)).length l.length with h|h|h
  ·exfalso;have a0:l≠[]:=by intro e;subst e;simp at h
   have:=ya h1 (hz.resolve_left a0) a0 h;omega
  ·exact h
  ·exfalso;have a0:lim (val l)≠[]:=by intro e;rw[e]at h;simp at h
   have:=ya hl (h3.resolve_left a0) a0 h;omega
 exact Ww h1 hl a1 h2
theorem qo {n k:Nat} (h:n<1000000000^k):(lim n).length≤k:=by
 rcases As k (lim n).length with hk|hk
 ·exfalso;have a0:lim n≠[]:=by intro e;rw[e]at hk;simp at hk
  have:=ya (xA k n) ((zl n).resolve_left a0) a0 (by rw[xh];exact hk);rw[ji,qj,Nat.mod_eq_of_lt h]at this;omega
 ·exact hk
theorem zJ {n k:Nat} (h:1000000000^k≤n):k<(lim n).length:=by
 rcases As k (lim n).length with hk|hk
 ·exact hk
 ·have:=qG (qc n);rw[qj]at this;have:1000000000^(lim n).length≤1000000000^k:=At (by omega) hk;omega
theorem Zu:lim 0=[]:=rfl
theorem jY {n:Nat}:lim n=[]↔n=0:=by
 constructor
 ·intro h;have:=qj n;rw[h]at this;exact this.symm
 ·rintro rfl;rfl
theorem qz {n:Nat}:0<(lim n).length↔0<n:=by
 rw[List.length_pos_iff,ne_eq,jY];omega
theorem qh (l:List Nat):(raw l).length=l.length:=by simp[raw]
theorem qT (a b:List Nat):raw (a++b)=raw a++raw b:=by simp[raw]
theorem zR (l:List Nat) (k:Nat):(raw l).take k=raw (l.take k):=by simp[raw,List.map_take]
theorem wW (l:List Nat) (k:Nat):(raw l).drop k=raw (l.drop k):=by simp[raw,List.map_drop]
theorem Wx {l:List Nat} {i:Nat} (h:i<l.length):nth [] (raw l) i=[.int .u32 ((l[i]:Nat))]:=by
 rw[qI];simp[raw,h]
theorem qt {l:List Nat} {i:Nat} (h:i<l.length):(nth [] (raw l) i).length=1:=by rw[Wx h];rfl
theorem qu {l:List Nat} {i:Nat} (h:i<l.length):cut (nth [] (raw l) i) 0 1 [.int .u32 ((l[i]:Nat))]:=by
 rw[Wx h];exact⟨rfl,by simp⟩
theorem zm (l:List Nat):lens 1 (raw l):=by
 intro e he;simp only[raw,List.mem_map]at he;obtain⟨x,_,rfl⟩:=he;rfl
theorem Pq (l:List Nat) (i x:Nat):upd (raw l) i [.int .u32 (x:Int)]=raw (l.set i x):=by
 rw[xv];simp[raw]
theorem VP:∀(l:List Nat),kx (raw l)=true
 |[]=>rfl
 |x::l=>by have:=VP l;simp only[raw,Ak,kx]at this ⊢;rw[this];rfl
theorem xg (n:Nat):Af n [D.int .u32 (0:Int)]=raw (Af n 0):=by simp[raw]
theorem jZ (n:Nat):val (Af n 0)=0:=by
 induction n with
 |zero=>rfl
 |succ n ih=>simp[List.replicate_succ,val,ih]
theorem Zv {a b:List Nat} (h:raw a=raw b):a=b:=by
 induction a generalizing b with
 |nil=>cases b with
  |nil=>rfl
  |cons y b=>simp[raw]at h
 |cons x a ih=>cases b with
  |nil=>simp[raw]at h
  |cons y b=>simp only[raw,Ak,List.cons.injEq,D.int.injEq,true_and,and_true]at h;rw[ih h.2,Int.ofNat.inj h.1]
theorem brd {c:Prop} [Decidable c] {X Y:Prop} (h1:c→X) (h2:¬c→Y):br (toB (D.bool (decide c))) X Y:=by
 by_cases h:c
 ·have:decide c=true:=decide_eq_true h;rw[this];exact h1 h
 ·have:decide c=false:=decide_eq_false h;rw[this];exact h2 h
theorem brb {b:Bool} {X Y:Prop} (h1:b=true→X) (h2:b=false→Y):br (toB (D.bool b)) X Y:=by
 cases b
 ·exact h2 rfl
 ·exact h1 rfl
theorem jC {b:Bool} {X Y:Prop} (h1:b=true→X) (h2:b=false→Y):br b X Y:=by
 cases b
 ·exact h2 rfl
 ·exact h1 rfl
theorem xL {n:Int} (h1: -9223372036854775808≤n) (h2:n<9223372036854775808):Aa .i64 n=n:=by
 simp[Aa,Ac,Ab];omega
theorem x6 {n:Int} (h1:0≤n) (h2:n<18446744073709551616):Aa .u64 n=n:=by
 simp[Aa,Ac,Ab];omega
theorem zK {n:Int} (h1:0≤n) (h2:n<4294967296):Aa .u32 n=n:=by
 simp[Aa,Ac,Ab];omega
end Eng
end

section
namespace Eng
open Go
def kf (l:List Nat):List Int:=l.map fun(x:Nat)=>(x:Int)
theorem xR (x:Nat) (l:List Nat):kf (x::l)=(x:Int)::kf l:=rfl
theorem NG (t:Nat):Int.tmod (t:Int) 1000000000=((t%1000000000:Nat):Int):=by rw[Int.tmod_eq_emod_of_nonneg (by omega)];omega
theorem NH (t:Nat):Int.tdiv (t:Int) 1000000000=((t/1000000000:Nat):Int):=by rw[Int.tdiv_eq_ediv_of_nonneg (by omega)];omega
theorem M9 {by_ c:Nat} (hby:by_≤1000000000) (hc:c≤1000000000) {vs:List Nat} (hv:Limbs vs):∃t:Nat,SL (by_:Int) (c:Int) (kf vs)=(t:Int)∧t≤1000000000000000000∧t+by_*(1000000000*val vs.tail)=c+by_*val vs:=by
 cases vs with
 |nil=>exact⟨c,rfl,by omega,by simp[val]⟩
 |cons y vs=>
  obtain⟨h1,h2⟩:=hv.of_cons;have hp:y*by_≤999999999*1000000000:=Ax (by omega) hby;obtain⟨p,a0⟩:∃p,p=y*by_:=⟨_,rfl⟩;rw[←a0]at hp;have hpi:(y:Int)*(by_:Int)=(p:Int):=by rw[a0];exact(Int.natCast_mul _ _).symm
  refine⟨c+p,?_,by omega,?_⟩
  ·simp only[SL,xR];rw[x6 (n:=(y:Int)) (by omega) (by omega),hpi,x6 (n:=(p:Int)) (by omega) (by omega),x6 (by omega) (by omega)];omega
  ·simp only[Aj,val,Ap];rw[a0,An y by_];omega
theorem Zw {by_:Nat} (hby:by_≤1000000000):∀{us vs:List Nat} {c b:Nat},Limbs us→Limbs vs→vs.length≤us.length→c≤1000000000→b≤1→
 ∃(r:List Nat) (c' b':Nat),jw (by_:Int) (kf us) (kf vs) (c:Int) (b:Int)=(kf r,(c':Int),(b':Int))∧Limbs r∧r.length=us.length∧c'≤1000000000∧b'≤1∧val us+1000000000^us.length*(c'+b')=val r+by_*val vs+c+b
 |[],vs,c,b,_,_,hl,hc,hb=>by have:vs=[]:=Ae (by simpa using hl);subst this;exact⟨[],c,b,rfl,Limbs.nil,rfl,hc,hb,by simp[val]⟩
 |x::us,vs,c,b,hu,hv,hl,hc,hb=>by
  obtain⟨hx,hu⟩:=hu.of_cons;obtain⟨t,ht,htb,hte⟩:=M9 hby hc hv;have hvt:Limbs vs.tail:=fun y hy=>hv y (Ah hy)
  have hlt:vs.tail.length≤us.length:=by rw[Ai];simp at hl;omega
  have a0:(kf vs).tail=kf vs.tail:=by cases vs<;>rfl
  have hdm:=Nat.div_add_mod t 1000000000;have hml:=Aw t (show 0<1000000000 by omega);obtain⟨q,hq⟩:∃q,q=t/1000000000:=⟨_,rfl⟩;obtain⟨m,hm⟩:∃m,m=t%1000000000:=⟨_,rfl⟩;have a1:by_*(1000000000*val vs.tail)=1000000000*(by_*val vs.tail):=by rw[Nat.mul_left_comm]
  by_cases hlt2:x<m+b
  ·obtain⟨r,c',b',h1,h2,h3,h4,h5,h6⟩:=Zw hby (us:=us) (vs:=vs.tail) (c:=q) (b:=1) hu hvt hlt (by omega) (by omega);refine⟨(x+1000000000-(m+b))::r,c',b',?_,Limbs.cons (by omega) h2,by simp[h3],h4,h5,?_⟩
   ·rw[xR,xR];simp only[jw];rw[ht,NG,NH,←hq,←hm,x6 (n:=(x:Int)) (by omega) (by omega),x6 (n:=(m:Int)+(b:Int)) (by omega) (by omega),x6 (n:=(q:Int)) (by omega) (by omega)];rw[decide_eq_true (show(x:Int)<(m:Int)+(b:Int)by omega)];simp only;rw[a0];have a2:jw (by_:Int) (kf us) (kf vs.tail) (q:Int) 1=(kf r,(c':Int),(b':Int)):=h1;rw[a2,x6 (n:=(x:Int)+1000000000) (by omega) (by omega),x6 (by omega) (by omega),zK (by omega) (by omega)];congr 2;omega
   ·simp only[Ad,val];rw[Ao,An (1000000000^us.length) 1000000000,Am];rw[a1]at hte;omega
  ·obtain⟨r,c',b',h1,h2,h3,h4,h5,h6⟩:=Zw hby (us:=us) (vs:=vs.tail) (c:=q) (b:=0) hu hvt hlt (by omega) (by omega);refine⟨(x-(m+b))::r,c',b',?_,Limbs.cons (by omega) h2,by simp[h3],h4,h5,?_⟩
   ·rw[xR,xR];simp only[jw];rw[ht,NG,NH,←hq,←hm,x6 (n:=(x:Int)) (by omega) (by omega),x6 (n:=(m:Int)+(b:Int)) (by omega) (by omega),x6 (n:=(q:Int)) (by omega) (by omega)];rw[decide_eq_false (show ¬(x:Int)<(m:Int)+(b:Int)by omega)];simp only;rw[a0];have a2:jw (by_:Int) (kf us) (kf vs.tail) (q:Int) 0=(kf r,(c':Int),(b':Int)):=h1;rw[a2,x6 (by omega) (by omega),zK (by omega) (by omega)];congr 2;omega
   ·simp only[Ad,val];rw[Ao,An (1000000000^us.length) 1000000000,Am];rw[a1]at hte;omega
theorem Zx:∀{us vs:List Nat} {c:Nat},Limbs us→Limbs vs→vs.length≤us.length→c≤1→
 ∃(r:List Nat) (c':Nat),QG (kf us) (kf vs) (c:Int)=kf r∧Limbs r∧r.length=us.length∧c'≤1∧val us+val vs+c=val r+1000000000^us.length*c'
 |[],vs,c,_,_,hl,hc=>by have:vs=[]:=Ae (by simpa using hl);subst this;exact⟨[],c,rfl,Limbs.nil,rfl,hc,by simp[val]⟩
 |x::us,vs,c,hu,hv,hl,hc=>by
  obtain⟨hx,hu⟩:=hu.of_cons;have hvt:Limbs vs.tail:=fun y hy=>hv y (Ah hy)
  have hlt:vs.tail.length≤us.length:=by rw[Ai];simp at hl;omega
  have a0:(kf vs).tail=kf vs.tail:=by cases vs<;>rfl
  obtain⟨t,ht,htb,hte⟩:∃t:Nat,OB (x:Int) (c:Int) (kf vs)=(t:Int)∧t≤1999999999∧t+1000000000*val vs.tail=x+c+val vs:=by
   cases vs with
   |nil=>refine⟨x+c,?_,by omega,by simp[val]⟩;simp only[OB,kf,List.map_nil];rw[zK (by omega) (by omega)];omega
   |cons y vs=>obtain⟨h1,h2⟩:=hv.of_cons;refine⟨x+c+y,?_,by omega,by simp only[Aj,val];omega⟩;simp only[OB,xR];rw[zK (n:=(x:Int)+(c:Int)) (by omega) (by omega),zK (by omega) (by omega)];omega
  by_cases h:1000000000≤t
  ·obtain⟨r,c',h1,h2,h3,h4,h5⟩:=Zx (us:=us) (vs:=vs.tail) (c:=1) hu hvt hlt (by omega);refine⟨(t-1000000000)::r,c',?_,Limbs.cons (by omega) h2,by simp[h3],h4,?_⟩
   ·rw[xR,xR];simp only[QG];rw[ht,decide_eq_true (show(1000000000:Int)≤(t:Int)by omega)];simp only;rw[a0];have a1:QG (kf us) (kf vs.tail) 1=kf r:=h1;rw[a1,zK (by omega) (by omega)];congr 1;omega
   ·simp only[Ad,val];rw[Ao,An (1000000000^us.length) 1000000000,Am];omega
  ·obtain⟨r,c',h1,h2,h3,h4,h5⟩:=Zx (us:=us) (vs:=vs.tail) (c:=0) hu hvt hlt (by omega);refine⟨t::r,c',?_,Limbs.cons (by omega) h2,by simp[h3],h4,?_⟩
   ·rw[xR,xR];simp only[QG];rw[ht,decide_eq_false (show ¬(1000000000:Int)≤(t:Int)by omega)];simp only;rw[a0];have a1:QG (kf us) (kf vs.tail) 0=kf r:=h1;rw[a1]
   ·simp only[Ad,val];rw[Ao,An (1000000000^us.length) 1000000000,Am];omega
end Eng
end

section
namespace Eng
open Go
theorem MA {P V1 vl V U3 ul U g:Nat} (hV:V=V1*P+vl) (hU:U=U3*P+ul) (hvl:vl<P) (hg:g*V1≤U3) (hgB:g≤1000000000) (hBV:1000000000*P≤V):g*V≤U+V:=by
 have h1:g*V1*P≤U3*P:=Al P hg;have h2:g*vl≤1000000000*P:=Ax hgB (by omega);have h3:g*V=g*V1*P+g*vl:=by rw[hV,Ap,Am]
 omega
theorem MB {P V1 vl V U3 ul U g:Nat} (hV:V=V1*P+vl) (hU:U=U3*P+ul) (hul:ul<P) (hg:U3<g*V1):U<g*V:=by
 have h1:(U3+1)*P≤g*V1*P:=Al P hg;have h3:g*V=g*V1*P+g*vl:=by rw[hV,Ap,Am]
 rw[Ar,Au]at h1;omega
theorem US {U V g qd L r s:Nat} (hq1:qd*V≤U) (hgq:qd≤g) (_hUL:U<L) (_hrL:r<L) (he:U+L*s=r+g*V) (hs:s=0) (hlt:U<(qd+1)*V):g=qd∧r=U-qd*V:=by
 subst hs;have h1:¬qd+1≤g:=fun h=>by have:=Al V h;omega
 have:g=qd:=by omega
 subst this;omega
theorem UT {U V g qd L r s r' c:Nat} (hq1:qd*V≤U) (hg:g*V≤U+V) (_hUL:U<L) (hrL:r<L) (hVL:V≤L) (he:U+L*s=r+g*V) (hs:s≠0) (hr':r'<L) (hc:c≤1) (he2:r+V=r'+L*c) (hlt:U<(qd+1)*V) (hgq:qd≤g):g=qd+1∧r'=U-qd*V:=by
 have hL:L≤L*s:=Nat.le_mul_of_pos_right L (by omega);have h1:qd+1≤g:=by apply Aq;intro h;have:=Al V h;omega
 have h2:g≤qd+1:=by
  apply Nat.le_of_lt_succ;apply Aq;intro h;have h3:(qd+2)*V≤g*V:=Al V h;have h4:(qd+2)*V=(qd+1)*V+V:=by rw[show qd+2=(qd+1)+1 from rfl,Ar,Au]
  omega
 have:g=qd+1:=by omega
 subst this;refine⟨rfl,?_⟩;have h5:(qd+1)*V=qd*V+V:=by rw[Ar,Au]
 have hs1:s=1:=by
  have:s<2:=by apply Aq;intro h;have:=Av L h;omega
  omega
 subst hs1;have hc1:c=1:=by
  rcases As c 1 with h|h
  ·have:c=0:=by omega
   subst this;omega
  ·omega
 subst hc1;omega
theorem X5 {b s:Nat} (hb:0<b) (hb2:b<1000000000) (hs:s=1000000000/(b+1)):500000000≤b*s∧1≤s∧s*(b+1)≤1000000000:=by
 have h1:=Nat.div_mul_le_self 1000000000 (b+1);have h2:=Nat.lt_div_mul_add (a:=1000000000) (b:=b+1) (by omega);rw[←hs]at h1 h2;have h3:1≤s:=by
  apply Aq;intro h;have:s=0:=by omega
  subst this;omega
 obtain⟨b',rfl⟩:∃b',b=b'+1:=⟨b-1,by omega⟩;obtain⟨s',rfl⟩:∃s',s=s'+1:=⟨s-1,by omega⟩;have h4:(b'+1)*(s'+1)=b'*s'+b'+s'+1:=by rw[Ar,Ap];omega
 have h5:(s'+1)*(b'+1+1)=b'*s'+b'+s'+1+(s'+1):=by rw[Ap,An (s'+1) (b'+1),h4];omega
 omega
end Eng
end
