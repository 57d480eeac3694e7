/- The verification conditions of functions, printed by a program (vcgen.py) and checked by the kernel. -/
import Derived.Test.YtlgnobmngljmaaaGreatDoorPaA
import Derived.KernelRfl
section
open Go Go.Proofs Eng
set_option maxRecDepth 1000000
namespace Eng
theorem vc_DivMod (Gv:Nat→List A→List A→Prop) (p q:Bool) (es fs:List (List D)) (Q:List A→Prop):wpF CC Gv an0 Tryz.f301 [.ag [.bool p,.sl es],.ag [.bool q,.sl fs]] Q=(bB ((Int.ofNat fs.length)==0) (Q [aZ false [],aZ false [],aI (6:Int)]) (∃e1 e2,Gv 300 [aL es,aL fs] [aL e1,aL e2]∧∃b es,Gv 92 [A.c (D.bool !p==q),aL e1] [aZ b es]∧∃b1 e3,Gv 92 [aB p,aL e2] [aZ b1 e3]∧bB (decide ((Int.ofNat e3.length)>0)) (bB (!b1==q) (∃b2 e4,Gv 48 [aI (1:Int)] [aZ b2 e4]∧∃b3 e5,Gv 376 [aZ b es,aZ b2 e4] [aZ b3 e5]∧∃b es,Gv 377 [aZ b1 e3,aZ q fs] [aZ b es]∧Q [aZ b3 e5,aZ b es,aI (0:Int)]) (Q [aZ b es,aZ b1 e3,aI (0:Int)])) (Q [aZ b es,aZ b1 e3,aI (0:Int)]))):=by kernel_rfl
theorem vc_GCD (Gv:Nat→List A→List A→Prop) (I0:List D→List D→Prop) (M0:List D→Nat) (I1:List D→List D→Prop) (M1:List D→Nat) (p q:Bool) (es fs:List (List D)) (Q:List A→Prop):wpF CC Gv (ann2 ⟨[.box 5 [.bool false,.slice none 0 0],.box 6 [.bool false,.slice none 0 0]],[],I0,M0⟩ ⟨[.slot 7 (.int .u64 0),.slot 9 (.int .u64 0)],[],I1,M1⟩) Tryz.f223 [.ag [.bool p,.sl es],.ag [.bool q,.sl fs]] Q=(∃b e1,Gv 92 [aB false,aL es] [aZ b e1]∧∃b1 es,Gv 92 [aB false,aL fs] [aZ b1 es]∧I0 [] [D.bool b,D.sl e1,D.bool b1,D.sl es]∧∀(b:Bool) (es:List (List D)) (b2:Bool) (e2:List (List D)),I0 [] [D.bool b,D.sl es,D.bool b2,D.sl e2]→bB (decide ((Int.ofNat e2.length)>0)) (∃n b3,Gv 299 [aZ b es] [A.c (D.int .u64 n),aB b3]∧∃n1 b4,Gv 299 [aZ b2 e2] [A.c (D.int .u64 n1),aB b4]∧br b3 (br b4 (I1 [] [D.int .u64 n,D.int .u64 n1]∧∀(n n2:Int),I1 [] [D.int .u64 n,D.int .u64 n2]→bB (decide (n2>0)) (n2≠0∧I1 [] [D.int .u64 n2,D.int .u64 (Int.tmod n n2)]∧M1 [D.int .u64 n2,D.int .u64 (Int.tmod n n2)]<M1 [D.int .u64 n,D.int .u64 n2]) (∃es,Gv 93 [A.c (D.int .u64 n)] [aL es]∧∃b e3,Gv 92 [aB false,aL es] [aZ b e3]∧Q [aZ b e3])) (∃e3 e4,Gv 300 [aL es,aL e2] [aL e3,aL e4]∧∃b5 e5,Gv 92 [aB false,aL e4] [aZ b5 e5]∧I0 [] [D.bool b2,D.sl e2,D.bool b5,D.sl e5]∧M0 [D.bool b2,D.sl e2,D.bool b5,D.sl e5]<M0 [D.bool b,D.sl es,D.bool b2,D.sl e2])) (∃e3 e4,Gv 300 [aL es,aL e2] [aL e3,aL e4]∧∃b5 e5,Gv 92 [aB false,aL e4] [aZ b5 e5]∧I0 [] [D.bool b2,D.sl e2,D.bool b5,D.sl e5]∧M0 [D.bool b2,D.sl e2,D.bool b5,D.sl e5]<M0 [D.bool b,D.sl es,D.bool b2,D.sl e2])) ((room es.length∧lens 1 es)∧∃b e3,Gv 92 [aB false,aL es] [aZ b e3]∧Q [aZ b e3])):=by kernel_rfl
end Eng
end

section
namespace Eng
open Go Go.Proofs
set_option maxRecDepth 100000
variable [Env]
theorem up {f:Nat} {al rs:List A} (h:Gives C0 f al rs):Gives CC f al rs:=gives_cx rfl rfl h
def DivOk:Prop:=∀(a b:List Nat),Limbs a→Limbs b→val b≠0→a.length≤100000→b.length≤100000→
 ∃q r,Gives CC 300 [.c (.sl (raw a)),.c (.sl (raw b))] [.c (.sl (raw q)),.c (.sl (raw r))]∧Limbs q∧Limbs r∧val q=val a/val b∧val r=val a%val b∧q.length≤1073741824∧r.length≤1073741824
omit [Env] in
theorem smN {n:Nat}:Sm (n:Int)↔n<topN:=by unfold Sm;rw[Int.natAbs_natCast]
theorem iGCD_ok (hd:DivOk) {x y:Int} (hx:Sm x) (hy:Sm y):Gives CC 223 [encI x,encI y] [encI (Nat.gcd x.natAbs y.natAbs:Nat)]:=by
 generalize hG:Nat.gcd x.natAbs y.natAbs=G;refine wpF_ok (anns:=ann2
  ⟨[.box 5 [.bool false,.slice none 0 0],.box 6 [.bool false,.slice none 0 0]],[],fun _ ds=>∃m n:Nat,ds=cI (m:Int)++cI (n:Int)∧Nat.gcd m n=G∧m<topN∧n<topN,fun ds=>valD (toL (nth .undef ds 3))⟩
  ⟨[.slot 7 (.int .u64 0),.slot 9 (.int .u64 0)],[],fun _ ds=>∃u v:Nat,ds=[.int .u64 (u:Int),.int .u64 (v:Int)]∧Nat.gcd u v=G∧u<1000000000000000000∧v<1000000000000000000,fun ds=>(toI (nth .undef ds 1)).toNat⟩) mixedT Tryz.func223 ?_
 have lx:=hx.len;have ly:=hy.len;rw[show encI x= .ag (cI x)from rfl,show encI y= .ag (cI y)from rfl];have vx:=signed_enc false (lim_limbs x.natAbs) (by omega) (z:=(x.natAbs:Int)) (by simp[lim_val]);have vy:=signed_enc false (lim_limbs y.natAbs) (by omega) (z:=(y.natAbs:Int)) (by simp[lim_val]);rw[cI,cI,vc_GCD];simp only[Int.ofNat_eq_natCast];refine⟨_,_,up vx,_,_,up vy,⟨x.natAbs,y.natAbs,rfl,hG,hx,hy⟩,?_⟩;rintro bx es by_ fs ⟨m,n,he,hg,hm,hn⟩;simp only[cI,List.cons_append,List.nil_append,List.cons.injEq,D.bool.injEq,D.sl.injEq,and_true,Int.natAbs_natCast]at he;obtain⟨rfl,rfl,rfl,rfl⟩:=he;have lm:=(smN.2 hm).len;have ln:=(smN.2 hn).len;rw[Int.natAbs_natCast]at lm ln;have em:encI (m:Int)=A.ag [D.bool (decide ((m:Int)<0)),D.sl (raw (lim m))]:=by unfold encI cI;rw[Int.natAbs_natCast]
 have en:encI (n:Int)=A.ag [D.bool (decide ((n:Int)<0)),D.sl (raw (lim n))]:=by unfold encI cI;rw[Int.natAbs_natCast]
 have wm:=iword_ok (smN.2 hm);have wn:=iword_ok (smN.2 hn);rw[Int.natAbs_natCast]at wm wn;rw[em]at wm;rw[en]at wn;rw[raw_length,raw_length];have hstep:0<n→∃es_3 es_4,
  Gives CC 300 [A.c (D.sl (raw (lim m))),A.c (D.sl (raw (lim n)))] [A.c (D.sl es_3),A.c (D.sl es_4)]∧
   ∃b_5 es_5,
    Gives CC 92 [A.c (D.bool false),A.c (D.sl es_4)] [A.ag [D.bool b_5,D.sl es_5]]∧
     (∃m' n':Nat,[D.bool (decide ((n:Int)<0)),D.sl (raw (lim n)),D.bool b_5,D.sl es_5]=cI (m':Int)++cI (n':Int)∧Nat.gcd m' n'=G∧m'<topN∧n'<topN)∧
      valD (toL (nth .undef [D.bool (decide ((n:Int)<0)),D.sl (raw (lim n)),D.bool b_5,D.sl es_5] 3))<valD (toL (nth .undef [D.bool (decide ((m:Int)<0)),D.sl (raw (lim m)),D.bool (decide ((n:Int)<0)),D.sl (raw (lim n))] 3)):=by
  intro hn0;obtain⟨q,r,h1,lq,lr,vq,vr,q1,r1⟩:=hd (lim m) (lim n) (lim_limbs _) (lim_limbs _) (by rw[lim_val];omega) lm ln;rw[lim_val,lim_val]at vr;have hmod:=Nat.mod_lt m hn0;refine⟨_,_,h1,_,_,up (signed_enc false lr r1 (z:=((m%n:Nat):Int)) (by simp[vr])),⟨n,m%n,?_,?_,hn,by omega⟩,?_⟩
  ·simp only[cI,Int.natAbs_natCast,List.cons_append,List.nil_append]
  ·rw[←hg,Nat.gcd_comm n,←Nat.gcd_rec,Nat.gcd_comm]
  ·simp only[nth,toL,Int.natAbs_natCast,valD_raw,lim_val];exact hmod
 refine brd (fun h=>?_) (fun h=>?_)
 ·have hn0:0<n:=lim_len_pos.1 (by omega);by_cases sm:m<1000000000000000000
  ·rw[if_pos sm]at wm;by_cases sn:n<1000000000000000000
   ·rw[if_pos sn]at wn;refine⟨_,_,up wm,_,_,up wn,?_⟩;refine⟨⟨m,n,rfl,hg,sm,sn⟩,?_⟩;rintro a b ⟨u,v,he,hg',hu,hv⟩;simp only[List.cons.injEq,D.int.injEq,true_and,and_true]at he;obtain⟨rfl,rfl⟩:=he;refine brd (fun h2=>?_) (fun h2=>?_)
    ·have hv0:0<v:=by omega
     have e2:Int.tmod (u:Int) (v:Int)=((u%v:Nat):Int):=by rw[Int.tmod_eq_emod_of_nonneg (by omega)];rfl
     have hmod:=Nat.mod_lt u hv0;rw[e2];refine⟨by omega,⟨v,u%v,rfl,by rw[←hg',Nat.gcd_comm v,←Nat.gcd_rec,Nat.gcd_comm],hv,by omega⟩,?_⟩;simp only[nth,toI,Int.toNat_natCast];exact hmod
    ·have hv0:v=0:=by omega
     subst hv0;rw[Nat.gcd_zero_right]at hg';subst hg';obtain⟨l1,l2⟩:=split_limbs (u:=u) (by omega);exact⟨_,up (isplit_ok (by omega)),_,_,up (signed_enc false l1 (by simp) (z:=(u:Int)) (by rw[l2];rfl)),rfl⟩
   ·rw[if_neg sn]at wn;exact⟨_,_,up wm,_,_,up wn,hstep hn0⟩
  ·rw[if_neg sm]at wm;by_cases sn:n<1000000000000000000
   ·rw[if_pos sn]at wn;exact⟨_,_,up wm,_,_,up wn,hstep hn0⟩
   ·rw[if_neg sn]at wn;exact⟨_,_,up wm,_,_,up wn,hstep hn0⟩
 ·have hn0:n=0:=by
   rcases Nat.eq_zero_or_pos n with h0|h0
   ·exact h0
   ·have:=lim_len_pos.2 h0;omega
  subst hn0;rw[Nat.gcd_zero_right]at hg;subst hg;exact⟨⟨by unfold room;omega,lens_raw _⟩,_,_,up (signed_enc false (lim_limbs m) (by omega) (z:=(m:Int)) (by simp[lim_val])),rfl⟩
theorem iDivMod_ok (hd:DivOk) {x y:Int} (hx:Sm x) (hy:Sm y) (hy0:0<y):Gives CC 301 [encI x,encI y] [encI (x/y),encI (x%y),.c (.int .i64 0)]:=by
 refine wpF_ok (anns:=fun _=>⟨[],[],fun _ _=>True,fun _=>0⟩) mixedT Tryz.func301 ?_;have lx:=hx.len;have ly:=hy.len;have hyn:y.natAbs≠0:=by omega
 have hlp:0<(lim y.natAbs).length:=lim_len_pos.2 (by omega);obtain⟨q,r,h1,lq,lr,vq,vr,q1,r1⟩:=hd (lim x.natAbs) (lim y.natAbs) (lim_limbs _) (lim_limbs _) (by rw[lim_val];exact hyn) lx ly;rw[lim_val,lim_val]at vq vr;rw[show encI x= .ag (cI x)from rfl,show encI y= .ag (cI y)from rfl,cI,cI,vc_DivMod];simp only[Int.ofNat_eq_natCast];obtain⟨a,ha⟩:∃a:Nat,x.natAbs=a:=⟨_,rfl⟩;obtain⟨b,hb⟩:∃b:Nat,y=(b:Int):=⟨y.natAbs,by omega⟩;have hbn:y.natAbs=b:=by omega
 have hb0:0<b:=by omega
 rw[ha,hbn]at vq vr;have hdm:=Nat.div_add_mod a b;have hml:=Nat.mod_lt a hb0;refine brb (fun h=>?_) (fun _=>?_)
 ·rw[raw_length]at h;have:((lim y.natAbs).length:Int)=0:=by simpa using h
  omega
 have hyf:decide (y<0)=false:=decide_eq_false (by omega);rw[hyf];by_cases hx0:x<0
 ·have hxt:decide (x<0)=true:=decide_eq_true hx0;rw[hxt];have hxa:x= -(a:Int):=by omega
  have gq:=signed_enc true lq q1 (z:= -((a/b:Nat):Int)) (by rw[vq];rfl);have gr:=signed_enc true lr r1 (z:= -((a%b:Nat):Int)) (by rw[vr];rfl);refine⟨_,_,h1,_,_,up gq,_,_,up gr,?_⟩;have e0:(-((a%b:Nat):Int)).natAbs=a%b:=by rw[Int.natAbs_neg,Int.natAbs_natCast]
  rw[raw_length];have hq:(a/b)<topN:=Nat.lt_of_le_of_lt (Nat.div_le_self _ _) (ha▸hx);refine brd (fun h=>brb (fun h2=>?_) (fun h2=>?_)) (fun h=>?_)
  ·rw[e0]at h;have hr0:0<a%b:=lim_len_pos.1 (by omega);have g1:=iFromInt64_ok (n:=1) (by omega) (by omega);have sq:Sm (-((a/b:Nat):Int)):=by unfold Sm;rw[Int.natAbs_neg,Int.natAbs_natCast];exact hq
   have s1:Sm 1:=by unfold Sm topN;exact Nat.one_lt_pow (by omega) (Nat.one_lt_pow (by omega) (by omega))
   have sr:Sm (-((a%b:Nat):Int)):=by unfold Sm;rw[Int.natAbs_neg,Int.natAbs_natCast];exact Nat.lt_trans hml (hbn▸hy)
   have gs:=iSub_ok sq s1;have ga:=iAdd_ok sr hy;have ga2:Gives CC 377 [encI (-((a%b:Nat):Int)),.ag [.bool false,.sl (raw (lim y.natAbs))]] [encI (-((a%b:Nat):Int)+y)]:=by have:=up ga;rw[show encI y= .ag (cI y)from rfl,cI,hyf]at this;exact this
   refine⟨_,_,up g1,_,_,up gs,_,_,ga2,?_⟩
   ·have e1:x/y= -((a/b:Nat):Int)-1∧x%y= -((a%b:Nat):Int)+y:=by
     have:=Int.ediv_emod_unique (a:=x) (b:=y) (r:= -((a%b:Nat):Int)+y) (q:= -((a/b:Nat):Int)-1) hy0;refine this.2 ⟨?_,by omega,by omega⟩;rw[hxa,hb];have h5:(b:Int)*(-((a/b:Nat):Int)-1)= -((b*(a/b):Nat):Int)-b:=by rw[Int.mul_sub,Int.mul_neg,Int.mul_one,Int.natCast_mul]
     rw[h5];omega
    rw[e1.1,e1.2];rfl
  ·exfalso;rw[e0]at h;have hr0:0<a%b:=lim_len_pos.1 (by omega);have:decide (-((a%b:Nat):Int)<0)=true:=decide_eq_true (by omega);rw[this]at h2;simp at h2
  ·have hr0:a%b=0:=by
    rcases Nat.eq_zero_or_pos (a%b)with h0|h0
    ·exact h0
    ·have:=lim_len_pos.2 h0;rw[e0]at h;omega
   have e1:x/y= -((a/b:Nat):Int)∧x%y= -((a%b:Nat):Int):=by have:=Int.ediv_emod_unique (a:=x) (b:=y) (r:= -((a%b:Nat):Int)) (q:= -((a/b:Nat):Int)) hy0;refine this.2 ⟨?_,by omega,by omega⟩;rw[hxa,hb,Int.mul_neg,←Int.natCast_mul];omega
   rw[e1.1,e1.2];simp only[encI,cI,Int.natAbs_neg,Int.natAbs_natCast]
 ·have hxf:decide (x<0)=false:=decide_eq_false hx0;rw[hxf];have hxa:x=(a:Int):=by omega
  have gq:=signed_enc false lq q1 (z:=((a/b:Nat):Int)) (by rw[vq];rfl);have gr:=signed_enc false lr r1 (z:=((a%b:Nat):Int)) (by rw[vr];rfl);refine⟨_,_,h1,_,_,up gq,_,_,up gr,?_⟩;have hrf:decide (((a%b:Nat):Int)<0)=false:=decide_eq_false (by omega);have e1:x/y=((a/b:Nat):Int)∧x%y=((a%b:Nat):Int):=by rw[hxa,hb];exact⟨rfl,rfl⟩
  refine brd (fun h=>brb (fun h2=>?_) (fun h2=>?_)) (fun h=>?_)
  ·rw[hrf]at h2;simp at h2
  ·rw[e1.1,e1.2];rfl
  ·rw[e1.1,e1.2];rfl
end Eng
end

section
namespace Eng
open Go Go.Proofs
set_option maxRecDepth 100000
variable [Env]
def cR (r:Rat):List D:=cI r.num++cI (r.den:Int)
def encR (r:Rat):A:= .ag (cR r)
omit [Env] in
theorem sm_one:Sm 1:=by unfold Sm;decide
theorem runit_ok:Gives CC 91 [] [encI 1]:=by
 refine wpF_ok (anns:=fun _=>⟨[],[],fun _ _=>True,fun _=>0⟩) mixedT Tryz.func91 ?_;rw[vc_unit];exact⟨_,_,up (iFromInt64_ok (n:=1) (by omega) (by omega)),rfl⟩
theorem rexact_ok (hd:DivOk) {x y:Int} (hx:Sm x) (hy:Sm y) (hy0:0<y):Gives CC 224 [encI x,encI y] [encI (x/y)]:=by
 refine wpF_ok (anns:=fun _=>⟨[],[],fun _ _=>True,fun _=>0⟩) mixedT Tryz.func224 ?_;rw[show encI x= .ag (cI x)from rfl,show encI y= .ag (cI y)from rfl,cI,cI,vc_exact];exact⟨_,_,_,_,_,iDivMod_ok hd hx hy hy0,rfl⟩
omit [Env] in
theorem sm_neg {x:Int} (h:Sm x):Sm (-x):=by unfold Sm at *;rw[Int.natAbs_neg];exact h
omit [Env] in
theorem cmp_one {g:Nat} (hg:0<g):(cmpZ (g:Int) 1 !=0)=decide (g≠1):=by
 unfold cmpZ;by_cases h:g=1
 ·subst h;rfl
 ·rw[if_neg (by omega),if_pos (by omega),decide_eq_true h];rfl
omit [Env] in
theorem divInt_nd {n d:Int} (hd:0<d):(Rat.divInt n d).num=n/(Nat.gcd n.natAbs d.natAbs:Nat)∧((Rat.divInt n d).den:Int)=d/(Nat.gcd n.natAbs d.natAbs:Nat):=by
 have e:d.gcd n=Nat.gcd n.natAbs d.natAbs:=by rw[Int.gcd_comm];rfl
 refine⟨?_,?_⟩
 ·rw[Rat.num_divInt,Int.sign_eq_one_of_pos hd,Int.one_mul,e]
 ·rw[Rat.den_divInt,if_neg (by omega),e];obtain⟨k,rfl⟩:∃k:Nat,d=(k:Int):=⟨d.toNat,by omega⟩;rw[Int.natAbs_natCast,Int.natCast_ediv]
omit [Env] in
theorem encR_divInt {n d:Int} (hd:0<d):encR (Rat.divInt n d)= .ag (cI (n/(Nat.gcd n.natAbs d.natAbs:Nat))++cI (d/(Nat.gcd n.natAbs d.natAbs:Nat))):=by
 unfold encR cR;rw[(divInt_nd hd).1,(divInt_nd hd).2]
theorem rreduce_ok (hd:DivOk) {x y:Int} (hx:Sm x) (hy:Sm y) (hy0:y≠0):Gives CC 154 [encI x,encI y] [encR (Rat.divInt x y)]:=by
 refine wpF_ok (anns:=fun _=>⟨[],[],fun _ _=>True,fun _=>0⟩) mixedT Tryz.func154 ?_;have hS:=up (iSign_ok y);have hmain:∀{u v:Int},Sm u→Sm v→0<v→∃g:Nat,g=Nat.gcd u.natAbs v.natAbs∧Gives CC 223 [encI u,encI v] [encI (g:Int)]∧Gives CC 98 [encI (g:Int),encI 1] [.c (.int .i64 (cmpZ g 1))]∧0<g∧Gives CC 224 [encI u,encI (g:Int)] [encI (u/g)]∧Gives CC 224 [encI v,encI (g:Int)] [encI (v/g)]:=by intro u v hu hv hv0;refine⟨_,rfl,iGCD_ok hd hu hv,?_⟩;have hgp:0<Nat.gcd u.natAbs v.natAbs:=Nat.gcd_pos_of_pos_right _ (by omega);have hgs:Sm (Nat.gcd u.natAbs v.natAbs:Nat):=smN.2 (Nat.lt_of_le_of_lt (Nat.gcd_le_right _ (by omega)) hv);exact⟨up (iCmp_ok hgs sm_one),hgp,rexact_ok hd hu hgs (by omega),rexact_ok hd hv hgs (by omega)⟩
 rw[show encI x= .ag (cI x)from rfl,show encI y= .ag (cI y)from rfl];rw[cI,cI,vc_reduce];refine⟨_,hS,?_⟩;refine brd (fun h=>?_) (fun h=>?_)
 ·have hy1:y<0:=by
   unfold sgn at h;split at h
   ·assumption
   ·split at h<;>omega
  obtain⟨g,hg,h1,h2,h3,h4,h5⟩:=hmain (sm_neg hx) (sm_neg hy) (by omega);refine⟨_,_,up (iNeg_ok hx),_,_,up (iNeg_ok hy),_,_,h1,_,_,runit_ok,_,h2,?_⟩;have he:encR (Rat.divInt x y)= .ag (cI ((-x)/(g:Int))++cI ((-y)/(g:Int))):=by
   have:Rat.divInt x y=Rat.divInt (-x) (-y):=by rw[Rat.neg_divInt_neg]
   rw[this,encR_divInt (by omega),hg]
  refine brb (fun h=>?_) (fun h=>?_)
  ·refine⟨_,_,h4,_,_,h5,?_⟩;rw[he];rfl
  ·rw[cmp_one h3]at h;have:g=1:=by simpa using h
   rw[he,this];rw[show((1:Nat):Int)=1 from rfl,Int.ediv_one,Int.ediv_one];rfl
 ·have hy1:0<y:=by
   unfold sgn at h;split at h
   ·omega
   ·omega
  obtain⟨g,hg,h1,h2,h3,h4,h5⟩:=hmain hx hy hy1;refine⟨_,_,h1,_,_,runit_ok,_,h2,?_⟩;have he:encR (Rat.divInt x y)= .ag (cI (x/(g:Int))++cI (y/(g:Int))):=by rw[encR_divInt hy1,hg]
  refine brb (fun h=>?_) (fun h=>?_)
  ·refine⟨_,_,h4,_,_,h5,?_⟩;rw[he];rfl
  ·rw[cmp_one h3]at h;have:g=1:=by simpa using h
   rw[he,this];rw[show((1:Nat):Int)=1 from rfl,Int.ediv_one,Int.ediv_one];rfl
end Eng
end

section
namespace Eng
open Go Go.Proofs
set_option maxRecDepth 100000
variable [Env]
def halfN:Nat:=((1000000000^100)^100)^4
def Sq (z:Int):Prop:=z.natAbs<halfN
def Sr (r:Rat):Prop:=Sq r.num∧Sq (r.den:Int)
omit [Env] in
theorem half_top:halfN*halfN*2≤topN:=by decide
omit [Env] in
theorem Sq.sm {z:Int} (h:Sq z):Sm z:=by
 have h0:halfN≤topN:=by decide
 exact Nat.lt_of_lt_of_le h h0
omit [Env] in
theorem Sq.mul {x y:Int} (hx:Sq x) (hy:Sq y):Sm (x*y):=by
 unfold Sm;rw[Int.natAbs_mul];have:=Nat.mul_lt_mul'' hx hy;have:=half_top;omega
omit [Env] in
theorem Sq.mul_add {a b c d:Int} (ha:Sq a) (hb:Sq b) (hc:Sq c) (hd:Sq d):Sm (a*b+c*d):=by
 unfold Sm;have h1:=Nat.mul_lt_mul'' ha hb;have h2:=Nat.mul_lt_mul'' hc hd;rw[←Int.natAbs_mul]at h1 h2;have:=half_top;omega
omit [Env] in
theorem Sq.add {a b:Int} (ha:Sq a) (hb:Sq b):Sm (a+b):=by
 unfold Sm;have h0:halfN*2≤topN:=by decide
 have h1:a.natAbs<halfN:=ha;have h2:b.natAbs<halfN:=hb;omega
omit [Env] in
theorem den_pos (r:Rat):0<(r.den:Int):=by have:=r.den_pos;omega
omit [Env] in
theorem encR_cells (r:Rat):encR r= .ag [.bool (decide (r.num<0)),.sl (raw (lim r.num.natAbs)),.bool (decide ((r.den:Int)<0)),.sl (raw (lim (r.den:Int).natAbs))]:=rfl
omit [Env] in
theorem encI_cells (z:Int):encI z= .ag [.bool (decide (z<0)),.sl (raw (lim z.natAbs))]:=rfl
def q4 (r:Rat):R4:=⟨decide (r.num<0),raw (lim r.num.natAbs),decide ((r.den:Int)<0),raw (lim (r.den:Int).natAbs)⟩
theorem rSign_ok (r:Rat):Gives CC 97 [encR r] [.c (.int .i64 (sgn r.num))]:=by
 refine wpF_ok (anns:=fun _=>⟨[],[],fun _ _=>True,fun _=>0⟩) mixedT Tryz.func97 ?_;rw[encR_cells,vc_RSign];exact⟨_,up (iSign_ok r.num),rfl⟩
theorem isNaN_ok (n:Int):Gives CC 158 [.c (.int .i64 n)] [.c (.bool false)]:=by
 refine wpF_ok (anns:=fun _=>⟨[],[],fun _ _=>True,fun _=>0⟩) mixedT Tryz.func158 ?_;rw[vc_isNaN];simp
theorem cmpCompare_ok (m n:Int):Gives CC 96 [.c (.int .i64 m),.c (.int .i64 n)] [.c (.int .i64 (cmpZ m n))]:=by
 refine wpF_ok (anns:=fun _=>⟨[],[],fun _ _=>True,fun _=>0⟩) mixedT Tryz.func96 ?_;rw[vc_cmpCompare];refine⟨_,isNaN_ok m,_,isNaN_ok n,?_⟩;refine brb' (fun h=>by simp at h) (fun _=>?_);refine brb' (fun h=>by simp at h) (fun _=>?_);unfold cmpZ;refine brd (fun h=>?_) (fun h=>?_)
 ·rw[if_pos h]
 ·rw[if_neg h];refine brd (fun h=>?_) (fun h=>?_)
  ·rw[if_pos h]
  ·rw[if_neg h]
def cmpR (x y:Rat):Int:=if x<y then-1 else if y<x then 1 else 0
omit [Env] in
theorem cmpR_eq (x y:Rat):cmpR x y=cmpZ (x.num*y.den) (y.num*x.den):=by
 unfold cmpR cmpZ;simp only[Rat.lt_iff]
theorem rCmp_ok {x y:Rat} (hx:Sr x) (hy:Sr y):Gives CC 51 [encR x,encR y] [.c (.int .i64 (cmpR x y))]:=by
 refine wpF_ok (anns:=fun _=>⟨[],[],fun _ _=>True,fun _=>0⟩) mixedT Tryz.func51 ?_;have h1:=rSign_ok x;have h2:=rSign_ok y;rw[encR_cells]at h1 h2;rw[encR_cells,encR_cells,vc_RCmp];refine⟨_,h1,_,h2,_,cmpCompare_ok _ _,?_⟩;have hm1:=up (iMul_ok hx.1.sm hy.2.sm);have hm2:=up (iMul_ok hy.1.sm hx.2.sm);have hc:=up (iCmp_ok (hx.1.mul hy.2) (hy.1.mul hx.2));have px:=den_pos x;have py:=den_pos y;refine brb (fun h=>?_) (fun h=>?_)
 ·have e:cmpZ (sgn x.num) (sgn y.num)=cmpR x y:=by
   rw[cmpR_eq];have hs:∀(z d:Int),0<d→sgn (z*d)=sgn z:=by
    intro z d hd';unfold sgn;rcases Int.lt_trichotomy z 0 with h|h|h
    ·have:=Int.mul_neg_of_neg_of_pos h hd';rw[if_pos h,if_pos this]
    ·subst h;simp
    ·have:=Int.mul_pos h hd';rw[if_neg (show ¬z<0 by omega),if_pos h,if_neg (show ¬z*d<0 by omega),if_pos this]
   rw[←hs x.num _ py,←hs y.num _ px]at h ⊢;generalize x.num*(y.den:Int)=a at *;generalize y.num*(x.den:Int)=b at *;unfold cmpZ sgn at *;simp only[bne_iff_ne,ne_eq]at h;split at h<;>split at h<;>(try split at h)<;>(try split at h)<;>split<;>(try split)<;>omega
  rw[e]
 ·rw[cmpR_eq];exact⟨_,_,hm1,_,_,hm2,_,hc,rfl⟩
theorem rNeg_ok {x:Rat} (hx:Sr x):Gives CC 315 [encR x] [encR (-x)]:=by
 refine wpF_ok (anns:=fun _=>⟨[],[],fun _ _=>True,fun _=>0⟩) mixedT Tryz.func315 ?_;rw[encR_cells,vc_RNeg];refine⟨_,_,up (iNeg_ok hx.1.sm),?_⟩;rw[encR_cells,Rat.neg_num];have:(-x).den=x.den:=rfl;rw[this]
theorem rMul_ok (hd:DivOk) {x y:Rat} (hx:Sr x) (hy:Sr y):Gives CC 88 [encR x,encR y] [encR (x*y)]:=by
 refine wpF_ok (anns:=fun _=>⟨[],[],fun _ _=>True,fun _=>0⟩) mixedT Tryz.func88 ?_;rw[encR_cells,encR_cells,vc_RMul];have px:=den_pos x;have py:=den_pos y;have:=Int.mul_pos px py;refine⟨_,_,up (iMul_ok hx.1.sm hy.1.sm),_,_,up (iMul_ok hx.2.sm hy.2.sm),q4 _,rreduce_ok hd (hx.1.mul hy.1) (hx.2.mul hy.2) (by omega),?_⟩;have e:x*y=Rat.divInt (x.num*y.num) (x.den*y.den):=by rw[←Rat.divInt_mul_divInt,Rat.num_divInt_den,Rat.num_divInt_den]
 rw[e];rfl
theorem rAdd_ok (hd:DivOk) {x y:Rat} (hx:Sr x) (hy:Sr y):Gives CC 338 [encR x,encR y] [encR (x+y)]:=by
 refine wpF_ok (anns:=fun _=>⟨[],[],fun _ _=>True,fun _=>0⟩) mixedT Tryz.func338 ?_;rw[encR_cells,encR_cells,vc_RAdd];have px:=den_pos x;have py:=den_pos y;have hp:=Int.mul_pos px py;have e0:x+y=Rat.divInt (x.num*y.den+y.num*x.den) (x.den*y.den):=by rw[←Rat.divInt_add_divInt _ _ (by omega) (by omega),Rat.num_divInt_den,Rat.num_divInt_den]
 refine⟨_,up (iCmp_ok hx.2.sm hy.2.sm),?_⟩;refine brb (fun h=>?_) (fun h=>?_)
 ·have hxy:(x.den:Int)=y.den:=by
   unfold cmpZ at h;split at h
   ·simp at h
   ·split at h
    ·simp at h
    ·omega
  have e1:x+y=Rat.divInt (x.num+y.num) x.den:=by rw[e0,←hxy,←Int.add_mul,Rat.divInt_mul_right (by omega)]
  refine⟨_,_,up (iAdd_ok hx.1.sm hy.1.sm),q4 _,rreduce_ok hd (hx.1.add hy.1) hx.2.sm (by omega),?_⟩;rw[e1];rfl
 ·refine⟨_,_,up (iMul_ok hx.1.sm hy.2.sm),_,_,up (iMul_ok hy.1.sm hx.2.sm),_,_,up (iAdd_ok (hx.1.mul hy.2) (hy.1.mul hx.2)),_,_,up (iMul_ok hx.2.sm hy.2.sm),q4 _,rreduce_ok hd (hx.1.mul_add hy.2 hy.1 hx.2) (hx.2.mul hy.2) (by omega),?_⟩;rw[e0];rfl
omit [Env] in
theorem Sr.neg {x:Rat} (h:Sr x):Sr (-x):=by
 refine⟨?_,h.2⟩;rw[Rat.neg_num];unfold Sq;rw[Int.natAbs_neg];exact h.1
theorem rSub_ok (hd:DivOk) {x y:Rat} (hx:Sr x) (hy:Sr y):Gives CC 337 [encR x,encR y] [encR (x-y)]:=by
 refine wpF_ok (anns:=fun _=>⟨[],[],fun _ _=>True,fun _=>0⟩) mixedT Tryz.func337 ?_;rw[encR_cells,encR_cells,vc_RSub];refine⟨q4 _,rNeg_ok hy,q4 _,rAdd_ok hd hx hy.neg,?_⟩;rw[Rat.sub_eq_add_neg];rfl
theorem rFromInt64_ok {n:Int} (h1: -9223372036854775808≤n) (h2:n<9223372036854775808):Gives CC 24 [.c (.int .i64 n)] [encR (n:Rat)]:=by
 have hw:Gives CC 47 [encI n] [encR (n:Rat)]:=by refine wpF_ok (anns:=fun _=>⟨[],[],fun _ _=>True,fun _=>0⟩) mixedT Tryz.func47 ?_;rw[encI_cells,vc_whole];refine⟨_,_,runit_ok,?_⟩;rw[encR_cells,Rat.num_intCast,Rat.den_intCast];rfl
 refine wpF_ok (anns:=fun _=>⟨[],[],fun _ _=>True,fun _=>0⟩) mixedT Tryz.func24 ?_;rw[vc_RFromInt64];exact⟨_,_,up (iFromInt64_ok h1 h2),q4 _,hw,rfl⟩
end Eng
end

section
open Go Go.Proofs Eng
set_option maxRecDepth 1000000
namespace Eng
def AfterV (I0:List D→List D→Prop) (M0:List D→Nat) (es e2 e3 e4:List (List D)) (n1 g:Int):Prop:=((0≤n1∧n1≤IntKind.wrap .i64 (IntKind.wrap .i64 (n1+(Int.ofNat es.length))+1)∧IntKind.wrap .i64 (IntKind.wrap .i64 (n1+(Int.ofNat es.length))+1)≤(Int.ofNat e3.length))∧((e2≠[]∧intsB e2=true∧e2.length≤1073741824)∧0<(Int.toNat (IntKind.wrap .i64 (IntKind.wrap .i64 (n1+(Int.ofNat es.length))+1))-Int.toNat n1)∧Int.toNat n1+(Int.toNat (IntKind.wrap .i64 (IntKind.wrap .i64 (n1+(Int.ofNat es.length))+1))-Int.toNat n1)≤e3.length∧intsB (List.take (Int.toNat (IntKind.wrap .i64 (IntKind.wrap .i64 (n1+(Int.ofNat es.length))+1))-Int.toNat n1) (List.drop (Int.toNat n1) e3))=true)∧br (toB (D.bool (decide (0<Prod.snd (Prod.snd (subF g (intsD (List.take (Int.toNat (IntKind.wrap .i64 (IntKind.wrap .i64 (n1+(Int.ofNat es.length))+1))-Int.toNat n1) (List.drop (Int.toNat n1) e3))) (intsD e2) (0:Int) (0:Int))))||decide (0<Prod.fst (Prod.snd (subF g (intsD (List.take (Int.toNat (IntKind.wrap .i64 (IntKind.wrap .i64 (n1+(Int.ofNat es.length))+1))-Int.toNat n1) (List.drop (Int.toNat n1) e3))) (intsD e2) (0:Int) (0:Int))))))) ((0≤n1∧n1≤IntKind.wrap .i64 (IntKind.wrap .i64 (n1+(Int.ofNat es.length))+1)∧IntKind.wrap .i64 (IntKind.wrap .i64 (n1+(Int.ofNat es.length))+1)≤(Int.ofNat (List.length (List.take (Int.toNat n1) e3++ofInts (Prod.fst (subF g (intsD (List.take (Int.toNat (IntKind.wrap .i64 (IntKind.wrap .i64 (n1+(Int.ofNat es.length))+1))-Int.toNat n1) (List.drop (Int.toNat n1) e3))) (intsD e2) (0:Int) (0:Int)))++List.drop (Int.toNat n1+(Int.toNat (IntKind.wrap .i64 (IntKind.wrap .i64 (n1+(Int.ofNat es.length))+1))-Int.toNat n1)) e3))))∧((e2≠[]∧intsB e2=true∧e2.length≤1073741824)∧0<(Int.toNat (IntKind.wrap .i64 (IntKind.wrap .i64 (n1+(Int.ofNat es.length))+1))-Int.toNat n1)∧Int.toNat n1+(Int.toNat (IntKind.wrap .i64 (IntKind.wrap .i64 (n1+(Int.ofNat es.length))+1))-Int.toNat n1)≤List.length (List.take (Int.toNat n1) e3++ofInts (Prod.fst (subF g (intsD (List.take (Int.toNat (IntKind.wrap .i64 (IntKind.wrap .i64 (n1+(Int.ofNat es.length))+1))-Int.toNat n1) (List.drop (Int.toNat n1) e3))) (intsD e2) (0:Int) (0:Int)))++List.drop (Int.toNat n1+(Int.toNat (IntKind.wrap .i64 (IntKind.wrap .i64 (n1+(Int.ofNat es.length))+1))-Int.toNat n1)) e3)∧intsB (List.take (Int.toNat (IntKind.wrap .i64 (IntKind.wrap .i64 (n1+(Int.ofNat es.length))+1))-Int.toNat n1) (List.drop (Int.toNat n1) (List.take (Int.toNat n1) e3++ofInts (Prod.fst (subF g (intsD (List.take (Int.toNat (IntKind.wrap .i64 (IntKind.wrap .i64 (n1+(Int.ofNat es.length))+1))-Int.toNat n1) (List.drop (Int.toNat n1) e3))) (intsD e2) (0:Int) (0:Int)))++List.drop (Int.toNat n1+(Int.toNat (IntKind.wrap .i64 (IntKind.wrap .i64 (n1+(Int.ofNat es.length))+1))-Int.toNat n1)) e3)))=true)∧(0≤n1∧n1<(Int.ofNat e4.length))∧0<1∧I0 [] [D.sl (List.take (Int.toNat n1) (List.take (Int.toNat n1) e3++ofInts (Prod.fst (subF g (intsD (List.take (Int.toNat (IntKind.wrap .i64 (IntKind.wrap .i64 (n1+(Int.ofNat es.length))+1))-Int.toNat n1) (List.drop (Int.toNat n1) e3))) (intsD e2) (0:Int) (0:Int)))++List.drop (Int.toNat n1+(Int.toNat (IntKind.wrap .i64 (IntKind.wrap .i64 (n1+(Int.ofNat es.length))+1))-Int.toNat n1)) e3)++ofInts (resF (intsD (List.take (Int.toNat (IntKind.wrap .i64 (IntKind.wrap .i64 (n1+(Int.ofNat es.length))+1))-Int.toNat n1) (List.drop (Int.toNat n1) (List.take (Int.toNat n1) e3++ofInts (Prod.fst (subF g (intsD (List.take (Int.toNat (IntKind.wrap .i64 (IntKind.wrap .i64 (n1+(Int.ofNat es.length))+1))-Int.toNat n1) (List.drop (Int.toNat n1) e3))) (intsD e2) (0:Int) (0:Int)))++List.drop (Int.toNat n1+(Int.toNat (IntKind.wrap .i64 (IntKind.wrap .i64 (n1+(Int.ofNat es.length))+1))-Int.toNat n1)) e3)))) (intsD e2) (0:Int))++List.drop (Int.toNat n1+(Int.toNat (IntKind.wrap .i64 (IntKind.wrap .i64 (n1+(Int.ofNat es.length))+1))-Int.toNat n1)) (List.take (Int.toNat n1) e3++ofInts (Prod.fst (subF g (intsD (List.take (Int.toNat (IntKind.wrap .i64 (IntKind.wrap .i64 (n1+(Int.ofNat es.length))+1))-Int.toNat n1) (List.drop (Int.toNat n1) e3))) (intsD e2) (0:Int) (0:Int)))++List.drop (Int.toNat n1+(Int.toNat (IntKind.wrap .i64 (IntKind.wrap .i64 (n1+(Int.ofNat es.length))+1))-Int.toNat n1)) e3)),D.sl (upd e4 (Int.toNat n1) (upd (nth [] e4 (Int.toNat n1)) 0 (D.int .u32 (IntKind.wrap .u32 (IntKind.wrap .u64 (g-1)))))),D.int .i64 (IntKind.wrap .i64 (n1-1))]∧M0 [D.sl (List.take (Int.toNat n1) (List.take (Int.toNat n1) e3++ofInts (Prod.fst (subF g (intsD (List.take (Int.toNat (IntKind.wrap .i64 (IntKind.wrap .i64 (n1+(Int.ofNat es.length))+1))-Int.toNat n1) (List.drop (Int.toNat n1) e3))) (intsD e2) (0:Int) (0:Int)))++List.drop (Int.toNat n1+(Int.toNat (IntKind.wrap .i64 (IntKind.wrap .i64 (n1+(Int.ofNat es.length))+1))-Int.toNat n1)) e3)++ofInts (resF (intsD (List.take (Int.toNat (IntKind.wrap .i64 (IntKind.wrap .i64 (n1+(Int.ofNat es.length))+1))-Int.toNat n1) (List.drop (Int.toNat n1) (List.take (Int.toNat n1) e3++ofInts (Prod.fst (subF g (intsD (List.take (Int.toNat (IntKind.wrap .i64 (IntKind.wrap .i64 (n1+(Int.ofNat es.length))+1))-Int.toNat n1) (List.drop (Int.toNat n1) e3))) (intsD e2) (0:Int) (0:Int)))++List.drop (Int.toNat n1+(Int.toNat (IntKind.wrap .i64 (IntKind.wrap .i64 (n1+(Int.ofNat es.length))+1))-Int.toNat n1)) e3)))) (intsD e2) (0:Int))++List.drop (Int.toNat n1+(Int.toNat (IntKind.wrap .i64 (IntKind.wrap .i64 (n1+(Int.ofNat es.length))+1))-Int.toNat n1)) (List.take (Int.toNat n1) e3++ofInts (Prod.fst (subF g (intsD (List.take (Int.toNat (IntKind.wrap .i64 (IntKind.wrap .i64 (n1+(Int.ofNat es.length))+1))-Int.toNat n1) (List.drop (Int.toNat n1) e3))) (intsD e2) (0:Int) (0:Int)))++List.drop (Int.toNat n1+(Int.toNat (IntKind.wrap .i64 (IntKind.wrap .i64 (n1+(Int.ofNat es.length))+1))-Int.toNat n1)) e3)),D.sl (upd e4 (Int.toNat n1) (upd (nth [] e4 (Int.toNat n1)) 0 (D.int .u32 (IntKind.wrap .u32 (IntKind.wrap .u64 (g-1)))))),D.int .i64 (IntKind.wrap .i64 (n1-1))]<M0 [D.sl e3,D.sl e4,D.int .i64 n1]) ((0≤n1∧n1<(Int.ofNat e4.length))∧0<1∧I0 [] [D.sl (List.take (Int.toNat n1) e3++ofInts (Prod.fst (subF g (intsD (List.take (Int.toNat (IntKind.wrap .i64 (IntKind.wrap .i64 (n1+(Int.ofNat es.length))+1))-Int.toNat n1) (List.drop (Int.toNat n1) e3))) (intsD e2) (0:Int) (0:Int)))++List.drop (Int.toNat n1+(Int.toNat (IntKind.wrap .i64 (IntKind.wrap .i64 (n1+(Int.ofNat es.length))+1))-Int.toNat n1)) e3),D.sl (upd e4 (Int.toNat n1) (upd (nth [] e4 (Int.toNat n1)) 0 (D.int .u32 (IntKind.wrap .u32 g)))),D.int .i64 (IntKind.wrap .i64 (n1-1))]∧M0 [D.sl (List.take (Int.toNat n1) e3++ofInts (Prod.fst (subF g (intsD (List.take (Int.toNat (IntKind.wrap .i64 (IntKind.wrap .i64 (n1+(Int.ofNat es.length))+1))-Int.toNat n1) (List.drop (Int.toNat n1) e3))) (intsD e2) (0:Int) (0:Int)))++List.drop (Int.toNat n1+(Int.toNat (IntKind.wrap .i64 (IntKind.wrap .i64 (n1+(Int.ofNat es.length))+1))-Int.toNat n1)) e3),D.sl (upd e4 (Int.toNat n1) (upd (nth [] e4 (Int.toNat n1)) 0 (D.int .u32 (IntKind.wrap .u32 g)))),D.int .i64 (IntKind.wrap .i64 (n1-1))]<M0 [D.sl e3,D.sl e4,D.int .i64 n1]))
theorem vc_divide (Gv:Nat→List A→List A→Prop) (I0:List D→List D→Prop) (M0:List D→Nat) (I1:List D→List D→Prop) (M1:List D→Nat) (chk:List A→Bool) (mk:List A→List (List D)) (es fs:List (List D)) (Q:List A→Prop):wpF (CM chk mk) Gv (ann2 ⟨[.own 8 180 1,.own 10 181 1,.slot 11 (.int .i64 0)],[],I0,M0⟩ ⟨[.slot 13 (.int .u64 0),.slot 14 (.int .u64 0)],[.slot 12 (.int .u64 0),.slot 11 (.int .i64 0),.own 8 180 1],I1,M1⟩) Tryz.f300 [.c (.sl es),.c (.sl fs)] Q=(∃e1,Gv 230 [A.c (D.sl es)] [A.c (D.sl e1)]∧∃es,Gv 230 [A.c (D.sl fs)] [A.c (D.sl es)]∧br (toB (D.bool ((Int.ofNat es.length)==1))) (((0:Int)≤(0:Int)∧0<(Int.ofNat es.length)∧List.length (nth [] es 0)=1)∧∃n,cut (nth [] es 0) 0 1 [D.int .u32 n]∧∃es e2,Gv 373 [A.c (D.sl e1),A.c (D.int .u32 n)] [A.c (D.sl es),A.c (D.sl e2)]∧Q [A.c (D.sl es),A.c (D.sl e2)]) (∃n,Gv 160 [A.c (D.sl e1),A.c (D.sl es)] [A.c (D.int .i64 n)]∧br (toB (D.bool (decide (n<0)))) ((room e1.length∧lens 1 e1)∧Q [A.c (D.sl []),A.c (D.sl e1)]) ((0≤IntKind.wrap .i64 ((Int.ofNat es.length)-1)∧IntKind.wrap .i64 ((Int.ofNat es.length)-1)<(Int.ofNat es.length)∧List.length (nth [] es (Int.toNat (IntKind.wrap .i64 ((Int.ofNat es.length)-1))))=1)∧∃n,cut (nth [] es (Int.toNat (IntKind.wrap .i64 ((Int.ofNat es.length)-1)))) 0 1 [D.int .u32 n]∧IntKind.wrap .u64 (IntKind.wrap .u64 n+1)≠0∧chk [A.c (D.sl e1),A.c (D.sl [[D.int .u32 (IntKind.wrap .u32 (IntKind.wrap .u64 (Int.tdiv (1000000000:Int) (IntKind.wrap .u64 (IntKind.wrap .u64 n+1)))))]])]=true∧(room (List.length (mk [A.c (D.sl e1),A.c (D.sl [[D.int .u32 (IntKind.wrap .u32 (IntKind.wrap .u64 (Int.tdiv (1000000000:Int) (IntKind.wrap .u64 (IntKind.wrap .u64 n+1)))))]])])+1)∧lens 1 [[D.int .u32 0]])∧chk [A.c (D.sl es),A.c (D.sl [[D.int .u32 (IntKind.wrap .u32 (IntKind.wrap .u64 (Int.tdiv (1000000000:Int) (IntKind.wrap .u64 (IntKind.wrap .u64 n+1)))))]])]=true∧∃e2,Gv 230 [A.c (D.sl (mk [A.c (D.sl es),A.c (D.sl [[D.int .u32 (IntKind.wrap .u32 (IntKind.wrap .u64 (Int.tdiv (1000000000:Int) (IntKind.wrap .u64 (IntKind.wrap .u64 n+1)))))]])]))] [A.c (D.sl e2)]∧(0≤IntKind.wrap .i64 ((Int.ofNat (List.length (mk [A.c (D.sl e1),A.c (D.sl [[D.int .u32 (IntKind.wrap .u32 (IntKind.wrap .u64 (Int.tdiv (1000000000:Int) (IntKind.wrap .u64 (IntKind.wrap .u64 n+1)))))]])]++[[D.int .u32 0]])))-(Int.ofNat es.length))∧IntKind.wrap .i64 ((Int.ofNat (List.length (mk [A.c (D.sl e1),A.c (D.sl [[D.int .u32 (IntKind.wrap .u32 (IntKind.wrap .u64 (Int.tdiv (1000000000:Int) (IntKind.wrap .u64 (IntKind.wrap .u64 n+1)))))]])]++[[D.int .u32 0]])))-(Int.ofNat es.length))≤IntKind.wrap .i64 ((Int.ofNat (List.length (mk [A.c (D.sl e1),A.c (D.sl [[D.int .u32 (IntKind.wrap .u32 (IntKind.wrap .u64 (Int.tdiv (1000000000:Int) (IntKind.wrap .u64 (IntKind.wrap .u64 n+1)))))]])]++[[D.int .u32 0]])))-(Int.ofNat es.length))∧room (Int.toNat (IntKind.wrap .i64 ((Int.ofNat (List.length (mk [A.c (D.sl e1),A.c (D.sl [[D.int .u32 (IntKind.wrap .u32 (IntKind.wrap .u64 (Int.tdiv (1000000000:Int) (IntKind.wrap .u64 (IntKind.wrap .u64 n+1)))))]])]++[[D.int .u32 0]])))-(Int.ofNat es.length)))))∧I0 [] [D.sl (mk [A.c (D.sl e1),A.c (D.sl [[D.int .u32 (IntKind.wrap .u32 (IntKind.wrap .u64 (Int.tdiv (1000000000:Int) (IntKind.wrap .u64 (IntKind.wrap .u64 n+1)))))]])]++[[D.int .u32 0]]),D.sl (List.replicate (Int.toNat (IntKind.wrap .i64 ((Int.ofNat (List.length (mk [A.c (D.sl e1),A.c (D.sl [[D.int .u32 (IntKind.wrap .u32 (IntKind.wrap .u64 (Int.tdiv (1000000000:Int) (IntKind.wrap .u64 (IntKind.wrap .u64 n+1)))))]])]++[[D.int .u32 0]])))-(Int.ofNat es.length)))) [D.int .u32 0]),D.int .i64 (IntKind.wrap .i64 (IntKind.wrap .i64 ((Int.ofNat (List.length (mk [A.c (D.sl e1),A.c (D.sl [[D.int .u32 (IntKind.wrap .u32 (IntKind.wrap .u64 (Int.tdiv (1000000000:Int) (IntKind.wrap .u64 (IntKind.wrap .u64 n+1)))))]])]++[[D.int .u32 0]])))-(Int.ofNat es.length))-1))]∧∀(e3 e4:List (List D)) (n1:Int),I0 [] [D.sl e3,D.sl e4,D.int .i64 n1]→br (toB (D.bool (decide (n1≥0)))) ((0≤IntKind.wrap .i64 (n1+(Int.ofNat es.length))∧IntKind.wrap .i64 (n1+(Int.ofNat es.length))<(Int.ofNat e3.length))∧∃n,cut (nth [] e3 (Int.toNat (IntKind.wrap .i64 (n1+(Int.ofNat es.length))))) 0 1 [D.int .u32 n]∧(0≤IntKind.wrap .i64 (IntKind.wrap .i64 (n1+(Int.ofNat es.length))-1)∧IntKind.wrap .i64 (IntKind.wrap .i64 (n1+(Int.ofNat es.length))-1)<(Int.ofNat e3.length))∧∃n2,cut (nth [] e3 (Int.toNat (IntKind.wrap .i64 (IntKind.wrap .i64 (n1+(Int.ofNat es.length))-1)))) 0 1 [D.int .u32 n2]∧(0≤IntKind.wrap .i64 ((Int.ofNat es.length)-1)∧IntKind.wrap .i64 ((Int.ofNat es.length)-1)<(Int.ofNat e2.length)∧List.length (nth [] e2 (Int.toNat (IntKind.wrap .i64 ((Int.ofNat es.length)-1))))=1)∧∃n3,cut (nth [] e2 (Int.toNat (IntKind.wrap .i64 ((Int.ofNat es.length)-1)))) 0 1 [D.int .u32 n3]∧IntKind.wrap .u64 n3≠0∧(0≤IntKind.wrap .i64 ((Int.ofNat es.length)-1)∧IntKind.wrap .i64 ((Int.ofNat es.length)-1)<(Int.ofNat e2.length)∧List.length (nth [] e2 (Int.toNat (IntKind.wrap .i64 ((Int.ofNat es.length)-1))))=1)∧∃n4,cut (nth [] e2 (Int.toNat (IntKind.wrap .i64 ((Int.ofNat es.length)-1)))) 0 1 [D.int .u32 n4]∧IntKind.wrap .u64 n4≠0∧I1 [D.int .u64 (IntKind.wrap .u64 (IntKind.wrap .u64 (IntKind.wrap .u64 n*1000000000)+IntKind.wrap .u64 n2)),D.int .i64 n1,D.sl e3] [D.int .u64 (IntKind.wrap .u64 (Int.tdiv (IntKind.wrap .u64 (IntKind.wrap .u64 (IntKind.wrap .u64 n*1000000000)+IntKind.wrap .u64 n2)) (IntKind.wrap .u64 n3))),D.int .u64 (Int.tmod (IntKind.wrap .u64 (IntKind.wrap .u64 (IntKind.wrap .u64 n*1000000000)+IntKind.wrap .u64 n2)) (IntKind.wrap .u64 n4))]∧∀(n5 n6:Int),I1 [D.int .u64 (IntKind.wrap .u64 (IntKind.wrap .u64 (IntKind.wrap .u64 n*1000000000)+IntKind.wrap .u64 n2)),D.int .i64 n1,D.sl e3] [D.int .u64 n5,D.int .u64 n6]→br (toB (D.bool (decide (n5≥1000000000)))) ((0≤IntKind.wrap .i64 ((Int.ofNat es.length)-1)∧IntKind.wrap .i64 ((Int.ofNat es.length)-1)<(Int.ofNat e2.length)∧List.length (nth [] e2 (Int.toNat (IntKind.wrap .i64 ((Int.ofNat es.length)-1))))=1)∧∃n7,cut (nth [] e2 (Int.toNat (IntKind.wrap .i64 ((Int.ofNat es.length)-1)))) 0 1 [D.int .u32 n7]∧br (toB (D.bool (decide (IntKind.wrap .u64 (n6+IntKind.wrap .u64 n7)≥1000000000)))) (AfterV I0 M0 es e2 e3 e4 n1 (IntKind.wrap .u64 (n5-1))) (I1 [D.int .u64 (IntKind.wrap .u64 (IntKind.wrap .u64 (IntKind.wrap .u64 n*1000000000)+IntKind.wrap .u64 n2)),D.int .i64 n1,D.sl e3] [D.int .u64 (IntKind.wrap .u64 (n5-1)),D.int .u64 (IntKind.wrap .u64 (n6+IntKind.wrap .u64 n7))]∧M1 [D.int .u64 (IntKind.wrap .u64 (n5-1)),D.int .u64 (IntKind.wrap .u64 (n6+IntKind.wrap .u64 n7))]<M1 [D.int .u64 n5,D.int .u64 n6])) ((0≤IntKind.wrap .i64 ((Int.ofNat es.length)-2)∧IntKind.wrap .i64 ((Int.ofNat es.length)-2)<(Int.ofNat e2.length)∧List.length (nth [] e2 (Int.toNat (IntKind.wrap .i64 ((Int.ofNat es.length)-2))))=1)∧∃n7,cut (nth [] e2 (Int.toNat (IntKind.wrap .i64 ((Int.ofNat es.length)-2)))) 0 1 [D.int .u32 n7]∧(0≤IntKind.wrap .i64 (IntKind.wrap .i64 (n1+(Int.ofNat es.length))-2)∧IntKind.wrap .i64 (IntKind.wrap .i64 (n1+(Int.ofNat es.length))-2)<(Int.ofNat e3.length))∧∃n8,cut (nth [] e3 (Int.toNat (IntKind.wrap .i64 (IntKind.wrap .i64 (n1+(Int.ofNat es.length))-2)))) 0 1 [D.int .u32 n8]∧br (toB (D.bool (decide (IntKind.wrap .u64 (n5*IntKind.wrap .u64 n7)>IntKind.wrap .u64 (IntKind.wrap .u64 (n6*1000000000)+IntKind.wrap .u64 n8))))) ((0≤IntKind.wrap .i64 ((Int.ofNat es.length)-1)∧IntKind.wrap .i64 ((Int.ofNat es.length)-1)<(Int.ofNat e2.length)∧List.length (nth [] e2 (Int.toNat (IntKind.wrap .i64 ((Int.ofNat es.length)-1))))=1)∧∃n9,cut (nth [] e2 (Int.toNat (IntKind.wrap .i64 ((Int.ofNat es.length)-1)))) 0 1 [D.int .u32 n9]∧br (toB (D.bool (decide (IntKind.wrap .u64 (n6+IntKind.wrap .u64 n9)≥1000000000)))) (AfterV I0 M0 es e2 e3 e4 n1 (IntKind.wrap .u64 (n5-1))) (I1 [D.int .u64 (IntKind.wrap .u64 (IntKind.wrap .u64 (IntKind.wrap .u64 n*1000000000)+IntKind.wrap .u64 n2)),D.int .i64 n1,D.sl e3] [D.int .u64 (IntKind.wrap .u64 (n5-1)),D.int .u64 (IntKind.wrap .u64 (n6+IntKind.wrap .u64 n9))]∧M1 [D.int .u64 (IntKind.wrap .u64 (n5-1)),D.int .u64 (IntKind.wrap .u64 (n6+IntKind.wrap .u64 n9))]<M1 [D.int .u64 n5,D.int .u64 n6])) (AfterV I0 M0 es e2 e3 e4 n1 n5))) (((0:Int)≤(0:Int)∧0≤(Int.ofNat es.length)∧(Int.ofNat es.length)≤(Int.ofNat e3.length)∧lens 1 e3)∧∃e5,Gv 230 [A.c (D.sl (List.drop 0 (List.take (Int.toNat (Int.ofNat es.length)) e3)))] [A.c (D.sl e5)]∧∃es e6,Gv 373 [A.c (D.sl e5),A.c (D.int .u32 (IntKind.wrap .u32 (IntKind.wrap .u64 (Int.tdiv (1000000000:Int) (IntKind.wrap .u64 (IntKind.wrap .u64 n+1))))))] [A.c (D.sl es),A.c (D.sl e6)]∧Q [A.c (D.sl e4),A.c (D.sl es)])))):=by kernel_rfl
end Eng
end

section
namespace Eng
open Go
def ints (l:List Nat):List Int:=l.map fun(x:Nat)=>(x:Int)
theorem ints_cons (x:Nat) (l:List Nat):ints (x::l)=(x:Int)::ints l:=rfl
theorem tmodN' (t:Nat):Int.tmod (t:Int) 1000000000=((t%1000000000:Nat):Int):=by rw[Int.tmod_eq_emod_of_nonneg (by omega)];omega
theorem tdivN' (t:Nat):Int.tdiv (t:Int) 1000000000=((t/1000000000:Nat):Int):=by rw[Int.tdiv_eq_ediv_of_nonneg (by omega)];omega
theorem subT_nat {by_ c:Nat} (hby:by_≤1000000000) (hc:c≤1000000000) {vs:List Nat} (hv:Limbs vs):∃t:Nat,subT (by_:Int) (c:Int) (ints vs)=(t:Int)∧t≤1000000000000000000∧t+by_*(1000000000*val vs.tail)=c+by_*val vs:=by
 cases vs with
 |nil=>exact⟨c,rfl,by omega,by simp[val]⟩
 |cons y vs=>
  obtain⟨h1,h2⟩:=hv.of_cons;have hp:y*by_≤999999999*1000000000:=Nat.mul_le_mul (by omega) hby;obtain⟨p,hpe⟩:∃p,p=y*by_:=⟨_,rfl⟩;rw[←hpe]at hp;have hpi:(y:Int)*(by_:Int)=(p:Int):=by rw[hpe];exact(Int.natCast_mul _ _).symm
  refine⟨c+p,?_,by omega,?_⟩
  ·simp only[subT,ints_cons];rw[u64w (n:=(y:Int)),hpi,u64w (n:=(p:Int)),u64w];omega
  ·simp only[List.tail_cons,val,Nat.mul_add];rw[hpe,Nat.mul_comm y by_];omega
theorem subF_nat {by_:Nat} (hby:by_≤1000000000):∀{us vs:List Nat} {c b:Nat},Limbs us→Limbs vs→vs.length≤us.length→c≤1000000000→b≤1→
 ∃(r:List Nat) (c' b':Nat),subF (by_:Int) (ints us) (ints vs) (c:Int) (b:Int)=(ints r,(c':Int),(b':Int))∧Limbs r∧r.length=us.length∧c'≤1000000000∧b'≤1∧val us+1000000000^us.length*(c'+b')=val r+by_*val vs+c+b
 |[],vs,c,b,_,_,hl,hc,hb=>by have:vs=[]:=List.eq_nil_of_length_eq_zero (by simpa using hl);subst this;exact⟨[],c,b,rfl,Limbs.nil,rfl,hc,hb,by simp[val]⟩
 |x::us,vs,c,b,hu,hv,hl,hc,hb=>by
  obtain⟨hx,hu⟩:=hu.of_cons;obtain⟨t,ht,htb,hte⟩:=subT_nat hby hc hv;have hvt:Limbs vs.tail:=fun y hy=>hv y (List.mem_of_mem_tail hy)
  have hlt:vs.tail.length≤us.length:=by rw[List.length_tail];simp at hl;omega
  have htail:(ints vs).tail=ints vs.tail:=by cases vs<;>rfl
  have hdm:=Nat.div_add_mod t 1000000000;have hml:=Nat.mod_lt t (show 0<1000000000 by omega);obtain⟨q,hq⟩:∃q,q=t/1000000000:=⟨_,rfl⟩;obtain⟨m,hm⟩:∃m,m=t%1000000000:=⟨_,rfl⟩;have hmul:by_*(1000000000*val vs.tail)=1000000000*(by_*val vs.tail):=by rw[Nat.mul_left_comm]
  by_cases hlt2:x<m+b
  ·obtain⟨r,c',b',h1,h2,h3,h4,h5,h6⟩:=subF_nat hby (us:=us) (vs:=vs.tail) (c:=q) (b:=1) hu hvt hlt (by omega) (by omega);refine⟨(x+1000000000-(m+b))::r,c',b',?_,Limbs.cons (by omega) h2,by simp[h3],h4,h5,?_⟩
   ·rw[ints_cons,ints_cons];simp only[subF];rw[ht,tmodN',tdivN',←hq,←hm,u64w (n:=(x:Int)),u64w (n:=(m:Int)+(b:Int)),u64w (n:=(q:Int))];rw[decide_eq_true (show(x:Int)<(m:Int)+(b:Int)by omega)];simp only;rw[htail];have h1':subF (by_:Int) (ints us) (ints vs.tail) (q:Int) 1=(ints r,(c':Int),(b':Int)):=h1;rw[h1',u64w (n:=(x:Int)+1000000000),u64w,u32w];congr 2;omega
   ·simp only[List.length_cons,val];rw[Nat.pow_succ,Nat.mul_comm (1000000000^us.length) 1000000000,Nat.mul_assoc];rw[hmul]at hte;omega
  ·obtain⟨r,c',b',h1,h2,h3,h4,h5,h6⟩:=subF_nat hby (us:=us) (vs:=vs.tail) (c:=q) (b:=0) hu hvt hlt (by omega) (by omega);refine⟨(x-(m+b))::r,c',b',?_,Limbs.cons (by omega) h2,by simp[h3],h4,h5,?_⟩
   ·rw[ints_cons,ints_cons];simp only[subF];rw[ht,tmodN',tdivN',←hq,←hm,u64w (n:=(x:Int)),u64w (n:=(m:Int)+(b:Int)),u64w (n:=(q:Int))];rw[decide_eq_false (show ¬(x:Int)<(m:Int)+(b:Int)by omega)];simp only;rw[htail];have h1':subF (by_:Int) (ints us) (ints vs.tail) (q:Int) 0=(ints r,(c':Int),(b':Int)):=h1;rw[h1',u64w,u32w];congr 2;omega
   ·simp only[List.length_cons,val];rw[Nat.pow_succ,Nat.mul_comm (1000000000^us.length) 1000000000,Nat.mul_assoc];rw[hmul]at hte;omega
theorem resF_nat:∀{us vs:List Nat} {c:Nat},Limbs us→Limbs vs→vs.length≤us.length→c≤1→
 ∃(r:List Nat) (c':Nat),resF (ints us) (ints vs) (c:Int)=ints r∧Limbs r∧r.length=us.length∧c'≤1∧val us+val vs+c=val r+1000000000^us.length*c'
 |[],vs,c,_,_,hl,hc=>by have:vs=[]:=List.eq_nil_of_length_eq_zero (by simpa using hl);subst this;exact⟨[],c,rfl,Limbs.nil,rfl,hc,by simp[val]⟩
 |x::us,vs,c,hu,hv,hl,hc=>by
  obtain⟨hx,hu⟩:=hu.of_cons;have hvt:Limbs vs.tail:=fun y hy=>hv y (List.mem_of_mem_tail hy)
  have hlt:vs.tail.length≤us.length:=by rw[List.length_tail];simp at hl;omega
  have htail:(ints vs).tail=ints vs.tail:=by cases vs<;>rfl
  obtain⟨t,ht,htb,hte⟩:∃t:Nat,resT (x:Int) (c:Int) (ints vs)=(t:Int)∧t≤1999999999∧t+1000000000*val vs.tail=x+c+val vs:=by
   cases vs with
   |nil=>refine⟨x+c,?_,by omega,by simp[val]⟩;simp only[resT,ints,List.map_nil];rw[u32w];omega
   |cons y vs=>obtain⟨h1,h2⟩:=hv.of_cons;refine⟨x+c+y,?_,by omega,by simp only[List.tail_cons,val];omega⟩;simp only[resT,ints_cons];rw[u32w (n:=(x:Int)+(c:Int)),u32w];omega
  by_cases h:1000000000≤t
  ·obtain⟨r,c',h1,h2,h3,h4,h5⟩:=resF_nat (us:=us) (vs:=vs.tail) (c:=1) hu hvt hlt (by omega);refine⟨(t-1000000000)::r,c',?_,Limbs.cons (by omega) h2,by simp[h3],h4,?_⟩
   ·rw[ints_cons,ints_cons];simp only[resF];rw[ht,decide_eq_true (show(1000000000:Int)≤(t:Int)by omega)];simp only;rw[htail];have h1':resF (ints us) (ints vs.tail) 1=ints r:=h1;rw[h1',u32w];congr 1;omega
   ·simp only[List.length_cons,val];rw[Nat.pow_succ,Nat.mul_comm (1000000000^us.length) 1000000000,Nat.mul_assoc];omega
  ·obtain⟨r,c',h1,h2,h3,h4,h5⟩:=resF_nat (us:=us) (vs:=vs.tail) (c:=0) hu hvt hlt (by omega);refine⟨t::r,c',?_,Limbs.cons (by omega) h2,by simp[h3],h4,?_⟩
   ·rw[ints_cons,ints_cons];simp only[resF];rw[ht,decide_eq_false (show ¬(1000000000:Int)≤(t:Int)by omega)];simp only;rw[htail];have h1':resF (ints us) (ints vs.tail) 0=ints r:=h1;rw[h1']
   ·simp only[List.length_cons,val];rw[Nat.pow_succ,Nat.mul_comm (1000000000^us.length) 1000000000,Nat.mul_assoc];omega
end Eng
end

section
namespace Eng
open Go
theorem guess_up {P V1 vl V U3 ul U g:Nat} (hV:V=V1*P+vl) (hU:U=U3*P+ul) (hvl:vl<P) (hg:g*V1≤U3) (hgB:g≤1000000000) (hBV:1000000000*P≤V):g*V≤U+V:=by
 have h1:g*V1*P≤U3*P:=Nat.mul_le_mul_right P hg;have h2:g*vl≤1000000000*P:=Nat.mul_le_mul hgB (by omega);have h3:g*V=g*V1*P+g*vl:=by rw[hV,Nat.mul_add,Nat.mul_assoc]
 omega
theorem guess_dn {P V1 vl V U3 ul U g:Nat} (hV:V=V1*P+vl) (hU:U=U3*P+ul) (hul:ul<P) (hg:U3<g*V1):U<g*V:=by
 have h1:(U3+1)*P≤g*V1*P:=Nat.mul_le_mul_right P hg;have h3:g*V=g*V1*P+g*vl:=by rw[hV,Nat.mul_add,Nat.mul_assoc]
 rw[Nat.add_mul,Nat.one_mul]at h1;omega
theorem digit_sub {U V g qd L r s:Nat} (hq1:qd*V≤U) (hgq:qd≤g) (_hUL:U<L) (_hrL:r<L) (he:U+L*s=r+g*V) (hs:s=0) (hlt:U<(qd+1)*V):g=qd∧r=U-qd*V:=by
 subst hs;have h1:¬qd+1≤g:=fun h=>by have:=Nat.mul_le_mul_right V h;omega
 have:g=qd:=by omega
 subst this;omega
theorem digit_res {U V g qd L r s r' c:Nat} (hq1:qd*V≤U) (hg:g*V≤U+V) (_hUL:U<L) (hrL:r<L) (hVL:V≤L) (he:U+L*s=r+g*V) (hs:s≠0) (hr':r'<L) (hc:c≤1) (he2:r+V=r'+L*c) (hlt:U<(qd+1)*V) (hgq:qd≤g):g=qd+1∧r'=U-qd*V:=by
 have hL:L≤L*s:=Nat.le_mul_of_pos_right L (by omega);have h1:qd+1≤g:=by apply Nat.lt_of_not_le;intro h;have:=Nat.mul_le_mul_right V h;omega
 have h2:g≤qd+1:=by
  apply Nat.le_of_lt_succ;apply Nat.lt_of_not_le;intro h;have h3:(qd+2)*V≤g*V:=Nat.mul_le_mul_right V h;have h4:(qd+2)*V=(qd+1)*V+V:=by rw[show qd+2=(qd+1)+1 from rfl,Nat.add_mul,Nat.one_mul]
  omega
 have:g=qd+1:=by omega
 subst this;refine⟨rfl,?_⟩;have h5:(qd+1)*V=qd*V+V:=by rw[Nat.add_mul,Nat.one_mul]
 have hs1:s=1:=by
  have:s<2:=by apply Nat.lt_of_not_le;intro h;have:=Nat.mul_le_mul_left L h;omega
  omega
 subst hs1;have hc1:c=1:=by
  rcases Nat.lt_or_ge c 1 with h|h
  ·have:c=0:=by omega
   subst this;omega
  ·omega
 subst hc1;omega
theorem scale_half {b s:Nat} (hb:0<b) (hb2:b<1000000000) (hs:s=1000000000/(b+1)):500000000≤b*s∧1≤s∧s*(b+1)≤1000000000:=by
 have h1:=Nat.div_mul_le_self 1000000000 (b+1);have h2:=Nat.lt_div_mul_add (a:=1000000000) (b:=b+1) (by omega);rw[←hs]at h1 h2;have h3:1≤s:=by
  apply Nat.lt_of_not_le;intro h;have:s=0:=by omega
  subst this;omega
 obtain⟨b',rfl⟩:∃b',b=b'+1:=⟨b-1,by omega⟩;obtain⟨s',rfl⟩:∃s',s=s'+1:=⟨s-1,by omega⟩;have h4:(b'+1)*(s'+1)=b'*s'+b'+s'+1:=by rw[Nat.add_mul,Nat.mul_add];omega
 have h5:(s'+1)*(b'+1+1)=b'*s'+b'+s'+1+(s'+1):=by rw[Nat.mul_add,Nat.mul_comm (s'+1) (b'+1),h4];omega
 omega
end Eng
end

section
namespace Eng
open Go
theorem mlt {a b c:Nat} (h:a<b) (hc:0<c):a*c<b*c:=Nat.mul_lt_mul_of_pos_right h hc
theorem val2 {v:List Nat} {p:Nat}:val (v.take (p+2))=(v.getD (p+1) 0*1000000000+v.getD p 0)*1000000000^p+val (v.take p):=by
 rw[val_take_succ v (p+1),val_take_succ v p,Nat.pow_succ]
 grind
theorem val3 {u:List Nat} {p:Nat}:val (u.take (p+3))=((u.getD (p+2) 0*1000000000+u.getD (p+1) 0)*1000000000+u.getD p 0)*1000000000^p+val (u.take p):=by
 rw[val_take_succ u (p+2),val_take_succ u (p+1),val_take_succ u p,Nat.pow_succ,Nat.pow_succ]
 grind
theorem limbs_set' {o:List Nat} (h:Limbs o) {j d:Nat} (hd:d<1000000000):Limbs (o.set j d):=fun y hy=>by
 rcases List.mem_or_eq_of_mem_set hy with hy|rfl
 ·exact h y hy
 ·exact hd
structure DInv (n m V U0 kk:Nat) (ul ql:List Nat):Prop where
 hk:kk≤m
 lu:ul.length=n+m
 lq:ql.length=m
 Lu:Limbs ul
 Lq:Limbs ql
 hlt:val ul<V*1000000000^kk
 heq:U0=val (ql.drop kk)*(V*1000000000^kk)+val ul
theorem round_num {V' V X B W lo md h qv:Nat} (hW:W=V'*B) (hV:V<V') (hlo:lo<X) (hlt:lo+X*(md+W*h)<V*(X*B)) (hV0:0<V):
 h=0∧md<V*B∧lo+X*(md%V)<V*X∧qv*(V*(X*B))+(lo+X*(md+W*h))=(md/V+B*qv)*(V*X)+(lo+X*(md%V)):=by
 have h0:h=0:=by
  rcases Nat.eq_zero_or_pos h with h0|h0
  ·exact h0
  ·exfalso;have h1:W≤W*h:=Nat.le_mul_of_pos_right W h0;have h2:X*W≤X*(md+W*h):=Nat.mul_le_mul_left X (by omega);have h3:V*(X*B)=X*(V*B):=by grind
   have h4:X*(V*B)≤X*W:=Nat.mul_le_mul_left X (by rw[hW];exact Nat.mul_le_mul_right B (by omega));omega
 subst h0;rw[Nat.mul_zero,Nat.add_zero]at hlt ⊢;have h3:V*(X*B)=X*(V*B):=by grind
 have hm:md<V*B:=by apply Nat.lt_of_not_le;intro hle;have:=Nat.mul_le_mul_left X hle;omega
 have hmod:=Nat.mod_lt md hV0;have hdm:=Nat.div_add_mod md V;refine⟨rfl,hm,?_,?_⟩
 ·have:X*(md%V+1)≤X*V:=Nat.mul_le_mul_left X hmod;rw[Nat.mul_add,Nat.mul_one]at this;rw[Nat.mul_comm V X];omega
 ·have e1:(md/V+B*qv)*(V*X)=X*(V*(md/V))+qv*(V*(X*B)):=by grind
  have e2:X*md=X*(V*(md/V))+X*(md%V):=by rw[←Nat.mul_add,hdm]
  omega
theorem DInv.mid {n m V U0 k:Nat} {ul ql:List Nat} (h:DInv n m V U0 (k+1) ul ql) (hV:V<1000000000^n) (hV0:0<V):
 val ((ul.drop k).take (n+1))<V*1000000000∧∀r:List Nat,Limbs r→r.length=n+1→val r=val ((ul.drop k).take (n+1))%V→
  DInv n m V U0 k (ul.take k++r++ul.drop (k+(n+1))) (ql.set k (val ((ul.drop k).take (n+1))/V)):=by
 have hk:=h.hk;have lu:=h.lu;have lq:=h.lq;have e0:ul=ul.take k++((ul.drop k).take (n+1)++ul.drop (k+(n+1))):=by rw[←List.drop_drop,List.take_append_drop,List.take_append_drop]
 have l1:(ul.take k).length=k:=by rw[List.length_take];omega
 have l2:((ul.drop k).take (n+1)).length=n+1:=by rw[List.length_take,List.length_drop];omega
 have hv:val ul=val (ul.take k)+1000000000^k*(val ((ul.drop k).take (n+1))+1000000000^(n+1)*val (ul.drop (k+(n+1)))):=by
  conv=>lhs;rw[e0]
  rw[val_append,val_append,l1,l2]
 have hlo:=val_lt (h.Lu.take k);rw[l1]at hlo;have hlt:=h.hlt;have heq:=h.heq;rw[hv]at hlt heq;have hp:1000000000^(k+1)=1000000000^k*1000000000:=Nat.pow_succ ..;rw[hp]at hlt heq;obtain⟨a1,a2,a3,a4⟩:=round_num (V':=1000000000^n) (W:=1000000000^(n+1)) (B:=1000000000) (qv:=val (ql.drop (k+1))) (Nat.pow_succ ..) hV hlo hlt hV0;have hq:val ((ul.drop k).take (n+1))/V<1000000000:=by rw[Nat.div_lt_iff_lt_mul hV0,Nat.mul_comm];exact a2
 refine⟨a2,fun r Lr lr vr=>⟨by omega,?_,by rw[List.length_set];exact lq,?_,limbs_set' h.Lq hq,?_,?_⟩⟩
 ·rw[List.length_append,List.length_append,l1,lr,List.length_drop];omega
 ·exact((h.Lu.take k).append Lr).append (h.Lu.drop _)
 ·rw[val_append,val_append,l1,a1,vr,Nat.mul_zero,Nat.add_zero];exact a3
 ·have e5:(ql.set k (val ((ul.drop k).take (n+1))/V)).drop k=(val ((ul.drop k).take (n+1))/V)::ql.drop (k+1):=by rw[List.drop_set,if_neg (Nat.lt_irrefl k),Nat.sub_self,List.drop_eq_getElem_cons (show k<ql.length by omega),List.set_cons_zero]
  rw[e5,val_append,val_append,l1,a1,vr,Nat.mul_zero,Nat.add_zero,heq,a4];rfl
theorem guess_first {V P v1 t3 t2 md r0:Nat} (hV:V<(v1+1)*P) (hV2:v1*P≤V) (hv:500000000≤v1) (hmd:md=(t3*1000000000+t2)*P+r0) (hr0:r0<P) (ht2:t2<1000000000) (hlt:md<V*1000000000) (_hV0:0<V):
 md/V≤(t3*1000000000+t2)/v1∧(t3*1000000000+t2)/v1≤1000000001∧t3≤v1:=by
 have hP:0<P:=by omega
 have ht3:t3<v1+1:=by
  apply Nat.lt_of_not_le;intro h;have h1:(v1+1)*1000000000*P≤t3*1000000000*P:=Nat.mul_le_mul_right P (Nat.mul_le_mul_right _ h);have h2:t3*1000000000*P≤(t3*1000000000+t2)*P:=Nat.mul_le_mul_right P (by omega);have h3:(v1+1)*1000000000*P=(v1+1)*P*1000000000:=by grind
  have h4:V*1000000000<(v1+1)*P*1000000000:=mlt hV (Nat.zero_lt_of_ne_zero (by decide));omega
 refine⟨?_,?_,by omega⟩
 ·rw[Nat.le_div_iff_mul_le (by omega)];have h1:md/V*V≤md:=Nat.div_mul_le_self md V;have h2:md/V*(v1*P)≤md/V*V:=Nat.mul_le_mul_left _ hV2;have h3:md/V*(v1*P)=md/V*v1*P:=(Nat.mul_assoc ..).symm;apply Nat.le_of_lt_succ;apply Nat.lt_of_not_le;intro h;have h4:((t3*1000000000+t2)+1)*P≤md/V*v1*P:=Nat.mul_le_mul_right P h;rw[Nat.add_mul,Nat.one_mul]at h4;omega
 ·apply Nat.le_of_lt_succ;rw[Nat.div_lt_iff_lt_mul (by omega)];omega
theorem top_lt' {g v1 r t0 v2 B:Nat} (h:r*B+t0<g*v2):(g*v1+r)*B+t0<g*(v1*B+v2):=by
 rw[Nat.mul_add,←Nat.mul_assoc,Nat.add_mul];omega
theorem top_le' {g v1 r t0 v2 B:Nat} (h:g*v2≤r*B+t0):g*(v1*B+v2)≤(g*v1+r)*B+t0:=by
 rw[Nat.mul_add,←Nat.mul_assoc,Nat.add_mul];omega
theorem top_lt {g v1 r t0 v2:Nat} (h:r*1000000000+t0<g*v2):(g*v1+r)*1000000000+t0<g*(v1*1000000000+v2):=top_lt' h
theorem top_le {g v1 r t0 v2:Nat} (h:g*v2≤r*1000000000+t0):g*(v1*1000000000+v2)≤(g*v1+r)*1000000000+t0:=top_le' h
theorem guess_more {P v1 v2 vl V t0 ul U g r top:Nat} (hV:V=(v1*1000000000+v2)*P+vl) (hU:U=(top*1000000000+t0)*P+ul) (hul:ul<P) (htop:top=g*v1+r) (h:r*1000000000+t0<g*v2) (hV0:0<V):U/V<g:=by
 rw[Nat.div_lt_iff_lt_mul hV0];refine guess_dn (V1:=v1*1000000000+v2) (U3:=top*1000000000+t0) hV hU hul ?_;rw[htop];exact top_lt h
theorem guess_fits {P v1 v2 vl V t0 ul U g r top:Nat} (hV:V=(v1*1000000000+v2)*P+vl) (hU:U=(top*1000000000+t0)*P+ul) (hvl:vl<P) (htop:top=g*v1+r) (h:g*v2≤r*1000000000+t0) (hg:g≤1000000000) (hv1:1≤v1):g*V≤U+V:=by
 refine guess_up (V1:=v1*1000000000+v2) (U3:=top*1000000000+t0) hV hU hvl ?_ hg ?_
 ·rw[htop];exact top_le h
 ·rw[hV];have:1000000000*P≤(v1*1000000000+v2)*P:=Nat.mul_le_mul_right P (by omega);exact Nat.le_trans this (Nat.le_add_right _ _)
theorem sub_round {us vs:List Nat} {V g:Nat} (hu:Limbs us) (hv:Limbs vs) (hl:vs.length≤us.length) (hV:val vs=V) (hV0:0<V) (hVu:V≤1000000000^us.length) (hq:val us/V≤g) (hg:g≤1000000000) (hgV:g*V≤val us+V):
 ∃(r:List Nat) (c b:Nat),subF (g:Int) (ints us) (ints vs) 0 0=(ints r,(c:Int),(b:Int))∧Limbs r∧r.length=us.length∧
  ((c=0∧b=0∧g=val us/V∧val r=val us%V)∨((c≠0∨b≠0)∧g=val us/V+1∧∃r2:List Nat,resF (ints r) (ints vs) 0=ints r2∧Limbs r2∧r2.length=us.length∧val r2=val us%V)):=by
 obtain⟨r,c,b,h1,h2,h3,h4,h5,h6⟩:=subF_nat (by_:=g) hg (us:=us) (vs:=vs) (c:=0) (b:=0) hu hv hl (by omega) (by omega);have hr:=val_lt h2;have hus:=val_lt hu;rw[h3]at hr;have hd:=Nat.div_add_mod (val us) V;have hm:=Nat.mod_lt (val us) hV0;have hlt:val us<(val us/V+1)*V:=by rw[Nat.add_mul,Nat.one_mul,Nat.mul_comm];omega
 have hq1:val us/V*V≤val us:=Nat.div_mul_le_self _ _;have he:val us-val us/V*V=val us%V:=by rw[Nat.mul_comm];omega
 refine⟨r,c,b,h1,h2,h3,?_⟩;rw[hV]at h6;by_cases hs:c+b=0
 ·obtain⟨e1,e2⟩:=digit_sub (V:=V) (g:=g) (s:=c+b) hq1 hq hus hr (by omega) hs hlt;exact .inl ⟨by omega,by omega,e1,by rw[e2,he]⟩
 ·obtain⟨r2,c2,g1,g2,g3,g4,g5⟩:=resF_nat (us:=r) (vs:=vs) (c:=0) h2 hv (by omega) (by omega);have hr2:=val_lt g2;rw[g3,h3]at hr2;rw[h3,hV]at g5;obtain⟨e1,e2⟩:=digit_res (V:=V) (g:=g) (s:=c+b) (r':=val r2) (c:=c2) hq1 hgV hus hr hVu (by omega) hs hr2 g4 (by omega) hlt hq;exact .inr ⟨by omega,e1,r2,g1,g2,by omega,by rw[e2,he]⟩
end Eng
end

section
namespace Eng
open Go Go.Proofs
set_option maxRecDepth 100000
variable [Env]
omit [Env] in
theorem intsD_raw (l:List Nat):intsD (raw l)=ints l:=by simp[intsD,raw,ints,intD]
omit [Env] in
theorem ofInts_ints (l:List Nat):ofInts (ints l)=raw l:=by simp[ofInts,raw,ints]
omit [Env] in
theorem intsB_raw:∀(l:List Nat),intsB (raw l)=true
 |[]=>rfl
 |x::l=>by have:=intsB_raw l;simp only[raw,List.map_cons,intsB]at this ⊢;rw[this];rfl
omit [Env] in
theorem raw_ne {l:List Nat} (h:l≠[]):raw l≠[]:=by
 intro e;apply h;exact List.map_eq_nil_iff.1 e
def I0v (n m V U0:Nat):List D→List D→Prop:=fun _ ds=>∃(kk:Nat) (ul ql:List Nat),ds=[.sl (raw ul),.sl (raw ql),.int .i64 ((kk:Int)-1)]∧DInv n m V U0 kk ul ql
def M0v:List D→Nat:=fun ds=>(toI (nth .undef ds 2)+1).toNat
def midV (es:List (List D)) (k n:Nat):Nat:=valD ((es.drop k).take (n+1))
def I1v (n v1 V:Nat):List D→List D→Prop:=fun gs ds=>∃(top k:Nat) (es:List (List D)) (g r:Nat),gs=[.int .u64 (top:Int),.int .i64 (k:Int),.sl es]∧ds=[.int .u64 (g:Int),.int .u64 (r:Int)]∧top=g*v1+r∧midV es k n/V≤g∧g≤1000000001∧r<1000000000
def M1v:List D→Nat:=fun ds=>(toI (nth .undef ds 0)).toNat
omit [Env] in
theorem midV_raw (ul:List Nat) (k n:Nat):midV (raw ul) k n=val ((ul.drop k).take (n+1)):=by
 unfold midV;rw[raw_drop,raw_take,valD_raw]
omit [Env] in
theorem after_ok {n m V U0 k g:Nat} {bl ul ql vl:List Nat} (hn:2≤n) (hb:bl.length=n) (hv:vl.length=n) (lv:Limbs vl) (vV:val vl=V) (hD:DInv n m V U0 (k+1) ul ql) (hm:n+m≤1000000) (hV0:0<V)
 (hq:val ((ul.drop k).take (n+1))/V≤g) (hg:g≤1000000000) (hgV:g*V≤val ((ul.drop k).take (n+1))+V):AfterV (I0v n m V U0) M0v (raw bl) (raw vl) (raw ul) (raw ql) (k:Int) (g:Int):=by
 have hk:=hD.hk;have lu:=hD.lu;have lq:=hD.lq;have hVn:V<1000000000^n:=by have:=val_lt lv;rw[hv,vV]at this;exact this
 obtain⟨hlt,hnext⟩:=hD.mid hVn hV0;have l1:(ul.take k).length=k:=by rw[List.length_take];omega
 have l2:((ul.drop k).take (n+1)).length=n+1:=by rw[List.length_take,List.length_drop];omega
 have Lm:Limbs ((ul.drop k).take (n+1)):=(hD.Lu.drop k).take _;have hdv:val ((ul.drop k).take (n+1))/V<1000000000:=by rw[Nat.div_lt_iff_lt_mul hV0,Nat.mul_comm];exact hlt
 obtain⟨r,c,b,hs,Lr,lr,hcase⟩:=sub_round (us:=(ul.drop k).take (n+1)) (vs:=vl) (V:=V) (g:=g) Lm lv (by omega) vV hV0
  (by rw[l2];exact Nat.le_trans (Nat.le_of_lt hVn) (Nat.pow_le_pow_right (by omega) (by omega))) hq hg hgV
 rw[l2]at lr;have hne:vl≠[]:=by intro e;rw[e]at hv;simp at hv;omega
 have w1:IntKind.wrap .i64 (IntKind.wrap .i64 ((k:Int)+(n:Int))+1)=((k+n+1:Nat):Int):=by rw[i64w (n:=(k:Int)+(n:Int)),i64w];omega
 have w2:IntKind.wrap .i64 ((k:Int)-1)=(k:Int)-1:=i64w;unfold AfterV;simp only[Int.ofNat_eq_natCast,raw_length,hb,w1,Int.toNat_natCast];rw[show k+n+1-k=n+1 by omega,raw_drop,raw_take,intsD_raw,intsD_raw,hs];simp only;rw[ofInts_ints];rw[raw_drop,raw_take,←raw_append,←raw_append];have l3:(ul.take k++r++ul.drop (k+(n+1))).length=n+m:=by rw[List.length_append,List.length_append,l1,lr,List.length_drop];omega
 refine⟨⟨by omega,by omega,by omega⟩,⟨⟨raw_ne hne,intsB_raw _,by rw[hv];omega⟩,by omega,by omega,intsB_raw _⟩,brb (fun h=>?_) (fun h=>?_)⟩
 ·have hcb:c≠0∨b≠0:=by rw[Bool.or_eq_true,decide_eq_true_eq,decide_eq_true_eq]at h;omega
  rcases hcase with⟨e1,e2,_,_⟩|⟨_,hg1,r2,h2,Lr2,lr2,vr2⟩
  ·omega
  rw[l2]at lr2;have e3:(ul.take k++r++ul.drop (k+(n+1))).take k=ul.take k:=by rw[List.append_assoc,List.take_append_of_le_length (by omega),List.take_take,Nat.min_self]
  have e4:((ul.take k++r++ul.drop (k+(n+1))).drop k).take (n+1)=r:=by rw[List.append_assoc,List.drop_append_of_le_length (by omega),List.drop_eq_nil_of_le (by omega),List.nil_append,List.take_append_of_le_length (by omega),List.take_of_length_le (by omega)]
  have e5:(ul.take k++r++ul.drop (k+(n+1))).drop (k+(n+1))=ul.drop (k+(n+1)):=by rw[List.drop_append_of_le_length (by simp[l1,lr])];rw[List.drop_eq_nil_of_le (by simp[l1,lr]),List.nil_append]
  rw[raw_drop,raw_take,intsD_raw,e4,h2,ofInts_ints,raw_take,e3,raw_drop,e5,←raw_append,←raw_append];have w3:IntKind.wrap .u32 (IntKind.wrap .u64 ((g:Int)-1))=((val ((ul.drop k).take (n+1))/V:Nat):Int):=by
   have hg1':1≤g:=by rw[hg1];exact Nat.le_add_left 1 _
   have hg2:g-1=val ((ul.drop k).take (n+1))/V:=by rw[hg1];exact Nat.add_sub_cancel ..
   rw[←hg2,u64w,u32w];omega
  rw[w3,upd_raw (by omega),raw_length,l3,w2];refine⟨⟨by omega,by omega,by omega⟩,⟨⟨raw_ne hne,intsB_raw _,by rw[hv];omega⟩,by omega,by omega,intsB_raw _⟩,⟨by omega,by omega⟩,by omega,⟨k,_,_,rfl,hnext r2 Lr2 lr2 vr2⟩,?_⟩;simp only[M0v,nth,toI];omega
 ·have hcb:c=0∧b=0:=by rw[Bool.or_eq_false_iff,decide_eq_false_iff_not,decide_eq_false_iff_not]at h;omega
  rcases hcase with⟨_,_,hg1,vr⟩|⟨e1,_⟩
  ·have w3:IntKind.wrap .u32 (g:Int)=((val ((ul.drop k).take (n+1))/V:Nat):Int):=by rw[u32w];omega
   rw[w3,upd_raw (by omega),w2];refine⟨⟨by omega,by omega⟩,by omega,⟨k,_,_,rfl,hnext r Lr lr vr⟩,?_⟩;simp only[M0v,nth,toI];omega
  ·omega
omit [Env] in
theorem chk_raw {a b:List Nat} (ha:Limbs a) (hb:Limbs b) (h1:a.length≤536870912) (h2:b.length≤536870912) (h3:0<a.length+b.length):timesChk [.c (.sl (raw a)),.c (.sl (raw b))]=true:=by
 simp only[timesChk,limbsD_raw ha,limbsD_raw hb,raw_length,Bool.true_and,Bool.and_eq_true,Nat.ble_eq,Nat.blt_eq];exact⟨h1,h2,h3⟩
omit [Env] in
theorem mk_raw (a b:List Nat):timesMk [.c (.sl (raw a)),.c (.sl (raw b))]=raw (pad (a.length+b.length) (val a*val b)):=by
 simp only[timesMk,raw_length,valD_raw]
omit [Env] in
theorem getD_mid {ul:List Nat} {k n i:Nat} (hi:i≤n):((ul.drop k).take (n+1)).getD i 0=ul.getD (k+i) 0:=by
 simp only[List.getD,List.getElem?_take,List.getElem?_drop];rw[if_pos (by omega)]
def annD (I0:List D→List D→Prop) (M0:List D→Nat) (I1:List D→List D→Prop) (M1:List D→Nat):Nat→Ann:=
 ann2 ⟨[.own 8 180 1,.own 10 181 1,.slot 11 (.int .i64 0)],[],I0,M0⟩ ⟨[.slot 13 (.int .u64 0),.slot 14 (.int .u64 0)],[.slot 12 (.int .u64 0),.slot 11 (.int .i64 0),.own 8 180 1],I1,M1⟩
theorem div_small {a b al:List Nat} {d:Nat} (ta:Gives CC 230 [.c (.sl (raw a))] [.c (.sl (raw al))]) (tb:Gives CC 230 [.c (.sl (raw b))] [.c (.sl (raw [d]))]) (lA:Limbs al) (ra:al.length≤100000) (hd0:0<d) (hd1:d<1000000000):
 Gives CC 300 [.c (.sl (raw a)),.c (.sl (raw b))] [.c (.sl (raw (pad al.length (val al/d)))),.c (.sl (raw [val al%d]))]:=by
 refine wpF_ok (anns:=annD (fun _ _=>True) (fun _=>0) (fun _ _=>True) (fun _=>0)) mixedT Tryz.func300 ?_;show wpF (CM timesChk timesMk) _ _ _ _ _;unfold annD;rw[vc_divide];refine⟨_,ta,_,tb,brb (fun _=>?_) (fun h=>?_)⟩
 ·exact⟨⟨by omega,by simp[raw],rfl⟩,_,cut_raw (l:=[d]) (i:=0) (by simp),_,_,up (ibyWord_ok lA hd0 hd1 (by omega)),rfl⟩
 ·simp[raw]at h
theorem div_less {a b al bl:List Nat} (ta:Gives CC 230 [.c (.sl (raw a))] [.c (.sl (raw al))]) (tb:Gives CC 230 [.c (.sl (raw b))] [.c (.sl (raw bl))]) (lA:Limbs al) (lB:Limbs bl) (ra:al.length≤100000) (rb:bl.length≤100000) (hn:2≤bl.length) (hlt:val al<val bl):
 Gives CC 300 [.c (.sl (raw a)),.c (.sl (raw b))] [.c (.sl (raw [])),.c (.sl (raw al))]:=by
 refine wpF_ok (anns:=annD (fun _ _=>True) (fun _=>0) (fun _ _=>True) (fun _=>0)) mixedT Tryz.func300 ?_;show wpF (CM timesChk timesMk) _ _ _ _ _;unfold annD;rw[vc_divide];refine⟨_,ta,_,tb,brb (fun h=>?_) (fun h=>?_)⟩
 ·rw[raw_length]at h;simp only[Int.ofNat_eq_natCast,beq_iff_eq]at h;omega
 ·refine⟨_,up (icompare_ok lA lB (by omega) (by omega)),brd (fun h2=>?_) (fun h2=>?_)⟩
  ·exact⟨⟨by rw[raw_length];unfold room;omega,lens_raw _⟩,rfl⟩
  ·rw[cmpN,if_pos hlt]at h2;omega
set_option maxHeartbeats 2000000 in
theorem div_great {a b al bl:List Nat} (ta:Gives CC 230 [.c (.sl (raw a))] [.c (.sl (raw al))]) (tb:Gives CC 230 [.c (.sl (raw b))] [.c (.sl (raw bl))]) (lA:Limbs al) (lB:Limbs bl) (ra:al.length≤100000) (rb:bl.length≤100000)
 (vA:val al=val a) (vB:val bl=val b) (zB:bl.getLast?≠some 0) {p:Nat} (hn:bl.length=p+2) (hle:val bl≤val al):
 ∃q r,Gives CC 300 [.c (.sl (raw a)),.c (.sl (raw b))] [.c (.sl (raw q)),.c (.sl (raw r))]∧Limbs q∧Limbs r∧val q=val a/val b∧val r=val a%val b∧q.length≤1073741824∧r.length≤1073741824:=by
 have hBn:bl≠[]:=by intro e;rw[e]at hn;simp at hn
 have hdl:p+1<bl.length:=by omega
 obtain⟨d,hdg⟩:∃d,bl[p+1]=d:=⟨_,rfl⟩;have hd0:0<d:=by
  rcases Nat.eq_zero_or_pos d with h0|h0
  ·exfalso;apply zB;rw[List.getLast?_eq_getElem?,hn,show p+2-1=p+1 by omega,List.getElem?_eq_getElem hdl,hdg,h0]
  ·exact h0
 have hd1:d<1000000000:=hdg▸lB.get hdl;obtain⟨s,hs⟩:∃s,s=1000000000/(d+1):=⟨_,rfl⟩;obtain⟨hs1,hs2,hs3⟩:=scale_half hd0 hd1 hs;have hsB:s<1000000000:=by have:s*2≤s*(d+1):=Nat.mul_le_mul_left _ (by omega);omega
 obtain⟨B,hB⟩:∃B,val b=B:=⟨_,rfl⟩;obtain⟨A,hA⟩:∃A,val a=A:=⟨_,rfl⟩;rw[hA]at vA ⊢;rw[hB]at vB ⊢;rw[vA,vB]at hle
 --the scaled divisor
 obtain⟨V,hV⟩:∃V,V=B*s:=⟨_,rfl⟩;have hdec:B=val (bl.take (p+1))+1000000000^(p+1)*d:=by rw[←vB,←hdg,←getD_get hdl,←val_take_succ,List.take_of_length_le (by omega)]
 have hlo:val (bl.take (p+1))<1000000000^(p+1):=by have:=val_lt (lB.take (p+1));rw[List.length_take,hn,Nat.min_eq_left (by omega)]at this;exact this
 obtain⟨P1,hP1⟩:∃P1,1000000000^(p+1)=P1:=⟨_,rfl⟩;have hP2:1000000000^(p+2)=P1*1000000000:=by rw[←hP1];exact Nat.pow_succ ..
 rw[hP1]at hdec hlo;have hP0:0<P1:=by rw[←hP1];exact Nat.pow_pos (by omega)
 have hVlt:V<P1*1000000000:=by
  have h1:B<P1*(d+1):=by rw[Nat.mul_add,Nat.mul_one];omega
  have h2:B*s<P1*(d+1)*s:=Nat.mul_lt_mul_of_pos_right h1 (by omega);have h3:P1*(d+1)*s=P1*(s*(d+1)):=by rw[Nat.mul_assoc,Nat.mul_comm (d+1) s]
  have h4:P1*(s*(d+1))≤P1*1000000000:=Nat.mul_le_mul_left _ hs3;omega
 have hVge:500000000*P1≤V:=by
  have h1:P1*d*s≤B*s:=Nat.mul_le_mul_right s (by omega);have h2:P1*d*s=d*s*P1:=by rw[Nat.mul_assoc,Nat.mul_comm]
  have h3:500000000*P1≤d*s*P1:=Nat.mul_le_mul_right P1 hs1;omega
 have hV0:0<V:=by omega
 obtain⟨vl,hvl⟩:∃vl,lim V=vl:=⟨_,rfl⟩;have Lv:Limbs vl:=hvl▸lim_limbs _;have vV:val vl=V:=hvl▸lim_val _;have lv:vl.length=p+2:=by have h1:(lim V).length≤p+2:=lim_length_le (by rw[hP2];exact hVlt);have h2:p+1<(lim V).length:=lim_length_of_le (by rw[hP1];omega);rw[hvl]at h1 h2;omega
 obtain⟨v1,hv1⟩:∃v1,vl[p+1]=v1:=⟨_,rfl⟩;obtain⟨v2,hv2⟩:∃v2,vl[p]=v2:=⟨_,rfl⟩;have hv1B:v1<1000000000:=hv1▸Lv.get _;have hv2B:v2<1000000000:=hv2▸Lv.get _;have hVd:=val2 (v:=vl) (p:=p);rw[List.take_of_length_le (by omega),getD_get (by omega),getD_get (by omega),hv1,hv2,vV]at hVd;have hvlo:val (vl.take p)<1000000000^p:=by have:=val_lt (Lv.take p);rw[List.length_take,lv,Nat.min_eq_left (by omega)]at this;exact this
 have hVd1:V=val (vl.take (p+1))+P1*v1:=by rw[←hP1,←hv1,←getD_get,←val_take_succ,List.take_of_length_le (by omega),vV]
 have hvlo1:val (vl.take (p+1))<P1:=by have:=val_lt (Lv.take (p+1));rw[List.length_take,lv,Nat.min_eq_left (by omega),hP1]at this;exact this
 have hVa:V<(v1+1)*P1:=by rw[Nat.mul_comm,Nat.mul_add];omega
 have hVb:v1*P1≤V:=by rw[Nat.mul_comm];omega
 have hv1h:500000000≤v1:=by apply Nat.le_of_lt_succ;exact Nat.lt_of_mul_lt_mul_right (a:=P1) (Nat.lt_of_le_of_lt hVge hVa)
 --the scaled dividend
 have hal:p+2≤al.length:=by apply Nat.le_of_not_lt;intro h;have:=len_lt lA zB hBn (by omega);omega
 obtain⟨m,hm⟩:∃m,al.length=p+m:=⟨al.length-p,by omega⟩;have hAlt:A*s<1000000000^(al.length+1):=by have h1:=val_lt lA;rw[vA]at h1;have h2:A*s≤A*1000000000:=Nat.mul_le_mul_left _ (by omega);have h3:A*1000000000<1000000000^al.length*1000000000:=Nat.mul_lt_mul_of_pos_right h1 (by omega);rw[Nat.pow_succ];omega
 obtain⟨ul0,hul0⟩:∃ul0,pad (al.length+1) (A*s)++[0]=ul0:=⟨_,rfl⟩;have lul0:ul0.length=al.length+2:=by rw[←hul0];simp[pad_length]
 have hinit:DInv (p+2) m V (A*s) m ul0 (List.replicate m 0):=by
  have hvu:val ul0=A*s:=by rw[←hul0,val_append,pad_val,Nat.mod_eq_of_lt hAlt,show val [0]=0 from rfl,Nat.mul_zero,Nat.add_zero]
  refine⟨Nat.le_refl _,by omega,List.length_replicate,?_,?_,?_,?_⟩
  ·rw[←hul0];exact(pad_limbs _ _).append (Limbs.cons (by omega) Limbs.nil)
  ·intro x hx;rw[List.eq_of_mem_replicate hx];omega
  ·rw[hvu];have h1:P1*1000000000^m≤V*1000000000^m:=Nat.mul_le_mul_right _ (by omega);have h2:P1*1000000000^m=1000000000^(al.length+1):=by rw[←hP1,←Nat.pow_add,show p+1+m=al.length+1 by omega]
   omega
  ·rw[List.drop_eq_nil_of_le (by simp),hvu];simp[val]
 have hsc:IntKind.wrap .u32 (IntKind.wrap .u64 (Int.tdiv 1000000000 (IntKind.wrap .u64 (IntKind.wrap .u64 (d:Int)+1))))=(s:Int):=by
  have e:Int.tdiv 1000000000 ((d:Int)+1)=(s:Int):=by rw[hs,Int.tdiv_eq_ediv_of_nonneg (by omega),Int.natCast_ediv];have e2:((d+1:Nat):Int)=(d:Int)+1:=Int.natCast_add d 1;rw[e2];exact congrArg (· /((d:Int)+1)) (show(1000000000:Int)=((1000000000:Nat):Int)from rfl)
  rw[u64w (n:=(d:Int)),u64w (n:=(d:Int)+1),e,u64w,u32w]
 have mkA:timesMk [.c (.sl (raw al)),.c (.sl [[.int .u32 (s:Int)]])]=raw (pad (al.length+1) (A*s)):=(mk_raw al [s]).trans (by rw[vA];simp[val]);have mkB:timesMk [.c (.sl (raw bl)),.c (.sl [[.int .u32 (s:Int)]])]=raw (pad (p+3) V):=(mk_raw bl [s]).trans (by rw[vB,hV,hn];simp[val]);have Ls:Limbs [s]:=Limbs.cons hsB Limbs.nil;have chkA:timesChk [.c (.sl (raw al)),.c (.sl [[.int .u32 (s:Int)]])]=true:=chk_raw lA Ls (by omega) (by simp) (by simp);have chkB:timesChk [.c (.sl (raw bl)),.c (.sl [[.int .u32 (s:Int)]])]=true:=chk_raw lB Ls (by omega) (by simp) (by simp);have tv:Gives CC 230 [.c (.sl (raw (pad (p+3) V)))] [.c (.sl (raw vl))]:=by have:=up (itrim_ok (pad_limbs (p+3) V) (by rw[pad_length];omega));rw[pad_val,Nat.mod_eq_of_lt (show V<1000000000^(p+3)from Nat.lt_of_lt_of_le hVlt (by rw[←hP2];exact Nat.pow_le_pow_right (by omega) (by omega))),hvl]at this;exact this
 have eU:raw (pad (al.length+1) (A*s))++[[D.int .u32 (0:Int)]]=raw ul0:=by rw[←hul0,raw_append];rfl
 have hdiv:A*s/V=A/B:=by rw[hV];exact Nat.mul_div_mul_right _ _ (by omega)
 have hmod:A*s%V=A%B*s:=by rw[hV];exact Nat.mul_mod_mul_right _ _ _
 refine⟨pad m (A/B),pad (lim (A%B*s)).length (A%B),wpF_ok (anns:=annD (I0v (p+2) m V (A*s)) M0v (I1v (p+2) v1 V) M1v) mixedT Tryz.func300 ?_,pad_limbs _ _,pad_limbs _ _,?_,?_,by rw[pad_length];omega,?_⟩
 ·show wpF (CM timesChk timesMk) _ _ _ _ _;unfold annD;rw[vc_divide];refine⟨_,ta,_,tb,?_⟩;have wn1:IntKind.wrap .i64 (((p+2:Nat):Int)-1)=((p+1:Nat):Int):=by rw[i64w];omega
  have wn2:IntKind.wrap .i64 (((p+2:Nat):Int)-2)=(p:Int):=by rw[i64w];omega
  simp only[Int.ofNat_eq_natCast,raw_length,hn,wn1,wn2,Int.toNat_natCast];refine brb (fun h=>?_) (fun _=>⟨_,up (icompare_ok lA lB (by omega) (by omega)),brd (fun h2=>?_) (fun _=>?_)⟩)
  ·simp only[beq_iff_eq]at h;omega
  ·rw[cmpN,vA,vB,if_neg (by omega)]at h2;split at h2<;>omega
  refine⟨⟨by omega,by omega,raw_len1 hdl⟩,_,cut_raw hdl,?_⟩;rw[hdg];simp only[hsc,mkA,mkB,eU,raw_length,lul0];have wm:IntKind.wrap .i64 (((al.length+2:Nat):Int)-((p+2:Nat):Int))=(m:Int):=by rw[i64w];omega
  have wm1:IntKind.wrap .i64 ((m:Int)-1)=(m:Int)-1:=i64w;simp only[wm,wm1,Int.toNat_natCast,pad_length];refine⟨?_,chkA,⟨by unfold room;omega,lens_raw [0]⟩,chkB,_,tv,⟨by omega,by omega,by unfold room;omega⟩,⟨m,ul0,List.replicate m 0,by rw[raw_replicate],hinit⟩,?_⟩
  ·rw[u64w (n:=(d:Int)),u64w];omega
  rintro es_3 es_4 n_1 ⟨kk,ul,ql,he,hD⟩;simp only[List.cons.injEq,D.sl.injEq,D.int.injEq,true_and,and_true]at he;obtain⟨rfl,rfl,rfl⟩:=he;have hlu:=hD.lu;have hkm:=hD.hk;refine brd (fun h=>?_) (fun h=>?_)
  ·obtain⟨k,rfl⟩:∃k,kk=k+1:=⟨kk-1,by omega⟩;rw[show((k+1:Nat):Int)-1=(k:Int)by omega];have W0:IntKind.wrap .i64 ((k:Int)+((p+2:Nat):Int))=((k+p+2:Nat):Int):=by rw[i64w];omega
   have W1:IntKind.wrap .i64 (((k+p+2:Nat):Int)-1)=((k+p+1:Nat):Int):=by rw[i64w];omega
   have W2:IntKind.wrap .i64 (((k+p+2:Nat):Int)-2)=((k+p:Nat):Int):=by rw[i64w];omega
   simp only[W0,W1,W2,Int.toNat_natCast,raw_length,hlu,lv];have hVn:V<1000000000^(p+2):=by rw[hP2];exact hVlt
   obtain⟨hUlt,_⟩:=hD.mid hVn hV0;have hlm:((ul.drop k).take (p+2+1)).length=p+3:=by rw[List.length_take,List.length_drop];omega
   have Lm:Limbs ((ul.drop k).take (p+2+1)):=(hD.Lu.drop k).take _;obtain⟨t3,ht3⟩:∃t,ul[k+p+2]=t:=⟨_,rfl⟩;obtain⟨t2,ht2⟩:∃t,ul[k+p+1]=t:=⟨_,rfl⟩;obtain⟨t0,ht0⟩:∃t,ul[k+p]=t:=⟨_,rfl⟩;have ht3B:t3<1000000000:=ht3▸hD.Lu.get _;have ht2B:t2<1000000000:=ht2▸hD.Lu.get _;have ht0B:t0<1000000000:=ht0▸hD.Lu.get _;obtain⟨U,hU⟩:∃U,val ((ul.drop k).take (p+2+1))=U:=⟨_,rfl⟩;rw[hU]at hUlt;have hUd:=val3 (u:=(ul.drop k).take (p+2+1)) (p:=p);rw[List.take_of_length_le (by omega),getD_mid (by omega),getD_mid (by omega),getD_mid (by omega),getD_get (by omega),getD_get (by omega),getD_get (by omega)]at hUd;simp only[←Nat.add_assoc,ht3,ht2,ht0]at hUd;rw[hU]at hUd;have hUlo:val (((ul.drop k).take (p+2+1)).take p)<1000000000^p:=by have:=val_lt (Lm.take p);rw[List.length_take,hlm,Nat.min_eq_left (by omega)]at this;exact this
   obtain⟨top,htop⟩:∃top,t3*1000000000+t2=top:=⟨_,rfl⟩;have hUd1:U=(t3*1000000000+t2)*P1+(t0*1000000000^p+val (((ul.drop k).take (p+2+1)).take p)):=by rw[hUd,←hP1,Nat.pow_succ];grind
   have hUlo1:t0*1000000000^p+val (((ul.drop k).take (p+2+1)).take p)<P1:=by have:(t0+1)*1000000000^p≤1000000000*1000000000^p:=Nat.mul_le_mul_right _ (by omega);rw[Nat.add_mul,Nat.one_mul]at this;rw[←hP1,Nat.pow_succ];omega
   obtain⟨hg1,hg2,hg3⟩:=guess_first hVa hVb hv1h hUd1 hUlo1 ht2B hUlt hV0;rw[htop]at hg1 hg2 hUd;have wtop:IntKind.wrap .u64 (IntKind.wrap .u64 (IntKind.wrap .u64 (t3:Int)*1000000000)+IntKind.wrap .u64 (t2:Int))=(top:Int):=by rw[u64w (n:=(t3:Int)),u64w (n:=(t3:Int)*1000000000),u64w (n:=(t2:Int)),u64w];omega
   have wv1:IntKind.wrap .u64 (v1:Int)=(v1:Int):=u64w;have wv2:IntKind.wrap .u64 (v2:Int)=(v2:Int):=u64w;have wt0:IntKind.wrap .u64 (t0:Int)=(t0:Int):=u64w;have hdm:=Nat.div_add_mod top v1;have hml:=Nat.mod_lt top (show 0<v1 by omega);have wdiv0:Int.tdiv (top:Int) (v1:Int)=((top/v1:Nat):Int):=by rw[Int.tdiv_eq_ediv_of_nonneg (by omega)];rfl
   have wmod:Int.tmod (top:Int) (v1:Int)=((top%v1:Nat):Int):=by rw[Int.tmod_eq_emod_of_nonneg (by omega)];rfl
   obtain⟨g0,hg0⟩:∃g0,top/v1=g0:=⟨_,rfl⟩;obtain⟨r0,hr0⟩:∃r0,top%v1=r0:=⟨_,rfl⟩;rw[hg0]at hg1 hg2 hdm wdiv0;rw[hr0]at hdm hml wmod;have wdiv:IntKind.wrap .u64 (Int.tdiv (top:Int) (v1:Int))=(g0:Int):=by rw[wdiv0,u64w]
   have hmv:midV (raw ul) k (p+2)=U:=by rw[midV_raw,hU]
   refine⟨⟨by omega,by omega⟩,_,cut_raw (by omega),⟨by omega,by omega⟩,_,cut_raw (by omega),⟨by omega,by omega,raw_len1 (by omega)⟩,_,cut_raw (by omega),?_⟩;rw[ht3,ht2,hv1];refine⟨by rw[wv1];omega,⟨by omega,by omega,raw_len1 (by omega)⟩,_,cut_raw (by omega),?_⟩;rw[hv1,wtop,wv1,wdiv,wmod];refine⟨by omega,⟨top,k,raw ul,g0,r0,rfl,rfl,by rw[Nat.mul_comm];omega,by rw[hmv];exact hg1,hg2,by omega⟩,?_⟩;rintro n_5 n_6 ⟨top',k',es',g,r,he1,he2,hgt,hqg,hgB,hrB⟩;simp only[List.cons.injEq,D.int.injEq,D.sl.injEq,true_and,and_true]at he1 he2;obtain⟨e1,e2,rfl⟩:=he1;obtain⟨rfl,rfl⟩:=he2;obtain rfl:top=top':=by omega
   obtain rfl:k=k':=by omega
   rw[hmv]at hqg;have haft:∀g' r',top=g'*v1+r'→U/V≤g'→g'≤1000000000→g'*v2≤r'*1000000000+t0→AfterV (I0v (p+2) m V (A*s)) M0v (raw bl) (raw vl) (raw ul) (raw ql) (k:Int) (g':Int):=fun g' r' h1 h2 h3 h4=>
    after_ok (by omega) hn lv Lv vV hD (by omega) hV0 (by rw[hU];exact h2) h3 (by rw[hU];exact guess_fits hVd hUd hvlo h1 h4 h3 (by omega))
   have hdn:U/V<g→br (toB (D.bool (decide (IntKind.wrap .u64 ((r:Int)+(v1:Int))≥1000000000))))
    (AfterV (I0v (p+2) m V (A*s)) M0v (raw bl) (raw vl) (raw ul) (raw ql) (k:Int) (IntKind.wrap .u64 ((g:Int)-1)))
    (I1v (p+2) v1 V [.int .u64 (top:Int),.int .i64 (k:Int),.sl (raw ul)] [.int .u64 (IntKind.wrap .u64 ((g:Int)-1)),.int .u64 (IntKind.wrap .u64 ((r:Int)+(v1:Int)))]∧
     M1v [.int .u64 (IntKind.wrap .u64 ((g:Int)-1)),.int .u64 (IntKind.wrap .u64 ((r:Int)+(v1:Int)))]<M1v [.int .u64 (g:Int),.int .u64 (r:Int)]):=by
    intro hlt;have hgp:1≤g:=Nat.lt_of_le_of_lt (Nat.zero_le _) hlt;have wg:IntKind.wrap .u64 ((g:Int)-1)=((g-1:Nat):Int):=by rw[u64w];omega
    have wr:IntKind.wrap .u64 ((r:Int)+(v1:Int))=((r+v1:Nat):Int):=by rw[u64w];omega
    have htp:top=(g-1)*v1+(r+v1):=by
     have:g*v1=(g-1)*v1+v1:=by
      conv=>lhs;rw[show g=(g-1)+1 by omega]
      rw[Nat.add_mul,Nat.one_mul]
     omega
    rw[wg,wr];refine brd (fun h3=>?_) (fun h3=>?_)
    ·refine haft (g-1) (r+v1) htp (Nat.le_sub_one_of_lt hlt) (by omega) ?_;have h5:(g-1)*v2≤1000000000*1000000000:=Nat.mul_le_mul (by omega) (by omega);have h6:1000000000*1000000000≤(r+v1)*1000000000:=Nat.mul_le_mul_right _ (by omega);omega
    ·exact⟨⟨top,k,raw ul,g-1,r+v1,rfl,rfl,htp,by rw[hmv];exact Nat.le_sub_one_of_lt hlt,by omega,by omega⟩,by simp only[M1v,nth,toI,Int.toNat_natCast];omega⟩
   have hqB:U/V<1000000000:=by rw[Nat.div_lt_iff_lt_mul hV0,Nat.mul_comm];exact hUlt
   refine brd (fun h3=>?_) (fun h3=>?_)
   ·refine⟨⟨by omega,by omega,raw_len1 (by omega)⟩,_,cut_raw (by omega),?_⟩;rw[hv1,wv1];exact hdn (by omega)
   ·refine⟨⟨by omega,by omega,raw_len1 (by omega)⟩,_,cut_raw (by omega),⟨by omega,by omega⟩,_,cut_raw (by omega),?_⟩;rw[hv2,ht0,wv2,wt0];have hgv:g*v2≤1000000000*1000000000:=Nat.mul_le_mul (by omega) (by omega);have wgv:IntKind.wrap .u64 ((g:Int)*(v2:Int))=((g*v2:Nat):Int):=by have e:(g:Int)*(v2:Int)=((g*v2:Nat):Int):=(Int.natCast_mul ..).symm;rw[e,u64w]
    have wrt:IntKind.wrap .u64 (IntKind.wrap .u64 ((r:Int)*1000000000)+(t0:Int))=((r*1000000000+t0:Nat):Int):=by rw[u64w (n:=(r:Int)*1000000000),u64w];omega
    rw[wgv,wrt];refine brd (fun h4=>?_) (fun h4=>?_)
    ·refine⟨⟨by omega,by omega,raw_len1 (by omega)⟩,_,cut_raw (by omega),?_⟩;rw[hv1,wv1];exact hdn (guess_more hVd hUd hUlo hgt (by omega) hV0)
    ·exact haft g r hgt hqg (by omega) (by omega)
  ·have hk0:kk=0:=by omega
   subst hk0;have hlt:=hD.hlt;have heq:=hD.heq;simp only[Nat.pow_zero,Nat.mul_one,List.drop_zero]at hlt heq;have hvu:val ul=A*s%V:=by rw[heq,Nat.mul_comm,Nat.mul_add_mod,Nat.mod_eq_of_lt hlt]
   have hvq:val ql=A/B:=by rw[←hdiv,heq,Nat.mul_comm,Nat.mul_add_div hV0,Nat.div_eq_of_lt hlt,Nat.add_zero]
   have htk:val (ul.take (p+2))=A%B*s:=by
    rw[←hmod,←hvu];have h1:val ul=val (ul.take (p+2))+1000000000^(p+2)*val (ul.drop (p+2)):=by
     conv=>lhs;rw[←List.take_append_drop (p+2) ul]
     rw[val_append,List.length_take,Nat.min_eq_left (by omega)]
    rcases Nat.eq_zero_or_pos (val (ul.drop (p+2)))with h0|h0
    ·rw[h0]at h1;omega
    ·exfalso;have h2:1000000000^(p+2)≤1000000000^(p+2)*val (ul.drop (p+2)):=Nat.le_mul_of_pos_right _ h0;rw[hP2]at h2 h1;omega
   have hlul:(lim (A%B*s)).length≤p+2:=by rw[←hmod];refine lim_length_le ?_;have:=Nat.mod_lt (A*s) hV0;rw[hP2];omega
   have g1:=up (itrim_ok (hD.Lu.take (p+2)) (by rw[List.length_take];omega));rw[htk]at g1;have g2:=up (ibyWord_ok (lim_limbs (A%B*s)) (d:=s) (by omega) hsB (by omega));rw[lim_val,Nat.mul_div_cancel _ (show 0<s by omega)]at g2;simp only[List.drop_zero,raw_take,raw_length,hlu];refine⟨⟨by omega,by omega,by omega,lens_raw _⟩,_,g1,_,_,g2,?_⟩;have:ql=pad m (A/B):=by refine val_inj hD.Lq (pad_limbs _ _) (by rw[pad_length];exact hD.lq) ?_;have h1:=val_lt hD.Lq;rw[hD.lq,hvq]at h1;rw[pad_val,Nat.mod_eq_of_lt h1,hvq]
   rw[this]
 ·rw[pad_val,Nat.mod_eq_of_lt];rw[←hdiv,Nat.div_lt_iff_lt_mul hV0];have h1:=hinit.hlt;have h2:=hinit.heq;rw[List.drop_eq_nil_of_le (by simp)]at h2;simp only[val,Nat.zero_mul,Nat.zero_add]at h2;rw[←h2]at h1;rw[Nat.mul_comm (1000000000^m)];exact h1
 ·rw[pad_val,Nat.mod_eq_of_lt];have h1:=val_lt (lim_limbs (A%B*s));rw[lim_val]at h1;have:A%B*1≤A%B*s:=Nat.mul_le_mul_left _ hs2;omega
 ·rw[pad_length,←hmod];have:(lim (A*s%V)).length≤p+2:=by refine lim_length_le ?_;have:=Nat.mod_lt (A*s) hV0;rw[hP2];omega
  omega
theorem divOk:DivOk:=by
 intro a b la lb hb0 ra rb;have ta:=up (itrim_ok la (by omega));have tb:=up (itrim_ok lb (by omega));have nA:(lim (val a)).length≤a.length:=lim_length_le (val_lt la);have nB:(lim (val b)).length≤b.length:=lim_length_le (val_lt lb);have hBn:lim (val b)≠[]:=by rw[ne_eq,lim_nil];exact hb0
 have hpos:0<(lim (val b)).length:=List.length_pos_iff.2 hBn;by_cases h1:(lim (val b)).length=1
 ·obtain⟨d,hd⟩:=List.length_eq_one_iff.1 h1;have hv:val b=d:=by rw[←lim_val (val b),hd];simp[val]
  rw[hd]at tb;have hd1:d<1000000000:=(lim_limbs (val b)) d (by rw[hd];simp);refine⟨_,_,div_small ta tb (lim_limbs _) (by omega) (by omega) hd1,pad_limbs _ _,Limbs.cons ?_ Limbs.nil,?_,?_,by rw[pad_length];omega,by simp⟩
  ·have:=Nat.mod_lt (val (lim (val a))) (show 0<d by omega);omega
  ·rw[pad_val,lim_val,hv,Nat.mod_eq_of_lt];have h2:=val_lt (lim_limbs (val a));rw[lim_val]at h2;exact Nat.lt_of_le_of_lt (Nat.div_le_self _ _) h2
  ·rw[lim_val,hv];simp[val]
 ·by_cases h2:val a<val b
  ·refine⟨_,_,div_less ta tb (lim_limbs _) (lim_limbs _) (by omega) (by omega) (by omega) (by rw[lim_val,lim_val];exact h2),Limbs.nil,lim_limbs _,?_,?_,by simp,by omega⟩
   ·rw[Nat.div_eq_of_lt h2];rfl
   ·rw[Nat.mod_eq_of_lt h2,lim_val]
  ·exact div_great (p:=(lim (val b)).length-2) ta tb (lim_limbs _) (lim_limbs _) (by omega) (by omega) (lim_val _) (lim_val _) ((lim_last _).resolve_left hBn) (by omega) (by rw[lim_val,lim_val];omega)
end Eng
end

section
namespace Eng
open Go Go.Proofs
set_option maxRecDepth 100000
variable [Env]
def tabL (_:Nat) (_:List A):Option (List A):=none
theorem tabL_ok (f:Nat) (al rs:List A) (h:tabL f al=some rs):Gives CC f al rs:=by simp[tabL]at h
def lastPos:List (List D)→Bool
 |[]=>true
 |[e]=>Nat.blt 0 (natD e)
 |_::r=>lastPos r
omit [Env] in
theorem lastPos_ok:∀{l:List Nat},lastPos (raw l)=true→l=[]∨l.getLast?≠some 0
 |[],_=> .inl rfl
 |[x],h=> .inr (by
  simp only[raw,List.map_cons,List.map_nil,lastPos,natD,Int.toNat_natCast]at h;rw[Nat.blt_eq]at h;simp;omega)
 |x::y::l,h=> .inr (by
  have h2:lastPos (raw (y::l))=true:=h;rcases lastPos_ok h2 with h3|h3
  ·simp at h3
  ·rw[List.getLast?_cons_cons];exact h3)
def decZ (b:Bool) (es:List (List D)):Int:=match b with|true=> -(valD es:Int)|false=>(valD es:Int)
def okZ (b:Bool) (es:List (List D)):Bool:=limbsD es&&(lastPos es&&(match es with|[]=>!b|_=>true))
omit [Env] in
theorem okZ_ok {b:Bool} {es:List (List D)} (h:okZ b es=true):cI (decZ b es)=[.bool b,.sl es]:=by
 unfold okZ at h;simp only[Bool.and_eq_true]at h;obtain⟨h1,h2,h3⟩:=h;obtain⟨e1,e2,e3⟩:=limbsD_ok h1;rw[e1]at h2;have hu:=lim_uniq e2 (lastPos_ok h2);rw[e3]at hu;have hn:(decZ b es).natAbs=valD es:=by
  unfold decZ;cases b
  ·simp
  ·simp
 have hb:decide (decZ b es<0)=b:=by
  cases b with
  |false=>unfold decZ;exact decide_eq_false (by simp)
  |true=>
   unfold decZ;refine decide_eq_true ?_;have:valD es≠0:=by
    intro h0;rw[h0]at hu;have h4:natsD es=[]:=by rw[←hu];rfl
    rw[h4]at e1;rw[e1]at h3;simp[raw]at h3
   show-(valD es:Int)<0;omega
 unfold cI;rw[hn,hb,hu,←e1]
def rdI:A→Option Int
 | .ag [.bool b,.sl es]=>match okZ b es with
  |true=>some (decZ b es)
  |false=>none
 |_=>none
omit [Env] in
theorem rdI_ok {a:A} {z:Int} (h:rdI a=some z):a=encI z:=by
 unfold rdI at h;split at h
 ·split at h
  ·rename_i hz;simp only[Option.some.injEq]at h;subst h;unfold encI;rw[okZ_ok hz]
  ·simp at h
 ·simp at h
def ratOf (n:Int) (d:Nat):Option Rat:=
 if hd:d≠0 then if h:Nat.gcd n.natAbs d=1 then some ⟨n,d,hd,h⟩else none else none
omit [Env] in
theorem ratOf_ok {n:Int} {d:Nat} {r:Rat} (h:ratOf n d=some r):r.num=n∧r.den=d:=by
 unfold ratOf at h;split at h
 ·split at h
  ·simp only[Option.some.injEq]at h;subst h;exact⟨rfl,rfl⟩
  ·simp at h
 ·simp at h
def hN:Nat:=(1000000000^100)^4
omit [Env] in
theorem hN_le:hN≤halfN:=by decide
def tN:Nat:=(1000000000^100)^10
omit [Env] in
theorem tN_le:tN≤topN:=by decide
def smallZ (z:Int):Bool:=Nat.blt z.natAbs hN
def rdR:A→Option Rat
 | .ag [.bool b,.sl es,.bool c,.sl fs]=>match okZ b es&&(okZ c fs&&(!c&&(smallZ (decZ b es)&&Nat.blt (valD fs) hN)))with
  |true=>ratOf (decZ b es) (valD fs)
  |false=>none
 |_=>none
omit [Env] in
theorem rdR_ok {a:A} {r:Rat} (h:rdR a=some r):a=encR r∧Sr r:=by
 unfold rdR at h;split at h
 ·rename_i b es c fs;split at h
  ·rename_i hz;simp only[Bool.and_eq_true,Bool.not_eq_true']at hz;obtain⟨h1,h2,rfl,h3,h4⟩:=hz;obtain⟨e1,e2⟩:=ratOf_ok h;have hd:decZ false fs=(r.den:Int):=by rw[e2];rfl
   refine⟨?_,?_,?_⟩
   ·unfold encR cR;rw[e1,okZ_ok h1,←hd,okZ_ok h2];rfl
   ·rw[e1];unfold smallZ at h3;rw[Nat.blt_eq]at h3;exact Nat.lt_of_lt_of_le h3 hN_le
   ·rw[Nat.blt_eq]at h4;show((r.den:Int)).natAbs<halfN;rw[Int.natAbs_natCast,e2];exact Nat.lt_of_lt_of_le h4 hN_le
  ·simp at h
 ·simp at h
def rd2I (al:List A):Option (Int×Int):=match al with
 |[a,b]=>match rdI a,rdI b with
  |some x,some y=>match Nat.blt x.natAbs tN&&Nat.blt y.natAbs tN with
   |true=>some (x,y)
   |false=>none
  |_,_=>none
 |_=>none
omit [Env] in
theorem rd2I_ok {al:List A} {x y:Int} (h:rd2I al=some (x,y)):al=[encI x,encI y]∧Sm x∧Sm y:=by
 unfold rd2I at h;split at h
 ·split at h
  ·rename_i x' y' h1 h2;split at h
   ·rename_i h3;simp only[Option.some.injEq,Prod.mk.injEq]at h;obtain⟨rfl,rfl⟩:=h;simp only[Bool.and_eq_true,Nat.blt_eq]at h3;rw[rdI_ok h1,rdI_ok h2];exact⟨rfl,Nat.lt_of_lt_of_le h3.1 tN_le,Nat.lt_of_lt_of_le h3.2 tN_le⟩
   ·simp at h
  ·simp at h
 ·simp at h
def rd2R (al:List A):Option (Rat×Rat):=match al with
 |[a,b]=>match rdR a,rdR b with
  |some x,some y=>some (x,y)
  |_,_=>none
 |_=>none
omit [Env] in
theorem rd2R_ok {al:List A} {x y:Rat} (h:rd2R al=some (x,y)):al=[encR x,encR y]∧Sr x∧Sr y:=by
 unfold rd2R at h;split at h
 ·split at h
  ·rename_i x' y' h1 h2;simp only[Option.some.injEq,Prod.mk.injEq]at h;obtain⟨rfl,rfl⟩:=h;rw[(rdR_ok h1).1,(rdR_ok h2).1];exact⟨rfl,(rdR_ok h1).2,(rdR_ok h2).2⟩
  ·simp at h
 ·simp at h
def ordZ (a b:Int):Int:=match decide (a<b)with|true=> -1|false=>match decide (b<a)with|true=>1|false=>0
omit [Env] in
theorem ordZ_eq (a b:Int):ordZ a b=cmpZ a b:=by
 unfold ordZ cmpZ;by_cases h:a<b
 ·rw[decide_eq_true h,if_pos h]
 ·rw[decide_eq_false h,if_neg h];by_cases h2:b<a
  ·rw[decide_eq_true h2,if_pos h2]
  ·rw[decide_eq_false h2,if_neg h2]
def quoR (n d:Int):A:= .ag (cI (n/(Nat.gcd n.natAbs d.natAbs:Nat))++cI (d/(Nat.gcd n.natAbs d.natAbs:Nat)))
def tabR (f:Nat) (al:List A):Option (List A):=
 match f with
 |88=>match rd2R al with|some (x,y)=>some [quoR (x.num*y.num) (x.den*y.den)]|none=>none
 |338=>match rd2R al with|some (x,y)=>some [quoR (x.num*y.den+y.num*x.den) (x.den*y.den)]|none=>none
 |337=>match rd2R al with|some (x,y)=>some [quoR (x.num*y.den+(-y.num)*x.den) (x.den*y.den)]|none=>none
 |51=>match rd2R al with|some (x,y)=>some [.c (.int .i64 (ordZ (x.num*y.den) (y.num*x.den)))]|none=>none
 |24=>match al with
  |[.c (.int .i64 n)]=>match decide (-9223372036854775808≤n)&&decide (n<9223372036854775808)with
   |true=>some [.ag (cI n++cI 1)]
   |false=>none
  |_=>none
 |99=>match rd2I al with|some (x,y)=>some [encI (x*y)]|none=>none
 |98=>match rd2I al with|some (x,y)=>some [.c (.int .i64 (ordZ x y))]|none=>none
 |377=>match rd2I al with|some (x,y)=>some [encI (x+y)]|none=>none
 |376=>match rd2I al with|some (x,y)=>some [encI (x-y)]|none=>none
 |223=>match rd2I al with|some (x,y)=>some [encI (Nat.gcd x.natAbs y.natAbs:Nat)]|none=>none
 |48=>match al with
  |[.c (.int .i64 n)]=>match decide (-9223372036854775808≤n)&&decide (n<9223372036854775808)with
   |true=>some [encI n]
   |false=>none
  |_=>none
 |_=>tabL f al
omit [Env] in
theorem quoR_ok {n d:Int} (hd:0<d):quoR n d=encR (Rat.divInt n d):=(encR_divInt hd).symm
theorem tabR_ok (f:Nat) (al rs:List A) (h:tabR f al=some rs):Gives CC f al rs:=by
 unfold tabR at h;split at h
 ·split at h
  ·rename_i x y h1;obtain⟨rfl,hx,hy⟩:=rd2R_ok h1;simp only[Option.some.injEq]at h;subst h;rw[quoR_ok (Int.mul_pos (den_pos x) (den_pos y))];have e:x*y=Rat.divInt (x.num*y.num) (x.den*y.den):=by rw[←Rat.divInt_mul_divInt,Rat.num_divInt_den,Rat.num_divInt_den]
   rw[←e];exact rMul_ok divOk hx hy
  ·simp at h
 ·split at h
  ·rename_i x y h1;obtain⟨rfl,hx,hy⟩:=rd2R_ok h1;simp only[Option.some.injEq]at h;subst h;have px:=den_pos x;have py:=den_pos y;rw[quoR_ok (Int.mul_pos px py)];have e:x+y=Rat.divInt (x.num*y.den+y.num*x.den) (x.den*y.den):=by rw[←Rat.divInt_add_divInt _ _ (by omega) (by omega),Rat.num_divInt_den,Rat.num_divInt_den]
   rw[←e];exact rAdd_ok divOk hx hy
  ·simp at h
 ·split at h
  ·rename_i x y h1;obtain⟨rfl,hx,hy⟩:=rd2R_ok h1;simp only[Option.some.injEq]at h;subst h;have px:=den_pos x;have py:=den_pos y;rw[quoR_ok (Int.mul_pos px py)];have e:x-y=Rat.divInt (x.num*y.den+(-y.num)*x.den) (x.den*y.den):=by
    rw[Rat.sub_eq_add_neg,←Rat.divInt_add_divInt _ _ (by omega) (by omega),Rat.num_divInt_den];have:Rat.divInt (-y.num) y.den= -y:=by rw[←Rat.neg_num];exact Rat.num_divInt_den (-y)
    rw[this]
   rw[←e];exact rSub_ok divOk hx hy
  ·simp at h
 ·split at h
  ·rename_i x y h1;obtain⟨rfl,hx,hy⟩:=rd2R_ok h1;simp only[Option.some.injEq]at h;subst h;rw[ordZ_eq,←cmpR_eq];exact rCmp_ok hx hy
  ·simp at h
 ·split at h
  ·split at h
   ·rename_i hb;simp only[Option.some.injEq]at h;subst h;simp only[Bool.and_eq_true,decide_eq_true_eq]at hb;have g:=rFromInt64_ok hb.1 hb.2;unfold encR cR at g;rw[Rat.num_intCast,Rat.den_intCast]at g;exact g
   ·simp at h
  ·simp at h
 ·split at h
  ·rename_i x y h1;obtain⟨rfl,hx,hy⟩:=rd2I_ok h1;simp only[Option.some.injEq]at h;subst h;exact up (iMul_ok hx hy)
  ·simp at h
 ·split at h
  ·rename_i x y h1;obtain⟨rfl,hx,hy⟩:=rd2I_ok h1;simp only[Option.some.injEq]at h;subst h;rw[ordZ_eq];exact up (iCmp_ok hx hy)
  ·simp at h
 ·split at h
  ·rename_i x y h1;obtain⟨rfl,hx,hy⟩:=rd2I_ok h1;simp only[Option.some.injEq]at h;subst h;exact up (iAdd_ok hx hy)
  ·simp at h
 ·split at h
  ·rename_i x y h1;obtain⟨rfl,hx,hy⟩:=rd2I_ok h1;simp only[Option.some.injEq]at h;subst h;exact up (iSub_ok hx hy)
  ·simp at h
 ·split at h
  ·rename_i x y h1;obtain⟨rfl,hx,hy⟩:=rd2I_ok h1;simp only[Option.some.injEq]at h;subst h;exact iGCD_ok divOk hx hy
  ·simp at h
 ·split at h
  ·split at h
   ·rename_i hb;simp only[Option.some.injEq]at h;subst h;simp only[Bool.and_eq_true,decide_eq_true_eq]at hb;exact up (iFromInt64_ok hb.1 hb.2)
   ·simp at h
  ·simp at h
 ·exact tabL_ok f al rs h
end Eng
end

section
namespace Eng
open Go Go.Proofs
variable [Env]
def eqL {α:Type} (e:α→α→Bool):List α→List α→Bool
 |[],[]=>true
 |a::xs,b::ys=>e a b&&eqL e xs ys
 |_,_=>false
omit [Env] in
theorem eqL_ok {α:Type} {e:α→α→Bool} (h:∀a b,e a b=true→a=b):∀{xs ys:List α},eqL e xs ys=true→xs=ys
 |[],[],_=>rfl
 |a::xs,b::ys,hh=>by simp only[eqL,Bool.and_eq_true]at hh;rw[h a b hh.1,eqL_ok h hh.2]
 |[],_::_,hh=>by simp[eqL]at hh
 |_::_,[],hh=>by simp[eqL]at hh
def eqB:UInt8→UInt8→Bool:=fun a b=>Nat.beq a.toNat b.toNat
def eqMn (a b:Int×List Nat):Bool:=decide (a.1=b.1)&&eqL Nat.beq a.2 b.2
omit [Env] in
theorem eqMn_ok (a b:Int×List Nat) (h:eqMn a b=true):a=b:=by
 unfold eqMn at h;rw[Bool.and_eq_true,decide_eq_true_eq]at h;exact Prod.ext h.1 (eqL_ok (fun a b hh=>Nat.eq_of_beq_eq_true hh) h.2)
def eqD:Nat→D→D→Bool
 |0,_,_=>false
 |_+1,.undef,.undef=>true
 |_+1,.bool a,.bool b=>a==b
 |_+1,.int k a,.int k' b=>decide (k=k')&&decide (a=b)
 |_+1,.str s,.str t=>eqL eqB s t
 |n+1,.sl es,.sl fs=>eqL (eqL (eqD n)) es fs
 |_+1,.ifc a,.ifc b=>a==b
 |_+1,.fn a,.fn b=>Nat.beq a b
 |_+1,.nilP,.nilP=>true
 |n+1,.ptr cs,.ptr ds=>eqL (eqD n) cs ds
 |n+1,.clo f ps,.clo g qs=>Nat.beq f g&&eqL (eqD n) ps qs
 |_+1,.tok p i,.tok q j=>Nat.beq i j&&eqL eqMn p q
 |_+1,_,_=>false
omit [Env] in
theorem eqB_ok (a b:UInt8) (h:eqB a b=true):a=b:=UInt8.toNat_inj.1 (Nat.eq_of_beq_eq_true h)
omit [Env] in
theorem eqD_ok (n:Nat):∀(a b:D),eqD n a b=true→a=b:=by
 induction n with
 |zero=>intro a b h;simp[eqD]at h
 |succ n ih=>
  intro a b h;cases a<;>cases b<;>simp only[eqD,Bool.and_eq_true,decide_eq_true_eq,beq_iff_eq,Bool.false_eq_true]at h
  all_goals first
   |rfl
   |(rw[h];done)
   |(rw[h.1,h.2];done)
   |(rw[eqL_ok eqB_ok h];done)
   |(rw[eqL_ok ih h];done)
   |(rw[Nat.eq_of_beq_eq_true h.1,eqL_ok ih h.2];done)
   |(rw[eqL_ok (fun a b hh=>eqL_ok ih hh) h];done)
   |(rw[Nat.eq_of_beq_eq_true h];done)
   |rw[Nat.eq_of_beq_eq_true h.1,eqL_ok eqMn_ok h.2]
def eqA:A→A→Bool
 | .c a,.c b=>eqD 20 a b
 | .ag a,.ag b=>eqL (eqD 20) a b
 |_,_=>false
omit [Env] in
theorem eqA_ok (a b:A) (h:eqA a b=true):a=b:=by
 unfold eqA at h;split at h
 ·rw[eqD_ok _ _ _ h]
 ·rw[eqL_ok (eqD_ok 20) h]
 ·simp at h
end Eng
end

section
open Go Go.Proofs Eng
set_option maxRecDepth 1000000
namespace Eng
theorem vc_qparts (Gv:Nat→List A→List A→Prop) (I0:List D→List D→Prop) (M0:List D→Nat) (I1:List D→List D→Prop) (M1:List D→Nat) (I2:List D→List D→Prop) (M2:List D→Nat) (J4:List D→List D→Prop) (J18:List D→List D→Prop) (J20:List D→List D→Prop) (J23:List D→List D→Prop) (es fs:List (List D)) (Q:List A→Prop):wpF CC Gv (annJ (annJ (annJ (annJ (ann3 ⟨[.own 12 173 1,.slot 11 (.slice none 0 0),.slot 14 (.int .i64 0)],[],I0,M0⟩ ⟨[.slot 16 (.int .u64 0),.slot 17 (.slice none 0 0)],[.slot 11 (.slice none 0 0),.slot 14 (.int .i64 0),.own 12 173 1],I1,M1⟩ ⟨[.own 19 174 1,.slot 18 (.int .u64 0),.slot 20 (.int .i64 0)],[.slot 11 (.slice none 0 0)],I2,M2⟩) 4 ⟨[],[],J4,fun _=>0⟩) 18 ⟨[.slot 15 (.int .u64 0)],[.slot 11 (.slice none 0 0)],J18,fun _=>0⟩) 20 ⟨[.slot 15 (.int .u64 0)],[.slot 11 (.slice none 0 0)],J20,fun _=>0⟩) 23 ⟨[.slot 16 (.int .u64 0)],[.slot 11 (.slice none 0 0)],J23,fun _=>0⟩) Tryz.f178 [.c (.sl es),.c (.sl fs)] Q=(bB (decide ((Int.ofNat es.length)≤2)) (bB (decide ((Int.ofNat fs.length)≤2)) (∃i,Gv 179 [aL es] [A.c (D.int .u64 i)]∧∃i_1,Gv 179 [aL fs] [A.c (D.int .u64 i_1)]∧i_1≠0∧∃es,Gv 95 [A.c (D.int .u64 (IntKind.wrap .u64 (Int.tdiv i i_1)))] [aL es]∧i_1≠0∧∃e1,Gv 95 [A.c (D.int .u64 (Int.tmod i i_1))] [aL e1]∧Q [aL es,aL e1]) (J4 [] [])) (J4 [] [])∧(J4 [] []→(0≤IntKind.wrap .i64 ((Int.ofNat fs.length)-1)∧IntKind.wrap .i64 ((Int.ofNat fs.length)-1)<(Int.ofNat fs.length)∧List.length (nth [] fs (Int.toNat (IntKind.wrap .i64 ((Int.ofNat fs.length)-1))))=1)∧∃i,cut (nth [] fs (Int.toNat (IntKind.wrap .i64 ((Int.ofNat fs.length)-1)))) 0 1 [D.int .u32 i]∧IntKind.wrap .u64 (IntKind.wrap .u64 i+1)≠0∧∃e1,Gv 256 [aL fs,A.c (D.int .u32 (IntKind.wrap .u32 (IntKind.wrap .u64 (Int.tdiv (1000000000:Int) (IntKind.wrap .u64 (IntKind.wrap .u64 i+1))))))] [aL e1]∧(0≤IntKind.wrap .i64 ((Int.ofNat e1.length)-1)∧IntKind.wrap .i64 ((Int.ofNat e1.length)-1)<(Int.ofNat e1.length)∧List.length (nth [] e1 (Int.toNat (IntKind.wrap .i64 ((Int.ofNat e1.length)-1))))=1)∧∃i_1,cut (nth [] e1 (Int.toNat (IntKind.wrap .i64 ((Int.ofNat e1.length)-1)))) 0 1 [D.int .u32 i_1]∧(0≤IntKind.wrap .i64 ((Int.ofNat es.length)+1)∧IntKind.wrap .i64 ((Int.ofNat es.length)+1)≤IntKind.wrap .i64 ((Int.ofNat es.length)+1)∧room (Int.toNat (IntKind.wrap .i64 ((Int.ofNat es.length)+1))))∧∃e2,Gv 256 [aL es,A.c (D.int .u32 (IntKind.wrap .u32 (IntKind.wrap .u64 (Int.tdiv (1000000000:Int) (IntKind.wrap .u64 (IntKind.wrap .u64 i+1))))))] [aL e2]∧(0≤(Int.ofNat e2.length)∧(Int.ofNat e2.length)≤(Int.ofNat (List.length (List.replicate (Int.toNat (IntKind.wrap .i64 ((Int.ofNat es.length)+1))) [D.int .u32 0]))))∧I0 [] [D.sl (List.take (Int.toNat (Int.ofNat e2.length)) (List.replicate (Int.toNat (IntKind.wrap .i64 ((Int.ofNat es.length)+1))) [D.int .u32 0])),D.sl [],dI (IntKind.wrap .i64 ((Int.ofNat e2.length)-1))]∧∀(es e3:List (List D)) (i_2:Int),I0 [] [D.sl es,D.sl e3,dI i_2]→bB (decide (i_2≥0)) ((0≤i_2∧i_2<(Int.ofNat e2.length)∧List.length (nth [] e2 (Int.toNat i_2))=1)∧∃i,cut (nth [] e2 (Int.toNat i_2)) 0 1 [D.int .u32 i]∧(room (1+e3.length)∧lens 1 e3)∧∃e4,Gv 157 [aL ([D.int .u32 i]::e3)] [aL e4]∧bB (decide ((Int.ofNat e4.length)>(Int.ofNat e1.length))) ((0≤(Int.ofNat e1.length)∧(Int.ofNat e1.length)<(Int.ofNat e4.length)∧List.length (nth [] e4 (Int.toNat (Int.ofNat e1.length)))=1)∧∃i,cut (nth [] e4 (Int.toNat (Int.ofNat e1.length))) 0 1 [D.int .u32 i]∧J18 [D.sl e4] [D.int .u64 (IntKind.wrap .u64 (IntKind.wrap .u64 i*1000000000))]) (J18 [D.sl e4] [D.int .u64 0])∧∀(i:Int),J18 [D.sl e4] [D.int .u64 i]→bB (decide ((Int.ofNat e4.length)≥(Int.ofNat e1.length))) ((0≤IntKind.wrap .i64 ((Int.ofNat e1.length)-1)∧IntKind.wrap .i64 ((Int.ofNat e1.length)-1)<(Int.ofNat e4.length)∧List.length (nth [] e4 (Int.toNat (IntKind.wrap .i64 ((Int.ofNat e1.length)-1))))=1)∧∃i_3,cut (nth [] e4 (Int.toNat (IntKind.wrap .i64 ((Int.ofNat e1.length)-1)))) 0 1 [D.int .u32 i_3]∧J20 [D.sl e4] [D.int .u64 (IntKind.wrap .u64 (i+IntKind.wrap .u64 i_3))]) (J20 [D.sl e4] [D.int .u64 i])∧∀(i:Int),J20 [D.sl e4] [D.int .u64 i]→IntKind.wrap .u64 i_1≠0∧bB (decide (IntKind.wrap .u64 (Int.tdiv i (IntKind.wrap .u64 i_1))>999999999)) (J23 [D.sl e4] [D.int .u64 999999999]) (J23 [D.sl e4] [D.int .u64 (IntKind.wrap .u64 (Int.tdiv i (IntKind.wrap .u64 i_1)))])∧∀(i:Int),J23 [D.sl e4] [D.int .u64 i]→∃e5,Gv 256 [aL e1,A.c (D.int .u32 (IntKind.wrap .u32 i))] [aL e5]∧I1 [D.sl e4,dI i_2,D.sl es] [D.int .u64 i,D.sl e5]∧∀(i:Int) (e6:List (List D)),I1 [D.sl e4,dI i_2,D.sl es] [D.int .u64 i,D.sl e6]→∃i_3,Gv 57 [aL e6,aL e4] [aI i_3]∧bB (decide (i_3>0)) (∃e7,Gv 257 [aL e6,aL e1] [aL e7]∧I1 [D.sl e4,dI i_2,D.sl es] [D.int .u64 (IntKind.wrap .u64 (i-1)),D.sl e7]∧M1 [D.int .u64 (IntKind.wrap .u64 (i-1)),D.sl e7]<M1 [D.int .u64 i,D.sl e6]) (∃e7,Gv 257 [aL e4,aL e6] [aL e7]∧(0≤i_2∧i_2<(Int.ofNat es.length))∧0<1∧I0 [] [D.sl (upd es (Int.toNat i_2) (upd (nth [] es (Int.toNat i_2)) 0 (D.int .u32 (IntKind.wrap .u32 i)))),D.sl e7,dI (IntKind.wrap .i64 (i_2-1))]∧M0 [D.sl (upd es (Int.toNat i_2) (upd (nth [] es (Int.toNat i_2)) 0 (D.int .u32 (IntKind.wrap .u32 i)))),D.sl e7,dI (IntKind.wrap .i64 (i_2-1))]<M0 [D.sl es,D.sl e3,dI i_2])) ((0≤(Int.ofNat e3.length)∧(Int.ofNat e3.length)≤(Int.ofNat e3.length)∧room (Int.toNat (Int.ofNat e3.length)))∧I2 [D.sl e3] [D.sl (List.replicate (Int.toNat (Int.ofNat e3.length)) [D.int .u32 0]),D.int .u64 0,dI (IntKind.wrap .i64 ((Int.ofNat e3.length)-1))]∧∀(e4:List (List D)) (i_3 i_4:Int),I2 [D.sl e3] [D.sl e4,D.int .u64 i_3,dI i_4]→bB (decide (i_4≥0)) ((0≤i_4∧i_4<(Int.ofNat e3.length)∧List.length (nth [] e3 (Int.toNat i_4))=1)∧∃i_5,cut (nth [] e3 (Int.toNat i_4)) 0 1 [D.int .u32 i_5]∧IntKind.wrap .u64 (IntKind.wrap .u32 (IntKind.wrap .u64 (Int.tdiv (1000000000:Int) (IntKind.wrap .u64 (IntKind.wrap .u64 i+1)))))≠0∧(0≤i_4∧i_4<(Int.ofNat e4.length))∧0<1∧IntKind.wrap .u64 (IntKind.wrap .u32 (IntKind.wrap .u64 (Int.tdiv (1000000000:Int) (IntKind.wrap .u64 (IntKind.wrap .u64 i+1)))))≠0∧I2 [D.sl e3] [D.sl (upd e4 (Int.toNat i_4) (upd (nth [] e4 (Int.toNat i_4)) 0 (D.int .u32 (IntKind.wrap .u32 (IntKind.wrap .u64 (Int.tdiv (IntKind.wrap .u64 (IntKind.wrap .u64 (i_3*1000000000)+IntKind.wrap .u64 i_5)) (IntKind.wrap .u64 (IntKind.wrap .u32 (IntKind.wrap .u64 (Int.tdiv (1000000000:Int) (IntKind.wrap .u64 (IntKind.wrap .u64 i+1)))))))))))),D.int .u64 (Int.tmod (IntKind.wrap .u64 (IntKind.wrap .u64 (i_3*1000000000)+IntKind.wrap .u64 i_5)) (IntKind.wrap .u64 (IntKind.wrap .u32 (IntKind.wrap .u64 (Int.tdiv (1000000000:Int) (IntKind.wrap .u64 (IntKind.wrap .u64 i+1))))))),dI (IntKind.wrap .i64 (i_4-1))]∧M2 [D.sl (upd e4 (Int.toNat i_4) (upd (nth [] e4 (Int.toNat i_4)) 0 (D.int .u32 (IntKind.wrap .u32 (IntKind.wrap .u64 (Int.tdiv (IntKind.wrap .u64 (IntKind.wrap .u64 (i_3*1000000000)+IntKind.wrap .u64 i_5)) (IntKind.wrap .u64 (IntKind.wrap .u32 (IntKind.wrap .u64 (Int.tdiv (1000000000:Int) (IntKind.wrap .u64 (IntKind.wrap .u64 i+1)))))))))))),D.int .u64 (Int.tmod (IntKind.wrap .u64 (IntKind.wrap .u64 (i_3*1000000000)+IntKind.wrap .u64 i_5)) (IntKind.wrap .u64 (IntKind.wrap .u32 (IntKind.wrap .u64 (Int.tdiv (1000000000:Int) (IntKind.wrap .u64 (IntKind.wrap .u64 i+1))))))),dI (IntKind.wrap .i64 (i_4-1))]<M2 [D.sl e4,D.int .u64 i_3,dI i_4]) (∃e5,Gv 157 [aL es] [aL e5]∧∃es,Gv 157 [aL e4] [aL es]∧Q [aL e5,aL es])))):=by kernel_rfl
end Eng
end

section
open Go Go.Proofs Eng
set_option maxRecDepth 1000000
namespace Eng
theorem vc_qtrim (Gv:Nat→List A→List A→Prop) (I0:List D→List D→Prop) (M0:List D→Nat) (es:List (List D)) (Q:List A→Prop):wpF CC Gv (fun _=>⟨[.slot 0 (.slice none 0 0)],[],I0,M0⟩) Tryz.f157 [.c (.sl es)] Q=(I0 [] [D.sl es]∧∀(es:List (List D)),I0 [] [D.sl es]→bB (decide ((Int.ofNat es.length)>0)) ((0≤IntKind.wrap .i64 ((Int.ofNat es.length)-1)∧IntKind.wrap .i64 ((Int.ofNat es.length)-1)<(Int.ofNat es.length)∧List.length (nth [] es (Int.toNat (IntKind.wrap .i64 ((Int.ofNat es.length)-1))))=1)∧∃n,cut (nth [] es (Int.toNat (IntKind.wrap .i64 ((Int.ofNat es.length)-1)))) 0 1 [D.int .u32 n]∧bB (n==0) (((0:Int)≤(0:Int)∧0≤IntKind.wrap .i64 ((Int.ofNat es.length)-1)∧IntKind.wrap .i64 ((Int.ofNat es.length)-1)≤(Int.ofNat es.length)∧lens 1 es)∧I0 [] [D.sl (List.drop 0 (List.take (Int.toNat (IntKind.wrap .i64 ((Int.ofNat es.length)-1))) es))]∧M0 [D.sl (List.drop 0 (List.take (Int.toNat (IntKind.wrap .i64 ((Int.ofNat es.length)-1))) es))]<M0 [D.sl es]) (Q [aL es])) (Q [aL es])):=by kernel_rfl
theorem vc_qsigned (Gv:Nat→List A→List A→Prop) (b:Bool) (es:List (List D)) (Q:List A→Prop):wpF CC Gv an0 Tryz.f94 [.c (.bool b),.c (.sl es)] Q=(∃e1,Gv 157 [aL es] [aL e1]∧br b (Q [aZ (decide ((Int.ofNat e1.length)>0)) e1]) (Q [aZ false e1])):=by kernel_rfl
theorem vc_qlimbs (Gv:Nat→List A→List A→Prop) (I0:List D→List D→Prop) (M0:List D→Nat) (n:Int) (Q:List A→Prop):wpF CC Gv (fun _=>⟨[.own 3 15 1,.slot 0 (.int .u64 0)],[],I0,M0⟩) Tryz.f95 [.c (.int .u64 n)] Q=(I0 [] [D.sl [],D.int .u64 n]∧∀(es:List (List D)) (n:Int),I0 [] [D.sl es,D.int .u64 n]→bB (decide (n>0)) ((1000000000:Int)≠(0:Int)∧(room (es.length+1)∧lens 1 [[D.int .u32 (IntKind.wrap .u32 (Int.tmod n (1000000000:Int)))]])∧(1000000000:Int)≠(0:Int)∧I0 [] [D.sl (es++[[D.int .u32 (IntKind.wrap .u32 (Int.tmod n (1000000000:Int)))]]),D.int .u64 (IntKind.wrap .u64 (Int.tdiv n (1000000000:Int)))]∧M0 [D.sl (es++[[D.int .u32 (IntKind.wrap .u32 (Int.tmod n (1000000000:Int)))]]),D.int .u64 (IntKind.wrap .u64 (Int.tdiv n (1000000000:Int)))]<M0 [D.sl es,D.int .u64 n]) (Q [aL es])):=by kernel_rfl
theorem vc_qFromInt64 (Gv:Nat→List A→List A→Prop) (n:Int) (Q:List A→Prop):wpF CC Gv an0 Tryz.f49 [.c (.int .i64 n)] Q=(bB (decide (n<0)) (∃es,Gv 95 [A.c (D.int .u64 (IntKind.wrap .u64 (0-IntKind.wrap .u64 n)))] [aL es]∧∃b e1,Gv 94 [aB true,aL es] [aZ b e1]∧Q [aZ b e1]) (∃es,Gv 95 [A.c (D.int .u64 (IntKind.wrap .u64 n))] [aL es]∧∃b e1,Gv 94 [aB false,aL es] [aZ b e1]∧Q [aZ b e1])):=by kernel_rfl
theorem vc_qshort (Gv:Nat→List A→List A→Prop) (I0:List D→List D→Prop) (M0:List D→Nat) (es:List (List D)) (Q:List A→Prop):wpF CC Gv (fun _=>⟨[.slot 3 (.int .u64 0),.slot 4 (.int .i64 0)],[],I0,M0⟩) Tryz.f179 [.c (.sl es)] Q=(I0 [] [D.int .u64 0,dI (IntKind.wrap .i64 ((Int.ofNat es.length)-1))]∧∀(n n1:Int),I0 [] [D.int .u64 n,dI n1]→bB (decide (n1≥0)) ((0≤n1∧n1<(Int.ofNat es.length)∧List.length (nth [] es (Int.toNat n1))=1)∧∃n2,cut (nth [] es (Int.toNat n1)) 0 1 [D.int .u32 n2]∧I0 [] [D.int .u64 (IntKind.wrap .u64 (IntKind.wrap .u64 (n*1000000000)+IntKind.wrap .u64 n2)),dI (IntKind.wrap .i64 (n1-1))]∧M0 [D.int .u64 (IntKind.wrap .u64 (IntKind.wrap .u64 (n*1000000000)+IntKind.wrap .u64 n2)),dI (IntKind.wrap .i64 (n1-1))]<M0 [D.int .u64 n,dI n1]) (Q [A.c (D.int .u64 n)])):=by kernel_rfl
theorem vc_qSign (Gv:Nat→List A→List A→Prop) (p:Bool) (es:List (List D)) (Q:List A→Prop):wpF CC Gv an0 Tryz.f109 [.ag [.bool p,.sl es]] Q=(bB ((Int.ofNat es.length)==0) (Q [aI (0:Int)]) (br p (Q [aI (-1:Int)]) (Q [aI (1:Int)]))):=by kernel_rfl
theorem vc_qcompare (Gv:Nat→List A→List A→Prop) (I0:List D→List D→Prop) (M0:List D→Nat) (es fs:List (List D)) (Q:List A→Prop):wpF CC Gv (fun _=>⟨[.slot 5 (.int .i64 0)],[],I0,M0⟩) Tryz.f57 [.c (.sl es),.c (.sl fs)] Q=(bB ((Int.ofNat es.length) !=(Int.ofNat fs.length)) (bB (decide ((Int.ofNat es.length)<(Int.ofNat fs.length))) (Q [aI (-1:Int)]) (Q [aI (1:Int)])) (I0 [] [dI (IntKind.wrap .i64 ((Int.ofNat es.length)-1))]∧∀(n:Int),I0 [] [dI n]→bB (decide (n≥0)) ((0≤n∧n<(Int.ofNat es.length)∧List.length (nth [] es (Int.toNat n))=1)∧∃n1,cut (nth [] es (Int.toNat n)) 0 1 [D.int .u32 n1]∧(0≤n∧n<(Int.ofNat fs.length)∧List.length (nth [] fs (Int.toNat n))=1)∧∃n2,cut (nth [] fs (Int.toNat n)) 0 1 [D.int .u32 n2]∧bB (decide (n1<n2)) (Q [aI (-1:Int)]) ((0≤n∧n<(Int.ofNat es.length)∧List.length (nth [] es (Int.toNat n))=1)∧∃n3,cut (nth [] es (Int.toNat n)) 0 1 [D.int .u32 n3]∧(0≤n∧n<(Int.ofNat fs.length)∧List.length (nth [] fs (Int.toNat n))=1)∧∃n4,cut (nth [] fs (Int.toNat n)) 0 1 [D.int .u32 n4]∧bB (decide (n3>n4)) (Q [aI (1:Int)]) (I0 [] [dI (IntKind.wrap .i64 (n-1))]∧M0 [dI (IntKind.wrap .i64 (n-1))]<M0 [dI n]))) (Q [aI (0:Int)]))):=by kernel_rfl
theorem vc_qCmp (Gv:Nat→List A→List A→Prop) (p q:Bool) (es fs:List (List D)) (Q:List A→Prop):wpF CC Gv an0 Tryz.f106 [.ag [.bool p,.sl es],.ag [.bool q,.sl fs]] Q=(bB (!p==q) (br p (Q [aI (-1:Int)]) (Q [aI (1:Int)])) (br p (∃n,Gv 57 [aL fs,aL es] [aI n]∧Q [aI n]) (∃n,Gv 57 [aL es,aL fs] [aI n]∧Q [aI n]))):=by kernel_rfl
def QplusV (Gv:Nat→List A→List A→Prop) (I0:List D→List D→Prop) (M0:List D→Nat) (Q:List A→Prop) (es fs:List (List D)):Prop:=((0≤IntKind.wrap .i64 ((Int.ofNat es.length)+1)∧IntKind.wrap .i64 ((Int.ofNat es.length)+1)≤IntKind.wrap .i64 ((Int.ofNat es.length)+1)∧room (Int.toNat (IntKind.wrap .i64 ((Int.ofNat es.length)+1))))∧I0 [] [D.sl (List.replicate (Int.toNat (IntKind.wrap .i64 ((Int.ofNat es.length)+1))) [D.int .u32 0]),D.int .u32 0,D.int .i64 0]∧∀(e1:List (List D)) (n n1:Int),I0 [] [D.sl e1,D.int .u32 n,D.int .i64 n1]→br (toB (D.bool (decide (n1<(Int.ofNat es.length))))) ((0≤n1∧n1<(Int.ofNat es.length)∧List.length (nth [] es (Int.toNat n1))=1)∧∃n2,cut (nth [] es (Int.toNat n1)) 0 1 [D.int .u32 n2]∧br (toB (D.bool (decide (n1<(Int.ofNat fs.length))))) ((0≤n1∧n1<(Int.ofNat fs.length)∧List.length (nth [] fs (Int.toNat n1))=1)∧∃n3,cut (nth [] fs (Int.toNat n1)) 0 1 [D.int .u32 n3]∧(1000000000:Int)≠(0:Int)∧(0≤n1∧n1<(Int.ofNat e1.length))∧0<1∧(1000000000:Int)≠(0:Int)∧I0 [] [D.sl (upd e1 (Int.toNat n1) (upd (nth [] e1 (Int.toNat n1)) 0 (D.int .u32 (Int.tmod (IntKind.wrap .u32 (IntKind.wrap .u32 (n+n2)+n3)) (1000000000:Int))))),D.int .u32 (IntKind.wrap .u32 (Int.tdiv (IntKind.wrap .u32 (IntKind.wrap .u32 (n+n2)+n3)) (1000000000:Int))),D.int .i64 (IntKind.wrap .i64 (n1+1))]∧M0 [D.sl (upd e1 (Int.toNat n1) (upd (nth [] e1 (Int.toNat n1)) 0 (D.int .u32 (Int.tmod (IntKind.wrap .u32 (IntKind.wrap .u32 (n+n2)+n3)) (1000000000:Int))))),D.int .u32 (IntKind.wrap .u32 (Int.tdiv (IntKind.wrap .u32 (IntKind.wrap .u32 (n+n2)+n3)) (1000000000:Int))),D.int .i64 (IntKind.wrap .i64 (n1+1))]<M0 [D.sl e1,D.int .u32 n,D.int .i64 n1]) ((1000000000:Int)≠(0:Int)∧(0≤n1∧n1<(Int.ofNat e1.length))∧0<1∧(1000000000:Int)≠(0:Int)∧I0 [] [D.sl (upd e1 (Int.toNat n1) (upd (nth [] e1 (Int.toNat n1)) 0 (D.int .u32 (Int.tmod (IntKind.wrap .u32 (n+n2)) (1000000000:Int))))),D.int .u32 (IntKind.wrap .u32 (Int.tdiv (IntKind.wrap .u32 (n+n2)) (1000000000:Int))),D.int .i64 (IntKind.wrap .i64 (n1+1))]∧M0 [D.sl (upd e1 (Int.toNat n1) (upd (nth [] e1 (Int.toNat n1)) 0 (D.int .u32 (Int.tmod (IntKind.wrap .u32 (n+n2)) (1000000000:Int))))),D.int .u32 (IntKind.wrap .u32 (Int.tdiv (IntKind.wrap .u32 (n+n2)) (1000000000:Int))),D.int .i64 (IntKind.wrap .i64 (n1+1))]<M0 [D.sl e1,D.int .u32 n,D.int .i64 n1])) ((0≤(Int.ofNat es.length)∧(Int.ofNat es.length)<(Int.ofNat e1.length))∧0<1∧∃e2,Gv 157 [A.c (D.sl (upd e1 (Int.toNat (Int.ofNat es.length)) (upd (nth [] e1 (Int.toNat (Int.ofNat es.length))) 0 (D.int .u32 n))))] [A.c (D.sl e2)]∧Q [A.c (D.sl e2)]))
theorem vc_qplus (Gv:Nat→List A→List A→Prop) (I0:List D→List D→Prop) (M0:List D→Nat) (es fs:List (List D)) (Q:List A→Prop):wpF CC Gv (fun _=>⟨[.own 5 55 1,.slot 6 (.int .u32 0),.slot 7 (.int .i64 0)],[],I0,M0⟩) Tryz.f258 [.c (.sl es),.c (.sl fs)] Q=(bB (decide ((Int.ofNat es.length)<(Int.ofNat fs.length))) (QplusV Gv I0 M0 Q fs es) (QplusV Gv I0 M0 Q es fs)):=by kernel_rfl
theorem vc_qminus (Gv:Nat→List A→List A→Prop) (I0:List D→List D→Prop) (M0:List D→Nat) (es fs:List (List D)) (Q:List A→Prop):wpF CC Gv (fun _=>⟨[.own 5 45 1,.slot 6 (.int .u32 0),.slot 7 (.int .i64 0)],[],I0,M0⟩) Tryz.f257 [.c (.sl es),.c (.sl fs)] Q=((0≤(Int.ofNat es.length)∧(Int.ofNat es.length)≤(Int.ofNat es.length)∧room (Int.toNat (Int.ofNat es.length)))∧I0 [] [D.sl (List.replicate (Int.toNat (Int.ofNat es.length)) [D.int .u32 0]),D.int .u32 0,dI (0:Int)]∧∀(e1:List (List D)) (n n1:Int),I0 [] [D.sl e1,D.int .u32 n,dI n1]→bB (decide (n1<(Int.ofNat es.length))) ((0≤n1∧n1<(Int.ofNat es.length)∧List.length (nth [] es (Int.toNat n1))=1)∧∃n2,cut (nth [] es (Int.toNat n1)) 0 1 [D.int .u32 n2]∧bB (decide (n1<(Int.ofNat fs.length))) ((0≤n1∧n1<(Int.ofNat fs.length)∧List.length (nth [] fs (Int.toNat n1))=1)∧∃n3,cut (nth [] fs (Int.toNat n1)) 0 1 [D.int .u32 n3]∧bB (decide (IntKind.wrap .u32 (IntKind.wrap .u32 (IntKind.wrap .u32 (n2+1000000000)-n)-n3)≥1000000000)) ((0≤n1∧n1<(Int.ofNat e1.length))∧0<1∧I0 [] [D.sl (upd e1 (Int.toNat n1) (upd (nth [] e1 (Int.toNat n1)) 0 (D.int .u32 (IntKind.wrap .u32 (IntKind.wrap .u32 (IntKind.wrap .u32 (IntKind.wrap .u32 (n2+1000000000)-n)-n3)-1000000000))))),D.int .u32 0,dI (IntKind.wrap .i64 (n1+1))]∧M0 [D.sl (upd e1 (Int.toNat n1) (upd (nth [] e1 (Int.toNat n1)) 0 (D.int .u32 (IntKind.wrap .u32 (IntKind.wrap .u32 (IntKind.wrap .u32 (IntKind.wrap .u32 (n2+1000000000)-n)-n3)-1000000000))))),D.int .u32 0,dI (IntKind.wrap .i64 (n1+1))]<M0 [D.sl e1,D.int .u32 n,dI n1]) ((0≤n1∧n1<(Int.ofNat e1.length))∧0<1∧I0 [] [D.sl (upd e1 (Int.toNat n1) (upd (nth [] e1 (Int.toNat n1)) 0 (D.int .u32 (IntKind.wrap .u32 (IntKind.wrap .u32 (IntKind.wrap .u32 (n2+1000000000)-n)-n3))))),D.int .u32 1,dI (IntKind.wrap .i64 (n1+1))]∧M0 [D.sl (upd e1 (Int.toNat n1) (upd (nth [] e1 (Int.toNat n1)) 0 (D.int .u32 (IntKind.wrap .u32 (IntKind.wrap .u32 (IntKind.wrap .u32 (n2+1000000000)-n)-n3))))),D.int .u32 1,dI (IntKind.wrap .i64 (n1+1))]<M0 [D.sl e1,D.int .u32 n,dI n1])) (bB (decide (IntKind.wrap .u32 (IntKind.wrap .u32 (n2+1000000000)-n)≥1000000000)) ((0≤n1∧n1<(Int.ofNat e1.length))∧0<1∧I0 [] [D.sl (upd e1 (Int.toNat n1) (upd (nth [] e1 (Int.toNat n1)) 0 (D.int .u32 (IntKind.wrap .u32 (IntKind.wrap .u32 (IntKind.wrap .u32 (n2+1000000000)-n)-1000000000))))),D.int .u32 0,dI (IntKind.wrap .i64 (n1+1))]∧M0 [D.sl (upd e1 (Int.toNat n1) (upd (nth [] e1 (Int.toNat n1)) 0 (D.int .u32 (IntKind.wrap .u32 (IntKind.wrap .u32 (IntKind.wrap .u32 (n2+1000000000)-n)-1000000000))))),D.int .u32 0,dI (IntKind.wrap .i64 (n1+1))]<M0 [D.sl e1,D.int .u32 n,dI n1]) ((0≤n1∧n1<(Int.ofNat e1.length))∧0<1∧I0 [] [D.sl (upd e1 (Int.toNat n1) (upd (nth [] e1 (Int.toNat n1)) 0 (D.int .u32 (IntKind.wrap .u32 (IntKind.wrap .u32 (n2+1000000000)-n))))),D.int .u32 1,dI (IntKind.wrap .i64 (n1+1))]∧M0 [D.sl (upd e1 (Int.toNat n1) (upd (nth [] e1 (Int.toNat n1)) 0 (D.int .u32 (IntKind.wrap .u32 (IntKind.wrap .u32 (n2+1000000000)-n))))),D.int .u32 1,dI (IntKind.wrap .i64 (n1+1))]<M0 [D.sl e1,D.int .u32 n,dI n1]))) (∃es,Gv 157 [aL e1] [aL es]∧Q [aL es])):=by kernel_rfl
theorem vc_qtimes (Gv:Nat→List A→List A→Prop) (I0:List D→List D→Prop) (M0:List D→Nat) (I1:List D→List D→Prop) (M1:List D→Nat) (es fs:List (List D)) (Q:List A→Prop):wpF CC Gv (ann2 ⟨[.own 5 68 1,.slot 6 (.int .i64 0)],[],I0,M0⟩ ⟨[.own 5 68 1,.slot 7 (.int .u64 0),.slot 8 (.int .i64 0)],[.slot 6 (.int .i64 0),.own 5 68 1],I1,M1⟩) Tryz.f176 [.c (.sl es),.c (.sl fs)] Q=((0≤IntKind.wrap .i64 ((Int.ofNat es.length)+(Int.ofNat fs.length))∧IntKind.wrap .i64 ((Int.ofNat es.length)+(Int.ofNat fs.length))≤IntKind.wrap .i64 ((Int.ofNat es.length)+(Int.ofNat fs.length))∧room (Int.toNat (IntKind.wrap .i64 ((Int.ofNat es.length)+(Int.ofNat fs.length)))))∧I0 [] [D.sl (List.replicate (Int.toNat (IntKind.wrap .i64 ((Int.ofNat es.length)+(Int.ofNat fs.length)))) [D.int .u32 0]),dI (0:Int)]∧∀(e1:List (List D)) (n:Int),I0 [] [D.sl e1,dI n]→bB (decide (n<(Int.ofNat es.length))) (I1 [dI n,D.sl e1] [D.sl e1,D.int .u64 0,dI (0:Int)]∧∀(e2:List (List D)) (n1 n2:Int),I1 [dI n,D.sl e1] [D.sl e2,D.int .u64 n1,dI n2]→bB (decide (n2<(Int.ofNat fs.length))) ((0≤IntKind.wrap .i64 (n+n2)∧IntKind.wrap .i64 (n+n2)<(Int.ofNat e2.length))∧∃n3,cut (nth [] e2 (Int.toNat (IntKind.wrap .i64 (n+n2)))) 0 1 [D.int .u32 n3]∧(0≤n∧n<(Int.ofNat es.length)∧List.length (nth [] es (Int.toNat n))=1)∧∃n4,cut (nth [] es (Int.toNat n)) 0 1 [D.int .u32 n4]∧(0≤n2∧n2<(Int.ofNat fs.length)∧List.length (nth [] fs (Int.toNat n2))=1)∧∃n5,cut (nth [] fs (Int.toNat n2)) 0 1 [D.int .u32 n5]∧(1000000000:Int)≠(0:Int)∧(0≤IntKind.wrap .i64 (n+n2)∧IntKind.wrap .i64 (n+n2)<(Int.ofNat e2.length))∧0<1∧(1000000000:Int)≠(0:Int)∧I1 [dI n,D.sl e1] [D.sl (upd e2 (Int.toNat (IntKind.wrap .i64 (n+n2))) (upd (nth [] e2 (Int.toNat (IntKind.wrap .i64 (n+n2)))) 0 (D.int .u32 (IntKind.wrap .u32 (Int.tmod (IntKind.wrap .u64 (IntKind.wrap .u64 (n1+IntKind.wrap .u64 n3)+IntKind.wrap .u64 (IntKind.wrap .u64 n4*IntKind.wrap .u64 n5))) (1000000000:Int)))))),D.int .u64 (IntKind.wrap .u64 (Int.tdiv (IntKind.wrap .u64 (IntKind.wrap .u64 (n1+IntKind.wrap .u64 n3)+IntKind.wrap .u64 (IntKind.wrap .u64 n4*IntKind.wrap .u64 n5))) (1000000000:Int))),dI (IntKind.wrap .i64 (n2+1))]∧M1 [D.sl (upd e2 (Int.toNat (IntKind.wrap .i64 (n+n2))) (upd (nth [] e2 (Int.toNat (IntKind.wrap .i64 (n+n2)))) 0 (D.int .u32 (IntKind.wrap .u32 (Int.tmod (IntKind.wrap .u64 (IntKind.wrap .u64 (n1+IntKind.wrap .u64 n3)+IntKind.wrap .u64 (IntKind.wrap .u64 n4*IntKind.wrap .u64 n5))) (1000000000:Int)))))),D.int .u64 (IntKind.wrap .u64 (Int.tdiv (IntKind.wrap .u64 (IntKind.wrap .u64 (n1+IntKind.wrap .u64 n3)+IntKind.wrap .u64 (IntKind.wrap .u64 n4*IntKind.wrap .u64 n5))) (1000000000:Int))),dI (IntKind.wrap .i64 (n2+1))]<M1 [D.sl e2,D.int .u64 n1,dI n2]) ((0≤IntKind.wrap .i64 (n+(Int.ofNat fs.length))∧IntKind.wrap .i64 (n+(Int.ofNat fs.length))<(Int.ofNat e2.length))∧0<1∧I0 [] [D.sl (upd e2 (Int.toNat (IntKind.wrap .i64 (n+(Int.ofNat fs.length)))) (upd (nth [] e2 (Int.toNat (IntKind.wrap .i64 (n+(Int.ofNat fs.length))))) 0 (D.int .u32 (IntKind.wrap .u32 n1)))),dI (IntKind.wrap .i64 (n+1))]∧M0 [D.sl (upd e2 (Int.toNat (IntKind.wrap .i64 (n+(Int.ofNat fs.length)))) (upd (nth [] e2 (Int.toNat (IntKind.wrap .i64 (n+(Int.ofNat fs.length))))) 0 (D.int .u32 (IntKind.wrap .u32 n1)))),dI (IntKind.wrap .i64 (n+1))]<M0 [D.sl e1,dI n])) (∃es,Gv 157 [aL e1] [aL es]∧Q [aL es])):=by kernel_rfl
theorem vc_qby (Gv:Nat→List A→List A→Prop) (es:List (List D)) (n:Int) (Q:List A→Prop):wpF CC Gv an0 Tryz.f256 [.c (.sl es),.c (.int .u32 n)] Q=(∃e1,Gv 157 [aL [[D.int .u32 n]]] [aL e1]∧∃e2,Gv 176 [aL es,aL e1] [aL e2]∧Q [aL e2]):=by kernel_rfl
theorem vc_qNeg (Gv:Nat→List A→List A→Prop) (p:Bool) (es:List (List D)) (Q:List A→Prop):wpF CC Gv an0 Tryz.f110 [.ag [.bool p,.sl es]] Q=(∃b e1,Gv 94 [aB (!p),aL es] [aZ b e1]∧Q [aZ b e1]):=by kernel_rfl
theorem vc_qAdd (Gv:Nat→List A→List A→Prop) (p q:Bool) (es fs:List (List D)) (Q:List A→Prop):wpF CC Gv an0 Tryz.f181 [.ag [.bool p,.sl es],.ag [.bool q,.sl fs]] Q=(bB (p==q) (∃e1,Gv 258 [aL es,aL fs] [aL e1]∧∃b es,Gv 94 [aB p,aL e1] [aZ b es]∧Q [aZ b es]) (∃n,Gv 57 [aL es,aL fs] [aI n]∧bB (decide (n≥0)) (∃e1,Gv 257 [aL es,aL fs] [aL e1]∧∃b es,Gv 94 [aB p,aL e1] [aZ b es]∧Q [aZ b es]) (∃e1,Gv 257 [aL fs,aL es] [aL e1]∧∃b es,Gv 94 [aB q,aL e1] [aZ b es]∧Q [aZ b es]))):=by kernel_rfl
theorem vc_qSub (Gv:Nat→List A→List A→Prop) (p q:Bool) (es fs:List (List D)) (Q:List A→Prop):wpF CC Gv an0 Tryz.f180 [.ag [.bool p,.sl es],.ag [.bool q,.sl fs]] Q=(∃b e1,Gv 110 [aZ q fs] [aZ b e1]∧∃b1 e2,Gv 181 [aZ p es,aZ b e1] [aZ b1 e2]∧Q [aZ b1 e2]):=by kernel_rfl
theorem vc_qMul (Gv:Nat→List A→List A→Prop) (p q:Bool) (es fs:List (List D)) (Q:List A→Prop):wpF CC Gv an0 Tryz.f107 [.ag [.bool p,.sl es],.ag [.bool q,.sl fs]] Q=(∃e1,Gv 176 [aL es,aL fs] [aL e1]∧∃b es,Gv 94 [A.c (D.bool !p==q),aL e1] [aZ b es]∧Q [aZ b es]):=by kernel_rfl
theorem vc_qGCD (Gv:Nat→List A→List A→Prop) (I0:List D→List D→Prop) (M0:List D→Nat) (I1:List D→List D→Prop) (M1:List D→Nat) (p q:Bool) (es fs:List (List D)) (Q:List A→Prop):wpF CC Gv (ann2 ⟨[.slot 5 (.slice none 0 0),.slot 6 (.slice none 0 0)],[],I0,M0⟩ ⟨[.slot 9 (.int .u64 0),.slot 10 (.int .u64 0)],[],I1,M1⟩) Tryz.f111 [.ag [.bool p,.sl es],.ag [.bool q,.sl fs]] Q=(I0 [] [D.sl es,D.sl fs]∧∀(es e1:List (List D)),I0 [] [D.sl es,D.sl e1]→bB (decide ((Int.ofNat e1.length)>0)) (bB (decide ((Int.ofNat es.length)>2)) (∃e2 e3,Gv 178 [aL es,aL e1] [aL e2,aL e3]∧I0 [] [D.sl e1,D.sl e3]∧M0 [D.sl e1,D.sl e3]<M0 [D.sl es,D.sl e1]) (bB (decide ((Int.ofNat e1.length)>2)) (∃e2 e3,Gv 178 [aL es,aL e1] [aL e2,aL e3]∧I0 [] [D.sl e1,D.sl e3]∧M0 [D.sl e1,D.sl e3]<M0 [D.sl es,D.sl e1]) (bB ((Int.ofNat e1.length)==0) (∃b e2,Gv 94 [aB false,aL es] [aZ b e2]∧Q [aZ b e2]) (∃n,Gv 179 [aL es] [A.c (D.int .u64 n)]∧∃n1,Gv 179 [aL e1] [A.c (D.int .u64 n1)]∧I1 [] [D.int .u64 n,D.int .u64 n1]∧∀(n n2:Int),I1 [] [D.int .u64 n,D.int .u64 n2]→bB (decide (n2>0)) (n2≠0∧I1 [] [D.int .u64 n2,D.int .u64 (Int.tmod n n2)]∧M1 [D.int .u64 n2,D.int .u64 (Int.tmod n n2)]<M1 [D.int .u64 n,D.int .u64 n2]) (∃es,Gv 95 [A.c (D.int .u64 n)] [aL es]∧∃b e2,Gv 94 [aB false,aL es] [aZ b e2]∧Q [aZ b e2]))))) (bB ((Int.ofNat e1.length)==0) (∃b e2,Gv 94 [aB false,aL es] [aZ b e2]∧Q [aZ b e2]) (∃n,Gv 179 [aL es] [A.c (D.int .u64 n)]∧∃n1,Gv 179 [aL e1] [A.c (D.int .u64 n1)]∧I1 [] [D.int .u64 n,D.int .u64 n1]∧∀(n n2:Int),I1 [] [D.int .u64 n,D.int .u64 n2]→bB (decide (n2>0)) (n2≠0∧I1 [] [D.int .u64 n2,D.int .u64 (Int.tmod n n2)]∧M1 [D.int .u64 n2,D.int .u64 (Int.tmod n n2)]<M1 [D.int .u64 n,D.int .u64 n2]) (∃es,Gv 95 [A.c (D.int .u64 n)] [aL es]∧∃b e2,Gv 94 [aB false,aL es] [aZ b e2]∧Q [aZ b e2])))):=by kernel_rfl
theorem vc_qDivMod (Gv:Nat→List A→List A→Prop) (p q:Bool) (es fs:List (List D)) (Q:List A→Prop):wpF CC Gv an0 Tryz.f112 [.ag [.bool p,.sl es],.ag [.bool q,.sl fs]] Q=(bB ((Int.ofNat fs.length)==0) (Q [aZ false [],aZ false [],aI (6:Int)]) (∃e1 e2,Gv 178 [aL es,aL fs] [aL e1,aL e2]∧∃b es,Gv 94 [A.c (D.bool !p==q),aL e1] [aZ b es]∧∃b1 e3,Gv 94 [aB p,aL e2] [aZ b1 e3]∧bB (decide ((Int.ofNat e2.length)>0)) (bB (!p==q) (∃b2 e4,Gv 49 [aI (1:Int)] [aZ b2 e4]∧∃b3 e5,Gv 180 [aZ b es,aZ b2 e4] [aZ b3 e5]∧∃b es,Gv 181 [aZ b1 e3,aZ q fs] [aZ b es]∧Q [aZ b3 e5,aZ b es,aI (0:Int)]) (Q [aZ b es,aZ b1 e3,aI (0:Int)])) (Q [aZ b es,aZ b1 e3,aI (0:Int)]))):=by kernel_rfl
end Eng
end

section
namespace Eng
open Go Go.Proofs
set_option maxRecDepth 100000
variable [Env]
omit [Env] in
theorem lim_cons {n:Nat} (h:0<n):lim n=n%1000000000::lim (n/1000000000):=by
 have e:n=val (n%1000000000::lim (n/1000000000)):=by simp only[val,lim_val];omega
 conv=>lhs;rw[e]
 refine lim_uniq (Limbs.cons (Nat.mod_lt _ (by omega)) (lim_limbs _)) (.inr ?_);rw[List.getLast?_cons];rcases lim_last (n/1000000000)with h1|h1
 ·rw[h1];have:n/1000000000=0:=lim_nil.1 h1;simp;omega
 ·cases hh:(lim (n/1000000000)).getLast? with
  |none=>have:n/1000000000=0:=lim_nil.1 (List.getLast?_eq_none_iff.1 hh);simp;omega
  |some x=>rw[hh]at h1;simpa using h1
omit [Env] in
theorem encI_cells' (z:Int):encI z= .ag [.bool (decide (z<0)),.sl (raw (lim z.natAbs))]:=rfl
theorem qtrim_ok {l:List Nat} (hl:Limbs l) (hr:l.length≤1073741824):Gives CC 157 [.c (.sl (raw l))] [.c (.sl (raw (lim (val l))))]:=by
 refine wpF_ok (anns:=fun _=>⟨[.slot 0 (.slice none 0 0)],[],fun _ ds=>∃k,k≤l.length∧ds=[.sl (raw (l.take k))]∧val (l.take k)=val l,fun ds=>(toL (nth .undef ds 0)).length⟩) mixedT Tryz.func157 ?_;rw[vc_qtrim];simp only[Int.ofNat_eq_natCast];refine⟨⟨l.length,Nat.le_refl _,by rw[List.take_length],by rw[List.take_length]⟩,?_⟩;rintro es ⟨k,hk,he,hv⟩;simp only[List.cons.injEq,D.sl.injEq,and_true]at he;subst he;have hlen:(raw (l.take k)).length=k:=by rw[raw_length,List.length_take];omega
 have hfin:(k=0∨∃h:k-1<l.length,l[k-1]≠0)→[A.c (D.sl (raw (l.take k)))]=[A.c (D.sl (raw (lim (val l))))]:=by
  intro h;rw[←hv,lim_uniq (hl.take k)];rcases h with rfl|⟨h,hne⟩
  ·exact .inl (by simp)
  ·refine .inr ?_;rw[List.getLast?_take];split
   ·simp
   ·rw[List.getElem?_eq_getElem h]
    simpa using hne
 refine brd (fun h=>?_) (fun h=>?_)
 ·rw[hlen]at h ⊢;have hk0:0<k:=by omega
  have hw:IntKind.wrap .i64 ((k:Int)-1)=((k-1:Nat):Int):=by rw[i64w];omega
  rw[hw];have hkl:k-1<(l.take k).length:=by rw[List.length_take];omega
  have hg:(l.take k)[k-1]=l[k-1]:=List.getElem_take ..;refine⟨⟨by omega,by omega,raw_len1 hkl⟩,_,cut_raw hkl,brb (fun hz=>?_) (fun hz=>?_)⟩
  ·have hz:l[k-1]=0:=by rw[hg]at hz;simpa using hz
   refine⟨⟨by omega,by omega,by omega,lens_raw _⟩,⟨k-1,by omega,?_,?_⟩,?_⟩
   ·simp only[Int.toNat_natCast,raw_take,List.drop_zero,List.take_take];congr 4;omega
   ·have:l.take k=l.take (k-1)++[l[k-1]]:=by have:=List.take_succ_eq_append_getElem (l:=l) (i:=k-1) (by omega);rw[show k-1+1=k by omega]at this;exact this
    rw[←hv,this,hz,val_append];simp[val]
   ·simp only[Int.toNat_natCast,nth,toL,List.drop_zero,List.length_take,hlen];omega
  ·exact hfin (.inr ⟨by omega,by rw[hg]at hz;simpa using hz⟩)
 ·rw[hlen]at h;exact hfin (.inl (by omega))
theorem qsigned_ok {l:List Nat} (b:Bool) (hl:Limbs l) (hr:l.length≤1073741824):Gives CC 94 [.c (.bool b),.c (.sl (raw l))] [.ag [.bool (b&&decide (0<val l)),.sl (raw (lim (val l)))]]:=by
 refine wpF_ok (anns:=fun _=>⟨[],[],fun _ _=>True,fun _=>0⟩) mixedT Tryz.func94 ?_;rw[vc_qsigned];refine⟨_,qtrim_ok hl hr,?_⟩;have hd:decide ((Int.ofNat (List.length (raw (lim (val l)))))>(0:Int))=decide (0<val l):=by rw[decide_eq_decide,raw_length,←lim_len_pos (n:=val l)];simp only[Int.ofNat_eq_natCast];omega
 rw[hd];refine brb' (fun hb=>?_) (fun hb=>?_)
 ·subst hb;rw[Bool.true_and]
 ·subst hb;rw[Bool.false_and]
theorem qsigned_enc {l:List Nat} (b:Bool) (hl:Limbs l) (hr:l.length≤1073741824) {z:Int} (hz:z=if b then-(val l:Int)else(val l:Int)):
 Gives CC 94 [.c (.bool b),.c (.sl (raw l))] [encI z]:=by
 have h:=qsigned_ok b hl hr;have e:encI z= .ag [.bool (b&&decide (0<val l)),.sl (raw (lim (val l)))]:=by
  unfold encI cI;cases b with
  |false=>simp only[Bool.false_eq_true,if_false]at hz;subst hz;rw[Int.natAbs_natCast,Bool.false_and,decide_eq_false (by omega)]
  |true=>simp only[if_true]at hz;subst hz;rw[Int.natAbs_neg,Int.natAbs_natCast,Bool.true_and];congr 3;rw[decide_eq_decide];omega
 rw[e];exact h
theorem qlimbs_ok {u:Nat} (hu:u<18446744073709551616):Gives CC 95 [.c (.int .u64 (u:Int))] [.c (.sl (raw (lim u)))]:=by
 have h3:(lim u).length≤3:=lim_length_le (Nat.lt_of_lt_of_le hu (by decide));refine wpF_ok (anns:=fun _=>⟨[.own 3 15 1,.slot 0 (.int .u64 0)],[],fun _ ds=>∃(h:List Nat) (v:Nat),ds=[.sl (raw h),.int .u64 (v:Int)]∧v≤u∧lim u=h++lim v,fun ds=>(toI (nth .undef ds 1)).toNat⟩) mixedT Tryz.func95 ?_;rw[vc_qlimbs];refine⟨⟨[],u,rfl,Nat.le_refl _,rfl⟩,?_⟩;rintro es n ⟨h,v,he,hv,hl⟩;simp only[List.cons.injEq,D.sl.injEq,D.int.injEq,true_and,and_true]at he;obtain⟨rfl,rfl⟩:=he;have hlen:h.length≤3:=by have:=congrArg List.length hl;rw[List.length_append]at this;omega
 refine brd (fun h0=>?_) (fun h0=>?_)
 ·have hv0:0<v:=by omega
  rw[tmodN,tdivN,u32w,u64w];refine⟨by omega,⟨by rw[raw_length];unfold room;omega,lens_raw [v%1000000000]⟩,by omega,⟨h++[v%1000000000],v/1000000000,?_,by omega,?_⟩,?_⟩
  ·rw[raw_append];rfl
  ·rw[hl,lim_cons hv0,List.append_assoc];rfl
  ·simp only[nth,toI,Int.toNat_natCast];omega
 ·have hv0:v=0:=by omega
  subst hv0;rw[hl,lim_zero,List.append_nil]
theorem qFromInt64_ok {n:Int} (h1: -9223372036854775808≤n) (h2:n<9223372036854775808):Gives CC 49 [.c (.int .i64 n)] [encI n]:=by
 refine wpF_ok (anns:=fun _=>⟨[],[],fun _ _=>True,fun _=>0⟩) mixedT Tryz.func49 ?_;rw[vc_qFromInt64];have hl:∀u:Nat,u<18446744073709551616→(lim u).length≤1073741824:=fun u hu=>by have:(lim u).length≤3:=lim_length_le (Nat.lt_of_lt_of_le hu (by decide));omega
 refine brd (fun h=>?_) (fun h=>?_)
 ·obtain⟨u,rfl⟩:∃u:Nat,n= -(u:Int):=⟨n.natAbs,by omega⟩;have e:IntKind.wrap .u64 (0-IntKind.wrap .u64 (-(u:Int)))=(u:Int):=by simp[IntKind.wrap,IntKind.bits,IntKind.signed];omega
  rw[e];exact⟨_,qlimbs_ok (by omega),_,_,qsigned_enc true (lim_limbs u) (hl u (by omega)) (z:= -(u:Int)) (by simp[lim_val]),rfl⟩
 ·obtain⟨u,rfl⟩:∃u:Nat,n=(u:Int):=⟨n.natAbs,by omega⟩;rw[u64w];exact⟨_,qlimbs_ok (by omega),_,_,qsigned_enc false (lim_limbs u) (hl u (by omega)) (z:=(u:Int)) (by simp[lim_val]),rfl⟩
theorem qshort_ok {l:List Nat} (hl:Limbs l) (h2:l.length≤2):Gives CC 179 [.c (.sl (raw l))] [.c (.int .u64 (val l:Int))]:=by
 refine wpF_ok (anns:=fun _=>⟨[.slot 3 (.int .u64 0),.slot 4 (.int .i64 0)],[],fun _ ds=>∃k:Nat,k≤l.length∧ds=[.int .u64 (val (l.drop k):Int),.int .i64 ((k:Int)-1)],fun ds=>(toI (nth .undef ds 1)+1).toNat⟩) mixedT Tryz.func179 ?_;rw[vc_qshort];simp only[Int.ofNat_eq_natCast,raw_length];refine⟨⟨l.length,Nat.le_refl _,by rw[List.drop_length,i64w];rfl⟩,?_⟩;rintro n m ⟨k,hk,he⟩;simp only[List.cons.injEq,D.int.injEq,true_and,and_true]at he;obtain⟨rfl,rfl⟩:=he;refine brd (fun h=>?_) (fun h=>?_)
 ·have hk0:k-1<l.length:=by omega
  have ht:((k:Int)-1).toNat=k-1:=by omega
  rw[ht];have hd:val (l.drop (k-1))=l[k-1]+1000000000*val (l.drop k):=by rw[List.drop_eq_getElem_cons hk0,show k-1+1=k by omega];rfl
  have hlt:=val_lt (hl.drop k);have hdl:(l.drop k).length≤1:=by rw[List.length_drop];omega
  have hlt2:val (l.drop k)<1000000000:=by have:1000000000^(l.drop k).length≤1000000000^1:=Nat.pow_le_pow_right (by omega) hdl;omega
  have hx:=hl.get hk0;have hw:IntKind.wrap .u64 (IntKind.wrap .u64 ((val (l.drop k):Int)*1000000000)+IntKind.wrap .u64 (l[k-1]:Int))=(val (l.drop (k-1)):Int):=by rw[u64w (n:=(val (l.drop k):Int)*1000000000),u64w (n:=(l[k-1]:Int)),u64w];omega
  have hw2:IntKind.wrap .i64 ((k:Int)-1-1)=((k-1:Nat):Int)-1:=by rw[i64w];omega
  refine⟨⟨by omega,by omega,raw_len1 hk0⟩,_,cut_raw hk0,⟨k-1,by omega,by rw[hw,hw2]⟩,?_⟩;rw[hw2];simp only[nth,toI];omega
 ·have hk0:k=0:=by omega
  subst hk0;rw[List.drop_zero]
theorem qSign_ok (z:Int):Gives CC 109 [encI z] [.c (.int .i64 (sgn z))]:=by
 refine wpF_ok (anns:=fun _=>⟨[],[],fun _ _=>True,fun _=>0⟩) mixedT Tryz.func109 ?_;rw[encI_cells',vc_qSign];simp only[Int.ofNat_eq_natCast,raw_length];unfold sgn;refine brb (fun h=>?_) (fun h=>?_)
 ·have h0:(lim z.natAbs).length=0:=by simpa using h
  have:z.natAbs=0:=lim_nil.1 (List.eq_nil_of_length_eq_zero h0);rw[if_neg (by omega),if_neg (by omega)]
 ·have h0:(lim z.natAbs).length≠0:=by simpa using h
  have:0<z.natAbs:=lim_len_pos.1 (by omega);refine brb' (fun h=>?_) (fun h=>?_)
  ·rw[if_pos (by simpa using h)]
  ·have:¬z<0:=by simpa using h
   rw[if_neg this,if_pos (by omega)]
theorem qcompare_ok {x y:Nat} (hra:(lim x).length≤1073741824) (hrb:(lim y).length≤1073741824):Gives CC 57 [.c (.sl (raw (lim x))),.c (.sl (raw (lim y)))] [.c (.int .i64 (cmpN x y))]:=by
 generalize hA:lim x=A at *;generalize hB:lim y=B at *;have lA:Limbs A:=hA▸lim_limbs _;have lB:Limbs B:=hB▸lim_limbs _;have vA:val A=x:=hA▸lim_val _;have vB:val B=y:=hB▸lim_val _;have zA:A=[]∨A.getLast?≠some 0:=hA▸lim_last _;have zB:B=[]∨B.getLast?≠some 0:=hB▸lim_last _;refine wpF_ok (anns:=fun _=>⟨[.slot 5 (.int .i64 0)],[],fun _ ds=>∃k:Nat,k≤A.length∧ds=[.int .i64 ((k:Int)-1)]∧A.drop k=B.drop k,fun ds=>(toI (nth .undef ds 0)+1).toNat⟩) mixedT Tryz.func57 ?_;rw[vc_qcompare];simp only[Int.ofNat_eq_natCast,raw_length];refine brb (fun h=>?_) (fun h=>?_)
 ·have h:A.length≠B.length:=by intro e;rw[e]at h;simp at h
  refine brd (fun h1=>?_) (fun h1=>?_)
  ·have hne:B≠[]:=(by intro e;have h0:B.length=0:=(by rw[e];rfl);omega);have:=len_lt lA (zB.resolve_left hne) hne (by omega);rw[cmpN,if_pos (by omega)]
  ·have hne:A≠[]:=(by intro e;have h0:A.length=0:=(by rw[e];rfl);omega);have:=len_lt lB (zA.resolve_left hne) hne (by omega);rw[cmpN,if_neg (by omega),if_pos (by omega)]
 ·have h:A.length=B.length:=by
   have:(A.length:Int)=B.length:=by simpa using h
   omega
  refine⟨⟨A.length,Nat.le_refl _,by rw[i64w],by rw[List.drop_length,h,List.drop_length]⟩,?_⟩;rintro n ⟨k,hk,he,hd⟩;simp only[List.cons.injEq,D.int.injEq,true_and,and_true]at he;subst he;refine brd (fun h1=>?_) (fun h1=>?_)
  ·have hk0:k-1<A.length:=by omega
   have hk1:k-1<B.length:=by omega
   have ht:((k:Int)-1).toNat=k-1:=by omega
   have hd':A.drop (k-1+1)=B.drop (k-1+1):=by rw[show k-1+1=k by omega];exact hd
   rw[ht];refine⟨⟨by omega,by omega,raw_len1 hk0⟩,_,cut_raw hk0,⟨by omega,by omega,raw_len1 hk1⟩,_,cut_raw hk1,brd (fun h2=>?_) (fun h2=>?_)⟩
   ·have:=val_drop_lt lA h hk0 hd' (by omega);rw[cmpN,if_pos (by omega)]
   ·refine⟨⟨by omega,by omega,raw_len1 hk0⟩,_,cut_raw hk0,⟨by omega,by omega,raw_len1 hk1⟩,_,cut_raw hk1,brd (fun h3=>?_) (fun h3=>?_)⟩
    ·have:=val_drop_lt lB h.symm hk1 hd'.symm (by omega);rw[cmpN,if_neg (by omega),if_pos (by omega)]
    ·have hw:IntKind.wrap .i64 ((k:Int)-1-1)=((k-1:Nat):Int)-1:=by rw[i64w];omega
     rw[hw];refine⟨⟨k-1,by omega,rfl,?_⟩,?_⟩
     ·rw[List.drop_eq_getElem_cons hk0,List.drop_eq_getElem_cons hk1,hd'];congr 1;omega
     ·simp only[nth,toI];omega
  ·have hk0:k=0:=by omega
   subst hk0;have:A=B:=by simpa using hd
   rw[cmpN,←vA,←vB,this,if_neg (by omega),if_neg (by omega)]
theorem qCmp_ok {x y:Int} (hx:Sm x) (hy:Sm y):Gives CC 106 [encI x,encI y] [.c (.int .i64 (cmpZ x y))]:=by
 refine wpF_ok (anns:=fun _=>⟨[],[],fun _ _=>True,fun _=>0⟩) mixedT Tryz.func106 ?_;have lx:=hx.len;have ly:=hy.len;rw[encI_cells' x,encI_cells' y,vc_qCmp];have c1:=qcompare_ok (x:=x.natAbs) (y:=y.natAbs) (by omega) (by omega);have c2:=qcompare_ok (x:=y.natAbs) (y:=x.natAbs) (by omega) (by omega);refine brb (fun h=>?_) (fun h=>?_)
 ·refine brb' (fun h1=>?_) (fun h1=>?_)
  ·have h1:x<0:=by simpa using h1
   have h2:¬y<0:=by intro h2;rw[decide_eq_true h1,decide_eq_true h2]at h;simp at h
   rw[cmpZ,if_pos (by omega)]
  ·have h1:¬x<0:=by simpa using h1
   have h2:y<0:=by apply Decidable.byContradiction;intro h2;rw[decide_eq_false h1,decide_eq_false h2]at h;simp at h
   rw[cmpZ,if_neg (by omega),if_pos (by omega)]
 ·refine brb' (fun h1=>?_) (fun h1=>?_)
  ·have h1:x<0:=by simpa using h1
   have h2:y<0:=by apply Decidable.byContradiction;intro h2;rw[decide_eq_true h1,decide_eq_false h2]at h;simp at h
   refine⟨_,c2,?_⟩;have:cmpN y.natAbs x.natAbs=cmpZ x y:=by
    unfold cmpN cmpZ;by_cases h3:x<y
    ·rw[if_pos h3,if_pos (by omega)]
    ·rw[if_neg h3,if_neg (by omega)];by_cases h4:y<x
     ·rw[if_pos h4,if_pos (by omega)]
     ·rw[if_neg h4,if_neg (by omega)]
   rw[this]
  ·have h1:¬x<0:=by simpa using h1
   have h2:¬y<0:=by intro h2;rw[decide_eq_false h1,decide_eq_true h2]at h;simp at h
   refine⟨_,c1,?_⟩;have:cmpN x.natAbs y.natAbs=cmpZ x y:=by
    unfold cmpN cmpZ;by_cases h3:x<y
    ·rw[if_pos h3,if_pos (by omega)]
    ·rw[if_neg h3,if_neg (by omega)];by_cases h4:y<x
     ·rw[if_pos h4,if_pos (by omega)]
     ·rw[if_neg h4,if_neg (by omega)]
   rw[this]
omit [Env] in
theorem set_last {o:List Nat} {k c:Nat} (ho:o.length=k):(o++[0]).set k c=o++[c]:=by
 rw[List.set_append_right _ _ (by omega),ho];simp
def qpI (a b:List Nat):List D→List D→Prop:=fun _ ds=>∃(k:Nat) (o:List Nat) (c:Nat),k≤a.length∧o.length=k∧ds=[.sl (raw (o++List.replicate (a.length+1-k) 0)),.int .u32 (c:Int),.int .i64 (k:Int)]∧Limbs o∧c≤1∧val o+1000000000^k*c=val (a.take k)+val (b.take k)
def qpM (a:List Nat):List D→Nat:=fun ds=>a.length-(toI (nth .undef ds 2)).toNat
theorem qplus_main {a b:List Nat} (ha:Limbs a) (hb:Limbs b) (hra:a.length≤1073741823) (hab:b.length≤a.length):
 QplusV (Gives CC) (qpI a b) (qpM a)
  (fun r=>r=[.c (.sl (raw (lim (val a+val b))))]) (raw a) (raw b):=by
 unfold QplusV qpI qpM;simp only[Int.ofNat_eq_natCast,raw_length];have hn:IntKind.wrap .i64 ((a.length:Int)+1)=((a.length+1:Nat):Int):=by rw[i64w];omega
 rw[hn,Int.toNat_natCast];refine⟨⟨by omega,by omega,by unfold room;omega⟩,⟨0,[],0,by omega,rfl,by rw[raw_replicate];rfl,Limbs.nil,by omega,by simp[val]⟩,?_⟩;rintro es n m ⟨k,o,c,hk,ho,he,lo,hc,hv⟩;simp only[List.cons.injEq,D.int.injEq,D.sl.injEq,true_and,and_true]at he;obtain⟨rfl,rfl,rfl⟩:=he;have hol:(o++List.replicate (a.length+1-k) 0).length=a.length+1:=by simp[ho];omega
 refine brd (fun h1=>?_) (fun h1=>?_)
 ·have hkx:k<a.length:=by omega
  have hxk:=ha.get hkx;have hk1:IntKind.wrap .i64 ((k:Int)+1)=((k+1:Nat):Int):=by rw[i64w];omega
  rw[Int.toNat_natCast,hk1,raw_length,hol];have fin:∀(t:Nat),t≤1999999999→t=a[k]+c+b.getD k 0→
   (((0:Int)≤(k:Int)∧(k:Int)<((a.length+1:Nat):Int))∧0<1∧(1000000000:Int)≠0∧
     (∃(k':Nat) (o':List Nat) (c':Nat),k'≤a.length∧o'.length=k'∧[D.sl (upd (raw (o++List.replicate (a.length+1-k) 0)) k (upd (nth [] (raw (o++List.replicate (a.length+1-k) 0)) k) 0 (D.int .u32 (Int.tmod (t:Int) 1000000000)))),D.int .u32 (IntKind.wrap .u32 (Int.tdiv (t:Int) 1000000000)),D.int .i64 ((k+1:Nat):Int)]=
        [.sl (raw (o'++List.replicate (a.length+1-k') 0)),.int .u32 (c':Int),.int .i64 (k':Int)]∧Limbs o'∧c'≤1∧val o'+1000000000^k'*c'=val (a.take k')+val (b.take k'))∧
     a.length-(toI (nth .undef [D.sl (upd (raw (o++List.replicate (a.length+1-k) 0)) k (upd (nth [] (raw (o++List.replicate (a.length+1-k) 0)) k) 0 (D.int .u32 (Int.tmod (t:Int) 1000000000)))),D.int .u32 (IntKind.wrap .u32 (Int.tdiv (t:Int) 1000000000)),D.int .i64 ((k+1:Nat):Int)] 2)).toNat<
      a.length-(toI (nth .undef [D.sl (raw (o++List.replicate (a.length+1-k) 0)),D.int .u32 (c:Int),D.int .i64 (k:Int)] 2)).toNat):=by
   intro t ht hte;rw[tmodN,tdivN,u32w,upd_raw (by rw[hol];omega),set_rep ho (by omega)];refine⟨⟨by omega,by omega⟩,by omega,by omega,⟨k+1,o++[t%1000000000],t/1000000000,by omega,by simp[ho],by rw[show a.length+1-k-1=a.length+1-(k+1)by omega],lo.append (Limbs.cons (by omega) Limbs.nil),by omega,plus_step hkx ho hv (by omega)⟩,?_⟩;simp only[nth,toI];omega
  refine⟨⟨by omega,by omega,raw_len1 hkx⟩,_,cut_raw hkx,brd (fun h2=>?_) (fun h2=>?_)⟩
  ·have hky:k<b.length:=by omega
   have hyk:=hb.get hky;have hgd:b.getD k 0=b[k]:=by simp[List.getD,hky]
   have hw:IntKind.wrap .u32 (IntKind.wrap .u32 ((c:Int)+(a[k]:Int))+(b[k]:Int))=((a[k]+c+b[k]:Nat):Int):=by rw[u32w (n:=(c:Int)+(a[k]:Int)),u32w];omega
   refine⟨⟨by omega,by omega,raw_len1 hky⟩,_,cut_raw hky,by omega,?_⟩;rw[hw];exact fin _ (by omega) (by omega)
  ·have hgd:b.getD k 0=0:=getD_ge (by omega);have hw:IntKind.wrap .u32 ((c:Int)+(a[k]:Int))=((a[k]+c:Nat):Int):=by rw[u32w];omega
   rw[hw];exact⟨by omega,fin _ (by omega) (by omega)⟩
 ·have hkx:k=a.length:=by omega
  subst hkx;rw[List.take_length,List.take_of_length_le hab]at hv;have e1:a.length+1-a.length=1:=by omega
  rw[e1]at hol ⊢;rw[Int.toNat_natCast,raw_length,hol,upd_raw (by rw[hol];omega),List.replicate_one,set_last ho];have hg:=qtrim_ok (l:=o++[c]) (lo.append (Limbs.cons (by omega) Limbs.nil)) (by simp[ho];omega);rw[val_snoc,ho,hv]at hg;exact⟨⟨by omega,by omega⟩,by omega,_,hg,rfl⟩
theorem qplus_ok {a b:List Nat} (ha:Limbs a) (hb:Limbs b) (hra:a.length≤1073741823) (hrb:b.length≤1073741823):Gives CC 258 [.c (.sl (raw a)),.c (.sl (raw b))] [.c (.sl (raw (lim (val a+val b))))]:=by
 by_cases hab:a.length<b.length
 ·refine wpF_ok (anns:=fun _=>⟨[.own 5 55 1,.slot 6 (.int .u32 0),.slot 7 (.int .i64 0)],[],qpI b a,qpM b⟩) mixedT Tryz.func258 ?_;have h:=qplus_main hb ha hrb (by omega);rw[vc_qplus];simp only[Int.ofNat_eq_natCast,raw_length];refine brd (fun _=>?_) (fun h0=>by omega);rw[Nat.add_comm (val b)]at h;exact h
 ·refine wpF_ok (anns:=fun _=>⟨[.own 5 55 1,.slot 6 (.int .u32 0),.slot 7 (.int .i64 0)],[],qpI a b,qpM a⟩) mixedT Tryz.func258 ?_;have h:=qplus_main ha hb hra (by omega);rw[vc_qplus];simp only[Int.ofNat_eq_natCast,raw_length];exact brd (fun h0=>by omega) (fun _=>h)
end Eng
end

section
namespace Eng
open Go Go.Proofs
theorem lim_getD:∀(i n:Nat),(lim n).getD i 0=n/1000000000^i%1000000000
 |0,n=>by
  rw[Nat.pow_zero,Nat.div_one];rcases Nat.eq_zero_or_pos n with h|h
  ·rw[h];rfl
  ·rw[lim_cons h];rfl
 |i+1,n=>by
  rcases Nat.eq_zero_or_pos n with h|h
  ·rw[h,lim_zero,Nat.zero_div];rfl
  ·rw[lim_cons h,Nat.pow_succ,Nat.mul_comm,←Nat.div_div_eq_div_mul];exact lim_getD i (n/1000000000)
theorem lim_short {n i:Nat} (h:(lim n).length≤i):n/1000000000^i=0:=by
 apply Nat.div_eq_of_lt;rcases Nat.lt_or_ge n (1000000000^i)with h2|h2
 ·exact h2
 ·have:=lim_length_of_le h2;omega
theorem high_step {R n:Nat}:R/1000000000^(n+1)*1000000000+R/1000000000^n%1000000000=R/1000000000^n:=by
 rw[Nat.pow_succ,←Nat.div_div_eq_div_mul];generalize R/1000000000^n=q;omega
theorem div_up {R V v1 P vl:Nat} (hV:V=v1*P+vl) (hV0:0<v1*P):R/V≤R/P/v1:=by
 rw[Nat.div_div_eq_div_mul,Nat.mul_comm P v1];exact Nat.div_le_div_left (by omega) hV0
theorem mul_gt {R V d:Nat} (hV:0<V) (h:R<V*d):R/V<d:=by
 rw[Nat.div_lt_iff_lt_mul hV,Nat.mul_comm];exact h
theorem mul_le {R V d:Nat} (hV:0<V) (h:V*d≤R) (h2:R/V≤d):d=R/V:=by
 have:d≤R/V:=(Nat.le_div_iff_mul_le hV).2 (by rw[Nat.mul_comm];exact h);omega
theorem sub_mod {R V:Nat}:R-V*(R/V)=R%V:=by
 have:=Nat.div_add_mod R V;omega
theorem round_ref {V Q R c B:Nat}:(((c+B*R)/V)+B*Q)*V+(c+B*R)%V=c+B*(Q*V+R):=by
 have h:=Nat.div_add_mod (c+B*R) V;generalize (c+B*R)/V=d at *;generalize (c+B*R)%V=e at *;have e1:(d+B*Q)*V+e=(V*d+e)+B*(Q*V):=by rw[Nat.add_mul,Nat.mul_comm d V,Nat.mul_assoc];omega
 rw[e1,h,Nat.mul_add];omega
theorem lt_round {V R c B:Nat} (hc:c<B) (hR:R<V):c+B*R<B*V:=by
 have:B*(R+1)≤B*V:=Nat.mul_le_mul_left _ hR;rw[Nat.mul_add]at this;omega
theorem div_lt_round {V R c B:Nat} (hc:c<B) (hR:R<V):(c+B*R)/V<B:=by
 rw[Nat.div_lt_iff_lt_mul (by omega)];exact lt_round hc hR
theorem drop_val {u:List Nat} {k:Nat} (h:k<u.length):val (u.drop k)=u[k]+1000000000*val (u.drop (k+1)):=by
 rw[List.drop_eq_getElem_cons h];rfl
theorem divmod_uniq {U V q r:Nat} (h:q*V+r=U) (hr:r<V):q=U/V∧r=U%V:=by
 have hV:0<V:=by omega
 subst h;constructor
 ·rw[Nat.mul_comm,Nat.mul_add_div hV,Nat.div_eq_of_lt hr];omega
 ·rw[Nat.mul_comm,Nat.mul_add_mod,Nat.mod_eq_of_lt hr]
theorem set_next {k d:Nat} {q:List Nat}:(List.replicate (k+1) 0++q).set k d=List.replicate k 0++d::q:=by
 rw[List.replicate_succ',List.append_assoc,List.set_append];simp
end Eng
end
