/- A part of the proof. -/
import Derived.Test.YtbehlcfelmbmlaaGreatDoorIntA
import Derived.KernelRfl
open Bool renaming and_eq_true→Aa
open Eng.A renaming ag→Ab, c→Ac
open Eng.D renaming bool→Ad, sl→Ae, int→Af
open Go.Lib renaming decDigits→Ah, repeatL→Ai, TabIs→Aj
open Int renaming natAbs_natCast→Ak, natAbs_neg→Al, ofNat_eq_natCast→Am, ediv_emod_unique→An, ofNat→Ao, natCast_mul→Ap, tmod→Aq, mul_neg→Ar
open List renaming map_cons→As, mem_singleton→At, mem_flatMap→Au, cons_append→Av, nil_append→Aw
open Nat renaming eq_of_beq_eq_true→Ax, beq→Ay, le_of_ble_eq_true→Az, blt_eq→A0, eq_zero_or_pos→A1, gcd_comm→A2, blt→A3, gcd→A4, mod_lt→A5, gcd_zero_right→A6, ble→A7, one_lt_pow→A8, gcd_rec→A9
open Option.some renaming injEq→AA
section
namespace Eng
open Go Go.Proofs Go.RowKit
def vi (chk:List A→Bool) (s:Nat) (mk:List A→List (List D)) (dst:Option Nat) (vs:List V) (ob:List Obj):R:=
 match dst with
 |none=> .fail
 |some d=>match qq ob d,kL ob vs with
  |true,some (al,us)=> .cond (chk al=true) (.arr d) (us++[(d,.arr s (mk al) false)])
  |_,_=> .fail
theorem QU {C:Cx} {f s:Nat} {fn:Func} {chk:List A→Bool} {mk:List A→List (List D)} (hf:C.P.funcs[f]? =some fn) (hb:fn.body≠none) (hn:fn.name≠ "runtime.NumGoroutine") (h:∀al,chk al=true→jr C f al s (mk al)):EffAt C f (vi chk s mk):=by
 have h0:=HR (C:=C) (own:=fun al=>match chk al with|true=>some (s,mk al)|false=>none) hf hb hn (fun al s' es ho=>by
  split at ho
  ·rename_i hc;simp only[AA,Prod.mk.injEq]at ho;obtain⟨rfl,rfl⟩:=ho;exact h al hc
  ·simp at ho)
 have hE:∀(dst:Option Nat) (vs:List V) (ob:List Obj),(∃al us d,dst=some d∧qq ob d=true∧kL ob vs=some (al,us)∧vi chk s mk dst vs ob= .cond (chk al=true) (.arr d) (us++[(d,.arr s (mk al) false)])∧
  (chk al=true→Xt (fun al=>match chk al with|true=>some (s,mk al)|false=>none) dst vs ob= .ok (.arr d) (us++[(d,.arr s (mk al) false)])))∨vi chk s mk dst vs ob= .fail:=by
  intro dst vs ob;unfold vi;split
  ·exact .inr rfl
  ·rename_i d;split
   ·rename_i al us h1 h2;refine .inl ⟨al,us,d,rfl,h1,h2,rfl,fun hc=>?_⟩;simp only[Xt,h1,h2,hc]
   ·exact .inr rfl
 refine⟨fun{B F0 w0 F loc st a w dst args ts ty pos after g} hc=>?_,fun dst vs ob ob' hh hd=>?_,fun dst vs ob hv hb=>?_⟩
 ·rcases hE dst (args.toList.map (ev st)) st.objs with⟨al,us,d,h1,h2,h3,h4,h5⟩|h1
  ·rw[h4];intro hcc;have:=h0.rs (dst:=dst) (args:=args) (ts:=ts) (ty:=ty) (pos:=pos) (after:=after) (g:=g) hc;rw[h5 hcc]at this;exact this
  ·rw[h1];trivial
 ·unfold vi;cases dst with
  |none=>rfl
  |some d=>
   have h1:kL ob vs=kL ob' vs:=jM (c:=2) fun v hv k hk=> .inl (hh k (by
    rw[qy];exact⟨k,Au.2 ⟨v,hv,hk⟩,.inl rfl⟩))
   simp only[h1];rw[hd d (.inl rfl)]
 ·rcases hE dst vs ob with⟨al,us,d,rfl,h2,h3,h4,h5⟩|h1
  ·rw[h4];have hfz:=yZ h3;refine⟨fun p hp=>?_,fun k hk=>?_⟩
   ·rcases List.mem_append.1 hp with hp|hp
    ·obtain⟨⟨v,hv1,hv2⟩,s',es',fz,h1,h2⟩:=hfz p hp;refine⟨.inr ⟨?_,by rw[h1];simp⟩,by rw[h2];simp,fun u hu=>by rw[h2]at hu;simp[qM]at hu⟩;rw[qy];exact⟨p.1,Au.2 ⟨v,hv1,hv2⟩,.inl rfl⟩
    ·simp only[At]at hp;subst hp;exact⟨.inl ⟨.inl rfl,h2⟩,by simp,fun u hu=>by simp[qM]at hu⟩
   ·simp only[qk,At]at hk;subst hk;exact .inr ⟨h2,_,List.mem_append_right _ (At.2 rfl)⟩
  ·rw[h1];trivial
def Rp:List D→Bool
 |[.int .u32 (.ofNat n)]=>A3 n 1000000000
 |_=>false
def wz:List (List D)→Bool
 |[]=>true
 |e::r=>Rp e&&wz r
def Nk:List D→Nat
 |[.int _ n]=>n.toNat
 |_=>0
def QI (es:List (List D)):List Nat:=es.map Nk
def QJ:List (List D)→Nat
 |[]=>0
 |e::r=>Nk e+1000000000*QJ r
theorem ki:∀{es:List (List D)},wz es=true→es=raw (QI es)∧Limbs (QI es)∧val (QI es)=QJ es
 |[],_=>⟨rfl,Limbs.nil,rfl⟩
 |e::r,h=>by
  simp only[wz,Aa]at h;obtain⟨h1,h2,h3⟩:=ki h.2;have he:=h.1;unfold Rp at he;split at he
  ·rename_i n;rw[A0]at he;refine⟨?_,Limbs.cons he h2,?_⟩
   ·simp only[QI,As,raw,Nk]at h1 ⊢;rw[←h1];rfl
   ·simp only[QI,As,val,QJ,Nk]at h3 ⊢;rw[h3]
  ·simp at he
theorem kA:∀{l:List Nat},Limbs l→wz (raw l)=true
 |[],_=>rfl
 |x::l,h=>by obtain⟨h1,h2⟩:=h.of_cons;simp only[raw,As,wz,Aa];refine⟨?_,kA h2⟩;show A3 x 1000000000=true;rw[A0];exact h1
theorem jD:∀(l:List Nat),QJ (raw l)=val l
 |[]=>rfl
 |x::l=>by have:=jD l;simp only[raw,As,QJ,val,Nk]at this ⊢;rw[this];rfl
def xT:List A→Bool
 |[.c (.sl a),.c (.sl b)]=>wz a&&(wz b&&(A7 a.length 536870912&&(A7 b.length 536870912&&A3 0 (a.length+b.length))))
 |_=>false
def zV:List A→List (List D)
 |[.c (.sl a),.c (.sl b)]=>raw (pad (a.length+b.length) (QJ a*QJ b))
 |_=>[]
theorem ZN (al:List A) (h:xT al=true):jr C0 190 al 1 (zV al):=by
 unfold xT at h;split at h
 ·rename_i a b;simp only[Aa]at h;obtain⟨h1,h2,h3,h4,h5⟩:=h;obtain⟨ea,la,va⟩:=ki h1;obtain⟨eb,lb,vb⟩:=ki h2;have h3:=Az h3;have h4:=Az h4;rw[A0]at h5;have na:(QI a).length=a.length:=by simp[QI]
  have nb:(QI b).length=b.length:=by simp[QI]
  have:=Xz la lb (by omega) (by omega) (by omega);rw[←ea,←eb,va,vb,na,nb]at this;exact this
 ·simp at h
theorem Nl:ExtK Tryz.prog 319 Extern.BytealgIndexByte.indexByte:=⟨fun args w=>run_callFunc_extern Tryz.func319 (by kernel_rfl) (by kernel_rfl) (by kernel_rfl) (by kernel_rfl) args w⟩
theorem Nm:ExtK Tryz.prog 317 Extern.BytealgCount.count:=⟨fun args w=>run_callFunc_extern Tryz.func317 (by kernel_rfl) (by kernel_rfl) (by kernel_rfl) (by kernel_rfl) args w⟩
def Rq (t:TypeId) (d:Option Nat):Bool:=
 match Ay t 37,d with
 |true,some d=>Ay d 148||(Ay d 160||Ay d 71)
 |_,_=>false
def Rr (chk:List A→Bool) (mk:List A→List (List D)) (f:Nat):Option (Option Nat→List V→List Obj→R):=
 match vX 76 29 158 32 f with
 |some e=>some e
 |none=>match Ay f 319 with
  |true=>some N5
  |false=>match Ay f 317 with
   |true=>some N6
   |false=>match Ay f 309 with
    |true=>some J2
    |false=>match Ay f 310 with
     |true=>some J5
     |false=>match Ay f 190 with
      |true=>some (vi chk 1 mk)
      |false=>none
noncomputable def CM (chk:List A→Bool) (mk:List A→List (List D)):Cx:=⟨Tryz.prog,Sv,fun t=>Ay t 76,Rr chk mk,Rq,fun _=>false⟩
noncomputable def CC:Cx:=CM xT zV
theorem NT (f:Nat) (e:Option Nat→List V→List Obj→R) (h:CC.eff f=some e):EffAt CC f e:=by
 replace h:Rr xT zV f=some e:=h;unfold Rr at h;split at h
 ·rename_i e' he;simp only[AA]at h;subst h;exact Jy (C:=CC) bldK he
 ·split at h
  ·rename_i hb;obtain rfl:=Ax hb;simp only[AA]at h;subst h;exact J0 Nl
  ·split at h
   ·rename_i hb;obtain rfl:=Ax hb;simp only[AA]at h;subst h;exact J1 Nm
   ·split at h
    ·rename_i hb;obtain rfl:=Ax hb;simp only[AA]at h;subst h;exact J6 (C:=CC) ST
    ·split at h
     ·rename_i hb;obtain rfl:=Ax hb;simp only[AA]at h;subst h;exact J7 (C:=CC) ST
     ·split at h
      ·rename_i hb;obtain rfl:=Ax hb;simp only[AA]at h;subst h;exact QU (C:=CC) Tryz.func190 (by simp[Tryz.f190]) (by decide) fun al hc=>Qw (C:=C0) (C':=CC) rfl rfl (ZN al hc)
      ·simp at h
instance:EffOk CC:=j7 NT
def SC:Nat→Nat→List UInt8
 |0,_=>[]
 |n+1,u=>match A3 u 10 with
  |true=>[UInt8.ofNat (48+u)]
  |false=>SC n (u/10)++[UInt8.ofNat (48+u%10)]
theorem GA:∀(n u:Nat),0<n→u<10^n→SC n u=Ah u
 |n+1,u,_,h=>by
  rw[Ah];simp only[SC];by_cases h1:u<10
  ·rw[dif_pos h1];have:A3 u 10=true:=by rw[A0];exact h1
   rw[this]
  ·rw[dif_neg h1];have:A3 u 10=false:=by rw[Bool.eq_false_iff];intro h2;rw[A0]at h2;exact h1 h2
   rw[this];simp only;have hn:0<n:=by
    rcases A1 n with h0|h0
    ·subst h0;simp at h;omega
    ·exact h0
   rw[GA n (u/10) hn (by rw[Nat.pow_succ]at h;omega)]
theorem Bf {F:Nat→Prop} {w:World} (h:Inv CC F w):Aj Tryz.prog w "internal/strconv.uint64pow10" .u64 Lib.pow10Tab:=by
 obtain⟨_,vs,t,fr,hb,hcs⟩:=h 2 pow10D rfl;have hg:Tryz.prog.globalNamed "internal/strconv.uint64pow10" =some 2:=by kernel_rfl
 unfold Aj World.var?;rw[hg];simp only[Option.bind_some,hb];have hv:vs.toList=pow10D.map fun d=>match d with| .int k n=>Value.int k n|_=>undef:=by
  have key:∀(l:List D) (us:List Value),(∀d∈l,∃k n,d= .int k n)→All2 (CD w F) l us→us=l.map fun d=>match d with| .int k n=>Value.int k n|_=>undef:=by
   intro l
   induction l with
   |nil=>intro us _ h;cases us with|nil=>rfl|cons _ _=>exact h.elim
   |cons d l ih=>
    intro us hl h;cases us with
    |nil=>exact h.elim
    |cons u us=>obtain⟨k,n,rfl⟩:=hl d (by simp);rw[ih us (fun d hd=>hl d (by simp[hd])) h.2];cases(h.1:CD _ _ _ _);rfl
  refine key _ _ (fun d hd=>?_) hcs;simp only[pow10D,List.mem_cons,List.not_mem_nil,or_false]at hd;rcases hd with rfl|rfl|rfl|rfl|rfl|rfl|rfl|rfl|rfl|rfl|rfl|rfl|rfl|rfl|rfl|rfl|rfl|rfl|rfl|rfl<;>exact⟨_,_,rfl⟩
 have:vs=(pow10D.map fun d=>match d with| .int k n=>Value.int k n|_=>undef).toArray:=by rw[←hv]
 rw[this];rfl
theorem Yl (u:Nat) (hu:u<18446744073709551616):qe CC 71 [.c (.int .u64 u),.c (.int .i64 10)] [.c (.str (Ah u))]:=
 kJ rfl (fun _ _=>CD.str _) fun w F hi=>by have:=fu61 u hu w (Bf hi);exact this
theorem GB (s:List UInt8) (c:Nat) (hc:s.length*c≤1073741824) (hc2:c≤1073741824):qe CC 161 [.c (.str s),.c (.int .i64 c)] [.c (.str (Ai s c))]:=
 kJ rfl (fun _ _=>CD.str _) fun w F _=>by have hs:(⟨⟨s⟩⟩:ByteArray).size=s.length:=rfl;exact Tryz.strings_Repeat ⟨⟨s⟩⟩ c w (by omega) (by rw[hs];omega)
def Bg (f:Nat) (al:List A):Option (List A):=
 match Ay f 161 with
 |true=>match al with
  |[.c (.str s),.c (.int .i64 (.ofNat c))]=>match A7 (s.length*c) 1073741824,A7 c 1073741824 with
   |true,true=>some [.c (.str (Ai s c))]
   |_,_=>none
  |_=>none
 |false=>match Ay f 71 with
  |true=>match al with
   |[.c (.int .u64 (.ofNat u)),.c (.int .i64 (.ofNat b))]=>match Ay b 10,A3 u 18446744073709551616 with
    |true,true=>some [.c (.str (SC 20 u))]
    |_,_=>none
   |_=>none
  |false=>none
theorem NU (f:Nat) (al rs:List A) (h:Bg f al=some rs):qe CC f al rs:=by
 unfold Bg at h;split at h
 ·rename_i hb;obtain rfl:=Ax hb;split at h
  ·rename_i s c;split at h
   ·rename_i h1 h2;simp only[AA]at h;subst h;exact GB s c (Az h1) (Az h2)
   ·simp at h
  ·simp at h
 ·split at h
  ·rename_i hb;obtain rfl:=Ax hb;split at h
   ·rename_i u b;split at h
    ·rename_i h1 h2;simp only[AA]at h;subst h;obtain rfl:=Ax h1;rw[A0]at h2;have hu:=h2;rw[GA 20 u (by omega) (by omega)];exact Yl u hu
    ·simp at h
   ·simp at h
  ·simp at h
end Eng
end

section
open Go Go.Proofs Eng
set_option maxRecDepth 1000000
namespace Eng
section
variable (Gv:Nat→List A→List A→Prop) (Q:List A→Prop) (I0 I1 I2 I3:List D→List D→Prop) (M0 M1 M2 M3:List D→Nat)
theorem GC (p q:Bool) (es fs:List (List D)):wpF CC Gv an0 Tryz.f137 [.ag [.bool p,.sl es],.ag [.bool q,.sl fs]] Q=(
 br (toB (Ad ((Ao fs.length)==0))) (Q [Ab [Ad false,Ae []],Ab [Ad false,Ae []],Ac (Af .i64 6)]) (∃e1 e2,Gv 233 [Ac (Ae es),Ac (Ae fs)] [Ac (Ae e1),Ac (Ae e2)]∧∃b es,Gv 189 [Ac (Ad !p==q),Ac (Ae e1)] [Ab [Ad b,Ae es]]∧∃b1 e3,Gv 189 [Ac (Ad p),Ac (Ae e2)] [Ab [Ad b1,Ae e3]]∧br (toB (Ad (decide ((Ao e3.length)>0)))) (br (toB (Ad !b1==q)) (∃b2 e4,Gv 136 [Ac (Af .i64 1)] [Ab [Ad b2,Ae e4]]∧∃b3 e5,Gv 234 [Ab [Ad b,Ae es],Ab [Ad b2,Ae e4]] [Ab [Ad b3,Ae e5]]∧∃b es,Gv 235 [Ab [Ad b1,Ae e3],Ab [Ad q,Ae fs]] [Ab [Ad b,Ae es]]∧Q [Ab [Ad b3,Ae e5],Ab [Ad b,Ae es],Ac (Af .i64 0)]) (Q [Ab [Ad b,Ae es],Ab [Ad b1,Ae e3],Ac (Af .i64 0)])) (Q [Ab [Ad b,Ae es],Ab [Ad b1,Ae e3],Ac (Af .i64 0)]))):=by kernel_rfl
theorem Rs (p q:Bool) (es fs:List (List D)):wpF CC Gv (Vn ⟨[.box 5 [.bool false,.slice none 0 0],.box 6 [.bool false,.slice none 0 0]],[],I0,M0⟩ ⟨[.slot 7 (.int .u64 0),.slot 9 (.int .u64 0)],[],I1,M1⟩) Tryz.f186 [.ag [.bool p,.sl es],.ag [.bool q,.sl fs]] Q=(
 ∃b e1,Gv 189 [Ac (Ad false),Ac (Ae es)] [Ab [Ad b,Ae e1]]∧∃b1 es,Gv 189 [Ac (Ad false),Ac (Ae fs)] [Ab [Ad b1,Ae es]]∧I0 [] [Ad b,Ae e1,Ad b1,Ae es]∧∀(b:Bool) (es:List (List D)) (b2:Bool) (e2:List (List D)),I0 [] [Ad b,Ae es,Ad b2,Ae e2]→br (toB (Ad (decide ((Ao e2.length)>0)))) (∃n b3,Gv 268 [Ab [Ad b,Ae es]] [Ac (Af .u64 n),Ac (Ad b3)]∧∃n1 b4,Gv 268 [Ab [Ad b2,Ae e2]] [Ac (Af .u64 n1),Ac (Ad b4)]∧br b3 (br b4 (I1 [] [Af .u64 n,Af .u64 n1]∧∀(n n2:Int),I1 [] [Af .u64 n,Af .u64 n2]→br (toB (Ad (decide (n2>0)))) (n2≠0∧I1 [] [Af .u64 n2,Af .u64 (Aq n n2)]∧M1 [Af .u64 n2,Af .u64 (Aq n n2)]<M1 [Af .u64 n,Af .u64 n2]) (∃es,Gv 232 [Ac (Af .u64 n)] [Ac (Ae es)]∧∃b e3,Gv 189 [Ac (Ad false),Ac (Ae es)] [Ab [Ad b,Ae e3]]∧Q [Ab [Ad b,Ae e3]])) (∃e3 e4,Gv 233 [Ac (Ae es),Ac (Ae e2)] [Ac (Ae e3),Ac (Ae e4)]∧∃b5 e5,Gv 189 [Ac (Ad false),Ac (Ae e4)] [Ab [Ad b5,Ae e5]]∧I0 [] [Ad b2,Ae e2,Ad b5,Ae e5]∧M0 [Ad b2,Ae e2,Ad b5,Ae e5]<M0 [Ad b,Ae es,Ad b2,Ae e2])) (∃e3 e4,Gv 233 [Ac (Ae es),Ac (Ae e2)] [Ac (Ae e3),Ac (Ae e4)]∧∃b5 e5,Gv 189 [Ac (Ad false),Ac (Ae e4)] [Ab [Ad b5,Ae e5]]∧I0 [] [Ad b2,Ae e2,Ad b5,Ae e5]∧M0 [Ad b2,Ae e2,Ad b5,Ae e5]<M0 [Ad b,Ae es,Ad b2,Ae e2])) ((room es.length∧lens 1 es)∧∃b e3,Gv 189 [Ac (Ad false),Ac (Ae es)] [Ab [Ad b,Ae e3]]∧Q [Ab [Ad b,Ae e3]])):=by kernel_rfl
end
end Eng
end

section
namespace Eng
open Go Go.Proofs
set_option maxRecDepth 100000
theorem up {f:Nat} {al rs:List A} (h:qe C0 f al rs):qe CC f al rs:=Zi rfl rfl h
def zn:Prop:=∀(a b:List Nat),Limbs a→Limbs b→val b≠0→a.length≤1000→b.length≤1000→
 ∃q r,qe CC 233 [.c (.sl (raw a)),.c (.sl (raw b))] [.c (.sl (raw q)),.c (.sl (raw r))]∧Limbs q∧Limbs r∧val q=val a/val b∧val r=val a%val b∧q.length≤1073741824∧r.length≤1073741824
theorem smN {n:Nat}:Sm (n:Int)↔n<X1:=by unfold Sm;rw[Ak]
theorem GD (hd:zn) {x y:Int} (hx:Sm x) (hy:Sm y):qe CC 186 [qH x,qH y] [qH (A4 x.natAbs y.natAbs:Nat)]:=by
 generalize hG:A4 x.natAbs y.natAbs=G;refine qf (anns:=Vn
  ⟨[.box 5 [.bool false,.slice none 0 0],.box 6 [.bool false,.slice none 0 0]],[],fun _ ds=>∃m n:Nat,ds=cI (m:Int)++cI (n:Int)∧A4 m n=G∧m<X1∧n<X1,fun ds=>QJ (toL (nth .undef ds 3))⟩
  ⟨[.slot 7 (.int .u64 0),.slot 9 (.int .u64 0)],[],fun _ ds=>∃u v:Nat,ds=[.int .u64 (u:Int),.int .u64 (v:Int)]∧A4 u v=G∧u<1000000000000000000∧v<1000000000000000000,fun ds=>(toI (nth .undef ds 1)).toNat⟩) mixedT Tryz.func186 ?_
 have lx:=hx.len;have ly:=hy.len;rw[show qH x= .ag (cI x)from rfl,show qH y= .ag (cI y)from rfl];have vx:=qS false (qc x.natAbs) (by omega) (z:=(x.natAbs:Int)) (by simp[qj]);have vy:=qS false (qc y.natAbs) (by omega) (z:=(y.natAbs:Int)) (by simp[qj]);rw[cI,cI,Rs];simp only[Am];refine⟨_,_,up vx,_,_,up vy,⟨x.natAbs,y.natAbs,rfl,hG,hx,hy⟩,?_⟩;rintro bx es by_ fs ⟨m,n,he,hg,hm,hn⟩;simp only[cI,Av,Aw,List.cons.injEq,D.bool.injEq,D.sl.injEq,and_true,Ak]at he;obtain⟨rfl,rfl,rfl,rfl⟩:=he;have lm:=(smN.2 hm).len;have ln:=(smN.2 hn).len;rw[Ak]at lm ln;have em:qH (m:Int)=Ab [Ad (decide ((m:Int)<0)),Ae (raw (lim m))]:=by unfold qH cI;rw[Ak]
 have en:qH (n:Int)=Ab [Ad (decide ((n:Int)<0)),Ae (raw (lim n))]:=by unfold qH cI;rw[Ak]
 have wm:=VJ (smN.2 hm);have wn:=VJ (smN.2 hn);rw[Ak]at wm wn;rw[em]at wm;rw[en]at wn;rw[qh,qh];have a0:0<n→∃es_3 es_4,
  qe CC 233 [Ac (Ae (raw (lim m))),Ac (Ae (raw (lim n)))] [Ac (Ae es_3),Ac (Ae es_4)]∧
   ∃b_5 es_5,
    qe CC 189 [Ac (Ad false),Ac (Ae es_4)] [Ab [Ad b_5,Ae es_5]]∧
     (∃m' n':Nat,[Ad (decide ((n:Int)<0)),Ae (raw (lim n)),Ad b_5,Ae es_5]=cI (m':Int)++cI (n':Int)∧A4 m' n'=G∧m'<X1∧n'<X1)∧
      QJ (toL (nth .undef [Ad (decide ((n:Int)<0)),Ae (raw (lim n)),Ad b_5,Ae es_5] 3))<QJ (toL (nth .undef [Ad (decide ((m:Int)<0)),Ae (raw (lim m)),Ad (decide ((n:Int)<0)),Ae (raw (lim n))] 3)):=by
  intro a2;obtain⟨q,r,h1,lq,lr,vq,vr,q1,r1⟩:=hd (lim m) (lim n) (qc _) (qc _) (by rw[qj];omega) lm ln;rw[qj,qj]at vr;have a1:=A5 m a2;refine⟨_,_,h1,_,_,up (qS false lr r1 (z:=((m%n:Nat):Int)) (by simp[vr])),⟨n,m%n,?_,?_,hn,by omega⟩,?_⟩
  ·simp only[cI,Ak,Av,Aw]
  ·rw[←hg,A2 n,←A9,A2]
  ·simp only[nth,toL,Ak,jD,qj];exact a1
 refine brd (fun h=>?_) (fun h=>?_)
 ·have a2:0<n:=qz.1 (by omega);by_cases sm:m<1000000000000000000
  ·rw[if_pos sm]at wm;by_cases sn:n<1000000000000000000
   ·rw[if_pos sn]at wn;refine⟨_,_,up wm,_,_,up wn,?_⟩;refine⟨⟨m,n,rfl,hg,sm,sn⟩,?_⟩;rintro a b ⟨u,v,he,a3,hu,hv⟩;simp only[List.cons.injEq,D.int.injEq,true_and,and_true]at he;obtain⟨rfl,rfl⟩:=he;refine brd (fun h2=>?_) (fun h2=>?_)
    ·have a4:0<v:=by omega
     have e2:Aq (u:Int) (v:Int)=((u%v:Nat):Int):=by rw[Int.tmod_eq_emod_of_nonneg (by omega)];rfl
     have a1:=A5 u a4;rw[e2];refine⟨by omega,⟨v,u%v,rfl,by rw[←a3,A2 v,←A9,A2],hv,by omega⟩,?_⟩;simp only[nth,toI,Int.toNat_natCast];exact a1
    ·have a4:v=0:=by omega
     subst a4;rw[A6]at a3;subst a3;obtain⟨l1,l2⟩:=Q7 (u:=u) (by omega);exact⟨_,up (JO (by omega)),_,_,up (qS false l1 (by simp) (z:=(u:Int)) (by rw[l2];rfl)),rfl⟩
   ·rw[if_neg sn]at wn;exact⟨_,_,up wm,_,_,up wn,a0 a2⟩
  ·rw[if_neg sm]at wm;by_cases sn:n<1000000000000000000
   ·rw[if_pos sn]at wn;exact⟨_,_,up wm,_,_,up wn,a0 a2⟩
   ·rw[if_neg sn]at wn;exact⟨_,_,up wm,_,_,up wn,a0 a2⟩
 ·have a2:n=0:=by
   rcases A1 n with h0|h0
   ·exact h0
   ·have:=qz.2 h0;omega
  subst a2;rw[A6]at hg;subst hg;exact⟨⟨by unfold room;omega,zm _⟩,_,_,up (qS false (qc m) (by omega) (z:=(m:Int)) (by simp[qj])),rfl⟩
theorem kB (hd:zn) {x y:Int} (hx:Sm x) (hy:Sm y) (hy0:0<y):qe CC 137 [qH x,qH y] [qH (x/y),qH (x%y),.c (.int .i64 0)]:=by
 refine qf (anns:=an0) mixedT Tryz.func137 ?_;have lx:=hx.len;have ly:=hy.len;have hyn:y.natAbs≠0:=by omega
 have hlp:0<(lim y.natAbs).length:=qz.2 (by omega);obtain⟨q,r,h1,lq,lr,vq,vr,q1,r1⟩:=hd (lim x.natAbs) (lim y.natAbs) (qc _) (qc _) (by rw[qj];exact hyn) lx ly;rw[qj,qj]at vq vr;rw[show qH x= .ag (cI x)from rfl,show qH y= .ag (cI y)from rfl,cI,cI,GC];simp only[Am];obtain⟨a,ha⟩:∃a:Nat,x.natAbs=a:=⟨_,rfl⟩;obtain⟨b,hb⟩:∃b:Nat,y=(b:Int):=⟨y.natAbs,by omega⟩;have a1:y.natAbs=b:=by omega
 have hb0:0<b:=by omega
 rw[ha,a1]at vq vr;have hdm:=Nat.div_add_mod a b;have hml:=A5 a hb0;refine brb (fun h=>?_) (fun _=>?_)
 ·rw[qh]at h;have:((lim y.natAbs).length:Int)=0:=by simpa using h
  omega
 have a3:decide (y<0)=false:=decide_eq_false (by omega);rw[a3];by_cases hx0:x<0
 ·have hxt:decide (x<0)=true:=decide_eq_true hx0;rw[hxt];have a0:x= -(a:Int):=by omega
  have gq:=qS true lq q1 (z:= -((a/b:Nat):Int)) (by rw[vq];rfl);have gr:=qS true lr r1 (z:= -((a%b:Nat):Int)) (by rw[vr];rfl);refine⟨_,_,h1,_,_,up gq,_,_,up gr,?_⟩;have e0:(-((a%b:Nat):Int)).natAbs=a%b:=by rw[Al,Ak]
  rw[qh];have hq:(a/b)<X1:=Nat.lt_of_le_of_lt (Nat.div_le_self _ _) (ha▸hx);refine brd (fun h=>brb (fun h2=>?_) (fun h2=>?_)) (fun h=>?_)
  ·rw[e0]at h;have a2:0<a%b:=qz.1 (by omega);have g1:=zk (n:=1) (by omega) (by omega);have sq:Sm (-((a/b:Nat):Int)):=by unfold Sm;rw[Al,Ak];exact hq
   have s1:Sm 1:=by unfold Sm X1;exact A8 (by omega) (A8 (by omega) (by omega))
   have sr:Sm (-((a%b:Nat):Int)):=by unfold Sm;rw[Al,Ak];exact Nat.lt_trans hml (a1▸hy)
   have gs:=UJ sq s1;have ga:=vJ sr hy;have ga2:qe CC 235 [qH (-((a%b:Nat):Int)),.ag [.bool false,.sl (raw (lim y.natAbs))]] [qH (-((a%b:Nat):Int)+y)]:=by have:=up ga;rw[show qH y= .ag (cI y)from rfl,cI,a3]at this;exact this
   refine⟨_,_,up g1,_,_,up gs,_,_,ga2,?_⟩
   ·have e1:x/y= -((a/b:Nat):Int)-1∧x%y= -((a%b:Nat):Int)+y:=by
     have:=An (a:=x) (b:=y) (r:= -((a%b:Nat):Int)+y) (q:= -((a/b:Nat):Int)-1) hy0;refine this.2 ⟨?_,by omega,by omega⟩;rw[a0,hb];have h5:(b:Int)*(-((a/b:Nat):Int)-1)= -((b*(a/b):Nat):Int)-b:=by rw[Int.mul_sub,Ar,Int.mul_one,Ap]
     rw[h5];omega
    rw[e1.1,e1.2];rfl
  ·exfalso;rw[e0]at h;have a2:0<a%b:=qz.1 (by omega);have:decide (-((a%b:Nat):Int)<0)=true:=decide_eq_true (by omega);rw[this]at h2;simp at h2
  ·have a2:a%b=0:=by
    rcases A1 (a%b)with h0|h0
    ·exact h0
    ·have:=qz.2 h0;rw[e0]at h;omega
   have e1:x/y= -((a/b:Nat):Int)∧x%y= -((a%b:Nat):Int):=by have:=An (a:=x) (b:=y) (r:= -((a%b:Nat):Int)) (q:= -((a/b:Nat):Int)) hy0;refine this.2 ⟨?_,by omega,by omega⟩;rw[a0,hb,Ar,←Ap];omega
   rw[e1.1,e1.2];simp only[qH,cI,Al,Ak]
 ·have hxf:decide (x<0)=false:=decide_eq_false hx0;rw[hxf];have a0:x=(a:Int):=by omega
  have gq:=qS false lq q1 (z:=((a/b:Nat):Int)) (by rw[vq];rfl);have gr:=qS false lr r1 (z:=((a%b:Nat):Int)) (by rw[vr];rfl);refine⟨_,_,h1,_,_,up gq,_,_,up gr,?_⟩;have hrf:decide (((a%b:Nat):Int)<0)=false:=decide_eq_false (by omega);have e1:x/y=((a/b:Nat):Int)∧x%y=((a%b:Nat):Int):=by rw[a0,hb];exact⟨rfl,rfl⟩
  refine brd (fun h=>brb (fun h2=>?_) (fun h2=>?_)) (fun h=>?_)
  ·rw[hrf]at h2;simp at h2
  ·rw[e1.1,e1.2];rfl
  ·rw[e1.1,e1.2];rfl
end Eng
end
