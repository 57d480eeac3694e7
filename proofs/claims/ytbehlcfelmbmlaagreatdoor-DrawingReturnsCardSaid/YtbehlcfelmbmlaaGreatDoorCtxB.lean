/- A part of the proof. -/
import Derived.Test.YtbehlcfelmbmlaaGreatDoorIntA
import Derived.KernelRfl
open Bool renaming and_eq_true→Aw
open Eng.A renaming ag→Bx, c→Dd
open Eng.D renaming bool→F2, sl→Hu, int→Hv
open Go.Lib renaming decDigits→Hx, repeatL→Hy, TabIs→J3
open Int renaming natAbs_natCast→J4, natAbs_neg→J6, ofNat_eq_natCast→J7, ediv_emod_unique→J9, ofNat→Lm, natCast_mul→Lr, tmod→Ls, mul_neg→Lv
open List renaming map_cons→No, mem_singleton→Pl, mem_flatMap→P1, cons_append→Ts, nil_append→T1
open Nat renaming eq_of_beq_eq_true→U0, beq→U3, le_of_ble_eq_true→V1, blt_eq→W0, eq_zero_or_pos→W1, gcd_comm→W2, blt→ad, gcd→ae, mod_lt→af, gcd_zero_right→ah, ble→ai, one_lt_pow→aj, gcd_rec→ak
open Option.some renaming injEq→am
section
namespace Eng
open Go Go.Proofs Go.RowKit
def QE (chk:List A→Bool) (s:Nat) (mk:List A→List (List D)) (dst:Option Nat) (vs:List V) (ob:List Obj):R:=
 match dst with
 |none=> .fail
 |some d=>match qx ob d,vQ ob vs with
  |true,some (al,us)=> .cond (chk al=true) (.arr d) (us++[(d,.arr s (mk al) false)])
  |_,_=> .fail
theorem Ke {C:Cx} {f s:Nat} {fn:Func} {chk:List A→Bool} {mk:List A→List (List D)} (hf:C.P.funcs[f]? =some fn) (hb:fn.body≠none) (hn:fn.name≠ "runtime.NumGoroutine") (h:∀al,chk al=true→kg C f al s (mk al)):EffAt C f (QE chk s mk):=by
 have h0:=OG (C:=C) (own:=fun al=>match chk al with|true=>some (s,mk al)|false=>none) hf hb hn (fun al s' es ho=>by
  split at ho
  ·rename_i hc;simp only[am,Prod.mk.injEq]at ho;obtain⟨rfl,rfl⟩:=ho;exact h al hc
  ·simp at ho)
 have hE:∀(dst:Option Nat) (vs:List V) (ob:List Obj),(∃al us d,dst=some d∧qx ob d=true∧vQ ob vs=some (al,us)∧QE chk s mk dst vs ob= .cond (chk al=true) (.arr d) (us++[(d,.arr s (mk al) false)])∧
  (chk al=true→KK (fun al=>match chk al with|true=>some (s,mk al)|false=>none) dst vs ob= .ok (.arr d) (us++[(d,.arr s (mk al) false)])))∨QE chk s mk dst vs ob= .fail:=by
  intro dst vs ob;unfold QE;split
  ·exact .inr rfl
  ·rename_i d;split
   ·rename_i al us h1 h2;refine .inl ⟨al,us,d,rfl,h1,h2,rfl,fun hc=>?_⟩;simp only[KK,h1,h2,hc]
   ·exact .inr rfl
 refine⟨fun{B F0 w0 F loc st a w dst args ts ty pos after g} hc=>?_,fun dst vs ob ob' hh hd=>?_,fun dst vs ob hv hb=>?_⟩
 ·rcases hE dst (args.toList.map (ev st)) st.objs with⟨al,us,d,h1,h2,h3,h4,h5⟩|h1
  ·rw[h4];intro hcc;have:=h0.rs (dst:=dst) (args:=args) (ts:=ts) (ty:=ty) (pos:=pos) (after:=after) (g:=g) hc;rw[h5 hcc]at this;exact this
  ·rw[h1];trivial
 ·unfold QE;cases dst with
  |none=>rfl
  |some d=>
   have h1:vQ ob vs=vQ ob' vs:=kY (c:=2) fun v hv k hk=> .inl (hh k (by
    rw[qz];exact⟨k,P1.2 ⟨v,hv,hk⟩,.inl rfl⟩))
   simp only[h1];rw[hd d (.inl rfl)]
 ·rcases hE dst vs ob with⟨al,us,d,rfl,h2,h3,h4,h5⟩|h1
  ·rw[h4];have hfz:=ZO h3;refine⟨fun p hp=>?_,fun k hk=>?_⟩
   ·rcases List.mem_append.1 hp with hp|hp
    ·obtain⟨⟨v,hv1,hv2⟩,s',es',fz,h1,h2⟩:=hfz p hp;refine⟨.inr ⟨?_,by rw[h1];simp⟩,by rw[h2];simp,fun u hu=>by rw[h2]at hu;simp[qT]at hu⟩;rw[qz];exact⟨p.1,P1.2 ⟨v,hv1,hv2⟩,.inl rfl⟩
    ·simp only[Pl]at hp;subst hp;exact⟨.inl ⟨.inl rfl,h2⟩,by simp,fun u hu=>by simp[qT]at hu⟩
   ·simp only[qk,Pl]at hk;subst hk;exact .inr ⟨h2,_,List.mem_append_right _ (Pl.2 rfl)⟩
  ·rw[h1];trivial
def FF:List D→Bool
 |[.int .u32 (.ofNat n)]=>ad n 1000000000
 |_=>false
def yB:List (List D)→Bool
 |[]=>true
 |e::r=>FF e&&yB r
def BU:List D→Nat
 |[.int _ n]=>n.toNat
 |_=>0
def JN (es:List (List D)):List Nat:=es.map BU
def JO:List (List D)→Nat
 |[]=>0
 |e::r=>BU e+1000000000*JO r
theorem wK:∀{es:List (List D)},yB es=true→es=raw (JN es)∧Limbs (JN es)∧val (JN es)=JO es
 |[],_=>⟨rfl,Limbs.nil,rfl⟩
 |e::r,h=>by
  simp only[yB,Aw]at h;obtain⟨h1,h2,h3⟩:=wK h.2;have he:=h.1;unfold FF at he;split at he
  ·rename_i n;rw[W0]at he;refine⟨?_,Limbs.cons he h2,?_⟩
   ·simp only[JN,No,raw,BU]at h1 ⊢;rw[←h1];rfl
   ·simp only[JN,No,val,JO,BU]at h3 ⊢;rw[h3]
  ·simp at he
theorem vo:∀{l:List Nat},Limbs l→yB (raw l)=true
 |[],_=>rfl
 |x::l,h=>by obtain⟨h1,h2⟩:=h.of_cons;simp only[raw,No,yB,Aw];refine⟨?_,vo h2⟩;show ad x 1000000000=true;rw[W0];exact h1
theorem kO:∀(l:List Nat),JO (raw l)=val l
 |[]=>rfl
 |x::l=>by have:=kO l;simp only[raw,No,JO,val,BU]at this ⊢;rw[this];rfl
def zp:List A→Bool
 |[.c (.sl a),.c (.sl b)]=>yB a&&(yB b&&(ai a.length 536870912&&(ai b.length 536870912&&ad 0 (a.length+b.length))))
 |_=>false
def jA:List A→List (List D)
 |[.c (.sl a),.c (.sl b)]=>raw (pad (a.length+b.length) (JO a*JO b))
 |_=>[]
theorem V7 (al:List A) (h:zp al=true):kg C0 190 al 1 (jA al):=by
 unfold zp at h;split at h
 ·rename_i a b;simp only[Aw]at h;obtain⟨h1,h2,h3,h4,h5⟩:=h;obtain⟨ea,la,va⟩:=wK h1;obtain⟨eb,lb,vb⟩:=wK h2;have h3:=V1 h3;have h4:=V1 h4;rw[W0]at h5;have na:(JN a).length=a.length:=by simp[JN]
  have nb:(JN b).length=b.length:=by simp[JN]
  have:=KM la lb (by omega) (by omega) (by omega);rw[←ea,←eb,va,vb,na,nb]at this;exact this
 ·simp at h
theorem BV:ExtK Tryz.prog 319 Extern.BytealgIndexByte.indexByte:=⟨fun args w=>run_callFunc_extern Tryz.func319 (by kernel_rfl) (by kernel_rfl) (by kernel_rfl) (by kernel_rfl) args w⟩
theorem BW:ExtK Tryz.prog 317 Extern.BytealgCount.count:=⟨fun args w=>run_callFunc_extern Tryz.func317 (by kernel_rfl) (by kernel_rfl) (by kernel_rfl) (by kernel_rfl) args w⟩
def FG (t:TypeId) (d:Option Nat):Bool:=
 match U3 t 37,d with
 |true,some d=>U3 d 148||(U3 d 160||U3 d 71)
 |_,_=>false
def FH (chk:List A→Bool) (mk:List A→List (List D)) (f:Nat):Option (Option Nat→List V→List Obj→R):=
 match X0 76 29 158 32 f with
 |some e=>some e
 |none=>match U3 f 319 with
  |true=>some Cv
  |false=>match U3 f 317 with
   |true=>some Cw
   |false=>match U3 f 309 with
    |true=>some Y3
    |false=>match U3 f 310 with
     |true=>some Y4
     |false=>match U3 f 190 with
      |true=>some (QE chk 1 mk)
      |false=>none
noncomputable def CM (chk:List A→Bool) (mk:List A→List (List D)):Cx:=⟨Tryz.prog,AA,fun t=>U3 t 76,FH chk mk,FG,fun _=>false⟩
noncomputable def CC:Cx:=CM zp jA
theorem CS (f:Nat) (e:Option Nat→List V→List Obj→R) (h:CC.eff f=some e):EffAt CC f e:=by
 replace h:FH zp jA f=some e:=h;unfold FH at h;split at h
 ·rename_i e' he;simp only[am]at h;subst h;exact Yz (C:=CC) bldK he
 ·split at h
  ·rename_i hb;obtain rfl:=U0 hb;simp only[am]at h;subst h;exact Y1 BV
  ·split at h
   ·rename_i hb;obtain rfl:=U0 hb;simp only[am]at h;subst h;exact Y2 BW
   ·split at h
    ·rename_i hb;obtain rfl:=U0 hb;simp only[am]at h;subst h;exact Y5 (C:=CC) Im
    ·split at h
     ·rename_i hb;obtain rfl:=U0 hb;simp only[am]at h;subst h;exact Y6 (C:=CC) Im
     ·split at h
      ·rename_i hb;obtain rfl:=U0 hb;simp only[am]at h;subst h;exact Ke (C:=CC) Tryz.func190 (by simp[Tryz.f190]) (by decide) fun al hc=>Jk (C:=C0) (C':=CC) rfl rfl (V7 al hc)
      ·simp at h
instance:EffOk CC:=jL CS
def AW:Nat→Nat→List UInt8
 |0,_=>[]
 |n+1,u=>match ad u 10 with
  |true=>[UInt8.ofNat (48+u)]
  |false=>AW n (u/10)++[UInt8.ofNat (48+u%10)]
theorem MO:∀(n u:Nat),0<n→u<10^n→AW n u=Hx u
 |n+1,u,_,h=>by
  rw[Hx];simp only[AW];by_cases h1:u<10
  ·rw[dif_pos h1];have:ad u 10=true:=by rw[W0];exact h1
   rw[this]
  ·rw[dif_neg h1];have:ad u 10=false:=by rw[Bool.eq_false_iff];intro h2;rw[W0]at h2;exact h1 h2
   rw[this];simp only;have hn:0<n:=by
    rcases W1 n with h0|h0
    ·subst h0;simp at h;omega
    ·exact h0
   rw[MO n (u/10) hn (by rw[Nat.pow_succ]at h;omega)]
theorem Ix {F:Nat→Prop} {w:World} (h:Inv CC F w):J3 Tryz.prog w "internal/strconv.uint64pow10" .u64 Lib.pow10Tab:=by
 obtain⟨_,vs,t,fr,hb,hcs⟩:=h 2 pow10D rfl;have hg:Tryz.prog.globalNamed "internal/strconv.uint64pow10" =some 2:=by kernel_rfl
 unfold J3 World.var?;rw[hg];simp only[Option.bind_some,hb];have hv:vs.toList=pow10D.map fun d=>match d with| .int k n=>Value.int k n|_=>undef:=by
  have key:∀(l:List D) (us:List Value),(∀d∈l,∃k n,d= .int k n)→All2 (CD w F) l us→us=l.map fun d=>match d with| .int k n=>Value.int k n|_=>undef:=by
   intro l
   induction l with
   |nil=>intro us _ h;cases us with|nil=>rfl|cons _ _=>exact h.elim
   |cons d l ih=>
    intro us hl h;cases us with
    |nil=>exact h.elim
    |cons u us=>obtain⟨k,n,rfl⟩:=hl d (by simp);rw[ih us (fun d hd=>hl d (by simp[hd])) h.2];cases(h.1:CD _ _ _ _);rfl
  refine key _ _ (fun d hd=>?_) hcs;simp only[pow10D,List.mem_cons,List.not_mem_nil,or_false]at hd;rcases hd with rfl|rfl|rfl|rfl|rfl|rfl|rfl|rfl|rfl|rfl|rfl|rfl|rfl|rfl|rfl|rfl|rfl|rfl|rfl|rfl<;>exact⟨_,_,rfl⟩
 have:vs=(pow10D.map fun d=>match d with| .int k n=>Value.int k n|_=>undef).toArray:=by rw[←hv]
 rw[this];rfl
theorem kv (u:Nat) (hu:u<18446744073709551616):qf CC 71 [.c (.int .u64 u),.c (.int .i64 10)] [.c (.str (Hx u))]:=
 kJ rfl (fun _ _=>CD.str _) fun w F hi=>by have:=fu61 u hu w (Ix hi);exact this
theorem yC (s:List UInt8) (c:Nat) (hc:s.length*c≤1073741824) (hc2:c≤1073741824):qf CC 161 [.c (.str s),.c (.int .i64 c)] [.c (.str (Hy s c))]:=
 kJ rfl (fun _ _=>CD.str _) fun w F _=>by have hs:(⟨⟨s⟩⟩:ByteArray).size=s.length:=rfl;exact Tryz.strings_Repeat ⟨⟨s⟩⟩ c w (by omega) (by rw[hs];omega)
def Iy (f:Nat) (al:List A):Option (List A):=
 match U3 f 161 with
 |true=>match al with
  |[.c (.str s),.c (.int .i64 (.ofNat c))]=>match ai (s.length*c) 1073741824,ai c 1073741824 with
   |true,true=>some [.c (.str (Hy s c))]
   |_,_=>none
  |_=>none
 |false=>match U3 f 71 with
  |true=>match al with
   |[.c (.int .u64 (.ofNat u)),.c (.int .i64 (.ofNat b))]=>match U3 b 10,ad u 18446744073709551616 with
    |true,true=>some [.c (.str (AW 20 u))]
    |_,_=>none
   |_=>none
  |false=>none
theorem CU (f:Nat) (al rs:List A) (h:Iy f al=some rs):qf CC f al rs:=by
 unfold Iy at h;split at h
 ·rename_i hb;obtain rfl:=U0 hb;split at h
  ·rename_i s c;split at h
   ·rename_i h1 h2;simp only[am]at h;subst h;exact yC s c (V1 h1) (V1 h2)
   ·simp at h
  ·simp at h
 ·split at h
  ·rename_i hb;obtain rfl:=U0 hb;split at h
   ·rename_i u b;split at h
    ·rename_i h1 h2;simp only[am]at h;subst h;obtain rfl:=U0 h1;rw[W0]at h2;have hu:=h2;rw[MO 20 u (by omega) (by omega)];exact kv u hu
    ·simp at h
   ·simp at h
  ·simp at h
end Eng
end

section
open Go Go.Proofs Eng
set_option maxRecDepth 1000000
namespace Eng
section
variable (Gv:Nat→List A→List A→Prop) (Q:List A→Prop) (I0 I1 I2 I3:List D→List D→Prop) (M0 M1 M2 M3:List D→Nat)
theorem MP (p q:Bool) (es fs:List (List D)):wpF CC Gv an0 Tryz.f137 [.ag [.bool p,.sl es],.ag [.bool q,.sl fs]] Q=(
 br (toB (F2 ((Lm fs.length)==0))) (Q [Bx [F2 false,Hu []],Bx [F2 false,Hu []],Dd (Hv .i64 6)]) (∃e1 e2,Gv 233 [Dd (Hu es),Dd (Hu fs)] [Dd (Hu e1),Dd (Hu e2)]∧∃b es,Gv 189 [Dd (F2 !p==q),Dd (Hu e1)] [Bx [F2 b,Hu es]]∧∃b1 e3,Gv 189 [Dd (F2 p),Dd (Hu e2)] [Bx [F2 b1,Hu e3]]∧br (toB (F2 (decide ((Lm e3.length)>0)))) (br (toB (F2 !b1==q)) (∃b2 e4,Gv 136 [Dd (Hv .i64 1)] [Bx [F2 b2,Hu e4]]∧∃b3 e5,Gv 234 [Bx [F2 b,Hu es],Bx [F2 b2,Hu e4]] [Bx [F2 b3,Hu e5]]∧∃b es,Gv 235 [Bx [F2 b1,Hu e3],Bx [F2 q,Hu fs]] [Bx [F2 b,Hu es]]∧Q [Bx [F2 b3,Hu e5],Bx [F2 b,Hu es],Dd (Hv .i64 0)]) (Q [Bx [F2 b,Hu es],Bx [F2 b1,Hu e3],Dd (Hv .i64 0)])) (Q [Bx [F2 b,Hu es],Bx [F2 b1,Hu e3],Dd (Hv .i64 0)]))):=by kernel_rfl
theorem FI (p q:Bool) (es fs:List (List D)):wpF CC Gv (JW ⟨[.box 5 [.bool false,.slice none 0 0],.box 6 [.bool false,.slice none 0 0]],[],I0,M0⟩ ⟨[.slot 7 (.int .u64 0),.slot 9 (.int .u64 0)],[],I1,M1⟩) Tryz.f186 [.ag [.bool p,.sl es],.ag [.bool q,.sl fs]] Q=(
 ∃b e1,Gv 189 [Dd (F2 false),Dd (Hu es)] [Bx [F2 b,Hu e1]]∧∃b1 es,Gv 189 [Dd (F2 false),Dd (Hu fs)] [Bx [F2 b1,Hu es]]∧I0 [] [F2 b,Hu e1,F2 b1,Hu es]∧∀(b:Bool) (es:List (List D)) (b2:Bool) (e2:List (List D)),I0 [] [F2 b,Hu es,F2 b2,Hu e2]→br (toB (F2 (decide ((Lm e2.length)>0)))) (∃n b3,Gv 268 [Bx [F2 b,Hu es]] [Dd (Hv .u64 n),Dd (F2 b3)]∧∃n1 b4,Gv 268 [Bx [F2 b2,Hu e2]] [Dd (Hv .u64 n1),Dd (F2 b4)]∧br b3 (br b4 (I1 [] [Hv .u64 n,Hv .u64 n1]∧∀(n n2:Int),I1 [] [Hv .u64 n,Hv .u64 n2]→br (toB (F2 (decide (n2>0)))) (n2≠0∧I1 [] [Hv .u64 n2,Hv .u64 (Ls n n2)]∧M1 [Hv .u64 n2,Hv .u64 (Ls n n2)]<M1 [Hv .u64 n,Hv .u64 n2]) (∃es,Gv 232 [Dd (Hv .u64 n)] [Dd (Hu es)]∧∃b e3,Gv 189 [Dd (F2 false),Dd (Hu es)] [Bx [F2 b,Hu e3]]∧Q [Bx [F2 b,Hu e3]])) (∃e3 e4,Gv 233 [Dd (Hu es),Dd (Hu e2)] [Dd (Hu e3),Dd (Hu e4)]∧∃b5 e5,Gv 189 [Dd (F2 false),Dd (Hu e4)] [Bx [F2 b5,Hu e5]]∧I0 [] [F2 b2,Hu e2,F2 b5,Hu e5]∧M0 [F2 b2,Hu e2,F2 b5,Hu e5]<M0 [F2 b,Hu es,F2 b2,Hu e2])) (∃e3 e4,Gv 233 [Dd (Hu es),Dd (Hu e2)] [Dd (Hu e3),Dd (Hu e4)]∧∃b5 e5,Gv 189 [Dd (F2 false),Dd (Hu e4)] [Bx [F2 b5,Hu e5]]∧I0 [] [F2 b2,Hu e2,F2 b5,Hu e5]∧M0 [F2 b2,Hu e2,F2 b5,Hu e5]<M0 [F2 b,Hu es,F2 b2,Hu e2])) ((room es.length∧lens 1 es)∧∃b e3,Gv 189 [Dd (F2 false),Dd (Hu es)] [Bx [F2 b,Hu e3]]∧Q [Bx [F2 b,Hu e3]])):=by kernel_rfl
end
end Eng
end

section
namespace Eng
open Go Go.Proofs
set_option maxRecDepth 100000
theorem up {f:Nat} {al rs:List A} (h:qf C0 f al rs):qf CC f al rs:=vC rfl rfl h
def V8:Prop:=∀(a b:List Nat),Limbs a→Limbs b→val b≠0→a.length≤1000→b.length≤1000→
 ∃q r,qf CC 233 [.c (.sl (raw a)),.c (.sl (raw b))] [.c (.sl (raw q)),.c (.sl (raw r))]∧Limbs q∧Limbs r∧val q=val a/val b∧val r=val a%val b∧q.length≤1073741824∧r.length≤1073741824
theorem smN {n:Nat}:Sm (n:Int)↔n<JY:=by unfold Sm;rw[J4]
theorem Gx (hd:V8) {x y:Int} (hx:Sm x) (hy:Sm y):qf CC 186 [qJ x,qJ y] [qJ (ae x.natAbs y.natAbs:Nat)]:=by
 generalize hG:ae x.natAbs y.natAbs=G;refine qg (anns:=JW
  ⟨[.box 5 [.bool false,.slice none 0 0],.box 6 [.bool false,.slice none 0 0]],[],fun _ ds=>∃m n:Nat,ds=cI (m:Int)++cI (n:Int)∧ae m n=G∧m<JY∧n<JY,fun ds=>JO (toL (nth .undef ds 3))⟩
  ⟨[.slot 7 (.int .u64 0),.slot 9 (.int .u64 0)],[],fun _ ds=>∃u v:Nat,ds=[.int .u64 (u:Int),.int .u64 (v:Int)]∧ae u v=G∧u<1000000000000000000∧v<1000000000000000000,fun ds=>(toI (nth .undef ds 1)).toNat⟩) mixedT Tryz.func186 ?_
 have lx:=hx.len;have ly:=hy.len;rw[show qJ x= .ag (cI x)from rfl,show qJ y= .ag (cI y)from rfl];have vx:=qU false (qe x.natAbs) (by omega) (z:=(x.natAbs:Int)) (by simp[qj]);have vy:=qU false (qe y.natAbs) (by omega) (z:=(y.natAbs:Int)) (by simp[qj]);rw[cI,cI,FI];simp only[J7];refine⟨_,_,up vx,_,_,up vy,⟨x.natAbs,y.natAbs,rfl,hG,hx,hy⟩,?_⟩;rintro bx es by_ fs ⟨m,n,he,hg,hm,hn⟩;simp only[cI,Ts,T1,List.cons.injEq,D.bool.injEq,D.sl.injEq,and_true,J4]at he;obtain⟨rfl,rfl,rfl,rfl⟩:=he;have lm:=(smN.2 hm).len;have ln:=(smN.2 hn).len;rw[J4]at lm ln;have em:qJ (m:Int)=Bx [F2 (decide ((m:Int)<0)),Hu (raw (lim m))]:=by unfold qJ cI;rw[J4]
 have en:qJ (n:Int)=Bx [F2 (decide ((n:Int)<0)),Hu (raw (lim n))]:=by unfold qJ cI;rw[J4]
 have wm:=UL (smN.2 hm);have wn:=UL (smN.2 hn);rw[J4]at wm wn;rw[em]at wm;rw[en]at wn;rw[qh,qh];have a0:0<n→∃es_3 es_4,
  qf CC 233 [Dd (Hu (raw (lim m))),Dd (Hu (raw (lim n)))] [Dd (Hu es_3),Dd (Hu es_4)]∧
   ∃b_5 es_5,
    qf CC 189 [Dd (F2 false),Dd (Hu es_4)] [Bx [F2 b_5,Hu es_5]]∧
     (∃m' n':Nat,[F2 (decide ((n:Int)<0)),Hu (raw (lim n)),F2 b_5,Hu es_5]=cI (m':Int)++cI (n':Int)∧ae m' n'=G∧m'<JY∧n'<JY)∧
      JO (toL (nth .undef [F2 (decide ((n:Int)<0)),Hu (raw (lim n)),F2 b_5,Hu es_5] 3))<JO (toL (nth .undef [F2 (decide ((m:Int)<0)),Hu (raw (lim m)),F2 (decide ((n:Int)<0)),Hu (raw (lim n))] 3)):=by
  intro a2;obtain⟨q,r,h1,lq,lr,vq,vr,q1,r1⟩:=hd (lim m) (lim n) (qe _) (qe _) (by rw[qj];omega) lm ln;rw[qj,qj]at vr;have a1:=af m a2;refine⟨_,_,h1,_,_,up (qU false lr r1 (z:=((m%n:Nat):Int)) (by simp[vr])),⟨n,m%n,?_,?_,hn,by omega⟩,?_⟩
  ·simp only[cI,J4,Ts,T1]
  ·rw[←hg,W2 n,←ak,W2]
  ·simp only[nth,toL,J4,kO,qj];exact a1
 refine brd (fun h=>?_) (fun h=>?_)
 ·have a2:0<n:=qG.1 (by omega);by_cases sm:m<1000000000000000000
  ·rw[if_pos sm]at wm;by_cases sn:n<1000000000000000000
   ·rw[if_pos sn]at wn;refine⟨_,_,up wm,_,_,up wn,?_⟩;refine⟨⟨m,n,rfl,hg,sm,sn⟩,?_⟩;rintro a b ⟨u,v,he,a3,hu,hv⟩;simp only[List.cons.injEq,D.int.injEq,true_and,and_true]at he;obtain⟨rfl,rfl⟩:=he;refine brd (fun h2=>?_) (fun h2=>?_)
    ·have a4:0<v:=by omega
     have e2:Ls (u:Int) (v:Int)=((u%v:Nat):Int):=by rw[Int.tmod_eq_emod_of_nonneg (by omega)];rfl
     have a1:=af u a4;rw[e2];refine⟨by omega,⟨v,u%v,rfl,by rw[←a3,W2 v,←ak,W2],hv,by omega⟩,?_⟩;simp only[nth,toI,Int.toNat_natCast];exact a1
    ·have a4:v=0:=by omega
     subst a4;rw[ah]at a3;subst a3;obtain⟨l1,l2⟩:=Jq (u:=u) (by omega);exact⟨_,up (YE (by omega)),_,_,up (qU false l1 (by simp) (z:=(u:Int)) (by rw[l2];rfl)),rfl⟩
   ·rw[if_neg sn]at wn;exact⟨_,_,up wm,_,_,up wn,a0 a2⟩
  ·rw[if_neg sm]at wm;by_cases sn:n<1000000000000000000
   ·rw[if_pos sn]at wn;exact⟨_,_,up wm,_,_,up wn,a0 a2⟩
   ·rw[if_neg sn]at wn;exact⟨_,_,up wm,_,_,up wn,a0 a2⟩
 ·have a2:n=0:=by
   rcases W1 n with h0|h0
   ·exact h0
   ·have:=qG.2 h0;omega
  subst a2;rw[ah]at hg;subst hg;exact⟨⟨by unfold room;omega,zL _⟩,_,_,up (qU false (qe m) (by omega) (z:=(m:Int)) (by simp[qj])),rfl⟩
theorem QF (hd:V8) {x y:Int} (hx:Sm x) (hy:Sm y) (hy0:0<y):qf CC 137 [qJ x,qJ y] [qJ (x/y),qJ (x%y),.c (.int .i64 0)]:=by
 refine qg (anns:=an0) mixedT Tryz.func137 ?_;have lx:=hx.len;have ly:=hy.len;have hyn:y.natAbs≠0:=by omega
 have hlp:0<(lim y.natAbs).length:=qG.2 (by omega);obtain⟨q,r,h1,lq,lr,vq,vr,q1,r1⟩:=hd (lim x.natAbs) (lim y.natAbs) (qe _) (qe _) (by rw[qj];exact hyn) lx ly;rw[qj,qj]at vq vr;rw[show qJ x= .ag (cI x)from rfl,show qJ y= .ag (cI y)from rfl,cI,cI,MP];simp only[J7];obtain⟨a,ha⟩:∃a:Nat,x.natAbs=a:=⟨_,rfl⟩;obtain⟨b,hb⟩:∃b:Nat,y=(b:Int):=⟨y.natAbs,by omega⟩;have a1:y.natAbs=b:=by omega
 have hb0:0<b:=by omega
 rw[ha,a1]at vq vr;have hdm:=Nat.div_add_mod a b;have hml:=af a hb0;refine brb (fun h=>?_) (fun _=>?_)
 ·rw[qh]at h;have:((lim y.natAbs).length:Int)=0:=by simpa using h
  omega
 have a3:decide (y<0)=false:=decide_eq_false (by omega);rw[a3];by_cases hx0:x<0
 ·have hxt:decide (x<0)=true:=decide_eq_true hx0;rw[hxt];have a0:x= -(a:Int):=by omega
  have gq:=qU true lq q1 (z:= -((a/b:Nat):Int)) (by rw[vq];rfl);have gr:=qU true lr r1 (z:= -((a%b:Nat):Int)) (by rw[vr];rfl);refine⟨_,_,h1,_,_,up gq,_,_,up gr,?_⟩;have e0:(-((a%b:Nat):Int)).natAbs=a%b:=by rw[J6,J4]
  rw[qh];have hq:(a/b)<JY:=Nat.lt_of_le_of_lt (Nat.div_le_self _ _) (ha▸hx);refine brd (fun h=>brb (fun h2=>?_) (fun h2=>?_)) (fun h=>?_)
  ·rw[e0]at h;have a2:0<a%b:=qG.1 (by omega);have g1:=xb (n:=1) (by omega) (by omega);have sq:Sm (-((a/b:Nat):Int)):=by unfold Sm;rw[J6,J4];exact hq
   have s1:Sm 1:=by unfold Sm JY;exact aj (by omega) (aj (by omega) (by omega))
   have sr:Sm (-((a%b:Nat):Int)):=by unfold Sm;rw[J6,J4];exact Nat.lt_trans hml (a1▸hy)
   have gs:=Pb sq s1;have ga:=Js sr hy;have ga2:qf CC 235 [qJ (-((a%b:Nat):Int)),.ag [.bool false,.sl (raw (lim y.natAbs))]] [qJ (-((a%b:Nat):Int)+y)]:=by have:=up ga;rw[show qJ y= .ag (cI y)from rfl,cI,a3]at this;exact this
   refine⟨_,_,up g1,_,_,up gs,_,_,ga2,?_⟩
   ·have e1:x/y= -((a/b:Nat):Int)-1∧x%y= -((a%b:Nat):Int)+y:=by
     have:=J9 (a:=x) (b:=y) (r:= -((a%b:Nat):Int)+y) (q:= -((a/b:Nat):Int)-1) hy0;refine this.2 ⟨?_,by omega,by omega⟩;rw[a0,hb];have h5:(b:Int)*(-((a/b:Nat):Int)-1)= -((b*(a/b):Nat):Int)-b:=by rw[Int.mul_sub,Lv,Int.mul_one,Lr]
     rw[h5];omega
    rw[e1.1,e1.2];rfl
  ·exfalso;rw[e0]at h;have a2:0<a%b:=qG.1 (by omega);have:decide (-((a%b:Nat):Int)<0)=true:=decide_eq_true (by omega);rw[this]at h2;simp at h2
  ·have a2:a%b=0:=by
    rcases W1 (a%b)with h0|h0
    ·exact h0
    ·have:=qG.2 h0;rw[e0]at h;omega
   have e1:x/y= -((a/b:Nat):Int)∧x%y= -((a%b:Nat):Int):=by have:=J9 (a:=x) (b:=y) (r:= -((a%b:Nat):Int)) (q:= -((a/b:Nat):Int)) hy0;refine this.2 ⟨?_,by omega,by omega⟩;rw[a0,hb,Lv,←Lr];omega
   rw[e1.1,e1.2];simp only[qJ,cI,J6,J4]
 ·have hxf:decide (x<0)=false:=decide_eq_false hx0;rw[hxf];have a0:x=(a:Int):=by omega
  have gq:=qU false lq q1 (z:=((a/b:Nat):Int)) (by rw[vq];rfl);have gr:=qU false lr r1 (z:=((a%b:Nat):Int)) (by rw[vr];rfl);refine⟨_,_,h1,_,_,up gq,_,_,up gr,?_⟩;have hrf:decide (((a%b:Nat):Int)<0)=false:=decide_eq_false (by omega);have e1:x/y=((a/b:Nat):Int)∧x%y=((a%b:Nat):Int):=by rw[a0,hb];exact⟨rfl,rfl⟩
  refine brd (fun h=>brb (fun h2=>?_) (fun h2=>?_)) (fun h=>?_)
  ·rw[hrf]at h2;simp at h2
  ·rw[e1.1,e1.2];rfl
  ·rw[e1.1,e1.2];rfl
end Eng
end
