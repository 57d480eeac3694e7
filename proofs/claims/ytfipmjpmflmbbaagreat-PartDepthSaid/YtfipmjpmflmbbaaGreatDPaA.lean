/- A part of the proof. -/
import Derived.Test.YtfipmjpmflmbbaaGreatDEngD
import Derived.Test.YtfipmjpmflmbbaaGreatDEngE
import Derived.Test.YtfipmjpmflmbbaaGreatDEngA
import Derived.Test.YtfipmjpmflmbbaaGreatProg
import Derived.WalkKit
import Derived.LoopTactic
import Derived.KernelRfl
import Derived.IntWalk
open Bool renaming and_eq_true→Aw, false_eq_true→Bx, not_false→Dd, false_and→F2, true_and→J4, not_true→J7
open Eng.A renaming ag→J8, c→J9
open Eng.D renaming int→Lm, bool→Lr, sl→Ls
open Eng.D.int renaming injEq→Lv
open Eng.D.sl renaming injEq→No
open Go.IntKind renaming wrap→Pl, u64→P1, wrap_u32→Ts, signed→T1, bits→U0, u32→U3, wrap_u64→V1
open Go.RowKit renaming intOf→W0
open Go.Value renaming int→W1
open Int renaming ofNat→W2, toNat→ba, ofNat_eq_natCast→bc, toNat_natCast→bd, natAbs_natCast→be, natAbs_neg→bh, tmod→bm, tmod_eq_emod_of_nonneg→bs, tdiv→bw, natCast_mul→b9, ediv_one→ca, tdiv_eq_ediv_of_nonneg→cb, mul_pos→cg, mul_neg→cp, ediv_emod_unique→cr, natAbs_mul→c0
open List renaming length→c1, replicate→c2, drop_eq_getElem_cons→c3, take_length→cH, length_take→cL, take_of_length_le→dc, getD→dl, take_succ_eq_append_getElem→dn, drop_eq_nil_of_le→ed, take→el, drop→er, map_cons→ez, eq_nil_of_length_eq_zero→e7, take_append_drop→e8, drop_zero→eH, mem_singleton→fg, length_cons→fl, cons_append→ft, nil_append→fw, getElem?_eq_getElem→fx, set_append_right→fR, replicate_zero→fS, replicate_succ→gb, getLast?_take→gm, mem_flatMap→gp, drop_length→gz, mem_append→g0, append_nil→g3
open List.cons renaming injEq→g4
open Nat renaming mul_add→g5, mul_assoc→g7, beq→g8, pow_le_pow_right→hC, eq_zero_or_pos→hD, gcd→hH, mod_eq_of_lt→hK, pow_mul→hL, le_refl→hM, mul_le_mul_left→hP, pow_succ→hQ, mul_lt_mul''→hR, mul_comm→hT, mod_lt→hU, eq_of_beq_eq_true→hV, gcd_comm→hW, lt_or_ge→hX, le_of_ble_eq_true→hY, mul_le_mul_right→ia, lt_of_le_of_lt→ib, gcd_zero_right→ic, blt_eq→ie, min_eq_left→ik, div_add_mod→im, one_lt_pow→it, le_of_lt→ix, blt→iy, zero_le→iz, pow_add→j0, gcd_rec→j1, add_mul→j2
open Option.some renaming injEq→j3, inj→j4
open Rat renaming divInt→j5, num_divInt_den→kk, neg_num→ks
set_option maxRecDepth 1000000
section
namespace Eng
open Go Go.Proofs Go.RowKit Go.Sort
theorem kl {us:List Int} {k:Nat} (h:k<us.length):us.drop k=us[k]::us.drop (k+1):=c3 h
theorem SG {done r:List Int} {x y:Int} {d:Array Int} (h:d.toList=done++x::r):(d.setIfInBounds done.length y).toList=(done++[y])++r:=by
 rw[Array.toList_setIfInBounds,h];simp
def Nj (by_:Int) (us vs:List Int) (d:Array Int) (k:Nat) (c b:Int):Prop:=
 ∃done:List Int,done.length=k∧d.toList=done++us.drop k∧wB by_ us vs 0 0=(done++(wB by_ (us.drop k) (vs.drop k) c b).1,(wB by_ (us.drop k) (vs.drop k) c b).2)
theorem Kw {by_:Int} {us vs:List Int} {d:Array Int} {k:Nat} {c b:Int} (h:Nj by_ us vs d k c b) (hk:k<us.length) {t z b':Int}
 (ht:t=oh by_ c (vs.drop k))
 (hz:(P1.wrap us[k]<P1.wrap (t.tmod 1000000000+b)∧z=U3.wrap (P1.wrap (P1.wrap (P1.wrap us[k]+1000000000)-P1.wrap (t.tmod 1000000000+b)))∧b'=1)∨
  (¬P1.wrap us[k]<P1.wrap (t.tmod 1000000000+b)∧z=U3.wrap (P1.wrap (P1.wrap us[k]-P1.wrap (t.tmod 1000000000+b)))∧b'=0)):
 Nj by_ us vs (d.setIfInBounds k z) (k+1) (P1.wrap (t.tdiv 1000000000)) b':=by
 obtain⟨done,h1,h2,h3⟩:=h;refine⟨done++[z],by simp[h1],?_,?_⟩
 ·rw[kl hk]at h2;rw[←h1];have:=SG (y:=z) h2;rw[h1]at this ⊢;exact this
 ·rw[h3,kl hk];have ht2:(vs.drop k).tail=vs.drop (k+1):=by simp
  simp only[wB];rw[←ht,ht2];rcases hz with⟨h4,h5,h6⟩|⟨h4,h5,h6⟩
  ·have:decide (P1.wrap us[k]<P1.wrap (t.tmod 1000000000+b))=true:=by simpa using h4
   rw[this];subst h5 h6;simp
  ·have:decide (P1.wrap us[k]<P1.wrap (t.tmod 1000000000+b))=false:=by simpa using h4
   rw[this];subst h5 h6;simp
theorem SH {us done:List Int} {d:Array Int} {k:Nat} (h1:done.length=k) (h2:d.toList=done++us.drop k) (hk:k<us.length):d[k]! =us[k]:=by
 have hsz:d.size=us.length:=by have:=congrArg c1 h2;simp at this;omega
 have:d.toList[k]? =some us[k]:=by rw[h2,List.getElem?_append_right (by omega),h1];simp[hk]
 have h3:d[k]? =some us[k]:=by simpa using this
 rw[getElem!_pos d k (by omega)];rw[Array.getElem?_eq_getElem (by omega)]at h3;exact j4 h3
theorem Nk {us done:List Int} {d:Array Int} {k:Nat} (h1:done.length=k) (h2:d.toList=done++us.drop k) (hk:k≤us.length):d.size=us.length:=by
 have:=congrArg c1 h2;simp at this;omega
set_option maxHeartbeats 2000000 in
set_option maxRecDepth 100000 in
theorem iG {w:World} {g off cap bv ov cv:Nat} (us vs:List Int) (by_:Int) (hu:Holds (W1 .u32) w g off us.toArray) (hb:bv≠g) (hnu:us.length≤1073741824) (hnv2:vs.length≤1073741824)
 (hv:∀j (h:j<vs.length),w.cell? ⟨bv,ov+j,none⟩=some (.int .u32 vs[j])):
 Calls Tryz.prog 359 #[.slice (some ⟨g,off,none⟩) us.length cap,.slice (some ⟨bv,ov,none⟩) vs.length cv,.int .u64 by_] w fun e w'=>
  e= .returned (.bool (decide (0<(wB by_ us vs 0 0).2.2)||decide (0<(wB by_ us vs 0 0).2.1)))∧w'=putRow (W1 .u32) w g off (wB by_ us vs 0 0).1.toArray:=by
 have Hu:Hid (Holds (W1 .u32) w g off us.toArray):=hu;have Hv:Hid (∀j (h:j<vs.length),w.cell? ⟨bv,ov+j,none⟩=some (.int .u32 vs[j])):=hv;have a7:=putRow_self (W1 .u32) w g off us.toArray hu;have b1:Hid (putRow (W1 .u32) w g off us.toArray=w):=a7;clear hu hv a7;obtain⟨nu,ag⟩:∃nu,nu=us.length:=⟨_,rfl⟩;obtain⟨nv,al⟩:∃nv,nv=vs.length:=⟨_,rfl⟩;rw[←ag,←al];have b5:Hid (nu=us.length):=ag;have b6:Hid (nv=vs.length):=al;have hnu':nu≤1073741824:=by omega
 have hnv':nv≤1073741824:=by omega
 clear ag al hnu hnv2
 go_enter Tryz.func359,Tryz.ntmps359
 go_wp2
 go_loopw [7,8,15] (fun c b i wr=>∃(k:Nat) (cc bb:Int) (d:Array Int),k≤nu∧i= .int .i64 k∧c= .int .u64 cc∧b= .int .u64 bb∧Nj by_ us vs d k cc bb∧wr=putRow (W1 .u32) w g off d) (fun _ _ i _=>nu-(W0 i).toNat)
 case atStart=>exact⟨0,0,0,us.toArray,iz _,rfl,rfl,rfl,⟨[],rfl,by simp,by simp⟩,b1.out.symm⟩
 case round=>
  obtain⟨k,cc,bb,d,hk,rfl,rfl,rfl,a6,b8⟩:=hrel;have a4:Hid (Nj by_ us vs d k cc bb):=a6;have an:Hid (wr=putRow (W1 .u32) w g off d):=b8;clear a6 b8;by_cases hlt:k<nu
  ·have a3:k<us.length:=by rw[←b5.out];exact hlt
   obtain⟨done,h1,h2,_⟩:=a4.out;have b7:=Nk h1 h2 (ix a3);have b2:wr.cell? ⟨g,off+k,none⟩=some (.int .u32 us[k]):=by rw[an.out,cell?_putRow (W1 .u32) w g off us.toArray d Hu.out (by simpa using b7) k (by omega),SH h1 h2 a3]
   have hfz:wr.frozen? ⟨g,off+k,none⟩=false:=by rw[an.out,frozen?_putRow];exact(Hu.out k (by simpa using a3)).2
   have a8:∀z,wr.setCell ⟨g,off+k,none⟩ (.int .u32 z)=putRow (W1 .u32) w g off (d.setIfInBounds k z):=fun z=>by rw[an.out];exact putRow_set (W1 .u32) w g off d k z (by omega)
   have a5:Hid (∀z,wr.setCell ⟨g,off+k,none⟩ (.int .u32 z)=putRow (W1 .u32) w g off (d.setIfInBounds k z)):=a8;obtain⟨x,hx⟩:∃x,us[k]=x:=⟨_,rfl⟩;rw[hx]at b2;have Hx:Hid (us[k]=x):=hx;clear a8 h1 h2 b7 hx;by_cases hlv:k<nv
   ·have b4:k<vs.length:=by rw[←b6.out];exact hlv
    have ad:wr.cell? ⟨bv,ov+k,none⟩=some (.int .u32 vs[k]):=by rw[an.out,cell?_putRow_other _ _ _ _ _ _ (.inl hb)];exact Hv.out k b4
    obtain⟨y,hy⟩:∃y,vs[k]=y:=⟨_,rfl⟩;rw[hy]at ad;have Hy:Hid (vs.drop k=y::vs.drop (k+1)):=by rw[←hy];exact kl b4
    clear hy
    go_wp2
    all_goals
     go_roundw
     case rel=>
      refine⟨k+1,_,_,_,by omega,by go_num,rfl,rfl,Kw a4.out a3 (t:=P1.wrap (cc+P1.wrap (P1.wrap y*by_))) (by rw[Hy.out];rfl) ?_,a5.out _⟩
      first
       |exact .inl ⟨by rw[Hx.out];assumption,by rw[Hx.out,Ts],rfl⟩
       |exact .inr ⟨by rw[Hx.out];omega,by rw[Hx.out,Ts],rfl⟩
     case measure=>simp[W0];omega
   ·have Hy:Hid (vs.drop k=[]):=by
     have:vs.length≤k:=by rw[←b6.out];omega
     exact ed this
    go_wp2
    all_goals
     go_roundw
     case rel=>
      refine⟨k+1,_,_,_,by omega,by go_num,rfl,rfl,Kw a4.out a3 (t:=cc) (by rw[Hy.out];rfl) ?_,a5.out _⟩
      first
       |exact .inl ⟨by rw[Hx.out];assumption,by rw[Hx.out,Ts],rfl⟩
       |exact .inr ⟨by rw[Hx.out];omega,by rw[Hx.out,Ts],rfl⟩
     case measure=>simp[W0];omega
  ·have hkn:us.length≤k:=by rw[←b5.out];omega
   have b3:wB by_ us vs 0 0=(d.toList,cc,bb):=by obtain⟨done,h1,h2,h3⟩:=a4.out;have:us.drop k=[]:=ed hkn;rw[this]at h2 h3;rw[h3,h2];simp[wB]
   have ap:Hid (wB by_ us vs 0 0=(d.toList,cc,bb)):=b3;clear b3;by_cases hbb:0<bb
   ·go_wp2
    go_ret
    rw[ap.out];refine⟨?_,?_⟩
    ·simp[hbb]
    ·rw[an.out]
   ·have hbb':decide (0<bb)=false:=by simpa using hbb
    go_wp2
    go_ret
    rw[ap.out];refine⟨?_,?_⟩
    ·simp;exact fun h=>absurd h (by omega)
    ·rw[an.out]
def Nl (us vs:List Int) (d:Array Int) (k:Nat) (c:Int):Prop:=
 ∃done:List Int,done.length=k∧d.toList=done++us.drop k∧Wz us vs 0=done++Wz (us.drop k) (vs.drop k) c
theorem Kx {us vs:List Int} {d:Array Int} {k:Nat} {c:Int} (h:Nl us vs d k c) (hk:k<us.length) {t z c':Int}
 (ht:t=aY us[k] c (vs.drop k)) (hz:(1000000000≤t∧z=U3.wrap (t-1000000000)∧c'=1)∨(¬1000000000≤t∧z=t∧c'=0)):
 Nl us vs (d.setIfInBounds k z) (k+1) c':=by
 obtain⟨done,h1,h2,h3⟩:=h;refine⟨done++[z],by simp[h1],?_,?_⟩
 ·rw[kl hk]at h2;rw[←h1];have:=SG (y:=z) h2;rw[h1]at this ⊢;exact this
 ·rw[h3,kl hk];have ht2:(vs.drop k).tail=vs.drop (k+1):=by simp
  simp only[Wz];rw[←ht,ht2];rcases hz with⟨h4,h5,h6⟩|⟨h4,h5,h6⟩
  ·have:decide (1000000000≤t)=true:=by simpa using h4
   rw[this];subst h5 h6;simp
  ·have:decide (1000000000≤t)=false:=by simpa using h4
   rw[this];subst h5 h6;simp
set_option maxHeartbeats 2000000 in
set_option maxRecDepth 100000 in
theorem iH {w:World} {g off cap bv ov cv:Nat} (us vs:List Int) (hu:Holds (W1 .u32) w g off us.toArray) (hb:bv≠g) (hnu:us.length≤1073741824) (hnv2:vs.length≤1073741824)
 (hv:∀j (h:j<vs.length),w.cell? ⟨bv,ov+j,none⟩=some (.int .u32 vs[j])):
 Calls Tryz.prog 360 #[.slice (some ⟨g,off,none⟩) us.length cap,.slice (some ⟨bv,ov,none⟩) vs.length cv] w fun e w'=>
  e= .returned (.tuple #[])∧w'=putRow (W1 .u32) w g off (Wz us vs 0).toArray:=by
 have Hu:Hid (Holds (W1 .u32) w g off us.toArray):=hu;have Hv:Hid (∀j (h:j<vs.length),w.cell? ⟨bv,ov+j,none⟩=some (.int .u32 vs[j])):=hv;have a7:=putRow_self (W1 .u32) w g off us.toArray hu;have an:Hid (putRow (W1 .u32) w g off us.toArray=w):=a7;clear hu hv a7;obtain⟨nu,ag⟩:∃nu,nu=us.length:=⟨_,rfl⟩;obtain⟨nv,al⟩:∃nv,nv=vs.length:=⟨_,rfl⟩;rw[←ag,←al];have b5:Hid (nu=us.length):=ag;have b6:Hid (nv=vs.length):=al;have hnu':nu≤1073741824:=by omega
 have hnv':nv≤1073741824:=by omega
 clear ag al hnu hnv2
 go_enter Tryz.func360,Tryz.ntmps360
 go_wp2
 go_loopw [4,9] (fun c i wr=>∃(k:Nat) (cc:Int) (d:Array Int),k≤nu∧i= .int .i64 k∧c= .int .u32 cc∧Nl us vs d k cc∧wr=putRow (W1 .u32) w g off d) (fun _ i _=>nu-(W0 i).toNat)
 case atStart=>exact⟨0,0,us.toArray,iz _,rfl,rfl,⟨[],rfl,by simp,by simp⟩,an.out.symm⟩
 case round=>
  obtain⟨k,cc,d,hk,rfl,rfl,a6,b8⟩:=hrel;have a4:Hid (Nl us vs d k cc):=a6;have ap:Hid (wr=putRow (W1 .u32) w g off d):=b8;clear a6 b8;by_cases hlt:k<nu
  ·have a3:k<us.length:=by rw[←b5.out];exact hlt
   obtain⟨done,h1,h2,_⟩:=a4.out;have b7:=Nk h1 h2 (ix a3);have b1:wr.cell? ⟨g,off+k,none⟩=some (.int .u32 us[k]):=by rw[ap.out,cell?_putRow (W1 .u32) w g off us.toArray d Hu.out (by simpa using b7) k (by omega),SH h1 h2 a3]
   have hfz:wr.frozen? ⟨g,off+k,none⟩=false:=by rw[ap.out,frozen?_putRow];exact(Hu.out k (by simpa using a3)).2
   have a8:∀z,wr.setCell ⟨g,off+k,none⟩ (.int .u32 z)=putRow (W1 .u32) w g off (d.setIfInBounds k z):=fun z=>by rw[ap.out];exact putRow_set (W1 .u32) w g off d k z (by omega)
   have a5:Hid (∀z,wr.setCell ⟨g,off+k,none⟩ (.int .u32 z)=putRow (W1 .u32) w g off (d.setIfInBounds k z)):=a8;obtain⟨x,hx⟩:∃x,us[k]=x:=⟨_,rfl⟩;rw[hx]at b1;have Hx:Hid (us[k]=x):=hx;clear a8 h1 h2 b7 hx;by_cases hlv:k<nv
   ·have b3:k<vs.length:=by rw[←b6.out];exact hlv
    have ad:wr.cell? ⟨bv,ov+k,none⟩=some (.int .u32 vs[k]):=by rw[ap.out,cell?_putRow_other _ _ _ _ _ _ (.inl hb)];exact Hv.out k b3
    obtain⟨y,hy⟩:∃y,vs[k]=y:=⟨_,rfl⟩;rw[hy]at ad;have Hy:Hid (vs.drop k=y::vs.drop (k+1)):=by rw[←hy];exact kl b3
    clear hy
    go_wp2
    all_goals
     go_roundw
     case rel=>
      refine⟨k+1,_,_,by omega,by go_num,rfl,Kx a4.out a3 (t:=(x+cc+y)%4294967296) (by rw[Hy.out,Hx.out];simp only[aY,Ts];omega) ?_,a5.out _⟩;simp only[Ts]
      first
       |exact .inl ⟨by omega,by omega,trivial⟩
       |exact .inr ⟨by omega,trivial,trivial⟩
     case measure=>simp[W0];omega
   ·have Hy:Hid (vs.drop k=[]):=by
     have:vs.length≤k:=by rw[←b6.out];omega
     exact ed this
    go_wp2
    all_goals
     go_roundw
     case rel=>
      refine⟨k+1,_,_,by omega,by go_num,rfl,Kx a4.out a3 (t:=(x+cc)%4294967296) (by rw[Hy.out,Hx.out];simp only[aY,Ts]) ?_,a5.out _⟩;simp only[Ts]
      first
       |exact .inl ⟨by omega,by omega,trivial⟩
       |exact .inr ⟨by omega,trivial,trivial⟩
     case measure=>simp[W0];omega
  ·have hkn:us.length≤k:=by rw[←b5.out];omega
   have b2:Wz us vs 0=d.toList:=by obtain⟨done,h1,h2,h3⟩:=a4.out;have:us.drop k=[]:=ed hkn;rw[this]at h2 h3;rw[h3,h2];simp[Wz]
   have b4:Hid (Wz us vs 0=d.toList):=b2;clear b2
   go_wp2
   go_end0
   rw[b4.out];exact⟨rfl,by rw[ap.out]⟩
theorem oj:SubK Tryz.prog 359 360 where
 there f hf:=by
  rcases hf with rfl|rfl
  ·exact⟨_,Tryz.func359,by simp[Tryz.f359],by decide⟩
  ·exact⟨_,Tryz.func360,by simp[Tryz.f360],by decide⟩
 sub us vs n h1 h2 h3 h4 h5:=iG us vs n h1 h2 h3 h4 h5
 res us vs h1 h2 h3 h4 h5:=iH us vs h1 h2 h3 h4 h5
end Eng
end
section
namespace Eng
open Go Go.Proofs Go.RowKit
noncomputable def C0:Cx:=⟨Tryz.prog,fun _=>none,fun _=>false,fun _=>none,fun _ _=>false,fun _=>false⟩
def noT:Nat→List A→Option (List A):=fun _ _=>none
theorem mixedT:Tryz.prog.follows .mixedOrders=true:=by kernel_rfl
instance:EffOk C0:=xV fun f e h=>by simp[C0]at h
end Eng
end
section
namespace Eng
abbrev bB (b:Bool) (X Y:Prop):Prop:=br (toB (.bool b)) X Y
abbrev aR (x:R4):A:= .ag (rk x [])
abbrev aT (x y z:R4):A:= .ag (rk x (rk y (rk z [])))
abbrev aV (x y:R4):A:= .ag (rk x (rk y []))
abbrev aP (x:P20):A:= .ag (pk x [])
abbrev aC (x:C66):A:= .ag (ck x [])
abbrev aI (n:Int):A:= .c (.int .i64 n)
abbrev aB (b:Bool):A:= .c (.bool b)
abbrev aL (l:List (List D)):A:= .c (.sl l)
abbrev aZ (b:Bool) (l:List (List D)):A:= .ag [.bool b,.sl l]
abbrev dI (n:Int):D:= .int .i64 n
abbrev rO (l:List (List D)) (i:Int) (n:Nat):Prop:=0≤i∧i<W2 l.length∧(nth [] l i.toNat).length=n
abbrev cU (l:List (List D)) (i:Int) (a n:Nat) (r:List D):Prop:=cut (nth [] l i.toNat) a n r
open Go in
abbrev zC:List Value:=let r (t:List Value):List Value:= .bool false:: .slice none 0 0:: .bool false:: .slice none 0 0::t;let p (t:List Value):=r (r (r (r (r t))));.bool false::r (r (r (r (r (r (.bool false::p (p [])))))))
end Eng
end
section
open Go Go.Proofs Eng
namespace Eng
section
variable (Gv:Nat→List A→List A→Prop) (I0:List D→List D→Prop) (M0:List D→Nat) (I1:List D→List D→Prop) (M1:List D→Nat) (I2:List D→List D→Prop) (M2:List D→Nat) (I3:List D→List D→Prop) (M3:List D→Nat) (Q:List A→Prop)
theorem bz (es:List (List D)):wpF C0 Gv (fun _=>⟨[.slot 0 (.slice none 0 0)],[],I0,M0⟩) Tryz.f324 [.c (.sl es)] Q=(I0 [] [Ls es]∧∀(es:List (List D)),I0 [] [Ls es]→bB (decide ((W2 es.length)>0)) ((0≤Pl .i64 ((W2 es.length)-1)∧Pl .i64 ((W2 es.length)-1)<(W2 es.length)∧c1 (nth [] es (ba (Pl .i64 ((W2 es.length)-1))))=1)∧∃n,cut (nth [] es (ba (Pl .i64 ((W2 es.length)-1)))) 0 1 [Lm .u32 n]∧bB (n==0) (((0:Int)≤(0:Int)∧0≤Pl .i64 ((W2 es.length)-1)∧Pl .i64 ((W2 es.length)-1)≤(W2 es.length)∧lens 1 es)∧I0 [] [Ls (er 0 (el (ba (Pl .i64 ((W2 es.length)-1))) es))]∧M0 [Ls (er 0 (el (ba (Pl .i64 ((W2 es.length)-1))) es))]<M0 [Ls es]) (Q [aL es])) (Q [aL es])):=by kernel_rfl
theorem Ps (es fs:List (List D)):wpF C0 Gv (fun _=>⟨[.slot 5 (.int .i64 0)],[],I0,M0⟩) Tryz.f273 [.c (.sl es),.c (.sl fs)] Q=(∃e1,Gv 324 [aL es] [aL e1]∧∃es,Gv 324 [aL fs] [aL es]∧bB ((W2 e1.length) !=(W2 es.length)) (bB (decide ((W2 e1.length)<(W2 es.length))) (Q [aI (-1:Int)]) (Q [aI (1:Int)])) (I0 [] [dI (Pl .i64 ((W2 e1.length)-1))]∧∀(n:Int),I0 [] [dI n]→bB (decide (n≥0)) ((0≤n∧n<(W2 e1.length)∧c1 (nth [] e1 (ba n))=1)∧∃n1,cut (nth [] e1 (ba n)) 0 1 [Lm .u32 n1]∧(0≤n∧n<(W2 es.length)∧c1 (nth [] es (ba n))=1)∧∃n2,cut (nth [] es (ba n)) 0 1 [Lm .u32 n2]∧bB (decide (n1<n2)) (Q [aI (-1:Int)]) ((0≤n∧n<(W2 e1.length)∧c1 (nth [] e1 (ba n))=1)∧∃n3,cut (nth [] e1 (ba n)) 0 1 [Lm .u32 n3]∧(0≤n∧n<(W2 es.length)∧c1 (nth [] es (ba n))=1)∧∃n4,cut (nth [] es (ba n)) 0 1 [Lm .u32 n4]∧bB (decide (n3>n4)) (Q [aI (1:Int)]) (I0 [] [dI (Pl .i64 (n-1))]∧M0 [dI (Pl .i64 (n-1))]<M0 [dI n]))) (Q [aI (0:Int)]))):=by kernel_rfl
theorem SI (b:Bool) (es:List (List D)):wpF C0 Gv (fun _=>⟨[.slot 5 (.int .i64 0)],[],I0,M0⟩) Tryz.f226 [.c (.bool b),.c (.sl es)] Q=(I0 [] [dI (W2 es.length)]∧∀(n:Int),I0 [] [dI n]→bB (decide (n>0)) ((0≤Pl .i64 (n-1)∧Pl .i64 (n-1)<(W2 es.length)∧c1 (nth [] es (ba (Pl .i64 (n-1))))=1)∧∃n1,cut (nth [] es (ba (Pl .i64 (n-1)))) 0 1 [Lm .u32 n1]∧bB (n1==0) (I0 [] [dI (Pl .i64 (n-1))]∧M0 [dI (Pl .i64 (n-1))]<M0 [dI n]) (br b (((0:Int)≤(0:Int)∧0≤n∧n≤n∧n≤(W2 es.length)∧lens 1 es)∧Q [aZ (decide (n>0)) (er 0 (el (ba n) es))]) (((0:Int)≤(0:Int)∧0≤n∧n≤n∧n≤(W2 es.length)∧lens 1 es)∧Q [aZ false (er 0 (el (ba n) es))]))) (br b (((0:Int)≤(0:Int)∧0≤n∧n≤n∧n≤(W2 es.length)∧lens 1 es)∧Q [aZ (decide (n>0)) (er 0 (el (ba n) es))]) (((0:Int)≤(0:Int)∧0≤n∧n≤n∧n≤(W2 es.length)∧lens 1 es)∧Q [aZ false (er 0 (el (ba n) es))]))):=by kernel_rfl
theorem EM (n:Int):wpF C0 Gv an0 Tryz.f227 [.c (.int .u64 n)] Q=((1000000000:Int)≠(0:Int)∧(1000000000:Int)≠(0:Int)∧(1000000000:Int)≠(0:Int)∧(1000000000:Int)≠(0:Int)∧(1000000000:Int)≠(0:Int)∧Q [aL [[Lm .u32 (Pl .u32 (bm n (1000000000:Int)))],[Lm .u32 (Pl .u32 (bm (Pl .u64 (bw n (1000000000:Int))) (1000000000:Int)))],[Lm .u32 (Pl .u32 (Pl .u64 (bw (Pl .u64 (bw n (1000000000:Int))) (1000000000:Int))))]]]):=by kernel_rfl
theorem H9 (n:Int):wpF C0 Gv an0 Tryz.f170 [.c (.int .i64 n)] Q=(bB (decide (n<0)) (∃es,Gv 227 [J9 (Lm .u64 (Pl .u64 (0-Pl .u64 n)))] [aL es]∧∃b e1,Gv 226 [aB (decide (n<0)),aL es] [aZ b e1]∧Q [aZ b e1]) (∃es,Gv 227 [J9 (Lm .u64 (Pl .u64 n))] [aL es]∧∃b e1,Gv 226 [aB (decide (n<0)),aL es] [aZ b e1]∧Q [aZ b e1])):=by kernel_rfl
theorem bA (p:Bool) (es:List (List D)):wpF C0 Gv an0 Tryz.f336 [.ag [.bool p,.sl es]] Q=(bB ((W2 es.length)==0) (Q [J9 (Lm .u64 0),aB true]) (bB ((W2 es.length)==1) (((0:Int)≤(0:Int)∧0<(W2 es.length)∧c1 (nth [] es 0)=1)∧∃n,cut (nth [] es 0) 0 1 [Lm .u32 n]∧Q [J9 (Lm .u64 (Pl .u64 n)),aB true]) (bB ((W2 es.length)==2) (((0:Int)≤(1:Int)∧1<(W2 es.length)∧c1 (nth [] es 1)=1)∧∃n,cut (nth [] es 1) 0 1 [Lm .u32 n]∧((0:Int)≤(0:Int)∧0<(W2 es.length)∧c1 (nth [] es 0)=1)∧∃n1,cut (nth [] es 0) 0 1 [Lm .u32 n1]∧Q [J9 (Lm .u64 (Pl .u64 (Pl .u64 (Pl .u64 n*1000000000)+Pl .u64 n1))),aB true]) (Q [J9 (Lm .u64 0),aB false])))):=by kernel_rfl
theorem bC (p:Bool) (es:List (List D)):wpF C0 Gv an0 Tryz.f183 [.ag [.bool p,.sl es]] Q=(br p (Q [aI (-1:Int)]) (bB (decide ((W2 es.length)>0)) (Q [aI (1:Int)]) (Q [aI (0:Int)]))):=by kernel_rfl
theorem iI (p q:Bool) (es fs:List (List D)):wpF C0 Gv an0 Tryz.f229 [.ag [.bool p,.sl es],.ag [.bool q,.sl fs]] Q=(bB (!p==q) (br p (Q [aI (-1:Int)]) (Q [aI (1:Int)])) (br p (∃n,Gv 273 [aL fs,aL es] [aI n]∧Q [aI n]) (∃n,Gv 273 [aL es,aL fs] [aI n]∧Q [aI n]))):=by kernel_rfl
theorem SJ (es fs:List (List D)):wpF C0 Gv (fun _=>⟨[.own 5 53 1,.slot 6 (.int .u32 0),.slot 22 (.int .i64 0)],[],I0,M0⟩) Tryz.f327 [.c (.sl es),.c (.sl fs)] Q=(bB (decide ((W2 es.length)<(W2 fs.length))) (((0:Int)≤(0:Int)∧0≤Pl .i64 ((W2 fs.length)+1)∧room (ba (Pl .i64 ((W2 fs.length)+1))))∧I0 [] [Ls [],Lm .u32 0,dI (0:Int)]∧∀(e1:List (List D)) (n n1:Int),I0 [] [Ls e1,Lm .u32 n,dI n1]→bB (decide (n1<(W2 fs.length))) ((0≤n1∧n1<(W2 fs.length)∧c1 (nth [] fs (ba n1))=1)∧∃n2,cut (nth [] fs (ba n1)) 0 1 [Lm .u32 n2]∧bB (decide (n1<(W2 es.length))) ((0≤n1∧n1<(W2 es.length)∧c1 (nth [] es (ba n1))=1)∧∃n3,cut (nth [] es (ba n1)) 0 1 [Lm .u32 n3]∧bB (decide (Pl .u32 (Pl .u32 (n2+n)+n3)≥1000000000)) ((room (e1.length+1)∧lens 1 [[Lm .u32 (Pl .u32 (Pl .u32 (Pl .u32 (n2+n)+n3)-1000000000))]])∧I0 [] [Ls (e1++[[Lm .u32 (Pl .u32 (Pl .u32 (Pl .u32 (n2+n)+n3)-1000000000))]]),Lm .u32 1,dI (Pl .i64 (n1+1))]∧M0 [Ls (e1++[[Lm .u32 (Pl .u32 (Pl .u32 (Pl .u32 (n2+n)+n3)-1000000000))]]),Lm .u32 1,dI (Pl .i64 (n1+1))]<M0 [Ls e1,Lm .u32 n,dI n1]) ((room (e1.length+1)∧lens 1 [[Lm .u32 (Pl .u32 (Pl .u32 (n2+n)+n3))]])∧I0 [] [Ls (e1++[[Lm .u32 (Pl .u32 (Pl .u32 (n2+n)+n3))]]),Lm .u32 0,dI (Pl .i64 (n1+1))]∧M0 [Ls (e1++[[Lm .u32 (Pl .u32 (Pl .u32 (n2+n)+n3))]]),Lm .u32 0,dI (Pl .i64 (n1+1))]<M0 [Ls e1,Lm .u32 n,dI n1])) (bB (decide (Pl .u32 (n2+n)≥1000000000)) ((room (e1.length+1)∧lens 1 [[Lm .u32 (Pl .u32 (Pl .u32 (n2+n)-1000000000))]])∧I0 [] [Ls (e1++[[Lm .u32 (Pl .u32 (Pl .u32 (n2+n)-1000000000))]]),Lm .u32 1,dI (Pl .i64 (n1+1))]∧M0 [Ls (e1++[[Lm .u32 (Pl .u32 (Pl .u32 (n2+n)-1000000000))]]),Lm .u32 1,dI (Pl .i64 (n1+1))]<M0 [Ls e1,Lm .u32 n,dI n1]) ((room (e1.length+1)∧lens 1 [[Lm .u32 (Pl .u32 (n2+n))]])∧I0 [] [Ls (e1++[[Lm .u32 (Pl .u32 (n2+n))]]),Lm .u32 0,dI (Pl .i64 (n1+1))]∧M0 [Ls (e1++[[Lm .u32 (Pl .u32 (n2+n))]]),Lm .u32 0,dI (Pl .i64 (n1+1))]<M0 [Ls e1,Lm .u32 n,dI n1]))) ((room (e1.length+1)∧lens 1 [[Lm .u32 n]])∧Q [aL (e1++[[Lm .u32 n]])])) (((0:Int)≤(0:Int)∧0≤Pl .i64 ((W2 es.length)+1)∧room (ba (Pl .i64 ((W2 es.length)+1))))∧I0 [] [Ls [],Lm .u32 0,dI (0:Int)]∧∀(e1:List (List D)) (n n1:Int),I0 [] [Ls e1,Lm .u32 n,dI n1]→bB (decide (n1<(W2 es.length))) ((0≤n1∧n1<(W2 es.length)∧c1 (nth [] es (ba n1))=1)∧∃n2,cut (nth [] es (ba n1)) 0 1 [Lm .u32 n2]∧bB (decide (n1<(W2 fs.length))) ((0≤n1∧n1<(W2 fs.length)∧c1 (nth [] fs (ba n1))=1)∧∃n3,cut (nth [] fs (ba n1)) 0 1 [Lm .u32 n3]∧bB (decide (Pl .u32 (Pl .u32 (n2+n)+n3)≥1000000000)) ((room (e1.length+1)∧lens 1 [[Lm .u32 (Pl .u32 (Pl .u32 (Pl .u32 (n2+n)+n3)-1000000000))]])∧I0 [] [Ls (e1++[[Lm .u32 (Pl .u32 (Pl .u32 (Pl .u32 (n2+n)+n3)-1000000000))]]),Lm .u32 1,dI (Pl .i64 (n1+1))]∧M0 [Ls (e1++[[Lm .u32 (Pl .u32 (Pl .u32 (Pl .u32 (n2+n)+n3)-1000000000))]]),Lm .u32 1,dI (Pl .i64 (n1+1))]<M0 [Ls e1,Lm .u32 n,dI n1]) ((room (e1.length+1)∧lens 1 [[Lm .u32 (Pl .u32 (Pl .u32 (n2+n)+n3))]])∧I0 [] [Ls (e1++[[Lm .u32 (Pl .u32 (Pl .u32 (n2+n)+n3))]]),Lm .u32 0,dI (Pl .i64 (n1+1))]∧M0 [Ls (e1++[[Lm .u32 (Pl .u32 (Pl .u32 (n2+n)+n3))]]),Lm .u32 0,dI (Pl .i64 (n1+1))]<M0 [Ls e1,Lm .u32 n,dI n1])) (bB (decide (Pl .u32 (n2+n)≥1000000000)) ((room (e1.length+1)∧lens 1 [[Lm .u32 (Pl .u32 (Pl .u32 (n2+n)-1000000000))]])∧I0 [] [Ls (e1++[[Lm .u32 (Pl .u32 (Pl .u32 (n2+n)-1000000000))]]),Lm .u32 1,dI (Pl .i64 (n1+1))]∧M0 [Ls (e1++[[Lm .u32 (Pl .u32 (Pl .u32 (n2+n)-1000000000))]]),Lm .u32 1,dI (Pl .i64 (n1+1))]<M0 [Ls e1,Lm .u32 n,dI n1]) ((room (e1.length+1)∧lens 1 [[Lm .u32 (Pl .u32 (n2+n))]])∧I0 [] [Ls (e1++[[Lm .u32 (Pl .u32 (n2+n))]]),Lm .u32 0,dI (Pl .i64 (n1+1))]∧M0 [Ls (e1++[[Lm .u32 (Pl .u32 (n2+n))]]),Lm .u32 0,dI (Pl .i64 (n1+1))]<M0 [Ls e1,Lm .u32 n,dI n1]))) ((room (e1.length+1)∧lens 1 [[Lm .u32 n]])∧Q [aL (e1++[[Lm .u32 n]])]))):=by kernel_rfl
theorem EN (es fs:List (List D)):wpF C0 Gv (fun _=>⟨[.own 5 45 1,.slot 6 (.int .u32 0),.slot 15 (.int .i64 0)],[],I0,M0⟩) Tryz.f328 [.c (.sl es),.c (.sl fs)] Q=((0≤(W2 es.length)∧(W2 es.length)≤(W2 es.length)∧room (ba (W2 es.length)))∧I0 [] [Ls (c2 (ba (W2 es.length)) [Lm .u32 0]),Lm .u32 0,dI (0:Int)]∧∀(e1:List (List D)) (n n1:Int),I0 [] [Ls e1,Lm .u32 n,dI n1]→bB (decide (n1<(W2 es.length))) ((0≤n1∧n1<(W2 es.length)∧c1 (nth [] es (ba n1))=1)∧∃n2,cut (nth [] es (ba n1)) 0 1 [Lm .u32 n2]∧bB (decide (n1<(W2 fs.length))) ((0≤n1∧n1<(W2 fs.length)∧c1 (nth [] fs (ba n1))=1)∧∃n3,cut (nth [] fs (ba n1)) 0 1 [Lm .u32 n3]∧bB (decide (n2<Pl .u32 (n+n3))) ((0≤n1∧n1<(W2 e1.length))∧0<1∧I0 [] [Ls (upd e1 (ba n1) (upd (nth [] e1 (ba n1)) 0 (Lm .u32 (Pl .u32 (Pl .u32 (n2+1000000000)-Pl .u32 (n+n3)))))),Lm .u32 1,dI (Pl .i64 (n1+1))]∧M0 [Ls (upd e1 (ba n1) (upd (nth [] e1 (ba n1)) 0 (Lm .u32 (Pl .u32 (Pl .u32 (n2+1000000000)-Pl .u32 (n+n3)))))),Lm .u32 1,dI (Pl .i64 (n1+1))]<M0 [Ls e1,Lm .u32 n,dI n1]) ((0≤n1∧n1<(W2 e1.length))∧0<1∧I0 [] [Ls (upd e1 (ba n1) (upd (nth [] e1 (ba n1)) 0 (Lm .u32 (Pl .u32 (n2-Pl .u32 (n+n3)))))),Lm .u32 0,dI (Pl .i64 (n1+1))]∧M0 [Ls (upd e1 (ba n1) (upd (nth [] e1 (ba n1)) 0 (Lm .u32 (Pl .u32 (n2-Pl .u32 (n+n3)))))),Lm .u32 0,dI (Pl .i64 (n1+1))]<M0 [Ls e1,Lm .u32 n,dI n1])) (bB (decide (n2<n)) ((0≤n1∧n1<(W2 e1.length))∧0<1∧I0 [] [Ls (upd e1 (ba n1) (upd (nth [] e1 (ba n1)) 0 (Lm .u32 (Pl .u32 (Pl .u32 (n2+1000000000)-n))))),Lm .u32 1,dI (Pl .i64 (n1+1))]∧M0 [Ls (upd e1 (ba n1) (upd (nth [] e1 (ba n1)) 0 (Lm .u32 (Pl .u32 (Pl .u32 (n2+1000000000)-n))))),Lm .u32 1,dI (Pl .i64 (n1+1))]<M0 [Ls e1,Lm .u32 n,dI n1]) ((0≤n1∧n1<(W2 e1.length))∧0<1∧I0 [] [Ls (upd e1 (ba n1) (upd (nth [] e1 (ba n1)) 0 (Lm .u32 (Pl .u32 (n2-n))))),Lm .u32 0,dI (Pl .i64 (n1+1))]∧M0 [Ls (upd e1 (ba n1) (upd (nth [] e1 (ba n1)) 0 (Lm .u32 (Pl .u32 (n2-n))))),Lm .u32 0,dI (Pl .i64 (n1+1))]<M0 [Ls e1,Lm .u32 n,dI n1]))) (Q [aL e1])):=by kernel_rfl
theorem iJ (p q:Bool) (es fs:List (List D)):wpF C0 Gv an0 Tryz.f277 [.ag [.bool p,.sl es],.ag [.bool q,.sl fs]] Q=(bB (p==q) (∃e1,Gv 327 [aL es,aL fs] [aL e1]∧∃b es,Gv 226 [aB p,aL e1] [aZ b es]∧Q [aZ b es]) (∃n,Gv 273 [aL es,aL fs] [aI n]∧bB (decide (n<0)) (∃e1,Gv 328 [aL fs,aL es] [aL e1]∧∃b es,Gv 226 [aB q,aL e1] [aZ b es]∧Q [aZ b es]) (∃e1,Gv 328 [aL es,aL fs] [aL e1]∧∃b es,Gv 226 [aB p,aL e1] [aZ b es]∧Q [aZ b es]))):=by kernel_rfl
theorem iK (p q:Bool) (es fs:List (List D)):wpF C0 Gv an0 Tryz.f356 [.ag [.bool p,.sl es],.ag [.bool q,.sl fs]] Q=(bB (!q) (∃b e1,Gv 277 [aZ p es,aZ (decide ((W2 fs.length)>0)) fs] [aZ b e1]∧Q [aZ b e1]) (∃b e1,Gv 277 [aZ p es,aZ false fs] [aZ b e1]∧Q [aZ b e1])):=by kernel_rfl
theorem iL (p:Bool) (es:List (List D)):wpF C0 Gv an0 Tryz.f278 [.ag [.bool p,.sl es]] Q=((room es.length∧lens 1 es)∧∃b e1,Gv 226 [aB (!p),aL es] [aZ b e1]∧Q [aZ b e1]):=by kernel_rfl
theorem iM (p q:Bool) (es fs:List (List D)):wpF C0 Gv an0 Tryz.f230 [.ag [.bool p,.sl es],.ag [.bool q,.sl fs]] Q=(∃e1,Gv 274 [aL es,aL fs] [aL e1]∧∃b es,Gv 226 [J9 (Lr !p==q),aL e1] [aZ b es]∧Q [aZ b es]):=by kernel_rfl
theorem SK (es:List (List D)) (n:Int):wpF C0 Gv (fun _=>⟨[.own 6 44 1,.slot 7 (.int .u64 0),.slot 8 (.int .i64 0)],[],I0,M0⟩) Tryz.f358 [.c (.sl es),.c (.int .u32 n)] Q=((0≤(W2 es.length)∧(W2 es.length)≤(W2 es.length)∧room (ba (W2 es.length)))∧I0 [] [Ls (c2 (ba (W2 es.length)) [Lm .u32 0]),Lm .u64 0,dI (Pl .i64 ((W2 es.length)-1))]∧∀(e1:List (List D)) (n1 n2:Int),I0 [] [Ls e1,Lm .u64 n1,dI n2]→bB (decide (n2≥0)) ((0≤n2∧n2<(W2 es.length)∧c1 (nth [] es (ba n2))=1)∧∃n3,cut (nth [] es (ba n2)) 0 1 [Lm .u32 n3]∧Pl .u64 n≠0∧Pl .u64 n≠0∧(0≤n2∧n2<(W2 e1.length))∧0<1∧I0 [] [Ls (upd e1 (ba n2) (upd (nth [] e1 (ba n2)) 0 (Lm .u32 (Pl .u32 (Pl .u64 (bw (Pl .u64 (Pl .u64 (n1*1000000000)+Pl .u64 n3)) (Pl .u64 n))))))),Lm .u64 (bm (Pl .u64 (Pl .u64 (n1*1000000000)+Pl .u64 n3)) (Pl .u64 n)),dI (Pl .i64 (n2-1))]∧M0 [Ls (upd e1 (ba n2) (upd (nth [] e1 (ba n2)) 0 (Lm .u32 (Pl .u32 (Pl .u64 (bw (Pl .u64 (Pl .u64 (n1*1000000000)+Pl .u64 n3)) (Pl .u64 n))))))),Lm .u64 (bm (Pl .u64 (Pl .u64 (n1*1000000000)+Pl .u64 n3)) (Pl .u64 n)),dI (Pl .i64 (n2-1))]<M0 [Ls e1,Lm .u64 n1,dI n2]) (Q [aL e1,aL [[Lm .u32 (Pl .u32 n1)]]])):=by kernel_rfl
end
end Eng
end
section
namespace Eng
open Go
def raw (l:List Nat):List (List D):=l.map fun(x:Nat)=>[.int .u32 (x:Int)]
def Limbs (l:List Nat):Prop:=∀x∈l,x<1000000000
def val:List Nat→Nat
 |[]=>0
 |x::r=>x+1000000000*val r
def pad:Nat→Nat→List Nat
 |0,_=>[]
 |k+1,n=>n%1000000000::pad k (n/1000000000)
def DL:Nat→Nat→List Nat
 |0,_=>[]
 |f+1,n=>match n with
  |0=>[]
  |m+1=>(m+1)%1000000000::DL f ((m+1)/1000000000)
def lim (n:Nat):List Nat:=DL n n
theorem Limbs.nil:Limbs []:=fun _ h=>by simp at h
theorem Limbs.cons {x:Nat} {l:List Nat} (hx:x<1000000000) (h:Limbs l):Limbs (x::l):=fun y hy=>by
 rcases List.mem_cons.1 hy with rfl|hy
 ·exact hx
 ·exact h y hy
theorem Limbs.of_cons {x:Nat} {l:List Nat} (h:Limbs (x::l)):x<1000000000∧Limbs l:=⟨h x (by simp),fun y hy=>h y (by simp[hy])⟩
theorem Limbs.append {a b:List Nat} (ha:Limbs a) (hb:Limbs b):Limbs (a++b):=fun y hy=>by
 rcases g0.1 hy with hy|hy
 ·exact ha y hy
 ·exact hb y hy
theorem Limbs.take {l:List Nat} (h:Limbs l) (k:Nat):Limbs (l.take k):=fun y hy=>h y (List.mem_of_mem_take hy)
theorem Limbs.drop {l:List Nat} (h:Limbs l) (k:Nat):Limbs (l.drop k):=fun y hy=>h y (List.mem_of_mem_drop hy)
theorem Limbs.get {l:List Nat} (h:Limbs l) {i:Nat} (hi:i<l.length):l[i]<1000000000:=h _ (List.getElem_mem hi)
theorem qU (a b:List Nat):val (a++b)=val a+1000000000^a.length*val b:=by
 induction a with
 |nil=>simp[val]
 |cons x a ih=>simp only[ft,val,ih,fl,hQ];rw[g5,Nat.add_assoc,←g7,hT (1000000000^a.length) 1000000000]
theorem qX {l:List Nat} (h:Limbs l):val l<1000000000^l.length:=by
 induction l with
 |nil=>simp[val]
 |cons x l ih=>obtain⟨h1,h2⟩:=h.of_cons;have:=ih h2;simp only[val,fl,hQ];omega
theorem xB:∀(k n:Nat),(pad k n).length=k
 |0,_=>rfl
 |k+1,n=>by simp[pad,xB k]
theorem zl:∀(k n:Nat),Limbs (pad k n)
 |0,_=>Limbs.nil
 |k+1,n=>Limbs.cons (hU _ (by omega)) (zl k _)
theorem kB:∀(k n:Nat),val (pad k n)=n%1000000000^k
 |0,n=>by simp[pad,val,Nat.mod_one]
 |k+1,n=>by simp only[pad,val,kB k];rw[Nat.pow_succ',Nat.mod_mul]
theorem v7 {l:List Nat} (h:Limbs l):pad l.length (val l)=l:=by
 induction l with
 |nil=>rfl
 |cons x l ih=>
  obtain⟨h1,h2⟩:=h.of_cons;simp only[fl,pad,val];have e1:(x+1000000000*val l)%1000000000=x:=by omega
  have e2:(x+1000000000*val l)/1000000000=val l:=by omega
  rw[e1,e2,ih h2]
theorem SL {a b:List Nat} (ha:Limbs a) (hb:Limbs b) (hl:a.length=b.length) (hv:val a=val b):a=b:=by
 rw[←v7 ha,←v7 hb,hl,hv]
theorem Vm:∀(f n:Nat),Limbs (DL f n)
 |0,_=>Limbs.nil
 |f+1,0=>Limbs.nil
 |f+1,m+1=>Limbs.cons (hU _ (by omega)) (Vm f _)
theorem Jg:∀(f n:Nat),n≤f→val (DL f n)=n
 |0,n,h=>by simp[DL,val];omega
 |f+1,0,_=>rfl
 |f+1,m+1,h=>by simp only[DL,val];rw[Jg f _ (by omega)];omega
theorem qh (n:Nat):Limbs (lim n):=Vm n n
theorem qj (n:Nat):val (lim n)=n:=Jg n n (hM n)
theorem HA:∀(f n:Nat),n≤f→DL f n=[]∨(DL f n).getLast?≠some 0
 |0,_,_=> .inl rfl
 |f+1,0,_=> .inl rfl
 |f+1,m+1,h=>by
  refine .inr ?_;simp only[DL];rcases HA f ((m+1)/1000000000) (by omega)with h1|h1
  ·have:=Jg f ((m+1)/1000000000) (by omega);rw[h1]at this ⊢;simp only[val]at this;simp only[List.getLast?_singleton,ne_eq,j3];omega
  ·rw[List.getLast?_cons];cases hh:(DL f ((m+1)/1000000000)).getLast? with
   |none=>rw[List.getLast?_eq_none_iff]at hh;rw[hh]at h1;have:=Jg f ((m+1)/1000000000) (by omega);rw[hh]at this;simp only[val]at this;simp only[Option.getD_none,ne_eq,j3];omega
   |some x=>
    rw[hh]at h1
    simpa using h1
theorem kc (n:Nat):lim n=[]∨(lim n).getLast?≠some 0:=HA n n (hM n)
theorem ZK {a b:List Nat} (ha:Limbs a) (hb:b.getLast?≠some 0) (hbn:b≠[]) (h:a.length<b.length):val a<val b:=by
 have h1:=qX ha;have h2:1000000000^(b.length-1)≤val b:=by
  have hd:=List.dropLast_concat_getLast hbn;have hz:b.getLast hbn≠0:=by intro e;apply hb;rw[List.getLast?_eq_some_getLast hbn,e]
  rw[←hd,qU];simp only[List.length_append,List.length_dropLast,List.length_singleton,val];have h0:0<b.getLast hbn:=Nat.pos_of_ne_zero hz;have e1:b.length-1+1-1=b.length-1:=by omega
  rw[e1];have:1000000000^(b.length-1)*1≤1000000000^(b.length-1)*(b.getLast hbn+1000000000*0):=hP _ (by omega);omega
 have h3:1000000000^a.length≤1000000000^(b.length-1):=hC (by omega) (by omega);omega
theorem yR {l:List Nat} (hl:Limbs l) (hz:l=[]∨l.getLast?≠some 0):lim (val l)=l:=by
 have h1:=qh (val l);have h2:=qj (val l);have h3:=kc (val l);have a4:(lim (val l)).length=l.length:=by
  rcases Nat.lt_trichotomy (lim (val l)).length l.length with h|h|h
  ·exfalso;have a3:l≠[]:=by intro e;subst e;simp at h
   have:=ZK h1 (hz.resolve_left a3) a3 h;omega
  ·exact h
  ·exfalso;have a3:lim (val l)≠[]:=by intro e;rw[e]at h;simp at h
   have:=ZK hl (h3.resolve_left a3) a3 h;omega
 exact SL h1 hl a4 h2
theorem qx {n k:Nat} (h:n<1000000000^k):(lim n).length≤k:=by
 rcases hX k (lim n).length with hk|hk
 ·exfalso;have a3:lim n≠[]:=by intro e;rw[e]at hk;simp at hk
  have:=ZK (zl k n) ((kc n).resolve_left a3) a3 (by rw[xB];exact hk);rw[kB,qj,hK h]at this;omega
 ·exact hk
theorem jV {n k:Nat} (h:1000000000^k≤n):k<(lim n).length:=by
 rcases hX k (lim n).length with hk|hk
 ·exact hk
 ·have:=qX (qh n);rw[qj]at this;have:1000000000^(lim n).length≤1000000000^k:=hC (by omega) hk;omega
theorem Yz:lim 0=[]:=rfl
theorem Q3 {n:Nat}:lim n=[]↔n=0:=by
 constructor
 ·intro h;have:=qj n;rw[h]at this;exact this.symm
 ·rintro rfl;rfl
theorem qK {n:Nat}:0<(lim n).length↔0<n:=by
 rw[List.length_pos_iff,ne_eq,Q3];omega
theorem qi (l:List Nat):(raw l).length=l.length:=by simp[raw]
theorem xc (a b:List Nat):raw (a++b)=raw a++raw b:=by simp[raw]
theorem ke (l:List Nat) (k:Nat):(raw l).take k=raw (l.take k):=by simp[raw,List.map_take]
theorem Xl (l:List Nat) (k:Nat):(raw l).drop k=raw (l.drop k):=by simp[raw,List.map_drop]
theorem TP {l:List Nat} {i:Nat} (h:i<l.length):nth [] (raw l) i=[.int .u32 ((l[i]:Nat))]:=by
 rw[qI];simp[raw,h]
theorem qC {l:List Nat} {i:Nat} (h:i<l.length):(nth [] (raw l) i).length=1:=by rw[TP h];rfl
theorem qF {l:List Nat} {i:Nat} (h:i<l.length):cut (nth [] (raw l) i) 0 1 [.int .u32 ((l[i]:Nat))]:=by
 rw[TP h];exact⟨rfl,by simp⟩
theorem je (l:List Nat):lens 1 (raw l):=by
 intro e he;simp only[raw,List.mem_map]at he;obtain⟨x,_,rfl⟩:=he;rfl
theorem bD (l:List Nat) (i x:Nat):upd (raw l) i [.int .u32 (x:Int)]=raw (l.set i x):=by
 rw[xr];simp[raw]
theorem Nm:∀(l:List Nat),yn (raw l)=true
 |[]=>rfl
 |x::l=>by have:=Nm l;simp only[raw,ez,yn]at this ⊢;rw[this];rfl
theorem xy (n:Nat):c2 n [Lm .u32 (0:Int)]=raw (c2 n 0):=by simp[raw]
theorem v8 (n:Nat):val (c2 n 0)=0:=by
 induction n with
 |zero=>rfl
 |succ n ih=>simp[gb,val,ih]
theorem TQ {a b:List Nat} (h:raw a=raw b):a=b:=by
 induction a generalizing b with
 |nil=>cases b with
  |nil=>rfl
  |cons y b=>simp[raw]at h
 |cons x a ih=>cases b with
  |nil=>simp[raw]at h
  |cons y b=>simp only[raw,ez,g4,Lv,true_and,and_true]at h;rw[ih h.2,Int.ofNat.inj h.1]
theorem brd {c:Prop} [Decidable c] {X Y:Prop} (h1:c→X) (h2:¬c→Y):br (toB (Lr (decide c))) X Y:=by
 by_cases h:c
 ·have:decide c=true:=decide_eq_true h;rw[this];exact h1 h
 ·have:decide c=false:=decide_eq_false h;rw[this];exact h2 h
theorem brb {b:Bool} {X Y:Prop} (h1:b=true→X) (h2:b=false→Y):br (toB (Lr b)) X Y:=by
 cases b
 ·exact h2 rfl
 ·exact h1 rfl
theorem zH {b:Bool} {X Y:Prop} (h1:b=true→X) (h2:b=false→Y):br b X Y:=by
 cases b
 ·exact h2 rfl
 ·exact h1 rfl
theorem zr {n:Int} (_: -9223372036854775808≤n:=by omega) (_:n<9223372036854775808:=by omega):Pl .i64 n=n:=by
 simp[Pl,U0,T1];omega
theorem xS {n:Int} (_:0≤n:=by omega) (_:n<18446744073709551616:=by omega):Pl .u64 n=n:=by
 simp[Pl,U0,T1];omega
theorem kf {n:Int} (_:0≤n:=by omega) (_:n<4294967296:=by omega):Pl .u32 n=n:=by
 simp[Pl,U0,T1];omega
end Eng
end
section
namespace Eng
open Go Go.Proofs
set_option maxRecDepth 100000
theorem yS {l:List Nat} (hl:Limbs l) (hr:l.length≤1073741824):qc C0 324 [.c (.sl (raw l))] [.c (.sl (raw (lim (val l))))]:=by
 refine qu (anns:=fun _=>⟨[.slot 0 (.slice none 0 0)],[],fun _ ds=>∃k,k≤l.length∧ds=[.sl (raw (l.take k))]∧val (l.take k)=val l,fun ds=>(toL (nth .undef ds 0)).length⟩) mixedT Tryz.func324 ?_;rw[bz];simp only[bc];refine⟨⟨l.length,hM _,by rw[cH],by rw[cH]⟩,?_⟩;rintro es ⟨k,hk,he,hv⟩;simp only[g4,No,and_true]at he;subst he;have a3:(raw (l.take k)).length=k:=by rw[qi,cL];omega
 have a4:(k=0∨∃h:k-1<l.length,l[k-1]≠0)→[J9 (Ls (raw (l.take k)))]=[J9 (Ls (raw (lim (val l))))]:=by
  intro h;rw[←hv,yR (hl.take k)];rcases h with rfl|⟨h,hne⟩
  ·exact .inl (by simp)
  ·refine .inr ?_;rw[gm];split
   ·simp
   ·rw[fx h]
    simpa using hne
 refine brd (fun h=>?_) (fun h=>?_)
 ·rw[a3]at h ⊢;have hk0:0<k:=by omega
  have hw:Pl .i64 ((k:Int)-1)=((k-1:Nat):Int):=by rw[zr];omega
  rw[hw];have a5:k-1<(l.take k).length:=by rw[cL];omega
  have hg:(l.take k)[k-1]=l[k-1]:=List.getElem_take ..;refine⟨⟨by omega,by omega,qC a5⟩,_,qF a5,brb (fun hz=>?_) (fun hz=>?_)⟩
  ·have hz:l[k-1]=0:=by rw[hg]at hz;simpa using hz
   refine⟨⟨by omega,by omega,by omega,je _⟩,⟨k-1,by omega,?_,?_⟩,?_⟩
   ·simp only[bd,ke,eH,List.take_take];congr 4;omega
   ·have:l.take k=l.take (k-1)++[l[k-1]]:=by have:=dn (l:=l) (i:=k-1) (by omega);rw[show k-1+1=k by omega]at this;exact this
    rw[←hv,this,hz,qU];simp[val]
   ·simp only[bd,nth,toL,eH,cL,a3];omega
  ·exact a4 (.inr ⟨by omega,by rw[hg]at hz;simpa using hz⟩)
 ·rw[a3]at h;exact a4 (.inl (by omega))
def XP (a b:Nat):Int:=if a<b then-1 else if b<a then 1 else 0
theorem v9 {a b:List Nat} (ha:Limbs a) (hl:a.length=b.length) {k:Nat} (hk:k<a.length) (hd:a.drop (k+1)=b.drop (k+1)) (h:a[k]<b[k]):val a<val b:=by
 have e1:a=a.take k++a[k]::a.drop (k+1):=by rw[←c3 hk,e8]
 have e2:b=b.take k++b[k]::b.drop (k+1):=by rw[←c3 (by omega),e8]
 rw[e1,e2,qU,qU,hd];have l1:(a.take k).length=k:=by rw[cL];omega
 have l2:(b.take k).length=k:=by rw[cL];omega
 rw[l1,l2];have h1:=qX (ha.take k);rw[l1]at h1;simp only[val];have:1000000000^k*(a[k]+1+1000000000*val (b.drop (k+1)))≤1000000000^k*(b[k]+1000000000*val (b.drop (k+1))):=hP _ (by omega);have e3:1000000000^k*(a[k]+1+1000000000*val (b.drop (k+1)))=1000000000^k*(a[k]+1000000000*val (b.drop (k+1)))+1000000000^k:=by rw[show a[k]+1+1000000000*val (b.drop (k+1))=(a[k]+1000000000*val (b.drop (k+1)))+1 by omega,g5,Nat.mul_one]
 omega
theorem kD {a b:List Nat} (ha:Limbs a) (hb:Limbs b) (hra:a.length≤1073741824) (hrb:b.length≤1073741824):qc C0 273 [.c (.sl (raw a)),.c (.sl (raw b))] [.c (.int .i64 (XP (val a) (val b)))]:=by
 generalize hA:lim (val a)=A;generalize hB:lim (val b)=B;have lA:Limbs A:=hA▸qh _;have lB:Limbs B:=hB▸qh _;have vA:val A=val a:=hA▸qj _;have vB:val B=val b:=hB▸qj _;have zA:A=[]∨A.getLast?≠some 0:=hA▸kc _;have zB:B=[]∨B.getLast?≠some 0:=hB▸kc _;have nA:A.length≤a.length:=hA▸qx (qX ha);have nB:B.length≤b.length:=hB▸qx (qX hb);refine qu (anns:=fun _=>⟨[.slot 5 (.int .i64 0)],[],fun _ ds=>∃k:Nat,k≤A.length∧ds=[.int .i64 ((k:Int)-1)]∧A.drop k=B.drop k,fun ds=>(toI (nth .undef ds 0)+1).toNat⟩) mixedT Tryz.func273 ?_;rw[Ps];simp only[bc];refine⟨_,yS ha hra,_,yS hb hrb,?_⟩;rw[hA,hB,qi,qi];refine brb (fun h=>?_) (fun h=>?_)
 ·have h:A.length≠B.length:=by intro e;rw[e]at h;simp at h
  refine brd (fun h1=>?_) (fun h1=>?_)
  ·have a5:B≠[]:=(by intro e;have h0:B.length=0:=(by rw[e];rfl);omega);have:=ZK lA (zB.resolve_left a5) a5 (by omega);rw[XP,if_pos (by omega)]
  ·have a5:A≠[]:=(by intro e;have h0:A.length=0:=(by rw[e];rfl);omega);have:=ZK lB (zA.resolve_left a5) a5 (by omega);rw[XP,if_neg (by omega),if_pos (by omega)]
 ·have h:A.length=B.length:=by
   have:(A.length:Int)=B.length:=by simpa using h
   omega
  refine⟨⟨A.length,hM _,by rw[zr],by rw[gz,h,gz]⟩,?_⟩;rintro n ⟨k,hk,he,hd⟩;simp only[g4,Lv,true_and,and_true]at he;subst he;refine brd (fun h1=>?_) (fun h1=>?_)
  ·have a3:k-1<A.length:=by omega
   have a4:k-1<B.length:=by omega
   have ht:((k:Int)-1).toNat=k-1:=by omega
   have a6:A.drop (k-1+1)=B.drop (k-1+1):=by rw[show k-1+1=k by omega];exact hd
   rw[ht];refine⟨⟨by omega,by omega,qC a3⟩,_,qF a3,⟨by omega,by omega,qC a4⟩,_,qF a4,brd (fun h2=>?_) (fun h2=>?_)⟩
   ·have:=v9 lA h a3 a6 (by omega);rw[XP,if_pos (by omega)]
   ·refine⟨⟨by omega,by omega,qC a3⟩,_,qF a3,⟨by omega,by omega,qC a4⟩,_,qF a4,brd (fun h3=>?_) (fun h3=>?_)⟩
    ·have:=v9 lB h.symm a4 a6.symm (by omega);rw[XP,if_neg (by omega),if_pos (by omega)]
    ·have hw:Pl .i64 ((k:Int)-1-1)=((k-1:Nat):Int)-1:=by rw[zr];omega
     rw[hw];refine⟨⟨k-1,by omega,rfl,?_⟩,?_⟩
     ·rw[c3 a3,c3 a4,a6];congr 1;omega
     ·simp only[nth,toI];omega
  ·have a3:k=0:=by omega
   subst a3;have:A=B:=by simpa using hd
   rw[XP,←vA,←vB,this,if_neg (by omega),if_neg (by omega)]
theorem Vn {l:List Nat} (b:Bool) (hl:Limbs l) (hr:l.length≤1073741824):qc C0 226 [.c (.bool b),.c (.sl (raw l))] [.ag [.bool (b&&decide (0<val l)),.sl (raw (lim (val l)))]]:=by
 refine qu (anns:=fun _=>⟨[.slot 5 (.int .i64 0)],[],fun _ ds=>∃k:Nat,k≤l.length∧ds=[.int .i64 (k:Int)]∧val (l.take k)=val l,fun ds=>(toI (nth .undef ds 0)).toNat⟩) mixedT Tryz.func226 ?_;rw[SI];simp only[bc];refine⟨⟨l.length,hM _,by rw[qi],by rw[cH]⟩,?_⟩;rintro n ⟨k,hk,he,hv⟩;simp only[g4,Lv,true_and,and_true]at he;subst he;have a4:(k=0∨∃h:k-1<l.length,l[k-1]≠0)→er 0 (el (k:Int).toNat (raw l))=raw (lim (val l))∧(0<val l↔0<k):=by
  intro h;have h0:lim (val l)=l.take k:=by
   rw[←hv,yR (hl.take k)];rcases h with rfl|⟨h,hne⟩
   ·exact .inl (by simp)
   ·refine .inr ?_;rw[gm];split
    ·simp
    ·rw[fx h]
     simpa using hne
  refine⟨by rw[h0,bd,ke,eH],?_⟩;rw[←qK,h0,cL];omega
 have a3:(k=0∨∃h:k-1<l.length,l[k-1]≠0)→
  br b
   (((0:Int)≤0∧(0:Int)≤k∧(k:Int)≤k∧(k:Int)≤(raw l).length∧lens 1 (raw l))∧
     [J8 [Lr (decide ((k:Int)>0)),Ls (er 0 (el (k:Int).toNat (raw l)))]]=[.ag [.bool (b&&decide (0<val l)),.sl (raw (lim (val l)))]])
   (((0:Int)≤0∧(0:Int)≤k∧(k:Int)≤k∧(k:Int)≤(raw l).length∧lens 1 (raw l))∧
     [J8 [Lr false,Ls (er 0 (el (k:Int).toNat (raw l)))]]=[.ag [.bool (b&&decide (0<val l)),.sl (raw (lim (val l)))]]):=by
  intro h;obtain⟨h1,h2⟩:=a4 h;rw[h1,qi];refine zH (fun hb=>?_) (fun hb=>?_)
  ·subst hb;refine⟨⟨by omega,by omega,by omega,by omega,je _⟩,?_⟩;have:decide ((k:Int)>0)=decide (0<val l):=by rw[decide_eq_decide];omega
   rw[this,J4]
  ·subst hb;exact⟨⟨by omega,by omega,by omega,by omega,je _⟩,by rw[F2]⟩
 refine brd (fun h=>?_) (fun h=>?_)
 ·have hw:Pl .i64 ((k:Int)-1)=((k-1:Nat):Int):=by rw[zr];omega
  rw[hw,bd];have a5:k-1<l.length:=by omega
  refine⟨⟨by omega,by rw[qi];omega,qC a5⟩,_,qF a5,brb (fun hz=>?_) (fun hz=>?_)⟩
  ·have hz:l[k-1]=0:=by simpa using hz
   refine⟨⟨k-1,by omega,rfl,?_⟩,?_⟩
   ·have:l.take k=l.take (k-1)++[l[k-1]]:=by have:=dn (l:=l) (i:=k-1) (by omega);rw[show k-1+1=k by omega]at this;exact this
    rw[←hv,this,hz,qU];simp[val]
   ·simp only[nth,toI];omega
  ·exact a3 (.inr ⟨a5,by simpa using hz⟩)
 ·exact a3 (.inl (by omega))
end Eng
end
section
namespace Eng
open Go Go.Proofs
set_option maxRecDepth 100000
theorem qQ (l:List Nat) (k:Nat):val (l.take (k+1))=val (l.take k)+1000000000^k*l.getD k 0:=by
 by_cases h:k<l.length
 ·rw[dn h,qU,cL,ik (by omega)];simp[val,dl,h]
 ·rw[dc (by omega),dc (by omega)];simp[dl,h]
theorem Ky {l:List Nat} {k:Nat} (h:l.length≤k):l.getD k 0=0:=by simp[dl,List.getElem?_eq_none h]
theorem Xm (o:List Nat) (d:Nat):val (o++[d])=val o+1000000000^o.length*d:=by rw[qU];simp[val]
theorem Y0 {k d c t:Nat} (h:d+1000000000*c=t):1000000000^k*d+1000000000^(k+1)*c=1000000000^k*t:=by
 rw[←h,g5,hQ,g7]
theorem jf {x y o:List Nat} {k c d c':Nat} (hk:k<x.length) (ho:o.length=k) (hv:val o+1000000000^k*c=val (x.take k)+val (y.take k)) (ht:d+1000000000*c'=x[k]+c+y.getD k 0):
 val (o++[d])+1000000000^(k+1)*c'=val (x.take (k+1))+val (y.take (k+1)):=by
 rw[Xm,ho,qQ,qQ];have h1:=Y0 (k:=k) ht;have h2:x.getD k 0=x[k]:=by simp[dl,hk]
 rw[h2];have h3:1000000000^k*(x[k]+c+y.getD k 0)=1000000000^k*x[k]+1000000000^k*c+1000000000^k*y.getD k 0:=by rw[g5,g5]
 omega
theorem EO {a b:List Nat} (ha:Limbs a) (hb:Limbs b) (hra:a.length≤1073741823) (hrb:b.length≤1073741823):qc C0 327 [.c (.sl (raw a)),.c (.sl (raw b))] [.c (.sl (raw (pad (max a.length b.length+1) (val a+val b))))]:=by
 by_cases hab:a.length<b.length
 ·refine qu (anns:=fun _=>⟨[.own 5 53 1,.slot 6 (.int .u32 0),.slot 22 (.int .i64 0)],[],fun _ ds=>∃(k:Nat) (o:List Nat) (c:Nat),k≤b.length∧o.length=k∧ds=[.sl (raw o),.int .u32 (c:Int),.int .i64 (k:Int)]∧Limbs o∧c≤1∧val o+1000000000^k*c=val (b.take k)+val (a.take k),fun ds=>b.length-(toI (nth .undef ds 2)).toNat⟩) mixedT Tryz.func327 ?_;rw[SJ];simp only[bc,qi];refine brd (fun h0=>?_) (fun h0=>?_)
  ·skip
   refine⟨⟨by omega,by rw[zr];omega,by rw[zr];unfold room;omega⟩,⟨0,[],0,by omega,rfl,rfl,Limbs.nil,by omega,by simp[val]⟩,?_⟩;rintro es n m ⟨k,o,c,hk,ho,he,lo,hc,hv⟩;simp only[g4,Lv,No,true_and,and_true]at he;obtain⟨rfl,rfl,rfl⟩:=he;refine brd (fun h1=>?_) (fun h1=>?_)
   ·have a3:k<b.length:=by omega
    have hxk:=hb.get a3;have a7:Pl .i64 ((k:Int)+1)=((k+1:Nat):Int):=by rw[zr];omega
    rw[bd,a7,qi,ho];refine⟨⟨by omega,by omega,qC a3⟩,_,qF a3,brd (fun h2=>?_) (fun h2=>?_)⟩
    ·have a5:k<a.length:=by omega
     have hyk:=ha.get a5;have a4:a.getD k 0=a[k]:=by simp[dl,a5]
     refine⟨⟨by omega,by omega,qC a5⟩,_,qF a5,?_⟩;have hw:Pl .u32 (Pl .u32 ((b[k]:Int)+(c:Int))+(a[k]:Int))=((b[k]+c+a[k]:Nat):Int):=by rw[kf (n:=(b[k]:Int)+(c:Int)),kf];omega
     rw[hw];refine brd (fun h3=>?_) (fun h3=>?_)
     ·have a6:Pl .u32 (((b[k]+c+a[k]:Nat):Int)-1000000000)=((b[k]+c+a[k]-1000000000:Nat):Int):=by rw[kf];omega
      rw[a6];refine⟨⟨by unfold room;omega,fun e he=>by simp at he;subst he;rfl⟩,⟨k+1,o++[b[k]+c+a[k]-1000000000],1,by omega,by simp[ho],by rw[xc];rfl,lo.append (Limbs.cons (by omega) Limbs.nil),by omega,jf a3 ho hv (by have:=a4;omega)⟩,?_⟩;simp only[nth,toI];omega
     ·refine⟨⟨by unfold room;omega,fun e he=>by simp at he;subst he;rfl⟩,⟨k+1,o++[b[k]+c+a[k]],0,by omega,by simp[ho],by rw[xc];rfl,lo.append (Limbs.cons (by omega) Limbs.nil),by omega,jf a3 ho hv (by have:=a4;omega)⟩,?_⟩;simp only[nth,toI];omega
    ·have a4:a.getD k 0=0:=Ky (by omega);have hw:Pl .u32 ((b[k]:Int)+(c:Int))=((b[k]+c:Nat):Int):=by rw[kf];omega
     rw[hw];refine brd (fun h3=>?_) (fun h3=>?_)
     ·have a6:Pl .u32 (((b[k]+c:Nat):Int)-1000000000)=((b[k]+c-1000000000:Nat):Int):=by rw[kf];omega
      rw[a6];refine⟨⟨by unfold room;omega,fun e he=>by simp at he;subst he;rfl⟩,⟨k+1,o++[b[k]+c-1000000000],1,by omega,by simp[ho],by rw[xc];rfl,lo.append (Limbs.cons (by omega) Limbs.nil),by omega,jf a3 ho hv (by have:=a4;omega)⟩,?_⟩;simp only[nth,toI];omega
     ·refine⟨⟨by unfold room;omega,fun e he=>by simp at he;subst he;rfl⟩,⟨k+1,o++[b[k]+c],0,by omega,by simp[ho],by rw[xc];rfl,lo.append (Limbs.cons (by omega) Limbs.nil),by omega,jf a3 ho hv (by have:=a4;omega)⟩,?_⟩;simp only[nth,toI];omega
   ·have a3:k=b.length:=by omega
    subst a3;rw[qi,ho];refine⟨⟨by unfold room;omega,fun e he=>by simp at he;subst he;rfl⟩,?_⟩;rw[cH,dc (by omega)]at hv;have e1:raw o++[[Lm .u32 (c:Int)]]=raw (o++[c]):=by rw[xc];rfl
    have l1:Limbs (o++[c]):=lo.append (Limbs.cons (by omega) Limbs.nil);have v1:val (o++[c])=val a+val b:=by rw[Xm,ho];omega
    have e2:o++[c]=pad (max a.length b.length+1) (val a+val b):=by
     rw[←v1,←v7 l1];congr 1
     ·simp[ho];omega
     ·rw[v7 l1]
    rw[e1,e2]
  ·omega
 ·refine qu (anns:=fun _=>⟨[.own 5 53 1,.slot 6 (.int .u32 0),.slot 22 (.int .i64 0)],[],fun _ ds=>∃(k:Nat) (o:List Nat) (c:Nat),k≤a.length∧o.length=k∧ds=[.sl (raw o),.int .u32 (c:Int),.int .i64 (k:Int)]∧Limbs o∧c≤1∧val o+1000000000^k*c=val (a.take k)+val (b.take k),fun ds=>a.length-(toI (nth .undef ds 2)).toNat⟩) mixedT Tryz.func327 ?_;rw[SJ];simp only[bc,qi];refine brd (fun h0=>?_) (fun h0=>?_)
  ·omega
  ·skip
   refine⟨⟨by omega,by rw[zr];omega,by rw[zr];unfold room;omega⟩,⟨0,[],0,by omega,rfl,rfl,Limbs.nil,by omega,by simp[val]⟩,?_⟩;rintro es n m ⟨k,o,c,hk,ho,he,lo,hc,hv⟩;simp only[g4,Lv,No,true_and,and_true]at he;obtain⟨rfl,rfl,rfl⟩:=he;refine brd (fun h1=>?_) (fun h1=>?_)
   ·have a3:k<a.length:=by omega
    have hxk:=ha.get a3;have a7:Pl .i64 ((k:Int)+1)=((k+1:Nat):Int):=by rw[zr];omega
    rw[bd,a7,qi,ho];refine⟨⟨by omega,by omega,qC a3⟩,_,qF a3,brd (fun h2=>?_) (fun h2=>?_)⟩
    ·have a5:k<b.length:=by omega
     have hyk:=hb.get a5;have a4:b.getD k 0=b[k]:=by simp[dl,a5]
     refine⟨⟨by omega,by omega,qC a5⟩,_,qF a5,?_⟩;have hw:Pl .u32 (Pl .u32 ((a[k]:Int)+(c:Int))+(b[k]:Int))=((a[k]+c+b[k]:Nat):Int):=by rw[kf (n:=(a[k]:Int)+(c:Int)),kf];omega
     rw[hw];refine brd (fun h3=>?_) (fun h3=>?_)
     ·have a6:Pl .u32 (((a[k]+c+b[k]:Nat):Int)-1000000000)=((a[k]+c+b[k]-1000000000:Nat):Int):=by rw[kf];omega
      rw[a6];refine⟨⟨by unfold room;omega,fun e he=>by simp at he;subst he;rfl⟩,⟨k+1,o++[a[k]+c+b[k]-1000000000],1,by omega,by simp[ho],by rw[xc];rfl,lo.append (Limbs.cons (by omega) Limbs.nil),by omega,jf a3 ho hv (by have:=a4;omega)⟩,?_⟩;simp only[nth,toI];omega
     ·refine⟨⟨by unfold room;omega,fun e he=>by simp at he;subst he;rfl⟩,⟨k+1,o++[a[k]+c+b[k]],0,by omega,by simp[ho],by rw[xc];rfl,lo.append (Limbs.cons (by omega) Limbs.nil),by omega,jf a3 ho hv (by have:=a4;omega)⟩,?_⟩;simp only[nth,toI];omega
    ·have a4:b.getD k 0=0:=Ky (by omega);have hw:Pl .u32 ((a[k]:Int)+(c:Int))=((a[k]+c:Nat):Int):=by rw[kf];omega
     rw[hw];refine brd (fun h3=>?_) (fun h3=>?_)
     ·have a6:Pl .u32 (((a[k]+c:Nat):Int)-1000000000)=((a[k]+c-1000000000:Nat):Int):=by rw[kf];omega
      rw[a6];refine⟨⟨by unfold room;omega,fun e he=>by simp at he;subst he;rfl⟩,⟨k+1,o++[a[k]+c-1000000000],1,by omega,by simp[ho],by rw[xc];rfl,lo.append (Limbs.cons (by omega) Limbs.nil),by omega,jf a3 ho hv (by have:=a4;omega)⟩,?_⟩;simp only[nth,toI];omega
     ·refine⟨⟨by unfold room;omega,fun e he=>by simp at he;subst he;rfl⟩,⟨k+1,o++[a[k]+c],0,by omega,by simp[ho],by rw[xc];rfl,lo.append (Limbs.cons (by omega) Limbs.nil),by omega,jf a3 ho hv (by have:=a4;omega)⟩,?_⟩;simp only[nth,toI];omega
   ·have a3:k=a.length:=by omega
    subst a3;rw[qi,ho];refine⟨⟨by unfold room;omega,fun e he=>by simp at he;subst he;rfl⟩,?_⟩;rw[cH,dc (by omega)]at hv;have e1:raw o++[[Lm .u32 (c:Int)]]=raw (o++[c]):=by rw[xc];rfl
    have l1:Limbs (o++[c]):=lo.append (Limbs.cons (by omega) Limbs.nil);have v1:val (o++[c])=val a+val b:=by rw[Xm,ho];omega
    have e2:o++[c]=pad (max a.length b.length+1) (val a+val b):=by
     rw[←v1,←v7 l1];congr 1
     ·simp[ho];omega
     ·rw[v7 l1]
    rw[e1,e2]
theorem zf {l:List Nat} {i x:Nat} (h:i<l.length):upd (raw l) i (upd (nth [] (raw l) i) 0 (.int .u32 (x:Int)))=raw (l.set i x):=by
 rw[TP h];exact bD l i x
theorem vC {o:List Nat} {k m d:Nat} (ho:o.length=k) (hm:0<m):(o++c2 m 0).set k d=(o++[d])++c2 (m-1) 0:=by
 obtain⟨m,rfl⟩:∃m',m=m'+1:=⟨m-1,by omega⟩;rw[gb,fR _ _ (by omega),ho];simp
theorem ja {x y o:List Nat} {k c d c':Nat} (hk:k<x.length) (ho:o.length=k) (hv:val o+val (y.take k)=val (x.take k)+1000000000^k*c) (ht:d+c+y.getD k 0=x[k]+1000000000*c'):
 val (o++[d])+val (y.take (k+1))=val (x.take (k+1))+1000000000^(k+1)*c':=by
 rw[Xm,ho,qQ,qQ];have h2:x.getD k 0=x[k]:=by simp[dl,hk]
 rw[h2];have h3:1000000000^k*(d+c+y.getD k 0)=1000000000^k*d+1000000000^k*c+1000000000^k*y.getD k 0:=by rw[g5,g5]
 have h4:1000000000^k*(x[k]+1000000000*c')=1000000000^k*x[k]+1000000000^(k+1)*c':=by rw[g5,hQ,g7]
 rw[ht]at h3;omega
theorem HB {a b:List Nat} (ha:Limbs a) (hb:Limbs b) (hra:a.length≤1073741824) (hab:val b≤val a):qc C0 328 [.c (.sl (raw a)),.c (.sl (raw b))] [.c (.sl (raw (pad a.length (val a-val b))))]:=by
 refine qu (anns:=fun _=>⟨[.own 5 45 1,.slot 6 (.int .u32 0),.slot 15 (.int .i64 0)],[],fun _ ds=>∃(k:Nat) (o:List Nat) (c:Nat),k≤a.length∧o.length=k∧ds=[.sl (raw (o++c2 (a.length-k) 0)),.int .u32 (c:Int),.int .i64 (k:Int)]∧Limbs o∧c≤1∧val o+val (b.take k)=val (a.take k)+1000000000^k*c,fun ds=>a.length-(toI (nth .undef ds 2)).toNat⟩) mixedT Tryz.func328 ?_;rw[EN];simp only[bc,qi];refine⟨⟨by omega,by omega,by unfold room;omega⟩,⟨0,[],0,by omega,rfl,by rw[bd,xy];rfl,Limbs.nil,by omega,by simp[val]⟩,?_⟩;rintro es n m ⟨k,o,c,hk,ho,he,lo,hc,hv⟩;simp only[g4,Lv,No,true_and,and_true]at he;obtain⟨rfl,rfl,rfl⟩:=he;have hol:(o++c2 (a.length-k) 0).length=a.length:=by simp[ho];omega
 refine brd (fun h1=>?_) (fun h1=>?_)
 ·have a3:k<a.length:=by omega
  have hxk:=ha.get a3;have hk1:Pl .i64 ((k:Int)+1)=((k+1:Nat):Int):=by rw[zr];omega
  rw[bd,hk1,qi,hol];refine⟨⟨by omega,by omega,qC a3⟩,_,qF a3,brd (fun h2=>?_) (fun h2=>?_)⟩
  ·have a6:k<b.length:=by omega
   have hyk:=hb.get a6;have a5:b.getD k 0=b[k]:=by simp[dl,a6]
   refine⟨⟨by omega,by omega,qC a6⟩,_,qF a6,?_⟩;have hw:Pl .u32 ((c:Int)+(b[k]:Int))=((c+b[k]:Nat):Int):=by rw[kf];omega
   rw[hw];refine brd (fun h3=>?_) (fun h3=>?_)
   ·have a4:Pl .u32 (Pl .u32 ((a[k]:Int)+1000000000)-((c+b[k]:Nat):Int))=((a[k]+1000000000-(c+b[k]):Nat):Int):=by rw[kf (n:=(a[k]:Int)+1000000000),kf];omega
    rw[a4,zf (by simp[ho];omega),vC ho (by omega)];refine⟨⟨by omega,by omega⟩,by omega,⟨k+1,o++[a[k]+1000000000-(c+b[k])],1,by omega,by simp[ho],by rw[show a.length-k-1=a.length-(k+1)by omega];rfl,lo.append (Limbs.cons (by omega) Limbs.nil),by omega,ja a3 ho hv (by have:=a5;omega)⟩,?_⟩;simp only[nth,toI];omega
   ·have a4:Pl .u32 ((a[k]:Int)-((c+b[k]:Nat):Int))=((a[k]-(c+b[k]):Nat):Int):=by rw[kf];omega
    rw[a4,zf (by simp[ho];omega),vC ho (by omega)];refine⟨⟨by omega,by omega⟩,by omega,⟨k+1,o++[a[k]-(c+b[k])],0,by omega,by simp[ho],by rw[show a.length-k-1=a.length-(k+1)by omega];rfl,lo.append (Limbs.cons (by omega) Limbs.nil),by omega,ja a3 ho hv (by have:=a5;omega)⟩,?_⟩;simp only[nth,toI];omega
  ·have a5:b.getD k 0=0:=Ky (by omega);refine brd (fun h3=>?_) (fun h3=>?_)
   ·have a4:Pl .u32 (Pl .u32 ((a[k]:Int)+1000000000)-(c:Int))=((a[k]+1000000000-(c):Nat):Int):=by rw[kf (n:=(a[k]:Int)+1000000000),kf];omega
    rw[a4,zf (by simp[ho];omega),vC ho (by omega)];refine⟨⟨by omega,by omega⟩,by omega,⟨k+1,o++[a[k]+1000000000-(c)],1,by omega,by simp[ho],by rw[show a.length-k-1=a.length-(k+1)by omega];rfl,lo.append (Limbs.cons (by omega) Limbs.nil),by omega,ja a3 ho hv (by have:=a5;omega)⟩,?_⟩;simp only[nth,toI];omega
   ·have a4:Pl .u32 ((a[k]:Int)-(c:Int))=((a[k]-(c):Nat):Int):=by rw[kf];omega
    rw[a4,zf (by simp[ho];omega),vC ho (by omega)];refine⟨⟨by omega,by omega⟩,by omega,⟨k+1,o++[a[k]-(c)],0,by omega,by simp[ho],by rw[show a.length-k-1=a.length-(k+1)by omega];rfl,lo.append (Limbs.cons (by omega) Limbs.nil),by omega,ja a3 ho hv (by have:=a5;omega)⟩,?_⟩;simp only[nth,toI];omega
 ·have a3:k=a.length:=by omega
  subst a3;rw[cH]at hv;rw[Nat.sub_self,fS,g3];have h2:=qX lo;rw[ho]at h2;have h3:val b=val (b.take a.length)+1000000000^(b.take a.length).length*val (b.drop a.length):=by rw[←qU,e8]
  have h4:=qX ha;have h5:val (b.take a.length)=val b:=by
   rcases hX b.length a.length with hl|hl
   ·rw[dc (by omega)]
   ·rw[cL,ik hl]at h3;rcases hD (val (b.drop a.length))with h6|h6
    ·rw[h6]at h3;omega
    ·have:=hP (1000000000^a.length) h6;omega
  have h6:c=0:=by
   rcases hD c with h6|h6
   ·exact h6
   ·have:=hP (1000000000^a.length) h6;omega
  subst h6;have h7:o=pad a.length (val a-val b):=by rw[show val a-val b=val o by omega];have:=v7 lo;rw[ho]at this;exact this.symm
  rw[h7]
end Eng
end
section
open Go Go.Proofs Eng
namespace Eng
theorem EP (Gv:Nat→List A→List A→Prop) (I0:List D→List D→Prop) (M0:List D→Nat) (I1:List D→List D→Prop) (M1:List D→Nat) (es fs:List (List D)) (Q:Nat→List (List D)→Prop):tA C0 Gv (G7 ⟨[.own 5 68 1,.slot 20 (.int .i64 0)],[],I0,M0⟩ ⟨[.own 5 68 1,.slot 8 (.int .u64 0),.slot 27 (.int .i64 0)],[.slot 6 (.int .i64 0),.slot 7 (.int .u32 0),.own 5 68 1],I1,M1⟩) Tryz.f274 [.c (.sl es),.c (.sl fs)] Q=((0≤Pl .i64 ((W2 es.length)+(W2 fs.length))∧Pl .i64 ((W2 es.length)+(W2 fs.length))≤Pl .i64 ((W2 es.length)+(W2 fs.length))∧room (ba (Pl .i64 ((W2 es.length)+(W2 fs.length)))))∧I0 [] [Ls (c2 (ba (Pl .i64 ((W2 es.length)+(W2 fs.length)))) [Lm .u32 0]),dI (0:Int)]∧∀(e1:List (List D)) (n:Int),I0 [] [Ls e1,dI n]→bB (decide (n<(W2 es.length))) ((0≤n∧n<(W2 es.length)∧c1 (nth [] es (ba n))=1)∧∃n1,cut (nth [] es (ba n)) 0 1 [Lm .u32 n1]∧I1 [dI n,Lm .u32 n1,Ls e1] [Ls e1,Lm .u64 0,dI (0:Int)]∧∀(es:List (List D)) (n2 n3:Int),I1 [dI n,Lm .u32 n1,Ls e1] [Ls es,Lm .u64 n2,dI n3]→bB (decide (n3<(W2 fs.length))) ((0≤n3∧n3<(W2 fs.length)∧c1 (nth [] fs (ba n3))=1)∧∃n4,cut (nth [] fs (ba n3)) 0 1 [Lm .u32 n4]∧(0≤Pl .i64 (n+n3)∧Pl .i64 (n+n3)<(W2 es.length))∧∃n5,cut (nth [] es (ba (Pl .i64 (n+n3)))) 0 1 [Lm .u32 n5]∧(1000000000:Int)≠(0:Int)∧(1000000000:Int)≠(0:Int)∧(0≤Pl .i64 (n+n3)∧Pl .i64 (n+n3)<(W2 es.length))∧0<1∧I1 [dI n,Lm .u32 n1,Ls e1] [Ls (upd es (ba (Pl .i64 (n+n3))) (upd (nth [] es (ba (Pl .i64 (n+n3)))) 0 (Lm .u32 (Pl .u32 (bm (Pl .u64 (Pl .u64 (Pl .u64 n5+Pl .u64 (Pl .u64 n1*Pl .u64 n4))+n2)) (1000000000:Int)))))),Lm .u64 (Pl .u64 (bw (Pl .u64 (Pl .u64 (Pl .u64 n5+Pl .u64 (Pl .u64 n1*Pl .u64 n4))+n2)) (1000000000:Int))),dI (Pl .i64 (n3+1))]∧M1 [Ls (upd es (ba (Pl .i64 (n+n3))) (upd (nth [] es (ba (Pl .i64 (n+n3)))) 0 (Lm .u32 (Pl .u32 (bm (Pl .u64 (Pl .u64 (Pl .u64 n5+Pl .u64 (Pl .u64 n1*Pl .u64 n4))+n2)) (1000000000:Int)))))),Lm .u64 (Pl .u64 (bw (Pl .u64 (Pl .u64 (Pl .u64 n5+Pl .u64 (Pl .u64 n1*Pl .u64 n4))+n2)) (1000000000:Int))),dI (Pl .i64 (n3+1))]<M1 [Ls es,Lm .u64 n2,dI n3]) ((0≤Pl .i64 (n+(W2 fs.length))∧Pl .i64 (n+(W2 fs.length))<(W2 es.length))∧0<1∧I0 [] [Ls (upd es (ba (Pl .i64 (n+(W2 fs.length)))) (upd (nth [] es (ba (Pl .i64 (n+(W2 fs.length))))) 0 (Lm .u32 (Pl .u32 n2)))),dI (Pl .i64 (n+1))]∧M0 [Ls (upd es (ba (Pl .i64 (n+(W2 fs.length)))) (upd (nth [] es (ba (Pl .i64 (n+(W2 fs.length))))) 0 (Lm .u32 (Pl .u32 n2)))),dI (Pl .i64 (n+1))]<M0 [Ls e1,dI n])) ((e1≠[]∧yn e1=true)∧Q 1 e1)):=by kernel_rfl
end Eng
end
section
namespace Eng
open Go Go.Proofs
set_option maxRecDepth 100000
theorem HD {C:Cx} {f s:Nat} {args:List A} {es:List (List D)} (h:wk C f args s es):qc C f args [.c (.sl es)]:=by
 intro w F vs hb hi ha;refine(h w F vs hb hi ha).mono fun e w' he=>?_
 obtain⟨a3,b,c,cs,t,rfl,h1,h2,h3,h4,h5,h6,h7,h8,h9,h10⟩:=he;refine⟨a3,_,rfl,?_⟩;have a4:Row w' (fun b=>F b∨(w.heap.size≤b∧b<w'.heap.size)) es b 0 s:=⟨h8,.inr ⟨h1,h2⟩,fun j hj=>by
  obtain⟨v,q1,q2⟩:=h10 j hj;refine⟨v,?_,q2 _ _⟩;rw[Nat.zero_add,zp h3];exact q1⟩
 exact a4.CD h5.1
theorem Kz:∀{o:List Nat} {j:Nat} (d:Nat),j<o.length→val (o.set j d)+1000000000^j*o.getD j 0=val o+1000000000^j*d
 |[],_,_,h=>absurd h (by simp)
 |x::o,0,d,_=>by simp[val];omega
 |x::o,j+1,d,h=>by have ih:=Kz (o:=o) (j:=j) d (by simpa using h);simp only[List.set_cons_succ,val,List.getD_cons_succ];rw[hQ,hT (1000000000^j) 1000000000,g7,g7];omega
theorem Xn {o:List Nat} (h:Limbs o) {j d:Nat} (hd:d<1000000000):Limbs (o.set j d):=fun y hy=>by
 rcases List.mem_or_eq_of_mem_set hy with hy|rfl
 ·exact h y hy
 ·exact hd
theorem jB {o:List Nat} {i j d:Nat} (h:i≠j):(o.set i d).getD j 0=o.getD j 0:=by simp[dl,List.getElem?_set_ne h]
theorem xz {o:List Nat} {j:Nat} (h:j<o.length):o.getD j 0=o[j]:=by simp[dl,h]
theorem Pt (t:Nat):bm (t:Int) 1000000000=((t%1000000000:Nat):Int):=by rw[bs (by omega)];omega
theorem Pu (t:Nat):bw (t:Int) 1000000000=((t/1000000000:Nat):Int):=by rw[cb (by omega)];omega
set_option maxHeartbeats 1000000 in
theorem Vo {a b:List Nat} (ha:Limbs a) (hb:Limbs b) (hra:a.length≤536870912) (hrb:b.length≤536870912) (hne:0<a.length+b.length):
 wk C0 274 [.c (.sl (raw a)),.c (.sl (raw b))] 1 (raw (pad (a.length+b.length) (val a*val b))):=by
 refine bj (anns:=G7
  ⟨[.own 5 68 1,.slot 20 (.int .i64 0)],[],fun _ ds=>∃(i:Nat) (o:List Nat),i≤a.length∧ds=[.sl (raw o),.int .i64 (i:Int)]∧o.length=a.length+b.length∧Limbs o∧(∀j,i+b.length≤j→o.getD j 0=0)∧val o=val (a.take i)*val b,fun ds=>a.length-(toI (nth .undef ds 1)).toNat⟩
  ⟨[.own 5 68 1,.slot 8 (.int .u64 0),.slot 27 (.int .i64 0)],[.slot 6 (.int .i64 0),.slot 7 (.int .u32 0),.own 5 68 1],fun g ds=>∃(i k c:Nat) (o0 o:List Nat),g=[.int .i64 (i:Int),.int .u32 ((a.getD i 0:Nat):Int),.sl (raw o0)]∧i<a.length∧k≤b.length∧c<1000000000∧ds=[.sl (raw o),.int .u64 (c:Int),.int .i64 (k:Int)]∧o.length=a.length+b.length∧Limbs o∧(∀j,i+b.length≤j→o.getD j 0=0)∧val o+1000000000^(i+k)*c=val o0+1000000000^i*(a.getD i 0*val (b.take k)),fun ds=>b.length-(toI (nth .undef ds 2)).toNat⟩) mixedT Tryz.func274 ?_
 rw[EP];simp only[bc,qi];have hab:Pl .i64 ((a.length:Int)+(b.length:Int))=((a.length+b.length:Nat):Int):=by rw[zr];omega
 rw[hab,bd,xy];refine⟨⟨by omega,by omega,by unfold room;omega⟩,⟨0,c2 (a.length+b.length) 0,by omega,rfl,by simp,fun y hy=>by rw[List.eq_of_mem_replicate hy];omega,fun j _=>by simp[dl,List.getElem?_replicate];split<;>rfl,by simp[v8,val]⟩,?_⟩;rintro es n ⟨i,o0,hi,he,an,lo,hz,hv⟩;simp only[g4,Lv,No,true_and,and_true]at he;obtain⟨rfl,rfl⟩:=he;refine brd (fun h1=>?_) (fun h1=>?_)
 ·have a3:i<a.length:=by omega
  have hai:=ha.get a3;rw[bd];refine⟨⟨by omega,by omega,qC a3⟩,_,qF a3,⟨i,0,0,o0,o0,by rw[xz a3],a3,by omega,by omega,rfl,an,lo,hz,by simp[val]⟩,?_⟩;rintro es m k' ⟨i',k,c,o0',o,hg,_,hk,hc,he,a5,al,ag,ap⟩;simp only[g4,Lv,No,true_and,and_true]at hg he;obtain⟨hi',hx',a8⟩:=hg;obtain⟨rfl,rfl,rfl⟩:=he;have a6:i'=i:=by omega
  subst a6;have a8:=TQ a8;subst a8;rw[xz a3]at ap;refine brd (fun h2=>?_) (fun h2=>?_)
  ·have a4:k<b.length:=by omega
   have hbk:=hb.get a4;have hj:i'+k<o.length:=by omega
   have hoj:=al.get hj;have hw:Pl .i64 ((i':Int)+(k:Int))=((i'+k:Nat):Int):=by rw[zr];omega
   have a7:Pl .i64 ((k:Int)+1)=((k+1:Nat):Int):=by rw[zr];omega
   rw[hw,a7,bd,bd,qi];refine⟨⟨by omega,by omega,qC a4⟩,_,qF a4,⟨by omega,by omega⟩,_,qF hj,by omega,by omega,⟨by omega,by omega⟩,by omega,?_⟩;have hp:a[i']*b[k]≤999999999*999999999:=Nat.mul_le_mul (by omega) (by omega);obtain⟨p,ad⟩:∃p,p=a[i']*b[k]:=⟨_,rfl⟩;rw[←ad]at hp;have hpi:(a[i']:Int)*(b[k]:Int)=(p:Int):=by rw[ad];exact(b9 _ _).symm
   obtain⟨t,hte⟩:∃t,t=o[i'+k]+p+c:=⟨_,rfl⟩;have ht:Pl .u64 (Pl .u64 (Pl .u64 (o[i'+k]:Int)+Pl .u64 (Pl .u64 (a[i']:Int)*Pl .u64 (b[k]:Int)))+(c:Int))=(t:Int):=by rw[xS (n:=(o[i'+k]:Int)),xS (n:=(a[i']:Int)),xS (n:=(b[k]:Int)),hpi,xS (n:=(p:Int)),xS (n:=(o[i'+k]:Int)+(p:Int)),xS];omega
   rw[ht,Pt,Pu,kf (n:=((t%1000000000:Nat):Int)),xS (n:=((t/1000000000:Nat):Int)),zf hj];refine⟨⟨i',k+1,t/1000000000,o0,o.set (i'+k) (t%1000000000),by rw[xz a3],a3,by omega,by omega,rfl,by simp[a5],Xn al (by omega),fun j hjj=>by rw[jB (by omega)];exact ag j hjj,?_⟩,?_⟩
   ·have h3:=Kz (t%1000000000) hj;rw[xz hj]at h3;rw[xz a3,qQ,xz a4];have h4:=Y0 (k:=i'+k) (show t%1000000000+1000000000*(t/1000000000)=t by omega);rw[show i'+(k+1)=i'+k+1 by omega];have h5:1000000000^(i'+k)*t=1000000000^(i'+k)*o[i'+k]+1000000000^(i'+k)*p+1000000000^(i'+k)*c:=by rw[hte,g5,g5]
    have h6:1000000000^i'*(a[i']*(val (b.take k)+1000000000^k*b[k]))=1000000000^i'*(a[i']*val (b.take k))+1000000000^(i'+k)*p:=by rw[g5,g5,ad,j0];congr 1;simp only[g7,Nat.mul_left_comm]
    omega
   ·simp only[nth,toI];omega
  ·have a4:k=b.length:=by omega
   subst a4;have hj:i'+b.length<o.length:=by omega
   have hw:Pl .i64 ((i':Int)+(b.length:Int))=((i'+b.length:Nat):Int):=by rw[zr];omega
   have a7:Pl .i64 ((i':Int)+1)=((i'+1:Nat):Int):=by rw[zr];omega
   rw[hw,a7,bd,qi,kf (n:=(c:Int)),zf hj];refine⟨⟨by omega,by omega⟩,by omega,⟨i'+1,o.set (i'+b.length) c,by omega,rfl,by simp[a5],Xn al hc,fun j hjj=>by rw[jB (by omega)];exact ag j (by omega),?_⟩,?_⟩
   ·have h3:=Kz c hj;rw[ag _ (hM _)]at h3;rw[cH]at ap;rw[qQ,xz a3,j2,←hv,g7];omega
   ·simp only[nth,toI];omega
 ·have a3:i=a.length:=by omega
  subst a3;rw[cH]at hv;refine⟨⟨fun e=>?_,Nm _⟩,trivial,?_⟩
  ·have h0:=congrArg c1 e;rw[qi]at h0;have h0:o0.length=0:=h0;omega
  ·rw[←hv,←an,v7 lo]
theorem SM {a b:List Nat} (ha:Limbs a) (hb:Limbs b) (hra:a.length≤536870912) (hrb:b.length≤536870912):
 qc C0 274 [.c (.sl (raw a)),.c (.sl (raw b))] [.c (.sl (raw (pad (a.length+b.length) (val a*val b))))]:=by
 rcases hD (a.length+b.length)with h|h
 ·have h1:a=[]:=e7 (by omega);have h2:b=[]:=e7 (by omega);subst h1 h2;exact v3 (lim:=100) (n:=5) (tab:=noT) mixedT (fun _ _ _ h=>by simp[noT]at h) _ _ _ (by kernel_rfl)
 ·exact HD (Vo ha hb hra hrb h)
theorem Vp {a:List Nat} {d:Nat} (ha:Limbs a) (hd0:0<d) (hd:d<1000000000) (hra:a.length≤1073741824):
 qc C0 358 [.c (.sl (raw a)),.c (.int .u32 (d:Int))] [.c (.sl (raw (pad a.length (val a/d)))),.c (.sl (raw [val a%d]))]:=by
 refine qu (anns:=fun _=>⟨[.own 6 44 1,.slot 7 (.int .u64 0),.slot 8 (.int .i64 0)],[],fun _ ds=>∃(k r:Nat) (h:List Nat),k≤a.length∧r<d∧h.length=a.length-k∧Limbs h∧ds=[.sl (raw (c2 k 0++h)),.int .u64 (r:Int),.int .i64 ((k:Int)-1)]∧val (a.drop k)=val h*d+r,fun ds=>(toI (nth .undef ds 2)+1).toNat⟩) mixedT Tryz.func358 ?_;rw[SK];simp only[bc,qi,bd,xy];refine⟨⟨by omega,by omega,by unfold room;omega⟩,⟨a.length,0,[],hM _,hd0,by simp,Limbs.nil,by rw[zr,g3];rfl,by simp[val]⟩,?_⟩;rintro es m n ⟨k,r,h,hk,hr,hl,lh,he,hv⟩;simp only[g4,Lv,No,true_and,and_true]at he;obtain⟨rfl,rfl,rfl⟩:=he;refine brd (fun h1=>?_) (fun h1=>?_)
 ·have a3:k-1<a.length:=by omega
  have hak:=ha.get a3;have ht0:((k:Int)-1).toNat=k-1:=by omega
  have hk1:Pl .i64 ((k:Int)-1-1)=((k-1:Nat):Int)-1:=by rw[zr];omega
  have hdw:Pl .u64 (d:Int)=(d:Int):=xS;have a4:(c2 k 0++h).length=a.length:=by simp[hl];omega
  rw[ht0,hk1,hdw,qi,a4];refine⟨⟨by omega,by omega,qC a3⟩,_,qF a3,by omega,by omega,⟨by omega,by omega⟩,by omega,?_⟩;have hrr:r*1000000000≤999999998*1000000000:=ia _ (by omega);obtain⟨t,hte⟩:∃t,t=r*1000000000+a[k-1]:=⟨_,rfl⟩;have ht:Pl .u64 (Pl .u64 ((r:Int)*1000000000)+Pl .u64 (a[k-1]:Int))=(t:Int):=by rw[xS (n:=(r:Int)*1000000000),xS (n:=(a[k-1]:Int)),xS];omega
  have hq:t/d<1000000000:=by rw[Nat.div_lt_iff_lt_mul hd0];have:(r+1)*1000000000≤d*1000000000:=ia _ hr;omega
  have hm:t%d<d:=hU _ hd0;have e1:bw (t:Int) (d:Int)=((t/d:Nat):Int):=by rw[cb (by omega)];rfl
  have e2:bm (t:Int) (d:Int)=((t%d:Nat):Int):=by rw[bs (by omega)];rfl
  have hdm:=im t d;rw[ht,e1,e2];obtain⟨q,a6⟩:∃q,q=t/d:=⟨_,rfl⟩;obtain⟨m,a5⟩:∃m,m=t%d:=⟨_,rfl⟩;rw[←a6,←a5]at hdm ⊢;rw[←a6]at hq;rw[←a5]at hm;rw[xS (n:=(q:Int)),kf (n:=(q:Int)),zf (by omega)];refine⟨⟨k-1,m,q::h,by omega,hm,by simp[hl];omega,Limbs.cons hq lh,?_,?_⟩,?_⟩
  ·have:(c2 k 0++h).set (k-1) q=c2 (k-1) 0++q::h:=by obtain⟨k',rfl⟩:∃k',k=k'+1:=⟨k-1,by omega⟩;rw[List.replicate_succ',List.append_assoc,Nat.add_sub_cancel,fR _ _ (by simp)];simp
   rw[this]
  ·rw[c3 a3,show k-1+1=k by omega];simp only[val];rw[hv];have h5:(q+1000000000*val h)*d=d*q+1000000000*(val h*d):=by rw[j2,hT q d,g7]
   omega
  ·simp only[nth,toI];omega
 ·have a3:k=0:=by omega
  subst a3;simp only[eH,fS,fw]at hv ⊢;have e1:val a/d=val h:=by rw[hv,hT,Nat.mul_add_div hd0,Nat.div_eq_of_lt hr,Nat.add_zero]
  have e2:val a%d=r:=by rw[hv,hT,Nat.mul_add_mod,hK hr]
  rw[e1,e2,kf];have:=v7 lh;rw[hl,Nat.sub_zero]at this;rw[this];rfl
end Eng
end
section
namespace Eng
open Go Go.Proofs
set_option maxRecDepth 100000
def cI (z:Int):List D:=[.bool (decide (z<0)),.sl (raw (lim z.natAbs))]
def qS (z:Int):A:= .ag (cI z)
def Vq:Nat:=((1000000000^100)^100)^10
def Sm (z:Int):Prop:=z.natAbs<Vq
theorem TR {n j k:Nat} (h:n<(1000000000^j)^k):(lim n).length≤j*k:=qx (by rw[hL];exact h)
theorem HE {n i j k:Nat} (h:n<((1000000000^i)^j)^k):(lim n).length≤i*j*k:=TR (j:=i*j) (k:=k) (by rw[hL];exact h)
theorem EQ {n:Nat} (h:n<((1000000000^100)^100)^10):(lim n).length≤100000:=Nat.le_trans (HE h) (by decide)
theorem SN {b i j k m:Nat} (hb:0<b) (hm:m≤i*j*k):b^m≤((b^i)^j)^k:=by
 rw[←hL,←hL];exact hC hb (by rw[←g7];exact hm)
theorem pow4 {b i j k l n:Nat} (hn:n=i*j*k*l):(((b^i)^j)^k)^l=b^n:=by
 subst hn;rw[hL,hL,hL]
theorem Sm.len {z:Int} (h:Sm z):(lim z.natAbs).length≤100000:=EQ h
theorem xd {l:List Nat} (b:Bool) (hl:Limbs l) (hr:l.length≤1073741824) {z:Int} (hz:z=if b then-(val l:Int)else(val l:Int)):
 qc C0 226 [.c (.bool b),.c (.sl (raw l))] [qS z]:=by
 have h:=Vn b hl hr;have e1:z.natAbs=val l:=by rw[hz];split<;>omega
 have e2:decide (z<0)=(b&&decide (0<val l)):=by
  rw[hz];cases b
  ·simp only[Bx,if_false,F2,decide_eq_false_iff_not];omega
  ·simp only[if_true,J4,decide_eq_decide];omega
 unfold qS cI;rw[e1,e2];exact h
theorem HF {u:Nat} (hu:u<18446744073709551616):qc C0 227 [.c (.int .u64 (u:Int))] [.c (.sl (raw [u%1000000000,u/1000000000%1000000000,u/1000000000/1000000000]))]:=by
 refine qu (anns:=an0) mixedT Tryz.func227 ?_;rw[EM];refine⟨by omega,by omega,by omega,by omega,by omega,?_⟩;rw[Pt,Pu,xS (n:=((u/1000000000:Nat):Int)),Pt,Pu,kf (n:=((u%1000000000:Nat):Int)),kf (n:=((u/1000000000%1000000000:Nat):Int)),
  xS (n:=((u/1000000000/1000000000:Nat):Int)),kf (n:=((u/1000000000/1000000000:Nat):Int))]
 rfl
theorem K0 {u:Nat} (hu:u<18446744073709551616):Limbs [u%1000000000,u/1000000000%1000000000,u/1000000000/1000000000]∧val [u%1000000000,u/1000000000%1000000000,u/1000000000/1000000000]=u:=by
 refine⟨Limbs.cons (by omega) (Limbs.cons (by omega) (Limbs.cons (by omega) Limbs.nil)),?_⟩;simp only[val];omega
theorem xA {n:Int} (h1: -9223372036854775808≤n) (h2:n<9223372036854775808):qc C0 170 [.c (.int .i64 n)] [qS n]:=by
 refine qu (anns:=an0) mixedT Tryz.func170 ?_;rw[H9];have hu:n.natAbs<18446744073709551616:=by omega
 obtain⟨hl,hv⟩:=K0 hu;have hs:=HF hu;refine brd (fun h=>?_) (fun h=>?_)
 ·have e:Pl .u64 ((0:Int)-Pl .u64 n)=((n.natAbs:Nat):Int):=by simp only[V1];omega
  rw[e];refine⟨_,hs,_,_,xd _ hl (by simp) (z:=n) ?_,rfl⟩;rw[hv,decide_eq_true h,if_pos rfl];omega
 ·have e:Pl .u64 n=((n.natAbs:Nat):Int):=by simp only[V1];omega
  rw[e];refine⟨_,hs,_,_,xd _ hl (by simp) (z:=n) ?_,rfl⟩;rw[hv,decide_eq_false h,if_neg (by simp)];omega
def sgn (z:Int):Int:=if z<0 then-1 else if 0<z then 1 else 0
def Ql (x y:Int):Int:=if x<y then-1 else if y<x then 1 else 0
theorem Nn (z:Int):qc C0 183 [qS z] [.c (.int .i64 (sgn z))]:=by
 refine qu (anns:=an0) mixedT Tryz.func183 ?_;unfold qS cI;rw[bC];simp only[bc,qi];refine zH (fun h=>?_) (fun h=>brd (fun h1=>?_) (fun h1=>?_))
 ·have h:=of_decide_eq_true h;rw[sgn,if_pos h]
 ·have h:=of_decide_eq_false h;have:0<z.natAbs:=qK.1 (by omega);rw[sgn,if_neg h,if_pos (by omega)]
 ·have h:=of_decide_eq_false h;have:¬0<z.natAbs:=fun h2=>h1 (by have:=qK.2 h2;omega)
  rw[sgn,if_neg h,if_neg (by omega)]
theorem yr {x y:Int} (hx:Sm x) (hy:Sm y):qc C0 229 [qS x,qS y] [.c (.int .i64 (Ql x y))]:=by
 refine qu (anns:=an0) mixedT Tryz.func229 ?_;unfold qS cI;rw[iI];have lx:=hx.len;have ly:=hy.len;refine brb (fun h=>?_) (fun h=>?_)
 ·have h:decide (x<0)≠decide (y<0):=by simpa using h
  have h:¬(x<0↔y<0):=fun e=>h (by rw[decide_eq_decide];exact e)
  refine zH (fun h1=>?_) (fun h1=>?_)
  ·have h1:=of_decide_eq_true h1;rw[Ql,if_pos (by omega)]
  ·have h1:=of_decide_eq_false h1;rw[Ql,if_neg (by omega),if_pos (by omega)]
 ·have h:decide (x<0)=decide (y<0):=by simpa using h
  have h:x<0↔y<0:=by rw[decide_eq_decide]at h;exact h
  refine zH (fun h1=>?_) (fun h1=>?_)
  ·have h1:=of_decide_eq_true h1;refine⟨_,kD (qh _) (qh _) (by omega) (by omega),?_⟩;rw[qj,qj,XP,Ql];have e1:(y.natAbs<x.natAbs)=(x<y):=by rw[eq_iff_iff];omega
   have e2:(x.natAbs<y.natAbs)=(y<x):=by rw[eq_iff_iff];omega
   simp only[e1,e2]
  ·have h1:=of_decide_eq_false h1;refine⟨_,kD (qh _) (qh _) (by omega) (by omega),?_⟩;rw[qj,qj,XP,Ql];have e1:(x.natAbs<y.natAbs)=(x<y):=by rw[eq_iff_iff];omega
   have e2:(y.natAbs<x.natAbs)=(y<x):=by rw[eq_iff_iff];omega
   simp only[e1,e2]
theorem Y1 {x:Int} (hx:Sm x):qc C0 278 [qS x] [qS (-x)]:=by
 refine qu (anns:=an0) mixedT Tryz.func278 ?_;have lx:=hx.len;rw[show qS x= .ag (cI x)from rfl,cI,iL,qi];refine⟨⟨by unfold room;omega,je _⟩,_,_,xd _ (qh _) (by omega) (z:= -x) ?_,rfl⟩;rw[qj];by_cases h:x<0
 ·rw[decide_eq_true h];simp;omega
 ·rw[decide_eq_false h];simp;omega
theorem wz {x y:Int} (hx:Sm x) (hy:Sm y):qc C0 230 [qS x,qS y] [qS (x*y)]:=by
 refine qu (anns:=an0) mixedT Tryz.func230 ?_;have lx:=hx.len;have ly:=hy.len;rw[show qS x= .ag (cI x)from rfl,show qS y= .ag (cI y)from rfl,cI,cI,iM];refine⟨_,SM (qh _) (qh _) (by omega) (by omega),_,_,xd _ (zl _ _) (by rw[xB];omega) (z:=x*y) ?_,rfl⟩;have hv:val (pad ((lim x.natAbs).length+(lim y.natAbs).length) (val (lim x.natAbs)*val (lim y.natAbs)))=x.natAbs*y.natAbs:=by rw[kB,qj,qj];refine hK ?_;have h1:=qX (qh x.natAbs);have h2:=qX (qh y.natAbs);rw[qj]at h1 h2;rw[j0];exact hR h1 h2
 rw[hv];obtain⟨a,ha⟩:∃a,a=x.natAbs:=⟨_,rfl⟩;obtain⟨b,hb⟩:∃b,b=y.natAbs:=⟨_,rfl⟩;rw[←ha,←hb,b9];by_cases h1:x<0<;>by_cases h2:y<0
 ·have ex:x= -(a:Int):=by omega
  have ey:y= -(b:Int):=by omega
  rw[decide_eq_true h1,decide_eq_true h2,ex,ey];simp only[J7,beq_self_eq_true,Bx,if_false];rw[Int.neg_mul_neg]
 ·have ex:x= -(a:Int):=by omega
  have ey:y=(b:Int):=by omega
  rw[decide_eq_true h1,decide_eq_false h2,ex,ey];simp only[J7,Dd,beq_false,if_true];rw[Int.neg_mul]
 ·have ex:x=(a:Int):=by omega
  have ey:y= -(b:Int):=by omega
  rw[decide_eq_false h1,decide_eq_true h2,ex,ey];simp only[Dd,beq_true,if_true];rw[cp]
 ·have ex:x=(a:Int):=by omega
  have ey:y=(b:Int):=by omega
  rw[decide_eq_false h1,decide_eq_false h2,ex,ey];simp
theorem Zc {x y:Int} (hx:Sm x) (hy:Sm y):qc C0 277 [qS x,qS y] [qS (x+y)]:=by
 refine qu (anns:=an0) mixedT Tryz.func277 ?_;have lx:=hx.len;have ly:=hy.len;rw[show qS x= .ag (cI x)from rfl,show qS y= .ag (cI y)from rfl,cI,cI,iJ];have hpv:∀(a b:List Nat),Limbs a→Limbs b→val (pad (max a.length b.length+1) (val a+val b))=val a+val b:=by intro a b ha hb;rw[kB];refine hK ?_;have h1:=qX ha;have h2:=qX hb;have h3:1000000000^a.length≤1000000000^max a.length b.length:=hC (by omega) (by omega);have h4:1000000000^b.length≤1000000000^max a.length b.length:=hC (by omega) (by omega);rw[hQ];omega
 have a3:∀(a b:List Nat),Limbs a→val b≤val a→val (pad a.length (val a-val b))=val a-val b:=by intro a b ha hb;rw[kB];exact hK (by have:=qX ha;omega)
 refine brb (fun h=>?_) (fun h=>?_)
 ·have h:decide (x<0)=decide (y<0):=by simpa using h
  have h':x<0↔y<0:=by rw[decide_eq_decide]at h;exact h
  refine⟨_,EO (qh _) (qh _) (by omega) (by omega),_,_,xd _ (zl _ _) (by rw[xB];omega) (z:=x+y) ?_,rfl⟩;rw[hpv _ _ (qh _) (qh _),qj,qj];by_cases h:x<0
  ·rw[decide_eq_true h,if_pos rfl];omega
  ·rw[decide_eq_false h,if_neg (by simp)];omega
 ·have h:decide (x<0)≠decide (y<0):=by simpa using h
  have h':¬(x<0↔y<0):=fun e=>h (by rw[decide_eq_decide];exact e)
  refine⟨_,kD (qh _) (qh _) (by omega) (by omega),?_⟩;rw[qj,qj];have hc:XP x.natAbs y.natAbs<0↔x.natAbs<y.natAbs:=by
   unfold XP;split
   ·simp;assumption
   ·split<;>simp<;>omega
  refine brd (fun h1=>?_) (fun h1=>?_)
  ·have h1:=hc.1 h1;refine⟨_,HB (qh _) (qh _) (by omega) (by rw[qj,qj];omega),_,_,xd _ (zl _ _) (by rw[xB];omega) (z:=x+y) ?_,rfl⟩;rw[a3 _ _ (qh _) (by rw[qj,qj];omega),qj,qj];by_cases h:y<0
   ·rw[decide_eq_true h,if_pos rfl];omega
   ·rw[decide_eq_false h,if_neg (by simp)];omega
  ·have h1:¬x.natAbs<y.natAbs:=fun h2=>h1 (hc.2 h2)
   refine⟨_,HB (qh _) (qh _) (by omega) (by rw[qj,qj];omega),_,_,xd _ (zl _ _) (by rw[xB];omega) (z:=x+y) ?_,rfl⟩;rw[a3 _ _ (qh _) (by rw[qj,qj];omega),qj,qj];by_cases h:x<0
   ·rw[decide_eq_true h,if_pos rfl];omega
   ·rw[decide_eq_false h,if_neg (by simp)];omega
theorem SO {x y:Int} (hx:Sm x) (hy:Sm y):qc C0 356 [qS x,qS y] [qS (x-y)]:=by
 refine qu (anns:=an0) mixedT Tryz.func356 ?_;have hn:Sm (-y):=by unfold Sm at *;rw[bh];exact hy
 have ha:=Zc hx hn;rw[show qS x= .ag (cI x)from rfl,show qS y= .ag (cI y)from rfl,cI,cI,iK];simp only[bc,qi];have e1:(-y).natAbs=y.natAbs:=bh y;refine brb (fun h=>?_) (fun h=>?_)
 ·have h:¬y<0:=by simpa using h
  refine⟨_,_,?_,rfl⟩;have e2:decide (((lim y.natAbs).length:Int)>0)=decide (-y<0):=by rw[decide_eq_decide];have:=qK (n:=y.natAbs);omega
  rw[e2,←e1];exact ha
 ·have h:y<0:=by simpa using h
  refine⟨_,_,?_,rfl⟩;have e2:false=decide (-y<0):=by rw[eq_comm,decide_eq_false_iff_not];omega
  rw[e2,←e1];exact ha
theorem Np {x:Int} (hx:Sm x):qc C0 336 [qS x] (if x.natAbs<1000000000000000000 then [.c (.int .u64 (x.natAbs:Int)),.c (.bool true)]else [.c (.int .u64 0),.c (.bool false)]):=by
 refine qu (anns:=an0) mixedT Tryz.func336 ?_;have lx:=hx.len;rw[show qS x= .ag (cI x)from rfl,cI,bA];simp only[bc,qi];generalize hl:lim x.natAbs=l at *;have a3:Limbs l:=hl▸qh _;have hv:val l=x.natAbs:=hl▸qj _;have hge:1000000000000000000≤x.natAbs→2<l.length:=fun h=>hl▸jV (k:=2) (by omega)
 have hlt:=qX a3;refine brb (fun h=>?_) (fun h=>brb (fun h1=>?_) (fun h1=>brb (fun h2=>?_) (fun h2=>?_)))
 ·have h:l.length=0:=by have:(l.length:Int)=0:=by simpa using h
                        omega
  have:l=[]:=e7 h;subst this;simp only[val]at hv;rw[if_pos (by omega),←hv];rfl
 ·have h1:l.length=1:=by have:(l.length:Int)=1:=by simpa using h1
                         omega
  obtain⟨a,rfl⟩:∃a,l=[a]:=List.length_eq_one_iff.1 h1;have ha:=(a3.of_cons).1;simp only[val]at hv;refine⟨⟨by omega,by rw[h1];omega,rfl⟩,_,qF (l:=[a]) (i:=0) (by simp),?_⟩;rw[if_pos (by omega)];have:Pl .u64 (([a][0]:Nat):Int)=(x.natAbs:Int):=by show Pl .u64 (a:Int)=_;rw[xS];omega
  rw[this]
 ·have h2:l.length=2:=by have:(l.length:Int)=2:=by simpa using h2
                         omega
  obtain⟨a,b,rfl⟩:∃a b,l=[a,b]:=(match l,h2 with|[a,b],_=>⟨a,b,rfl⟩);have ha:=(a3.of_cons).1;have hb:=((a3.of_cons).2.of_cons).1;simp only[val]at hv;refine⟨⟨by omega,by rw[h2];omega,rfl⟩,_,qF (l:=[a,b]) (i:=1) (by simp),⟨by omega,by rw[h2];omega,rfl⟩,_,qF (l:=[a,b]) (i:=0) (by simp),?_⟩;rw[if_pos (by omega)];have:Pl .u64 (Pl .u64 (Pl .u64 (([a,b][1]:Nat):Int)*1000000000)+Pl .u64 (([a,b][0]:Nat):Int))=(x.natAbs:Int):=by show Pl .u64 (Pl .u64 (Pl .u64 (b:Int)*1000000000)+Pl .u64 (a:Int))=_;rw[xS (n:=(b:Int)),xS (n:=(a:Int)),xS (n:=(b:Int)*1000000000),xS];omega
  rw[this]
 ·have h:(l.length:Int)≠0:=by simpa using h
  have h1:(l.length:Int)≠1:=by simpa using h1
  have h2:(l.length:Int)≠2:=by simpa using h2
  have:¬x.natAbs<1000000000000000000:=by intro hc;have h5:=qx (n:=x.natAbs) (k:=2) (by omega);rw[hl]at h5;omega
  rw[if_neg this]
end Eng
end
section
namespace Eng
open Go Go.Proofs Go.RowKit
def Zd (chk:List A→Bool) (s:Nat) (mk:List A→List (List D)) (dst:Option Nat) (vs:List V) (ob:List Obj):R:=
 match dst with
 |none=> .fail
 |some d=>match qA ob d,wa ob vs with
  |true,some (al,us)=> .cond (chk al=true) (.arr d) (us++[(d,.arr s (mk al) false)])
  |_,_=> .fail
theorem Vr {C:Cx} {f s:Nat} {fn:Func} {chk:List A→Bool} {mk:List A→List (List D)} (hf:C.P.funcs[f]? =some fn) (hb:fn.body≠none) (hn:fn.name≠ "runtime.NumGoroutine") (h:∀al,chk al=true→wk C f al s (mk al)):EffAt C f (Zd chk s mk):=by
 have h0:=Sv (C:=C) (own:=fun al=>match chk al with|true=>some (s,mk al)|false=>none) hf hb hn (fun al s' es ho=>by
  split at ho
  ·rename_i hc;simp only[j3,Prod.mk.injEq]at ho;obtain⟨rfl,rfl⟩:=ho;exact h al hc
  ·simp at ho)
 have hE:∀(dst:Option Nat) (vs:List V) (ob:List Obj),(∃al us d,dst=some d∧qA ob d=true∧wa ob vs=some (al,us)∧Zd chk s mk dst vs ob= .cond (chk al=true) (.arr d) (us++[(d,.arr s (mk al) false)])∧
  (chk al=true→Vk (fun al=>match chk al with|true=>some (s,mk al)|false=>none) dst vs ob= .ok (.arr d) (us++[(d,.arr s (mk al) false)])))∨Zd chk s mk dst vs ob= .fail:=by
  intro dst vs ob;unfold Zd;split
  ·exact .inr rfl
  ·rename_i d;split
   ·rename_i al us h1 h2;refine .inl ⟨al,us,d,rfl,h1,h2,rfl,fun hc=>?_⟩;simp only[Vk,h1,h2,hc]
   ·exact .inr rfl
 refine⟨fun{B F0 w0 F loc st a w dst args ts ty pos after g} hc=>?_,fun dst vs ob ob' hh hd=>?_,fun dst vs ob hv hb=>?_⟩
 ·rcases hE dst (args.toList.map (ev st)) st.objs with⟨al,us,d,h1,h2,h3,h4,h5⟩|h1
  ·rw[h4];intro hcc;have:=h0.rs (dst:=dst) (args:=args) (ts:=ts) (ty:=ty) (pos:=pos) (after:=after) (g:=g) hc;rw[h5 hcc]at this;exact this
  ·rw[h1];trivial
 ·unfold Zd;cases dst with
  |none=>rfl
  |some d=>
   have h1:wa ob vs=wa ob' vs:=j9 (c:=2) fun v hv k hk=> .inl (hh k (by
    rw[qE];exact⟨k,gp.2 ⟨v,hv,hk⟩,.inl rfl⟩))
   simp only[h1];rw[hd d (.inl rfl)]
 ·rcases hE dst vs ob with⟨al,us,d,rfl,h2,h3,h4,h5⟩|h1
  ·rw[h4];have hfz:=ww h3;refine⟨fun p hp=>?_,fun k hk=>?_⟩
   ·rcases g0.1 hp with hp|hp
    ·obtain⟨⟨v,hv1,hv2⟩,s',es',fz,h1,h2⟩:=hfz p hp;refine⟨.inr ⟨?_,by rw[h1];simp⟩,by rw[h2];simp,fun u hu=>by rw[h2]at hu;simp[qW]at hu⟩;rw[qE];exact⟨p.1,gp.2 ⟨v,hv1,hv2⟩,.inl rfl⟩
    ·simp only[fg]at hp;subst hp;exact⟨.inl ⟨.inl rfl,h2⟩,by simp,fun u hu=>by simp[qW]at hu⟩
   ·simp only[qn,fg]at hk;subst hk;exact .inr ⟨h2,_,List.mem_append_right _ (fg.2 rfl)⟩
  ·rw[h1];trivial
def iN:List D→Bool
 |[.int .u32 (.ofNat n)]=>iy n 1000000000
 |_=>false
def ZL:List (List D)→Bool
 |[]=>true
 |e::r=>iN e&&ZL r
def bE:List D→Nat
 |[.int _ n]=>n.toNat
 |_=>0
def WH (es:List (List D)):List Nat:=es.map bE
def WI:List (List D)→Nat
 |[]=>0
 |e::r=>bE e+1000000000*WI r
theorem Xo:∀{es:List (List D)},ZL es=true→es=raw (WH es)∧Limbs (WH es)∧val (WH es)=WI es
 |[],_=>⟨rfl,Limbs.nil,rfl⟩
 |e::r,h=>by
  simp only[ZL,Aw]at h;obtain⟨h1,h2,h3⟩:=Xo h.2;have he:=h.1;unfold iN at he;split at he
  ·rename_i n;rw[ie]at he;refine⟨?_,Limbs.cons he h2,?_⟩
   ·simp only[WH,ez,raw,bE]at h1 ⊢;rw[←h1];rfl
   ·simp only[WH,ez,val,WI,bE]at h3 ⊢;rw[h3]
  ·simp at he
theorem Ze:∀{l:List Nat},Limbs l→ZL (raw l)=true
 |[],_=>rfl
 |x::l,h=>by obtain⟨h1,h2⟩:=h.of_cons;simp only[raw,ez,ZL,Aw];refine⟨?_,Ze h2⟩;show iy x 1000000000=true;rw[ie];exact h1
theorem Xp:∀(l:List Nat),WI (raw l)=val l
 |[]=>rfl
 |x::l=>by have:=Xp l;simp only[raw,ez,WI,val,bE]at this ⊢;rw[this];rfl
def zQ:List A→Bool
 |[.c (.sl a),.c (.sl b)]=>ZL a&&(ZL b&&(Nat.ble a.length 536870912&&(Nat.ble b.length 536870912&&iy 0 (a.length+b.length))))
 |_=>false
def kE:List A→List (List D)
 |[.c (.sl a),.c (.sl b)]=>raw (pad (a.length+b.length) (WI a*WI b))
 |_=>[]
theorem HG (al:List A) (h:zQ al=true):wk C0 274 al 1 (kE al):=by
 unfold zQ at h;split at h
 ·rename_i a b;simp only[Aw]at h;obtain⟨h1,h2,h3,h4,h5⟩:=h;obtain⟨ea,la,va⟩:=Xo h1;obtain⟨eb,lb,vb⟩:=Xo h2;have h3:=hY h3;have h4:=hY h4;rw[ie]at h5;have na:(WH a).length=a.length:=by simp[WH]
  have nb:(WH b).length=b.length:=by simp[WH]
  have:=Vo la lb (by omega) (by omega) (by omega);rw[←ea,←eb,va,vb,na,nb]at this;exact this
 ·simp at h
def iO (t:TypeId) (d:Option Nat):Bool:=
 match d with
 |some d=>match g8 t 42 with
  |true=>g8 d 148||(g8 d 160||g8 d 71)
  |false=>match g8 t 60 with
   |true=>g8 d 76||(g8 d 81||(g8 d 40||g8 d 44))
   |false=>(g8 t 32&&(g8 d 48||g8 d 53))||(g8 t 26&&g8 d 10)
 |none=>false
def iP (chk:List A→Bool) (mk:List A→List (List D)) (f:Nat):Option (Option Nat→List V→List Obj→R):=
 match g8 f 359 with
 |true=>some Hm
 |false=>match g8 f 360 with
  |true=>some Hn
  |false=>match g8 f 274 with
   |true=>some (Zd chk 1 mk)
   |false=>none
noncomputable def CM (chk:List A→Bool) (mk:List A→List (List D)):Cx:=⟨Tryz.prog,fun _=>none,fun _=>false,iP chk mk,iO,fun _=>false⟩
noncomputable def CC:Cx:=CM zQ kE
theorem bF (f:Nat) (e:Option Nat→List V→List Obj→R) (h:CC.eff f=some e):EffAt CC f e:=by
 replace h:iP zQ kE f=some e:=h;unfold iP at h;split at h
 ·rename_i hb;obtain rfl:=hV hb;simp only[j3]at h;subst h;exact Ho (C:=CC) oj
 ·split at h
  ·rename_i hb;obtain rfl:=hV hb;simp only[j3]at h;subst h;exact Hp (C:=CC) oj
  ·split at h
   ·rename_i hb;obtain rfl:=hV hb;simp only[j3]at h;subst h;exact Vr (C:=CC) Tryz.func274 (by simp[Tryz.f274]) (by decide) fun al hc=>Kv (C:=C0) (C':=CC) rfl rfl (HG al hc)
   ·simp at h
instance:EffOk CC:=xV bF
end Eng
end
section
open Go Go.Proofs Eng
namespace Eng
section
variable (Gv:Nat→List A→List A→Prop) (I0:List D→List D→Prop) (M0:List D→Nat) (I1:List D→List D→Prop) (M1:List D→Nat) (I2:List D→List D→Prop) (M2:List D→Nat) (I3:List D→List D→Prop) (M3:List D→Nat) (Q:List A→Prop)
theorem bG:wpF CC Gv an0 Tryz.f225 [] Q=(∃b es,Gv 170 [aI (1:Int)] [aZ b es]∧Q [aZ b es]):=by kernel_rfl
theorem ER (p:Bool) (es:List (List D)):wpF CC Gv an0 Tryz.f169 [.ag [.bool p,.sl es]] Q=(∃b e1,Gv 225 [] [aZ b e1]∧Q [J8 [Lr p,Ls es,Lr b,Ls e1]]):=by kernel_rfl
theorem Y2 (n:Int):wpF CC Gv an0 Tryz.f111 [.c (.int .i64 n)] Q=(∃b es,Gv 170 [aI n] [aZ b es]∧∃x,Gv 169 [aZ b es] [aR x]∧Q [aR x]):=by kernel_rfl
theorem ES (p q:Bool) (es fs:List (List D)):wpF CC Gv an0 Tryz.f326 [.ag [.bool p,.sl es],.ag [.bool q,.sl fs]] Q=(∃b e1 b1 e2 i,Gv 329 [aZ p es,aZ q fs] [aZ b e1,aZ b1 e2,aI i]∧Q [aZ b e1]):=by kernel_rfl
theorem SP (p q:Bool) (es fs:List (List D)):wpF CC Gv an0 Tryz.f276 [.ag [.bool p,.sl es],.ag [.bool q,.sl fs]] Q=(∃i,Gv 183 [aZ q fs] [aI i]∧bB (decide (i<0)) (∃b e1,Gv 278 [aZ p es] [aZ b e1]∧∃b1 es,Gv 278 [aZ q fs] [aZ b1 es]∧∃b2 e2,Gv 306 [aZ b e1,aZ b1 es] [aZ b2 e2]∧∃b3 e3,Gv 225 [] [aZ b3 e3]∧∃i,Gv 229 [aZ b2 e2,aZ b3 e3] [aI i]∧bB (i !=0) (∃b4 e4,Gv 326 [aZ b e1,aZ b2 e2] [aZ b4 e4]∧∃b e5,Gv 326 [aZ b1 es,aZ b2 e2] [aZ b e5]∧Q [J8 [Lr b4,Ls e4,Lr b,Ls e5]]) (Q [J8 [Lr b,Ls e1,Lr b1,Ls es]])) (∃b e1,Gv 306 [aZ p es,aZ q fs] [aZ b e1]∧∃b1 e2,Gv 225 [] [aZ b1 e2]∧∃i,Gv 229 [aZ b e1,aZ b1 e2] [aI i]∧bB (i !=0) (∃b2 e3,Gv 326 [aZ p es,aZ b e1] [aZ b2 e3]∧∃b3 es,Gv 326 [aZ q fs,aZ b e1] [aZ b3 es]∧Q [J8 [Lr b2,Ls e3,Lr b3,Ls es]]) (Q [J8 [Lr p,Ls es,Lr q,Ls fs]]))):=by kernel_rfl
theorem ET (p q:Bool) (es fs:List (List D)):wpF CC Gv an0 Tryz.f118 [.ag [.bool p,.sl es,.bool q,.sl fs]] Q=(∃i,Gv 183 [aZ p es] [aI i]∧Q [aI i]):=by kernel_rfl
theorem Y3 (m n:Int):wpF CC Gv an0 Tryz.f228 [.c (.int .i64 m),.c (.int .i64 n)] Q=(∃b,Gv 272 [aI m] [aB b]∧∃b1,Gv 272 [aI n] [aB b1]∧br b (br b1 (Q [aI (0:Int)]) (Q [aI (-1:Int)])) (br b1 (Q [aI (1:Int)]) (bB (decide (m<n)) (Q [aI (-1:Int)]) (bB (decide (m>n)) (Q [aI (1:Int)]) (Q [aI (0:Int)]))))):=by kernel_rfl
theorem EU (m:Int):wpF CC Gv an0 Tryz.f272 [.c (.int .i64 m)] Q=(Q [aB (m !=m)]):=by kernel_rfl
theorem bH (p q r s:Bool) (es fs gs hs:List (List D)):wpF CC Gv an0 Tryz.f172 [.ag [.bool p,.sl es,.bool q,.sl fs],.ag [.bool r,.sl gs,.bool s,.sl hs]] Q=(∃i,Gv 118 [J8 [Lr p,Ls es,Lr q,Ls fs]] [aI i]∧∃i_1,Gv 118 [J8 [Lr r,Ls gs,Lr s,Ls hs]] [aI i_1]∧∃i_2,Gv 228 [aI i,aI i_1] [aI i_2]∧bB (i_2 !=0) (Q [aI i_2]) (∃b e1,Gv 230 [aZ p es,aZ s hs] [aZ b e1]∧∃b1 es,Gv 230 [aZ r gs,aZ q fs] [aZ b1 es]∧∃i,Gv 229 [aZ b e1,aZ b1 es] [aI i]∧Q [aI i])):=by kernel_rfl
theorem bI (p q r s:Bool) (es fs gs hs:List (List D)):wpF CC Gv an0 Tryz.f233 [.ag [.bool p,.sl es,.bool q,.sl fs],.ag [.bool r,.sl gs,.bool s,.sl hs]] Q=(∃i,Gv 229 [aZ q fs,aZ s hs] [aI i]∧bB (i==0) (∃b e1,Gv 277 [aZ p es,aZ r gs] [aZ b e1]∧∃x,Gv 276 [aZ b e1,aZ q fs] [aR x]∧Q [aR x]) (∃b e1,Gv 230 [aZ p es,aZ s hs] [aZ b e1]∧∃b1 es,Gv 230 [aZ r gs,aZ q fs] [aZ b1 es]∧∃b2 e2,Gv 277 [aZ b e1,aZ b1 es] [aZ b2 e2]∧∃b es,Gv 230 [aZ q fs,aZ s hs] [aZ b es]∧∃x,Gv 276 [aZ b2 e2,aZ b es] [aR x]∧Q [aR x])):=by kernel_rfl
theorem bJ (p q r s:Bool) (es fs gs hs:List (List D)):wpF CC Gv an0 Tryz.f175 [.ag [.bool p,.sl es,.bool q,.sl fs],.ag [.bool r,.sl gs,.bool s,.sl hs]] Q=(∃x,Gv 234 [J8 [Lr r,Ls gs,Lr s,Ls hs]] [aR x]∧∃x1,Gv 233 [J8 [Lr p,Ls es,Lr q,Ls fs],aR x] [aR x1]∧Q [aR x1]):=by kernel_rfl
theorem bK (p q:Bool) (es fs:List (List D)):wpF CC Gv an0 Tryz.f234 [.ag [.bool p,.sl es,.bool q,.sl fs]] Q=(∃b e1,Gv 278 [aZ p es] [aZ b e1]∧Q [J8 [Lr b,Ls e1,Lr q,Ls fs]]):=by kernel_rfl
theorem bL (p q r s:Bool) (es fs gs hs:List (List D)):wpF CC Gv an0 Tryz.f232 [.ag [.bool p,.sl es,.bool q,.sl fs],.ag [.bool r,.sl gs,.bool s,.sl hs]] Q=(∃b e1,Gv 230 [aZ p es,aZ r gs] [aZ b e1]∧∃b1 es,Gv 230 [aZ q fs,aZ s hs] [aZ b1 es]∧∃x,Gv 276 [aZ b e1,aZ b1 es] [aR x]∧Q [aR x]):=by kernel_rfl
end
end Eng
end
section
open Go Go.Proofs Eng
namespace Eng
section
variable (Gv:Nat→List A→List A→Prop) (I0:List D→List D→Prop) (M0:List D→Nat) (I1:List D→List D→Prop) (M1:List D→Nat) (I2:List D→List D→Prop) (M2:List D→Nat) (I3:List D→List D→Prop) (M3:List D→Nat) (Q:List A→Prop)
theorem SQ (p q:Bool) (es fs:List (List D)):wpF CC Gv an0 Tryz.f329 [.ag [.bool p,.sl es],.ag [.bool q,.sl fs]] Q=(bB ((W2 fs.length)==0) (Q [aZ false [],aZ false [],aI (6:Int)]) (∃e1 e2,Gv 337 [aL es,aL fs] [aL e1,aL e2]∧∃b es,Gv 226 [J9 (Lr !p==q),aL e1] [aZ b es]∧∃b1 e3,Gv 226 [aB p,aL e2] [aZ b1 e3]∧bB (decide ((W2 e3.length)>0)) (bB (!b1==q) (∃b2 e4,Gv 170 [aI (1:Int)] [aZ b2 e4]∧∃b3 e5,Gv 356 [aZ b es,aZ b2 e4] [aZ b3 e5]∧∃b es,Gv 277 [aZ b1 e3,aZ q fs] [aZ b es]∧Q [aZ b3 e5,aZ b es,aI (0:Int)]) (Q [aZ b es,aZ b1 e3,aI (0:Int)])) (Q [aZ b es,aZ b1 e3,aI (0:Int)]))):=by kernel_rfl
theorem iQ (p q:Bool) (es fs:List (List D)):wpF CC Gv (G7 ⟨[.box 5 [.bool false,.slice none 0 0],.box 6 [.bool false,.slice none 0 0]],[],I0,M0⟩ ⟨[.slot 7 (.int .u64 0),.slot 9 (.int .u64 0)],[],I1,M1⟩) Tryz.f306 [.ag [.bool p,.sl es],.ag [.bool q,.sl fs]] Q=(∃b e1,Gv 226 [aB false,aL es] [aZ b e1]∧∃b1 es,Gv 226 [aB false,aL fs] [aZ b1 es]∧I0 [] [Lr b,Ls e1,Lr b1,Ls es]∧∀(b:Bool) (es:List (List D)) (b2:Bool) (e2:List (List D)),I0 [] [Lr b,Ls es,Lr b2,Ls e2]→bB (decide ((W2 e2.length)>0)) (∃n b3,Gv 336 [aZ b es] [J9 (Lm .u64 n),aB b3]∧∃n1 b4,Gv 336 [aZ b2 e2] [J9 (Lm .u64 n1),aB b4]∧br b3 (br b4 (I1 [] [Lm .u64 n,Lm .u64 n1]∧∀(n n2:Int),I1 [] [Lm .u64 n,Lm .u64 n2]→bB (decide (n2>0)) (n2≠0∧I1 [] [Lm .u64 n2,Lm .u64 (bm n n2)]∧M1 [Lm .u64 n2,Lm .u64 (bm n n2)]<M1 [Lm .u64 n,Lm .u64 n2]) (∃es,Gv 227 [J9 (Lm .u64 n)] [aL es]∧∃b e3,Gv 226 [aB false,aL es] [aZ b e3]∧Q [aZ b e3])) (∃e3 e4,Gv 337 [aL es,aL e2] [aL e3,aL e4]∧∃b5 e5,Gv 226 [aB false,aL e4] [aZ b5 e5]∧I0 [] [Lr b2,Ls e2,Lr b5,Ls e5]∧M0 [Lr b2,Ls e2,Lr b5,Ls e5]<M0 [Lr b,Ls es,Lr b2,Ls e2])) (∃e3 e4,Gv 337 [aL es,aL e2] [aL e3,aL e4]∧∃b5 e5,Gv 226 [aB false,aL e4] [aZ b5 e5]∧I0 [] [Lr b2,Ls e2,Lr b5,Ls e5]∧M0 [Lr b2,Ls e2,Lr b5,Ls e5]<M0 [Lr b,Ls es,Lr b2,Ls e2])) ((room es.length∧lens 1 es)∧∃b e3,Gv 226 [aB false,aL es] [aZ b e3]∧Q [aZ b e3])):=by kernel_rfl
end
end Eng
end
section
namespace Eng
open Go Go.Proofs
set_option maxRecDepth 100000
theorem up {f:Nat} {al rs:List A} (h:qc C0 f al rs):qc CC f al rs:=wl rfl rfl h
def HH:Prop:=∀(a b:List Nat),Limbs a→Limbs b→val b≠0→a.length≤100000→b.length≤100000→
 ∃q r,qc CC 337 [.c (.sl (raw a)),.c (.sl (raw b))] [.c (.sl (raw q)),.c (.sl (raw r))]∧Limbs q∧Limbs r∧val q=val a/val b∧val r=val a%val b∧q.length≤1073741824∧r.length≤1073741824
theorem smN {n:Nat}:Sm (n:Int)↔n<Vq:=by unfold Sm;rw[be]
theorem SR (hd:HH) {x y:Int} (hx:Sm x) (hy:Sm y):qc CC 306 [qS x,qS y] [qS (hH x.natAbs y.natAbs:Nat)]:=by
 generalize hG:hH x.natAbs y.natAbs=G;refine qu (anns:=G7
  ⟨[.box 5 [.bool false,.slice none 0 0],.box 6 [.bool false,.slice none 0 0]],[],fun _ ds=>∃m n:Nat,ds=cI (m:Int)++cI (n:Int)∧hH m n=G∧m<Vq∧n<Vq,fun ds=>WI (toL (nth .undef ds 3))⟩
  ⟨[.slot 7 (.int .u64 0),.slot 9 (.int .u64 0)],[],fun _ ds=>∃u v:Nat,ds=[.int .u64 (u:Int),.int .u64 (v:Int)]∧hH u v=G∧u<1000000000000000000∧v<1000000000000000000,fun ds=>(toI (nth .undef ds 1)).toNat⟩) mixedT Tryz.func306 ?_
 have lx:=hx.len;have ly:=hy.len;rw[show qS x= .ag (cI x)from rfl,show qS y= .ag (cI y)from rfl];have vx:=xd false (qh x.natAbs) (by omega) (z:=(x.natAbs:Int)) (by simp[qj]);have vy:=xd false (qh y.natAbs) (by omega) (z:=(y.natAbs:Int)) (by simp[qj]);rw[cI,cI,iQ];simp only[bc];refine⟨_,_,up vx,_,_,up vy,⟨x.natAbs,y.natAbs,rfl,hG,hx,hy⟩,?_⟩;rintro bx es by_ fs ⟨m,n,he,hg,hm,hn⟩;simp only[cI,ft,fw,g4,D.bool.injEq,No,and_true,be]at he;obtain⟨rfl,rfl,rfl,rfl⟩:=he;have lm:=(smN.2 hm).len;have ln:=(smN.2 hn).len;rw[be]at lm ln;have em:qS (m:Int)=J8 [Lr (decide ((m:Int)<0)),Ls (raw (lim m))]:=by unfold qS cI;rw[be]
 have en:qS (n:Int)=J8 [Lr (decide ((n:Int)<0)),Ls (raw (lim n))]:=by unfold qS cI;rw[be]
 have wm:=Np (smN.2 hm);have wn:=Np (smN.2 hn);rw[be]at wm wn;rw[em]at wm;rw[en]at wn;rw[qi,qi];have a3:0<n→∃es_3 es_4,
  qc CC 337 [J9 (Ls (raw (lim m))),J9 (Ls (raw (lim n)))] [J9 (Ls es_3),J9 (Ls es_4)]∧
   ∃b_5 es_5,
    qc CC 226 [J9 (Lr false),J9 (Ls es_4)] [J8 [Lr b_5,Ls es_5]]∧
     (∃m' n':Nat,[Lr (decide ((n:Int)<0)),Ls (raw (lim n)),Lr b_5,Ls es_5]=cI (m':Int)++cI (n':Int)∧hH m' n'=G∧m'<Vq∧n'<Vq)∧
      WI (toL (nth .undef [Lr (decide ((n:Int)<0)),Ls (raw (lim n)),Lr b_5,Ls es_5] 3))<WI (toL (nth .undef [Lr (decide ((m:Int)<0)),Ls (raw (lim m)),Lr (decide ((n:Int)<0)),Ls (raw (lim n))] 3)):=by
  intro a5;obtain⟨q,r,h1,lq,lr,vq,vr,q1,r1⟩:=hd (lim m) (lim n) (qh _) (qh _) (by rw[qj];omega) lm ln;rw[qj,qj]at vr;have a4:=hU m a5;refine⟨_,_,h1,_,_,up (xd false lr r1 (z:=((m%n:Nat):Int)) (by simp[vr])),⟨n,m%n,?_,?_,hn,by omega⟩,?_⟩
  ·simp only[cI,be,ft,fw]
  ·rw[←hg,hW n,←j1,hW]
  ·simp only[nth,toL,be,Xp,qj];exact a4
 refine brd (fun h=>?_) (fun h=>?_)
 ·have a5:0<n:=qK.1 (by omega);by_cases sm:m<1000000000000000000
  ·rw[if_pos sm]at wm;by_cases sn:n<1000000000000000000
   ·rw[if_pos sn]at wn;refine⟨_,_,up wm,_,_,up wn,?_⟩;refine⟨⟨m,n,rfl,hg,sm,sn⟩,?_⟩;rintro a b ⟨u,v,he,a6,hu,hv⟩;simp only[g4,Lv,true_and,and_true]at he;obtain⟨rfl,rfl⟩:=he;refine brd (fun h2=>?_) (fun h2=>?_)
    ·have a7:0<v:=by omega
     have e2:bm (u:Int) (v:Int)=((u%v:Nat):Int):=by rw[bs (by omega)];rfl
     have a4:=hU u a7;rw[e2];refine⟨by omega,⟨v,u%v,rfl,by rw[←a6,hW v,←j1,hW],hv,by omega⟩,?_⟩;simp only[nth,toI,bd];exact a4
    ·have a7:v=0:=by omega
     subst a7;rw[ic]at a6;subst a6;obtain⟨l1,l2⟩:=K0 (u:=u) (by omega);exact⟨_,up (HF (by omega)),_,_,up (xd false l1 (by simp) (z:=(u:Int)) (by rw[l2];rfl)),rfl⟩
   ·rw[if_neg sn]at wn;exact⟨_,_,up wm,_,_,up wn,a3 a5⟩
  ·rw[if_neg sm]at wm;by_cases sn:n<1000000000000000000
   ·rw[if_pos sn]at wn;exact⟨_,_,up wm,_,_,up wn,a3 a5⟩
   ·rw[if_neg sn]at wn;exact⟨_,_,up wm,_,_,up wn,a3 a5⟩
 ·have a5:n=0:=by
   rcases hD n with h0|h0
   ·exact h0
   ·have:=qK.2 h0;omega
  subst a5;rw[ic]at hg;subst hg;exact⟨⟨by unfold room;omega,je _⟩,_,_,up (xd false (qh m) (by omega) (z:=(m:Int)) (by simp[qj])),rfl⟩
theorem wT (hd:HH) {x y:Int} (hx:Sm x) (hy:Sm y) (hy0:0<y):qc CC 329 [qS x,qS y] [qS (x/y),qS (x%y),.c (.int .i64 0)]:=by
 refine qu (anns:=an0) mixedT Tryz.func329 ?_;have lx:=hx.len;have ly:=hy.len;have hyn:y.natAbs≠0:=by omega
 have hlp:0<(lim y.natAbs).length:=qK.2 (by omega);obtain⟨q,r,h1,lq,lr,vq,vr,q1,r1⟩:=hd (lim x.natAbs) (lim y.natAbs) (qh _) (qh _) (by rw[qj];exact hyn) lx ly;rw[qj,qj]at vq vr;rw[show qS x= .ag (cI x)from rfl,show qS y= .ag (cI y)from rfl,cI,cI,SQ];simp only[bc];obtain⟨a,ha⟩:∃a:Nat,x.natAbs=a:=⟨_,rfl⟩;obtain⟨b,hb⟩:∃b:Nat,y=(b:Int):=⟨y.natAbs,by omega⟩;have a4:y.natAbs=b:=by omega
 have hb0:0<b:=by omega
 rw[ha,a4]at vq vr;have hdm:=im a b;have hml:=hU a hb0;refine brb (fun h=>?_) (fun _=>?_)
 ·rw[qi]at h;have:((lim y.natAbs).length:Int)=0:=by simpa using h
  omega
 have a6:decide (y<0)=false:=decide_eq_false (by omega);rw[a6];by_cases hx0:x<0
 ·have hxt:decide (x<0)=true:=decide_eq_true hx0;rw[hxt];have a3:x= -(a:Int):=by omega
  have gq:=xd true lq q1 (z:= -((a/b:Nat):Int)) (by rw[vq];rfl);have gr:=xd true lr r1 (z:= -((a%b:Nat):Int)) (by rw[vr];rfl);refine⟨_,_,h1,_,_,up gq,_,_,up gr,?_⟩;have e0:(-((a%b:Nat):Int)).natAbs=a%b:=by rw[bh,be]
  rw[qi];have hq:(a/b)<Vq:=ib (Nat.div_le_self _ _) (ha▸hx);refine brd (fun h=>brb (fun h2=>?_) (fun h2=>?_)) (fun h=>?_)
  ·rw[e0]at h;have a5:0<a%b:=qK.1 (by omega);have g1:=xA (n:=1) (by omega) (by omega);have sq:Sm (-((a/b:Nat):Int)):=by unfold Sm;rw[bh,be];exact hq
   have s1:Sm 1:=by unfold Sm Vq;exact it (by omega) (it (by omega) (by omega))
   have sr:Sm (-((a%b:Nat):Int)):=by unfold Sm;rw[bh,be];exact Nat.lt_trans hml (a4▸hy)
   have gs:=SO sq s1;have ga:=Zc sr hy;have ga2:qc CC 277 [qS (-((a%b:Nat):Int)),.ag [.bool false,.sl (raw (lim y.natAbs))]] [qS (-((a%b:Nat):Int)+y)]:=by have:=up ga;rw[show qS y= .ag (cI y)from rfl,cI,a6]at this;exact this
   refine⟨_,_,up g1,_,_,up gs,_,_,ga2,?_⟩
   ·have e1:x/y= -((a/b:Nat):Int)-1∧x%y= -((a%b:Nat):Int)+y:=by
     have:=cr (a:=x) (b:=y) (r:= -((a%b:Nat):Int)+y) (q:= -((a/b:Nat):Int)-1) hy0;refine this.2 ⟨?_,by omega,by omega⟩;rw[a3,hb];have h5:(b:Int)*(-((a/b:Nat):Int)-1)= -((b*(a/b):Nat):Int)-b:=by rw[Int.mul_sub,cp,Int.mul_one,b9]
     rw[h5];omega
    rw[e1.1,e1.2];rfl
  ·exfalso;rw[e0]at h;have a5:0<a%b:=qK.1 (by omega);have:decide (-((a%b:Nat):Int)<0)=true:=decide_eq_true (by omega);rw[this]at h2;simp at h2
  ·have a5:a%b=0:=by
    rcases hD (a%b)with h0|h0
    ·exact h0
    ·have:=qK.2 h0;rw[e0]at h;omega
   have e1:x/y= -((a/b:Nat):Int)∧x%y= -((a%b:Nat):Int):=by have:=cr (a:=x) (b:=y) (r:= -((a%b:Nat):Int)) (q:= -((a/b:Nat):Int)) hy0;refine this.2 ⟨?_,by omega,by omega⟩;rw[a3,hb,cp,←b9];omega
   rw[e1.1,e1.2];simp only[qS,cI,bh,be]
 ·have hxf:decide (x<0)=false:=decide_eq_false hx0;rw[hxf];have a3:x=(a:Int):=by omega
  have gq:=xd false lq q1 (z:=((a/b:Nat):Int)) (by rw[vq];rfl);have gr:=xd false lr r1 (z:=((a%b:Nat):Int)) (by rw[vr];rfl);refine⟨_,_,h1,_,_,up gq,_,_,up gr,?_⟩;have hrf:decide (((a%b:Nat):Int)<0)=false:=decide_eq_false (by omega);have e1:x/y=((a/b:Nat):Int)∧x%y=((a%b:Nat):Int):=by rw[a3,hb];exact⟨rfl,rfl⟩
  refine brd (fun h=>brb (fun h2=>?_) (fun h2=>?_)) (fun h=>?_)
  ·rw[hrf]at h2;simp at h2
  ·rw[e1.1,e1.2];rfl
  ·rw[e1.1,e1.2];rfl
end Eng
end
section
namespace Eng
open Go Go.Proofs
set_option maxRecDepth 100000
def cR (r:Rat):List D:=cI r.num++cI (r.den:Int)
def jC (r:Rat):A:= .ag (cR r)
theorem Im:Sm 1:=by unfold Sm;decide
theorem Y4:qc CC 225 [] [qS 1]:=by
 refine qu (anns:=an0) mixedT Tryz.func225 ?_;rw[bG];exact⟨_,_,up (xA (n:=1) (by omega) (by omega)),rfl⟩
theorem HI (hd:HH) {x y:Int} (hx:Sm x) (hy:Sm y) (hy0:0<y):qc CC 326 [qS x,qS y] [qS (x/y)]:=by
 refine qu (anns:=an0) mixedT Tryz.func326 ?_;rw[show qS x= .ag (cI x)from rfl,show qS y= .ag (cI y)from rfl,cI,cI,ES];exact⟨_,_,_,_,_,wT hd hx hy hy0,rfl⟩
theorem Nq {x:Int} (h:Sm x):Sm (-x):=by unfold Sm at *;rw[bh];exact h
theorem SS {g:Nat} (hg:0<g):(Ql (g:Int) 1 !=0)=decide (g≠1):=by
 unfold Ql;by_cases h:g=1
 ·subst h;rfl
 ·rw[if_neg (by omega),if_pos (by omega),decide_eq_true h];rfl
theorem K1 {n d:Int} (hd:0<d):(j5 n d).num=n/(hH n.natAbs d.natAbs:Nat)∧((j5 n d).den:Int)=d/(hH n.natAbs d.natAbs:Nat):=by
 have e:d.gcd n=hH n.natAbs d.natAbs:=by rw[Int.gcd_comm];rfl
 refine⟨?_,?_⟩
 ·rw[Rat.num_divInt,Int.sign_eq_one_of_pos hd,Int.one_mul,e]
 ·rw[Rat.den_divInt,if_neg (by omega),e];obtain⟨k,rfl⟩:∃k:Nat,d=(k:Int):=⟨d.toNat,by omega⟩;rw[be,Int.natCast_ediv]
theorem vD {n d:Int} (hd:0<d):jC (j5 n d)= .ag (cI (n/(hH n.natAbs d.natAbs:Nat))++cI (d/(hH n.natAbs d.natAbs:Nat))):=by
 unfold jC cR;rw[(K1 hd).1,(K1 hd).2]
theorem Zf (hd:HH) {x y:Int} (hx:Sm x) (hy:Sm y) (hy0:y≠0):qc CC 276 [qS x,qS y] [jC (j5 x y)]:=by
 refine qu (anns:=an0) mixedT Tryz.func276 ?_;have hS:=up (Nn y);have a3:∀{u v:Int},Sm u→Sm v→0<v→∃g:Nat,g=hH u.natAbs v.natAbs∧qc CC 306 [qS u,qS v] [qS (g:Int)]∧qc CC 229 [qS (g:Int),qS 1] [.c (.int .i64 (Ql g 1))]∧0<g∧qc CC 326 [qS u,qS (g:Int)] [qS (u/g)]∧qc CC 326 [qS v,qS (g:Int)] [qS (v/g)]:=by intro u v hu hv hv0;refine⟨_,rfl,SR hd hu hv,?_⟩;have hgp:0<hH u.natAbs v.natAbs:=Nat.gcd_pos_of_pos_right _ (by omega);have a4:Sm (hH u.natAbs v.natAbs:Nat):=smN.2 (ib (Nat.gcd_le_right _ (by omega)) hv);exact⟨up (yr a4 Im),hgp,HI hd hu a4 (by omega),HI hd hv a4 (by omega)⟩
 rw[show qS x= .ag (cI x)from rfl,show qS y= .ag (cI y)from rfl];rw[cI,cI,SP];refine⟨_,hS,?_⟩;refine brd (fun h=>?_) (fun h=>?_)
 ·have a5:y<0:=by
   unfold sgn at h;split at h
   ·assumption
   ·split at h<;>omega
  obtain⟨g,hg,h1,h2,h3,h4,h5⟩:=a3 (Nq hx) (Nq hy) (by omega);refine⟨_,_,up (Y1 hx),_,_,up (Y1 hy),_,_,h1,_,_,Y4,_,h2,?_⟩;have he:jC (j5 x y)= .ag (cI ((-x)/(g:Int))++cI ((-y)/(g:Int))):=by
   have:j5 x y=j5 (-x) (-y):=by rw[Rat.neg_divInt_neg]
   rw[this,vD (by omega),hg]
  refine brb (fun h=>?_) (fun h=>?_)
  ·refine⟨_,_,h4,_,_,h5,?_⟩;rw[he];rfl
  ·rw[SS h3]at h;have:g=1:=by simpa using h
   rw[he,this];rw[show((1:Nat):Int)=1 from rfl,ca,ca];rfl
 ·have a5:0<y:=by
   unfold sgn at h;split at h
   ·omega
   ·omega
  obtain⟨g,hg,h1,h2,h3,h4,h5⟩:=a3 hx hy a5;refine⟨_,_,h1,_,_,Y4,_,h2,?_⟩;have he:jC (j5 x y)= .ag (cI (x/(g:Int))++cI (y/(g:Int))):=by rw[vD a5,hg]
  refine brb (fun h=>?_) (fun h=>?_)
  ·refine⟨_,_,h4,_,_,h5,?_⟩;rw[he];rfl
  ·rw[SS h3]at h;have:g=1:=by simpa using h
   rw[he,this];rw[show((1:Nat):Int)=1 from rfl,ca,ca];rfl
end Eng
end
section
namespace Eng
open Go Go.Proofs
set_option maxRecDepth 100000
def Zg:Nat:=((1000000000^100)^100)^4
def Sq (z:Int):Prop:=z.natAbs<Zg
def Sr (r:Rat):Prop:=Sq r.num∧Sq (r.den:Int)
theorem Nr:Zg*Zg*2≤Vq:=by decide
theorem Sq.sm {z:Int} (h:Sq z):Sm z:=by
 have h0:Zg≤Vq:=by decide
 exact Nat.lt_of_lt_of_le h h0
theorem Sq.mul {x y:Int} (hx:Sq x) (hy:Sq y):Sm (x*y):=by
 unfold Sm;rw[c0];have:=hR hx hy;have:=Nr;omega
theorem Sq.mul_add {a b c d:Int} (ha:Sq a) (hb:Sq b) (hc:Sq c) (hd:Sq d):Sm (a*b+c*d):=by
 unfold Sm;have h1:=hR ha hb;have h2:=hR hc hd;rw[←c0]at h1 h2;have:=Nr;omega
theorem Sq.add {a b:Int} (ha:Sq a) (hb:Sq b):Sm (a+b):=by
 unfold Sm;have h0:Zg*2≤Vq:=by decide
 have h1:a.natAbs<Zg:=ha;have h2:b.natAbs<Zg:=hb;omega
theorem den_pos (r:Rat):0<(r.den:Int):=by have:=r.den_pos;omega
theorem qH (r:Rat):jC r= .ag [.bool (decide (r.num<0)),.sl (raw (lim r.num.natAbs)),.bool (decide ((r.den:Int)<0)),.sl (raw (lim (r.den:Int).natAbs))]:=rfl
theorem xJ (z:Int):qS z= .ag [.bool (decide (z<0)),.sl (raw (lim z.natAbs))]:=rfl
def q4 (r:Rat):R4:=⟨decide (r.num<0),raw (lim r.num.natAbs),decide ((r.den:Int)<0),raw (lim (r.den:Int).natAbs)⟩
theorem Jh (r:Rat):qc CC 118 [jC r] [.c (.int .i64 (sgn r.num))]:=by
 refine qu (anns:=an0) mixedT Tryz.func118 ?_;rw[qH,ET];exact⟨_,up (Nn r.num),rfl⟩
theorem Ns (n:Int):qc CC 272 [.c (.int .i64 n)] [.c (.bool false)]:=by
 refine qu (anns:=an0) mixedT Tryz.func272 ?_;rw[EU];simp
theorem Y5 (m n:Int):qc CC 228 [.c (.int .i64 m),.c (.int .i64 n)] [.c (.int .i64 (Ql m n))]:=by
 refine qu (anns:=an0) mixedT Tryz.func228 ?_;rw[Y3];refine⟨_,Ns m,_,Ns n,?_⟩;refine zH (fun h=>by simp at h) (fun _=>?_);refine zH (fun h=>by simp at h) (fun _=>?_);unfold Ql;refine brd (fun h=>?_) (fun h=>?_)
 ·rw[if_pos h]
 ·rw[if_neg h];refine brd (fun h=>?_) (fun h=>?_)
  ·rw[if_pos h]
  ·rw[if_neg h]
def bM (x y:Rat):Int:=if x<y then-1 else if y<x then 1 else 0
theorem K2 (x y:Rat):bM x y=Ql (x.num*y.den) (y.num*x.den):=by
 unfold bM Ql;simp only[Rat.lt_iff]
theorem ST {x y:Rat} (hx:Sr x) (hy:Sr y):qc CC 172 [jC x,jC y] [.c (.int .i64 (bM x y))]:=by
 refine qu (anns:=an0) mixedT Tryz.func172 ?_;have h1:=Jh x;have h2:=Jh y;rw[qH]at h1 h2;rw[qH,qH,bH];refine⟨_,h1,_,h2,_,Y5 _ _,?_⟩;have hm1:=up (wz hx.1.sm hy.2.sm);have hm2:=up (wz hy.1.sm hx.2.sm);have hc:=up (yr (hx.1.mul hy.2) (hy.1.mul hx.2));have px:=den_pos x;have py:=den_pos y;refine brb (fun h=>?_) (fun h=>?_)
 ·have e:Ql (sgn x.num) (sgn y.num)=bM x y:=by
   rw[K2];have hs:∀(z d:Int),0<d→sgn (z*d)=sgn z:=by
    intro z d a3;unfold sgn;rcases Int.lt_trichotomy z 0 with h|h|h
    ·have:=Int.mul_neg_of_neg_of_pos h a3;rw[if_pos h,if_pos this]
    ·subst h;simp
    ·have:=cg h a3;rw[if_neg (show ¬z<0 by omega),if_pos h,if_neg (show ¬z*d<0 by omega),if_pos this]
   rw[←hs x.num _ py,←hs y.num _ px]at h ⊢;generalize x.num*(y.den:Int)=a at *;generalize y.num*(x.den:Int)=b at *;unfold Ql sgn at *;simp only[bne_iff_ne,ne_eq]at h;split at h<;>split at h<;>(try split at h)<;>(try split at h)<;>split<;>(try split)<;>omega
  rw[e]
 ·rw[K2];exact⟨_,_,hm1,_,_,hm2,_,hc,rfl⟩
theorem TS {x:Rat} (hx:Sr x):qc CC 234 [jC x] [jC (-x)]:=by
 refine qu (anns:=an0) mixedT Tryz.func234 ?_;rw[qH,bK];refine⟨_,_,up (Y1 hx.1.sm),?_⟩;rw[qH,ks];have:(-x).den=x.den:=rfl;rw[this]
theorem SU (hd:HH) {x y:Rat} (hx:Sr x) (hy:Sr y):qc CC 232 [jC x,jC y] [jC (x*y)]:=by
 refine qu (anns:=an0) mixedT Tryz.func232 ?_;rw[qH,qH,bL];have px:=den_pos x;have py:=den_pos y;have:=cg px py;refine⟨_,_,up (wz hx.1.sm hy.1.sm),_,_,up (wz hx.2.sm hy.2.sm),q4 _,Zf hd (hx.1.mul hy.1) (hx.2.mul hy.2) (by omega),?_⟩;have e:x*y=j5 (x.num*y.num) (x.den*y.den):=by rw[←Rat.divInt_mul_divInt,kk,kk]
 rw[e];rfl
theorem TT (hd:HH) {x y:Rat} (hx:Sr x) (hy:Sr y):qc CC 233 [jC x,jC y] [jC (x+y)]:=by
 refine qu (anns:=an0) mixedT Tryz.func233 ?_;rw[qH,qH,bI];have px:=den_pos x;have py:=den_pos y;have hp:=cg px py;have e0:x+y=j5 (x.num*y.den+y.num*x.den) (x.den*y.den):=by rw[←Rat.divInt_add_divInt _ _ (by omega) (by omega),kk,kk]
 refine⟨_,up (yr hx.2.sm hy.2.sm),?_⟩;refine brb (fun h=>?_) (fun h=>?_)
 ·have hxy:(x.den:Int)=y.den:=by
   unfold Ql at h;split at h
   ·simp at h
   ·split at h
    ·simp at h
    ·omega
  have e1:x+y=j5 (x.num+y.num) x.den:=by rw[e0,←hxy,←Int.add_mul,Rat.divInt_mul_right (by omega)]
  refine⟨_,_,up (Zc hx.1.sm hy.1.sm),q4 _,Zf hd (hx.1.add hy.1) hx.2.sm (by omega),?_⟩;rw[e1];rfl
 ·refine⟨_,_,up (wz hx.1.sm hy.2.sm),_,_,up (wz hy.1.sm hx.2.sm),_,_,up (Zc (hx.1.mul hy.2) (hy.1.mul hx.2)),_,_,up (wz hx.2.sm hy.2.sm),q4 _,Zf hd (hx.1.mul_add hy.2 hy.1 hx.2) (hx.2.mul hy.2) (by omega),?_⟩;rw[e0];rfl
theorem Sr.neg {x:Rat} (h:Sr x):Sr (-x):=by
 refine⟨?_,h.2⟩;rw[ks];unfold Sq;rw[bh];exact h.1
theorem SV (hd:HH) {x y:Rat} (hx:Sr x) (hy:Sr y):qc CC 175 [jC x,jC y] [jC (x-y)]:=by
 refine qu (anns:=an0) mixedT Tryz.func175 ?_;rw[qH,qH,bJ];refine⟨q4 _,TS hy,q4 _,TT hd hx hy.neg,?_⟩;rw[Rat.sub_eq_add_neg];rfl
theorem Xq {n:Int} (h1: -9223372036854775808≤n) (h2:n<9223372036854775808):qc CC 111 [.c (.int .i64 n)] [jC (n:Rat)]:=by
 have hw:qc CC 169 [qS n] [jC (n:Rat)]:=by refine qu (anns:=an0) mixedT Tryz.func169 ?_;rw[xJ,ER];refine⟨_,_,Y4,?_⟩;rw[qH,Rat.num_intCast,Rat.den_intCast];rfl
 refine qu (anns:=an0) mixedT Tryz.func111 ?_;rw[Y2];exact⟨_,_,up (xA h1 h2),q4 _,hw,rfl⟩
end Eng
end
section
open Go Go.Proofs Eng
namespace Eng
section
variable (Gv:Nat→List A→List A→Prop) (I0:List D→List D→Prop) (M0:List D→Nat) (I1:List D→List D→Prop) (M1:List D→Nat) (I2:List D→List D→Prop) (M2:List D→Nat) (I3:List D→List D→Prop) (M3:List D→Nat) (Q:List A→Prop)
theorem EV:wpF CC Gv an0 Tryz.f44 [] Q=(∃b es,Gv 43 [aI (1:Int)] [aZ b es]∧Q [aZ b es]):=by kernel_rfl
theorem iR (J3:List D→List D→Prop) (p q:Bool) (es fs:List (List D)):wpF CC Gv (Tf an0 3 ⟨[.box 2 [.bool false,.slice none 0 0],.box 3 [.bool false,.slice none 0 0]],[.box 2 [.bool false,.slice none 0 0],.box 3 [.bool false,.slice none 0 0]],J3,fun _=>0⟩) Tryz.f59 [.ag [.bool p,.sl es],.ag [.bool q,.sl fs]] Q=((∃i,Gv 107 [aZ q fs] [aI i]∧bB (decide (i<0)) (∃b e1,Gv 108 [aZ p es] [aZ b e1]∧∃b1 e2,Gv 108 [aZ q fs] [aZ b1 e2]∧J3 [Lr p,Ls es,Lr q,Ls fs] [Lr b,Ls e1,Lr b1,Ls e2]) (J3 [Lr p,Ls es,Lr q,Ls fs] [Lr p,Ls es,Lr q,Ls fs]))∧∀(b:Bool) (e1:List (List D)) (b1:Bool) (e2:List (List D)),J3 [Lr p,Ls es,Lr q,Ls fs] [Lr b,Ls e1,Lr b1,Ls e2]→∃b2 es,Gv 109 [aZ b e1,aZ b1 e2] [aZ b2 es]∧∃b3 e3 b4 e4 i,Gv 110 [aZ b e1,aZ b2 es] [aZ b3 e3,aZ b4 e4,aI i]∧∃b e5 b5 e6 i,Gv 110 [aZ b1 e2,aZ b2 es] [aZ b e5,aZ b5 e6,aI i]∧Q [J8 [Lr b3,Ls e3,Lr b,Ls e5]]):=by kernel_rfl
theorem EW (p q:Bool) (es fs:List (List D)):wpF CC Gv an0 Tryz.f334 [.ag [.bool p,.sl es],.ag [.bool q,.sl fs]] Q=(∃i,Gv 107 [aZ q fs] [aI i]∧bB (i==0) (Q [J8 [Lr false,Ls [],Lr false,Ls []],aI (6:Int)]) (∃x,Gv 59 [aZ p es,aZ q fs] [aR x]∧Q [aR x,aI (0:Int)])):=by kernel_rfl
theorem Y6 (n:Int):wpF CC Gv an0 Tryz.f21 [.c (.int .i64 n)] Q=(∃b es,Gv 43 [aI n] [aZ b es]∧∃b1 e1,Gv 44 [] [aZ b1 e1]∧Q [J8 [Lr b,Ls es,Lr b1,Ls e1]]):=by kernel_rfl
theorem EX (p q:Bool) (es fs:List (List D)):wpF CC Gv an0 Tryz.f72 [.ag [.bool p,.sl es,.bool q,.sl fs]] Q=(∃i,Gv 107 [aZ p es] [aI i]∧Q [aI i]):=by kernel_rfl
theorem bN (p q:Bool) (es fs:List (List D)):wpF CC Gv an0 Tryz.f192 [.ag [.bool p,.sl es,.bool q,.sl fs]] Q=(∃b e1,Gv 108 [aZ p es] [aZ b e1]∧Q [J8 [Lr b,Ls e1,Lr q,Ls fs]]):=by kernel_rfl
theorem bO (p q r s:Bool) (es fs gs hs:List (List D)):wpF CC Gv an0 Tryz.f190 [.ag [.bool p,.sl es,.bool q,.sl fs],.ag [.bool r,.sl gs,.bool s,.sl hs]] Q=(∃b e1,Gv 145 [aZ p es,aZ s hs] [aZ b e1]∧∃b1 es,Gv 145 [aZ r gs,aZ q fs] [aZ b1 es]∧∃b2 e2,Gv 168 [aZ b e1,aZ b1 es] [aZ b2 e2]∧∃b es,Gv 145 [aZ q fs,aZ s hs] [aZ b es]∧∃x,Gv 59 [aZ b2 e2,aZ b es] [aR x]∧Q [aR x]):=by kernel_rfl
theorem bP (p q r s:Bool) (es fs gs hs:List (List D)):wpF CC Gv an0 Tryz.f191 [.ag [.bool p,.sl es,.bool q,.sl fs],.ag [.bool r,.sl gs,.bool s,.sl hs]] Q=(∃x,Gv 192 [J8 [Lr r,Ls gs,Lr s,Ls hs]] [aR x]∧∃x1,Gv 190 [J8 [Lr p,Ls es,Lr q,Ls fs],aR x] [aR x1]∧Q [aR x1]):=by kernel_rfl
theorem bQ (p q r s:Bool) (es fs gs hs:List (List D)):wpF CC Gv an0 Tryz.f83 [.ag [.bool p,.sl es,.bool q,.sl fs],.ag [.bool r,.sl gs,.bool s,.sl hs]] Q=(∃b e1,Gv 145 [aZ p es,aZ s hs] [aZ b e1]∧∃b1 es,Gv 145 [aZ r gs,aZ q fs] [aZ b1 es]∧∃i,Gv 144 [aZ b e1,aZ b1 es] [aI i]∧Q [aI i]):=by kernel_rfl
theorem bR (p q r s:Bool) (es fs gs hs:List (List D)):wpF CC Gv an0 Tryz.f189 [.ag [.bool p,.sl es,.bool q,.sl fs],.ag [.bool r,.sl gs,.bool s,.sl hs]] Q=(∃b e1,Gv 145 [aZ p es,aZ r gs] [aZ b e1]∧∃b1 es,Gv 145 [aZ q fs,aZ s hs] [aZ b1 es]∧∃x,Gv 59 [aZ b e1,aZ b1 es] [aR x]∧Q [aR x]):=by kernel_rfl
theorem bS (p q r s:Bool) (es fs gs hs:List (List D)):wpF CC Gv an0 Tryz.f292 [.ag [.bool p,.sl es,.bool q,.sl fs],.ag [.bool r,.sl gs,.bool s,.sl hs]] Q=(∃b e1,Gv 145 [aZ p es,aZ s hs] [aZ b e1]∧∃b1 es,Gv 145 [aZ q fs,aZ r gs] [aZ b1 es]∧∃x i,Gv 334 [aZ b e1,aZ b1 es] [aR x,aI i]∧Q [aR x,aI i]):=by kernel_rfl
end
end Eng
end
