/- The contracts of the reference's integers: difference, product. -/
import Derived.Test.YtlgnobmngljmaaaGreatDoorPaB
import Derived.Test.YtlgnobmngljmaaaGreatDoorPaA
import Derived.Test.YtlgnobmngljmaaaGreatDoorEngE
import Derived.KernelRfl
import Derived.Shelf.Lays2
import Derived.Shelf.RegionOpenPlain
import Derived.WalkKit
import Derived.Deep.LoopGhost
import Derived.Deep.RegionLaw
import Derived.Lib.Walk
import Derived.Lib.SliceRun
section
namespace Eng
open Go Go.Proofs
set_option maxRecDepth 100000
variable [Env]
theorem qminus_ok {a b:List Nat} (ha:Limbs a) (hb:Limbs b) (hra:a.length≤1073741824) (hab:val b≤val a):Gives CC 257 [.c (.sl (raw a)),.c (.sl (raw b))] [.c (.sl (raw (lim (val a-val b))))]:=by
 refine wpF_ok (anns:=fun _=>⟨[.own 5 45 1,.slot 6 (.int .u32 0),.slot 7 (.int .i64 0)],[],fun _ ds=>∃(k:Nat) (o:List Nat) (c:Nat),k≤a.length∧o.length=k∧ds=[.sl (raw (o++List.replicate (a.length-k) 0)),.int .u32 (c:Int),.int .i64 (k:Int)]∧Limbs o∧c≤1∧val o+val (b.take k)=val (a.take k)+1000000000^k*c,fun ds=>a.length-(toI (nth .undef ds 2)).toNat⟩) mixedT Tryz.func257 ?_;rw[vc_qminus];simp only[Int.ofNat_eq_natCast,raw_length];refine⟨⟨by omega,by omega,by unfold room;omega⟩,⟨0,[],0,by omega,rfl,by rw[Int.toNat_natCast,raw_replicate];rfl,Limbs.nil,by omega,by simp[val]⟩,?_⟩;rintro es n m ⟨k,o,c,hk,ho,he,lo,hc,hv⟩;simp only[List.cons.injEq,D.int.injEq,D.sl.injEq,true_and,and_true]at he;obtain⟨rfl,rfl,rfl⟩:=he;have hol:(o++List.replicate (a.length-k) 0).length=a.length:=by simp[ho];omega
 refine brd (fun h1=>?_) (fun h1=>?_)
 ·have hkx:k<a.length:=by omega
  have hxk:=ha.get hkx;have hk1:IntKind.wrap .i64 ((k:Int)+1)=((k+1:Nat):Int):=by rw[i64w];omega
  rw[Int.toNat_natCast,hk1,raw_length,hol];have hw0:IntKind.wrap .u32 (IntKind.wrap .u32 ((a[k]:Int)+1000000000)-(c:Int))=((a[k]+1000000000-c:Nat):Int):=by rw[u32w (n:=(a[k]:Int)+1000000000),u32w];omega
  refine⟨⟨by omega,by omega,raw_len1 hkx⟩,_,cut_raw hkx,?_⟩;rw[hw0];refine brd (fun h2=>?_) (fun h2=>?_)
  ·have hky:k<b.length:=by omega
   have hyk:=hb.get hky;have hgd:b.getD k 0=b[k]:=by simp[List.getD,hky]
   refine⟨⟨by omega,by omega,raw_len1 hky⟩,_,cut_raw hky,?_⟩;have hw:IntKind.wrap .u32 (((a[k]+1000000000-c:Nat):Int)-(b[k]:Int))=((a[k]+1000000000-c-b[k]:Nat):Int):=by rw[u32w];omega
   rw[hw];refine brd (fun h3=>?_) (fun h3=>?_)
   ·have hw2:IntKind.wrap .u32 (((a[k]+1000000000-c-b[k]:Nat):Int)-1000000000)=((a[k]-(c+b[k]):Nat):Int):=by rw[u32w];omega
    rw[hw2,upd_raw (by simp[ho];omega),set_rep ho (by omega)];refine⟨⟨by omega,by omega⟩,by omega,⟨k+1,o++[a[k]-(c+b[k])],0,by omega,by simp[ho],by rw[show a.length-k-1=a.length-(k+1)by omega];rfl,lo.append (Limbs.cons (by omega) Limbs.nil),by omega,minus_step hkx ho hv (by have:=hgd;omega)⟩,?_⟩;simp only[nth,toI];omega
   ·rw[upd_raw (by simp[ho];omega),set_rep ho (by omega)];refine⟨⟨by omega,by omega⟩,by omega,⟨k+1,o++[a[k]+1000000000-c-b[k]],1,by omega,by simp[ho],by rw[show a.length-k-1=a.length-(k+1)by omega];rfl,lo.append (Limbs.cons (by omega) Limbs.nil),by omega,minus_step hkx ho hv (by have:=hgd;omega)⟩,?_⟩;simp only[nth,toI];omega
  ·have hgd:b.getD k 0=0:=getD_ge (by omega);refine brd (fun h3=>?_) (fun h3=>?_)
   ·have hw2:IntKind.wrap .u32 (((a[k]+1000000000-c:Nat):Int)-1000000000)=((a[k]-c:Nat):Int):=by rw[u32w];omega
    rw[hw2,upd_raw (by simp[ho];omega),set_rep ho (by omega)];refine⟨⟨by omega,by omega⟩,by omega,⟨k+1,o++[a[k]-c],0,by omega,by simp[ho],by rw[show a.length-k-1=a.length-(k+1)by omega];rfl,lo.append (Limbs.cons (by omega) Limbs.nil),by omega,minus_step hkx ho hv (by have:=hgd;omega)⟩,?_⟩;simp only[nth,toI];omega
   ·rw[upd_raw (by simp[ho];omega),set_rep ho (by omega)];refine⟨⟨by omega,by omega⟩,by omega,⟨k+1,o++[a[k]+1000000000-c],1,by omega,by simp[ho],by rw[show a.length-k-1=a.length-(k+1)by omega];rfl,lo.append (Limbs.cons (by omega) Limbs.nil),by omega,minus_step hkx ho hv (by have:=hgd;omega)⟩,?_⟩;simp only[nth,toI];omega
 ·have hkx:k=a.length:=by omega
  subst hkx;rw[List.take_length]at hv;rw[Nat.sub_self,List.replicate_zero,List.append_nil];have h2:=val_lt lo;rw[ho]at h2;have h3:val b=val (b.take a.length)+1000000000^(b.take a.length).length*val (b.drop a.length):=by rw[←val_append,List.take_append_drop]
  have h4:=val_lt ha;have h5:val (b.take a.length)=val b:=by
   rcases Nat.lt_or_ge b.length a.length with hl|hl
   ·rw[List.take_of_length_le (by omega)]
   ·rw[List.length_take,Nat.min_eq_left hl]at h3;rcases Nat.eq_zero_or_pos (val (b.drop a.length))with h6|h6
    ·rw[h6]at h3;omega
    ·have:=Nat.mul_le_mul_left (1000000000^a.length) h6;omega
  have h6:c=0:=by
   rcases Nat.eq_zero_or_pos c with h6|h6
   ·exact h6
   ·have:=Nat.mul_le_mul_left (1000000000^a.length) h6;omega
  subst h6;have hg:=qtrim_ok lo (by omega);rw[show val o=val a-val b by omega]at hg;exact⟨_,hg,rfl⟩
set_option maxHeartbeats 1000000 in
theorem qtimes_ok {a b:List Nat} (ha:Limbs a) (hb:Limbs b) (hra:a.length≤536870912) (hrb:b.length≤536870912):
 Gives CC 176 [.c (.sl (raw a)),.c (.sl (raw b))] [.c (.sl (raw (lim (val a*val b))))]:=by
 refine wpF_ok (anns:=ann2
  ⟨[.own 5 68 1,.slot 6 (.int .i64 0)],[],fun _ ds=>∃(i:Nat) (o:List Nat),i≤a.length∧ds=[.sl (raw o),.int .i64 (i:Int)]∧o.length=a.length+b.length∧Limbs o∧(∀j,i+b.length≤j→o.getD j 0=0)∧val o=val (a.take i)*val b,fun ds=>a.length-(toI (nth .undef ds 1)).toNat⟩
  ⟨[.own 5 68 1,.slot 7 (.int .u64 0),.slot 8 (.int .i64 0)],[.slot 6 (.int .i64 0),.own 5 68 1],fun g ds=>∃(i k c:Nat) (o0 o:List Nat),g=[.int .i64 (i:Int),.sl (raw o0)]∧i<a.length∧k≤b.length∧c<1000000000∧ds=[.sl (raw o),.int .u64 (c:Int),.int .i64 (k:Int)]∧o.length=a.length+b.length∧Limbs o∧(∀j,i+b.length≤j→o.getD j 0=0)∧val o+1000000000^(i+k)*c=val o0+1000000000^i*(a.getD i 0*val (b.take k)),fun ds=>b.length-(toI (nth .undef ds 2)).toNat⟩) mixedT Tryz.func176 ?_
 rw[vc_qtimes];simp only[Int.ofNat_eq_natCast,raw_length];have hab:IntKind.wrap .i64 ((a.length:Int)+(b.length:Int))=((a.length+b.length:Nat):Int):=by rw[i64w];omega
 rw[hab,Int.toNat_natCast,raw_replicate];refine⟨⟨by omega,by omega,by unfold room;omega⟩,⟨0,List.replicate (a.length+b.length) 0,by omega,rfl,by simp,fun y hy=>by rw[List.eq_of_mem_replicate hy];omega,fun j _=>by simp[List.getD,List.getElem?_replicate];split<;>rfl,by simp[val_replicate,val]⟩,?_⟩;rintro es n ⟨i,o0,hi,he,hol,lo,hz,hv⟩;simp only[List.cons.injEq,D.int.injEq,D.sl.injEq,true_and,and_true]at he;obtain⟨rfl,rfl⟩:=he;refine brd (fun h1=>?_) (fun h1=>?_)
 ·have hia:i<a.length:=by omega
  have hai:=ha.get hia;refine⟨⟨i,0,0,o0,o0,rfl,hia,by omega,by omega,rfl,hol,lo,hz,by simp[val]⟩,?_⟩;rintro es m k' ⟨i',k,c,o0',o,hg,_,hk,hc,he,hol',lo',hz',hv'⟩;simp only[List.cons.injEq,D.int.injEq,D.sl.injEq,true_and,and_true]at hg he;obtain⟨hi',ho0⟩:=hg;obtain⟨rfl,rfl,rfl⟩:=he;have hi'':i'=i:=by omega
  subst hi'';have ho0:=raw_inj ho0;subst ho0;rw[getD_get hia]at hv';refine brd (fun h2=>?_) (fun h2=>?_)
  ·have hkb:k<b.length:=by omega
   have hbk:=hb.get hkb;have hj:i'+k<o.length:=by omega
   have hoj:=lo'.get hj;have hw:IntKind.wrap .i64 ((i':Int)+(k:Int))=((i'+k:Nat):Int):=by rw[i64w];omega
   have hk1:IntKind.wrap .i64 ((k:Int)+1)=((k+1:Nat):Int):=by rw[i64w];omega
   rw[hw,hk1,Int.toNat_natCast,Int.toNat_natCast,Int.toNat_natCast,raw_length];refine⟨⟨by omega,by omega⟩,_,cut_raw hj,⟨by omega,by omega,raw_len1 hia⟩,_,cut_raw hia,⟨by omega,by omega,raw_len1 hkb⟩,_,cut_raw hkb,by omega,⟨by omega,by omega⟩,by omega,by omega,?_⟩;have hp:a[i']*b[k]≤999999999*999999999:=Nat.mul_le_mul (by omega) (by omega);obtain⟨p,hpe⟩:∃p,p=a[i']*b[k]:=⟨_,rfl⟩;rw[←hpe]at hp;have hpi:(a[i']:Int)*(b[k]:Int)=(p:Int):=by rw[hpe];exact(Int.natCast_mul _ _).symm
   obtain⟨t,hte⟩:∃t,t=o[i'+k]+p+c:=⟨_,rfl⟩;have ht:IntKind.wrap .u64 (IntKind.wrap .u64 ((c:Int)+IntKind.wrap .u64 (o[i'+k]:Int))+IntKind.wrap .u64 (IntKind.wrap .u64 (a[i']:Int)*IntKind.wrap .u64 (b[k]:Int)))=(t:Int):=by rw[u64w (n:=(o[i'+k]:Int)),u64w (n:=(a[i']:Int)),u64w (n:=(b[k]:Int)),hpi,u64w (n:=(p:Int)),u64w (n:=(c:Int)+(o[i'+k]:Int)),u64w];omega
   rw[ht,tmodN,tdivN,u32w (n:=((t%1000000000:Nat):Int)),u64w (n:=((t/1000000000:Nat):Int)),upd_raw hj];refine⟨⟨i',k+1,t/1000000000,o0,o.set (i'+k) (t%1000000000),rfl,hia,by omega,by omega,rfl,by simp[hol'],limbs_set lo' (by omega),fun j hjj=>by rw[getD_set_ne (by omega)];exact hz' j hjj,?_⟩,?_⟩
   ·have h3:=val_set (t%1000000000) hj;rw[getD_get hj]at h3;rw[getD_get hia,val_take_succ,getD_get hkb];have h4:=pow_dist (k:=i'+k) (show t%1000000000+1000000000*(t/1000000000)=t by omega);rw[show i'+(k+1)=i'+k+1 by omega];have h5:1000000000^(i'+k)*t=1000000000^(i'+k)*o[i'+k]+1000000000^(i'+k)*p+1000000000^(i'+k)*c:=by rw[hte,Nat.mul_add,Nat.mul_add]
    have h6:1000000000^i'*(a[i']*(val (b.take k)+1000000000^k*b[k]))=1000000000^i'*(a[i']*val (b.take k))+1000000000^(i'+k)*p:=by rw[Nat.mul_add,Nat.mul_add,hpe,Nat.pow_add];congr 1;simp only[Nat.mul_assoc,Nat.mul_left_comm]
    omega
   ·simp only[nth,toI];omega
  ·have hkb:k=b.length:=by omega
   subst hkb;have hj:i'+b.length<o.length:=by omega
   have hw:IntKind.wrap .i64 ((i':Int)+(b.length:Int))=((i'+b.length:Nat):Int):=by rw[i64w];omega
   have hk1:IntKind.wrap .i64 ((i':Int)+1)=((i'+1:Nat):Int):=by rw[i64w];omega
   rw[hw,hk1,Int.toNat_natCast,raw_length,u32w (n:=(c:Int)),upd_raw hj];refine⟨⟨by omega,by omega⟩,by omega,⟨i'+1,o.set (i'+b.length) c,by omega,rfl,by simp[hol'],limbs_set lo' hc,fun j hjj=>by rw[getD_set_ne (by omega)];exact hz' j (by omega),?_⟩,?_⟩
   ·have h3:=val_set c hj;rw[hz' _ (Nat.le_refl _)]at h3;rw[List.take_length]at hv';rw[val_take_succ,getD_get hia,Nat.add_mul,←hv,Nat.mul_assoc];omega
   ·simp only[nth,toI];omega
 ·have hia:i=a.length:=by omega
  subst hia;rw[List.take_length]at hv;have hg:=qtrim_ok lo (by omega);rw[hv]at hg;exact⟨_,hg,rfl⟩
theorem qby_ok {a:List Nat} {d:Nat} (ha:Limbs a) (hd:d<1000000000) (hra:a.length≤536870912):Gives CC 256 [.c (.sl (raw a)),.c (.int .u32 (d:Int))] [.c (.sl (raw (lim (val a*d))))]:=by
 refine wpF_ok (anns:=fun _=>⟨[],[],fun _ _=>True,fun _=>0⟩) mixedT Tryz.func256 ?_;rw[vc_qby];have h1:=qtrim_ok (l:=[d]) (Limbs.cons hd Limbs.nil) (by simp);have hv:val [d]=d:=by simp[val]
 rw[hv]at h1;have hl:(lim d).length≤536870912:=by have:(lim d).length≤1:=lim_length_le (by omega);omega
 have h2:=qtimes_ok ha (lim_limbs d) hra hl;rw[lim_val]at h2;exact⟨_,h1,_,h2,rfl⟩
theorem qNeg_ok {x:Int} (hx:Sm x):Gives CC 110 [encI x] [encI (-x)]:=by
 refine wpF_ok (anns:=fun _=>⟨[],[],fun _ _=>True,fun _=>0⟩) mixedT Tryz.func110 ?_;have lx:=hx.len;rw[encI_cells' x,vc_qNeg];refine⟨_,_,qsigned_enc (!decide (x<0)) (lim_limbs x.natAbs) (by omega) (z:= -x) ?_,rfl⟩;rw[lim_val];by_cases h:x<0
 ·simp[h];omega
 ·simp[h];omega
omit [Env] in
theorem sum_lim_len {x y n:Nat} (hx:(lim x).length≤n) (hy:(lim y).length≤n):(lim (x+y)).length≤n+1:=by
 refine lim_length_le ?_;have h1:=val_lt (lim_limbs x);have h2:=val_lt (lim_limbs y);rw[lim_val]at h1 h2;have hB:∀{i j:Nat},i≤j→(1000000000:Nat)^i≤1000000000^j:=fun h=>Nat.pow_le_pow_right (by decide) h
 have h3:=hB hx;have h4:=hB hy;rw[Nat.pow_succ];generalize (1000000000:Nat)^n=T at *;omega
theorem qAdd_ok {x y:Int} (hx:Sm x) (hy:Sm y):Gives CC 181 [encI x,encI y] [encI (x+y)]:=by
 refine wpF_ok (anns:=fun _=>⟨[],[],fun _ _=>True,fun _=>0⟩) mixedT Tryz.func181 ?_;have lx:=hx.len;have ly:=hy.len;have lsum:(lim (x.natAbs+y.natAbs)).length≤1073741824:=by have:=sum_lim_len (n:=100000) lx ly;omega
 have ldif:∀{m n:Nat},m≤n→(lim m).length≤(lim n).length:=fun{m n} h=>lim_length_le (Nat.lt_of_le_of_lt h (by have:=val_lt (lim_limbs n);rw[lim_val]at this;exact this))
 rw[encI_cells' x,encI_cells' y,vc_qAdd];have hp:=qplus_ok (lim_limbs x.natAbs) (lim_limbs y.natAbs) (by omega) (by omega);rw[lim_val,lim_val]at hp;have hc:=qcompare_ok (x:=x.natAbs) (y:=y.natAbs) (by omega) (by omega);refine brb (fun h=>?_) (fun h=>?_)
 ·have hs:(x<0)↔(y<0):=by
   have:decide (x<0)=decide (y<0):=by simpa using h
   rw[decide_eq_decide]at this;exact this
  refine⟨_,hp,_,_,qsigned_enc (decide (x<0)) (lim_limbs _) lsum (z:=x+y) ?_,rfl⟩;rw[lim_val];by_cases h1:x<0
  ·have:=hs.1 h1;simp[h1];omega
  ·have:¬y<0:=fun h2=>h1 (hs.2 h2)
   simp[h1];omega
 ·have hs:(x<0)↔¬(y<0):=by
   have h2:¬(decide (x<0)=decide (y<0)):=by simpa using h
   rw[decide_eq_decide]at h2;constructor
   ·intro a b;exact h2 ⟨fun _=>b,fun _=>a⟩
   ·intro b;apply Decidable.byContradiction;intro a;exact h2 ⟨fun c=>absurd c a,fun c=>absurd c b⟩
  refine⟨_,hc,brd (fun h1=>?_) (fun h1=>?_)⟩
  ·have hle:y.natAbs≤x.natAbs:=by
    unfold cmpN at h1;split at h1
    ·omega
    ·omega
   have hm:=qminus_ok (lim_limbs x.natAbs) (lim_limbs y.natAbs) (by omega) (by rw[lim_val,lim_val];exact hle);rw[lim_val,lim_val]at hm;refine⟨_,hm,_,_,qsigned_enc (decide (x<0)) (lim_limbs _) (by have:=ldif (show x.natAbs-y.natAbs≤x.natAbs by omega);omega) (z:=x+y) ?_,rfl⟩;rw[lim_val];by_cases h2:x<0
   ·have:=hs.1 h2;simp[h2];omega
   ·have:y<0:=by apply Decidable.byContradiction;intro h3;exact h2 (hs.2 h3)
    simp[h2];omega
  ·have hle:x.natAbs≤y.natAbs:=by
    unfold cmpN at h1;split at h1
    ·omega
    ·split at h1<;>omega
   have hm:=qminus_ok (lim_limbs y.natAbs) (lim_limbs x.natAbs) (by omega) (by rw[lim_val,lim_val];exact hle);rw[lim_val,lim_val]at hm;refine⟨_,hm,_,_,qsigned_enc (decide (y<0)) (lim_limbs _) (by have:=ldif (show y.natAbs-x.natAbs≤y.natAbs by omega);omega) (z:=x+y) ?_,rfl⟩;rw[lim_val];by_cases h2:y<0
   ·have:¬x<0:=fun h3=>(hs.1 h3) h2
    simp[h2];omega
   ·have:=hs.2 h2;simp[h2];omega
omit [Env] in
theorem sm_neg' {x:Int} (h:Sm x):Sm (-x):=by unfold Sm at *;rw[Int.natAbs_neg];exact h
theorem qSub_ok {x y:Int} (hx:Sm x) (hy:Sm y):Gives CC 180 [encI x,encI y] [encI (x-y)]:=by
 refine wpF_ok (anns:=fun _=>⟨[],[],fun _ _=>True,fun _=>0⟩) mixedT Tryz.func180 ?_;have h1:=qNeg_ok hy;have h2:=qAdd_ok hx (sm_neg' hy);rw[encI_cells' y]at h1;rw[encI_cells' x]at h2;rw[encI_cells' x,encI_cells' y,vc_qSub];exact⟨_,_,h1,_,_,h2,rfl⟩
theorem qMul_ok {x y:Int} (hx:Sm x) (hy:Sm y):Gives CC 107 [encI x,encI y] [encI (x*y)]:=by
 refine wpF_ok (anns:=fun _=>⟨[],[],fun _ _=>True,fun _=>0⟩) mixedT Tryz.func107 ?_;have lx:=hx.len;have ly:=hy.len;have ht:=qtimes_ok (lim_limbs x.natAbs) (lim_limbs y.natAbs) (by omega) (by omega);rw[lim_val,lim_val]at ht;have lp:(lim (x.natAbs*y.natAbs)).length≤1073741824:=by
  have h1:=val_lt (lim_limbs x.natAbs);have h2:=val_lt (lim_limbs y.natAbs);rw[lim_val]at h1 h2;have h3:x.natAbs*y.natAbs<1000000000^((lim x.natAbs).length+(lim y.natAbs).length):=by rw[Nat.pow_add];exact Nat.mul_lt_mul'' h1 h2
  have:=lim_length_le h3;omega
 rw[encI_cells' x,encI_cells' y,vc_qMul];refine⟨_,ht,_,_,qsigned_enc (!(decide (x<0)==decide (y<0))) (lim_limbs _) lp (z:=x*y) ?_,rfl⟩;rw[lim_val];have hm:(x*y).natAbs=x.natAbs*y.natAbs:=Int.natAbs_mul x y;by_cases h1:x<0<;>by_cases h2:y<0
 ·have:=Int.mul_pos_of_neg_of_neg h1 h2;simp[h1,h2];omega
 ·have:x*y≤0:=Int.mul_nonpos_of_nonpos_of_nonneg (by omega) (by omega);simp[h1,h2];omega
 ·have:x*y≤0:=Int.mul_nonpos_of_nonneg_of_nonpos (by omega) (by omega);simp[h1,h2];omega
 ·have:0≤x*y:=Int.mul_nonneg (by omega) (by omega);simp[h1,h2];omega
end Eng
end

section
open Go Go.Proofs Eng
set_option maxRecDepth 1000000
namespace Eng
theorem vc_uunit (Gv:Nat→List A→List A→Prop) (Q:List A→Prop):wpF CC Gv an0 Tryz.f50 [] Q=(∃b es,Gv 49 [aI (1:Int)] [aZ b es]∧Q [aZ b es]):=by kernel_rfl
theorem vc_uOf (Gv:Nat→List A→List A→Prop) (J3:List D→List D→Prop) (p q:Bool) (es fs:List (List D)) (Q:List A→Prop):wpF CC Gv (annJ an0 3 ⟨[.box 2 [.bool false,.slice none 0 0],.box 3 [.bool false,.slice none 0 0]],[.box 2 [.bool false,.slice none 0 0],.box 3 [.bool false,.slice none 0 0]],J3,fun _=>0⟩) Tryz.f58 [.ag [.bool p,.sl es],.ag [.bool q,.sl fs]] Q=((∃i,Gv 109 [aZ q fs] [aI i]∧bB (decide (i<0)) (∃b e1,Gv 110 [aZ p es] [aZ b e1]∧∃b1 e2,Gv 110 [aZ q fs] [aZ b1 e2]∧J3 [D.bool p,D.sl es,D.bool q,D.sl fs] [D.bool b,D.sl e1,D.bool b1,D.sl e2]) (J3 [D.bool p,D.sl es,D.bool q,D.sl fs] [D.bool p,D.sl es,D.bool q,D.sl fs]))∧∀(b:Bool) (e1:List (List D)) (b1:Bool) (e2:List (List D)),J3 [D.bool p,D.sl es,D.bool q,D.sl fs] [D.bool b,D.sl e1,D.bool b1,D.sl e2]→∃b2 es,Gv 111 [aZ b e1,aZ b1 e2] [aZ b2 es]∧∃b3 e3 b4 e4 i,Gv 112 [aZ b e1,aZ b2 es] [aZ b3 e3,aZ b4 e4,aI i]∧∃b e5 b5 e6 i,Gv 112 [aZ b1 e2,aZ b2 es] [aZ b e5,aZ b5 e6,aI i]∧Q [A.ag [D.bool b3,D.sl e3,D.bool b,D.sl e5]]):=by kernel_rfl
theorem vc_uMake (Gv:Nat→List A→List A→Prop) (p q:Bool) (es fs:List (List D)) (Q:List A→Prop):wpF CC Gv an0 Tryz.f422 [.ag [.bool p,.sl es],.ag [.bool q,.sl fs]] Q=(∃i,Gv 109 [aZ q fs] [aI i]∧bB (i==0) (Q [A.ag [D.bool false,D.sl [],D.bool false,D.sl []],aI (6:Int)]) (∃x,Gv 58 [aZ p es,aZ q fs] [aR x]∧Q [aR x,aI (0:Int)])):=by kernel_rfl
theorem vc_uFromInt64 (Gv:Nat→List A→List A→Prop) (n:Int) (Q:List A→Prop):wpF CC Gv an0 Tryz.f25 [.c (.int .i64 n)] Q=(∃b es,Gv 49 [aI n] [aZ b es]∧∃b1 e1,Gv 50 [] [aZ b1 e1]∧Q [A.ag [D.bool b,D.sl es,D.bool b1,D.sl e1]]):=by kernel_rfl
theorem vc_uSign (Gv:Nat→List A→List A→Prop) (p q:Bool) (es fs:List (List D)) (Q:List A→Prop):wpF CC Gv an0 Tryz.f75 [.ag [.bool p,.sl es,.bool q,.sl fs]] Q=(∃i,Gv 109 [aZ p es] [aI i]∧Q [aI i]):=by kernel_rfl
theorem vc_uNeg (Gv:Nat→List A→List A→Prop) (p q:Bool) (es fs:List (List D)) (Q:List A→Prop):wpF CC Gv an0 Tryz.f130 [.ag [.bool p,.sl es,.bool q,.sl fs]] Q=(∃b e1,Gv 110 [aZ p es] [aZ b e1]∧Q [A.ag [D.bool b,D.sl e1,D.bool q,D.sl fs]]):=by kernel_rfl
theorem vc_uAdd (Gv:Nat→List A→List A→Prop) (p q r s:Bool) (es fs gs hs:List (List D)) (Q:List A→Prop):wpF CC Gv an0 Tryz.f128 [.ag [.bool p,.sl es,.bool q,.sl fs],.ag [.bool r,.sl gs,.bool s,.sl hs]] Q=(∃b e1,Gv 107 [aZ p es,aZ s hs] [aZ b e1]∧∃b1 es,Gv 107 [aZ r gs,aZ q fs] [aZ b1 es]∧∃b2 e2,Gv 181 [aZ b e1,aZ b1 es] [aZ b2 e2]∧∃b es,Gv 107 [aZ q fs,aZ s hs] [aZ b es]∧∃x,Gv 58 [aZ b2 e2,aZ b es] [aR x]∧Q [aR x]):=by kernel_rfl
theorem vc_uSub (Gv:Nat→List A→List A→Prop) (p q r s:Bool) (es fs gs hs:List (List D)) (Q:List A→Prop):wpF CC Gv an0 Tryz.f129 [.ag [.bool p,.sl es,.bool q,.sl fs],.ag [.bool r,.sl gs,.bool s,.sl hs]] Q=(∃x,Gv 130 [A.ag [D.bool r,D.sl gs,D.bool s,D.sl hs]] [aR x]∧∃x1,Gv 128 [A.ag [D.bool p,D.sl es,D.bool q,D.sl fs],aR x] [aR x1]∧Q [aR x1]):=by kernel_rfl
theorem vc_uCmp (Gv:Nat→List A→List A→Prop) (p q r s:Bool) (es fs gs hs:List (List D)) (Q:List A→Prop):wpF CC Gv an0 Tryz.f54 [.ag [.bool p,.sl es,.bool q,.sl fs],.ag [.bool r,.sl gs,.bool s,.sl hs]] Q=(∃b e1,Gv 107 [aZ p es,aZ s hs] [aZ b e1]∧∃b1 es,Gv 107 [aZ r gs,aZ q fs] [aZ b1 es]∧∃i,Gv 106 [aZ b e1,aZ b1 es] [aI i]∧Q [aI i]):=by kernel_rfl
theorem vc_uMul (Gv:Nat→List A→List A→Prop) (p q r s:Bool) (es fs gs hs:List (List D)) (Q:List A→Prop):wpF CC Gv an0 Tryz.f127 [.ag [.bool p,.sl es,.bool q,.sl fs],.ag [.bool r,.sl gs,.bool s,.sl hs]] Q=(∃b e1,Gv 107 [aZ p es,aZ r gs] [aZ b e1]∧∃b1 es,Gv 107 [aZ q fs,aZ s hs] [aZ b1 es]∧∃x,Gv 58 [aZ b e1,aZ b1 es] [aR x]∧Q [aR x]):=by kernel_rfl
theorem vc_uDiv (Gv:Nat→List A→List A→Prop) (p q r s:Bool) (es fs gs hs:List (List D)) (Q:List A→Prop):wpF CC Gv an0 Tryz.f340 [.ag [.bool p,.sl es,.bool q,.sl fs],.ag [.bool r,.sl gs,.bool s,.sl hs]] Q=(∃b e1,Gv 107 [aZ p es,aZ s hs] [aZ b e1]∧∃b1 es,Gv 107 [aZ q fs,aZ r gs] [aZ b1 es]∧∃x i,Gv 422 [aZ b e1,aZ b1 es] [aR x,aI i]∧Q [aR x,aI i]):=by kernel_rfl
end Eng
end

section
namespace Eng
open Go Go.Proofs
set_option maxRecDepth 100000
variable [Env]
def PartsOk:Prop:=∀x y:Nat,y≠0→(lim x).length≤100000→(lim y).length≤100000→
 Gives CC 178 [.c (.sl (raw (lim x))),.c (.sl (raw (lim y)))] [.c (.sl (raw (lim (x/y)))),.c (.sl (raw (lim (x%y))))]
omit [Env] in
theorem ldif {m n:Nat} (h:m≤n):(lim m).length≤(lim n).length:=
 lim_length_le (Nat.lt_of_le_of_lt h (by have:=val_lt (lim_limbs n);rw[lim_val]at this;exact this))
theorem qGCD_ok (hd:PartsOk) {x y:Int} (hx:Sm x) (hy:Sm y):Gives CC 111 [encI x,encI y] [encI (Nat.gcd x.natAbs y.natAbs:Nat)]:=by
 generalize hG:Nat.gcd x.natAbs y.natAbs=G;refine wpF_ok (anns:=ann2
  ⟨[.slot 5 (.slice none 0 0),.slot 6 (.slice none 0 0)],[],fun _ ds=>∃m n:Nat,ds=[.sl (raw (lim m)),.sl (raw (lim n))]∧Nat.gcd m n=G∧m<topN∧n<topN,fun ds=>valD (toL (nth .undef ds 1))⟩
  ⟨[.slot 9 (.int .u64 0),.slot 10 (.int .u64 0)],[],fun _ ds=>∃u v:Nat,ds=[.int .u64 (u:Int),.int .u64 (v:Int)]∧Nat.gcd u v=G∧u<1000000000000000000∧v<1000000000000000000,fun ds=>(toI (nth .undef ds 1)).toNat⟩) mixedT Tryz.func111 ?_
 rw[encI_cells' x,encI_cells' y,vc_qGCD];simp only[Int.ofNat_eq_natCast];refine⟨⟨x.natAbs,y.natAbs,rfl,hG,hx,hy⟩,?_⟩;rintro es fs ⟨m,n,he,hg,hm,hn⟩;simp only[List.cons.injEq,D.sl.injEq,and_true]at he;obtain⟨rfl,rfl⟩:=he;have lm:=(smN.2 hm).len;have ln:=(smN.2 hn).len;rw[Int.natAbs_natCast]at lm ln;rw[raw_length,raw_length];have hstep:0<n→∃es_2 es_3,Gives CC 178 [A.c (D.sl (raw (lim m))),A.c (D.sl (raw (lim n)))] [A.c (D.sl es_2),A.c (D.sl es_3)]∧
  (∃m' n':Nat,[D.sl (raw (lim n)),D.sl es_3]=[.sl (raw (lim m')),.sl (raw (lim n'))]∧Nat.gcd m' n'=G∧m'<topN∧n'<topN)∧
  valD (toL (nth .undef [D.sl (raw (lim n)),D.sl es_3] 1))<valD (toL (nth .undef [D.sl (raw (lim m)),D.sl (raw (lim n))] 1)):=by
  intro hn0;have hmod:=Nat.mod_lt m hn0;refine⟨_,_,hd m n (by omega) lm ln,⟨n,m%n,rfl,?_,hn,by omega⟩,?_⟩
  ·rw[←hg,Nat.gcd_comm n,←Nat.gcd_rec,Nat.gcd_comm]
  ·simp only[nth,toL,valD_raw,lim_val];exact hmod
 have hsmall:∀{k:Nat},¬((lim k).length:Int)>2→k<1000000000000000000:=by
  intro k hk;have h1:=val_lt (lim_limbs k);rw[lim_val]at h1;have h2:1000000000^(lim k).length≤1000000000^2:=Nat.pow_le_pow_right (by omega) (by omega);have h3:(1000000000:Nat)^2=1000000000000000000:=by decide
  omega
 have hzero:n=0→∃b es_2,Gives CC 94 [A.c (D.bool false),A.c (D.sl (raw (lim m)))] [A.ag [D.bool b,D.sl es_2]]∧[A.ag [D.bool b,D.sl es_2]]=[encI (G:Int)]:=by intro hn0;subst hn0;rw[Nat.gcd_zero_right]at hg;subst hg;exact⟨_,_,qsigned_enc false (lim_limbs m) (by omega) (z:=(m:Int)) (by simp[lim_val]),rfl⟩
 have hend:m<1000000000000000000→n<1000000000000000000→
  ∃a,Gives CC 179 [A.c (D.sl (raw (lim m)))] [A.c (D.int IntKind.u64 a)]∧∃b,Gives CC 179 [A.c (D.sl (raw (lim n)))] [A.c (D.int IntKind.u64 b)]∧
   (∃u v:Nat,[D.int IntKind.u64 a,D.int IntKind.u64 b]=[.int .u64 (u:Int),.int .u64 (v:Int)]∧Nat.gcd u v=G∧u<1000000000000000000∧v<1000000000000000000)∧
   ∀(n n_2:Int),(∃u v:Nat,[D.int IntKind.u64 n,D.int IntKind.u64 n_2]=[.int .u64 (u:Int),.int .u64 (v:Int)]∧Nat.gcd u v=G∧u<1000000000000000000∧v<1000000000000000000)→
    br (toB (D.bool (decide (n_2>(0:Int)))))
     (n_2≠(0:Int)∧
      (∃u v:Nat,[D.int IntKind.u64 n_2,D.int IntKind.u64 (Int.tmod n n_2)]=[.int .u64 (u:Int),.int .u64 (v:Int)]∧Nat.gcd u v=G∧u<1000000000000000000∧v<1000000000000000000)∧
       (toI (nth .undef [D.int IntKind.u64 n_2,D.int IntKind.u64 (Int.tmod n n_2)] 1)).toNat<(toI (nth .undef [D.int IntKind.u64 n,D.int IntKind.u64 n_2] 1)).toNat)
     (∃es,Gives CC 95 [A.c (D.int IntKind.u64 n)] [A.c (D.sl es)]∧
      ∃b es_2,Gives CC 94 [A.c (D.bool false),A.c (D.sl es)] [A.ag [D.bool b,D.sl es_2]]∧[A.ag [D.bool b,D.sl es_2]]=[encI (G:Int)]):=by
  intro sm sn;have h3:(1000000000:Nat)^2=1000000000000000000:=by decide
  have g1:=qshort_ok (lim_limbs m) (lim_length_le (by omega));have g2:=qshort_ok (lim_limbs n) (lim_length_le (by omega));rw[lim_val]at g1 g2;refine⟨_,g1,_,g2,⟨m,n,rfl,hg,sm,sn⟩,?_⟩;rintro a b ⟨u,v,he,hg',hu,hv⟩;simp only[List.cons.injEq,D.int.injEq,true_and,and_true]at he;obtain⟨rfl,rfl⟩:=he;refine brd (fun h2=>?_) (fun h2=>?_)
  ·have hv0:0<v:=by omega
   have e2:Int.tmod (u:Int) (v:Int)=((u%v:Nat):Int):=by rw[Int.tmod_eq_emod_of_nonneg (by omega)];rfl
   have hmod:=Nat.mod_lt u hv0;rw[e2];refine⟨by omega,⟨v,u%v,rfl,by rw[←hg',Nat.gcd_comm v,←Nat.gcd_rec,Nat.gcd_comm],hv,by omega⟩,?_⟩;simp only[nth,toI,Int.toNat_natCast];exact hmod
  ·have hv0:v=0:=by omega
   subst hv0;rw[Nat.gcd_zero_right]at hg';subst hg';have:(lim u).length≤2:=lim_length_le (by omega);exact⟨_,qlimbs_ok (by omega),_,_,qsigned_enc false (lim_limbs u) (by omega) (z:=(u:Int)) (by simp[lim_val]),rfl⟩
 refine brd (fun h=>?_) (fun h=>?_)
 ·have hn0:0<n:=lim_len_pos.1 (by omega);refine brd (fun h1=>hstep hn0) (fun h1=>brd (fun h2=>hstep hn0) (fun h2=>brb (fun h3=>?_) (fun _=>hend (hsmall h1) (hsmall h2))));have:((lim n).length:Int)=0:=by simpa using h3
  omega
 ·have hn0:n=0:=by
   rcases Nat.eq_zero_or_pos n with h0|h0
   ·exact h0
   ·have:=lim_len_pos.2 h0;omega
  refine brb (fun _=>hzero hn0) (fun h3=>?_);subst hn0;simp[lim_zero]at h3
theorem qDivMod_ok (hd:PartsOk) {x y:Int} (hx:Sm x) (hy:Sm y) (hy0:0<y):Gives CC 112 [encI x,encI y] [encI (x/y),encI (x%y),.c (.int .i64 0)]:=by
 refine wpF_ok (anns:=fun _=>⟨[],[],fun _ _=>True,fun _=>0⟩) mixedT Tryz.func112 ?_;have lx:=hx.len;have ly:=hy.len;have hyn:y.natAbs≠0:=by omega
 have hlp:0<(lim y.natAbs).length:=lim_len_pos.2 (by omega);have h1:=hd x.natAbs y.natAbs hyn lx ly;have hqs:(x/y).natAbs≤x.natAbs+1:=by have:=Int.natAbs_ediv_le_natAbs x y;omega
 rw[encI_cells' x,encI_cells' y,vc_qDivMod];simp only[Int.ofNat_eq_natCast];obtain⟨a,ha⟩:∃a:Nat,x.natAbs=a:=⟨_,rfl⟩;obtain⟨b,hb⟩:∃b:Nat,y=(b:Int):=⟨y.natAbs,by omega⟩;have hbn:y.natAbs=b:=by omega
 have hb0:0<b:=by omega
 rw[ha,hbn]at h1;rw[ha]at lx;rw[hbn]at ly;have hdm:=Nat.div_add_mod a b;have hml:=Nat.mod_lt a hb0;have lq:(lim (a/b)).length≤100000:=Nat.le_trans (ldif (Nat.div_le_self a b)) lx;have lr:(lim (a%b)).length≤100000:=Nat.le_trans (ldif (Nat.mod_le a b)) lx;refine brb (fun h=>?_) (fun _=>?_)
 ·rw[raw_length]at h;have:((lim y.natAbs).length:Int)=0:=by simpa using h
  omega
 have hyf:decide (y<0)=false:=decide_eq_false (by omega);rw[hyf];by_cases hx0:x<0
 ·have hxt:decide (x<0)=true:=decide_eq_true hx0;rw[hxt,ha,hbn];have hxa:x= -(a:Int):=by omega
  have gq:=qsigned_enc true (lim_limbs (a/b)) (by omega) (z:= -((a/b:Nat):Int)) (by rw[lim_val];rfl);have gr:=qsigned_enc true (lim_limbs (a%b)) (by omega) (z:= -((a%b:Nat):Int)) (by rw[lim_val];rfl);refine⟨_,_,h1,_,_,gq,_,_,gr,?_⟩;rw[raw_length];refine brd (fun h=>brb (fun h2=>?_) (fun h2=>?_)) (fun h=>?_)
  ·have hr0:0<a%b:=lim_len_pos.1 (by omega);have g1:=qFromInt64_ok (n:=1) (by omega) (by omega);have hq:(a/b)<topN:=Nat.lt_of_le_of_lt (Nat.div_le_self _ _) (ha▸hx);have sq:Sm (-((a/b:Nat):Int)):=by unfold Sm;rw[Int.natAbs_neg,Int.natAbs_natCast];exact hq
   have sr:Sm (-((a%b:Nat):Int)):=by unfold Sm;rw[Int.natAbs_neg,Int.natAbs_natCast];exact Nat.lt_trans hml (hbn▸hy)
   have gs:=qSub_ok sq sm_one;have ga:=qAdd_ok sr hy;have ga2:Gives CC 181 [encI (-((a%b:Nat):Int)),.ag [.bool false,.sl (raw (lim b))]] [encI (-((a%b:Nat):Int)+y)]:=by
    have e0:encI y= .ag [.bool false,.sl (raw (lim b))]:=by rw[encI_cells' y,hyf,hbn]
    rw[e0]at ga;exact ga
   refine⟨_,_,g1,_,_,gs,_,_,ga2,?_⟩;have e1:x/y= -((a/b:Nat):Int)-1∧x%y= -((a%b:Nat):Int)+y:=by
    have:=Int.ediv_emod_unique (a:=x) (b:=y) (r:= -((a%b:Nat):Int)+y) (q:= -((a/b:Nat):Int)-1) hy0;refine this.2 ⟨?_,by omega,by omega⟩;rw[hxa,hb];have h5:(b:Int)*(-((a/b:Nat):Int)-1)= -((b*(a/b):Nat):Int)-b:=by rw[Int.mul_sub,Int.mul_neg,Int.mul_one,Int.natCast_mul]
    rw[h5];omega
   rw[e1.1,e1.2];rfl
  ·simp at h2
  ·have hr0:a%b=0:=by
    rcases Nat.eq_zero_or_pos (a%b)with h0|h0
    ·exact h0
    ·have:=lim_len_pos.2 h0;omega
   have e1:x/y= -((a/b:Nat):Int)∧x%y= -((a%b:Nat):Int):=by have:=Int.ediv_emod_unique (a:=x) (b:=y) (r:= -((a%b:Nat):Int)) (q:= -((a/b:Nat):Int)) hy0;refine this.2 ⟨?_,by omega,by omega⟩;rw[hxa,hb,Int.mul_neg,←Int.natCast_mul];omega
   rw[e1.1,e1.2];rfl
 ·have hxf:decide (x<0)=false:=decide_eq_false hx0;rw[hxf,ha,hbn];have hxa:x=(a:Int):=by omega
  have gq:=qsigned_enc false (lim_limbs (a/b)) (by omega) (z:=((a/b:Nat):Int)) (by rw[lim_val];rfl);have gr:=qsigned_enc false (lim_limbs (a%b)) (by omega) (z:=((a%b:Nat):Int)) (by rw[lim_val];rfl);refine⟨_,_,h1,_,_,gq,_,_,gr,?_⟩;have e1:x/y=((a/b:Nat):Int)∧x%y=((a%b:Nat):Int):=by rw[hxa,hb];exact⟨rfl,rfl⟩
  refine brd (fun h=>brb (fun h2=>?_) (fun h2=>?_)) (fun h=>?_)
  ·simp at h2
  ·rw[e1.1,e1.2];rfl
  ·rw[e1.1,e1.2];rfl
theorem uunit_ok:Gives CC 50 [] [encI 1]:=by
 refine wpF_ok (anns:=fun _=>⟨[],[],fun _ _=>True,fun _=>0⟩) mixedT Tryz.func50 ?_;rw[vc_uunit];exact⟨_,_,qFromInt64_ok (n:=1) (by omega) (by omega),rfl⟩
omit [Env] in
theorem cI_cells (z:Int):cI z=[.bool (decide (z<0)),.sl (raw (lim z.natAbs))]:=rfl
theorem uOf_ok (hd:PartsOk) {x y:Int} (hx:Sm x) (hy:Sm y) (hy0:y≠0):Gives CC 58 [encI x,encI y] [encR (Rat.divInt x y)]:=by
 refine wpF_ok (anns:=annJ an0 3 ⟨[.box 2 [.bool false,.slice none 0 0],.box 3 [.bool false,.slice none 0 0]],[.box 2 [.bool false,.slice none 0 0],.box 3 [.bool false,.slice none 0 0]],fun _ ds=>∃u v:Int,ds=cI u++cI v∧Sm u∧Sm v∧0<v∧Rat.divInt u v=Rat.divInt x y,fun _=>0⟩) mixedT Tryz.func58 ?_;rw[encI_cells' x,encI_cells' y,vc_uOf];have hS:=qSign_ok y;rw[encI_cells' y]at hS;have hnx:=qNeg_ok hx;have hny:=qNeg_ok hy;rw[encI_cells' x,encI_cells']at hnx;rw[encI_cells' y,encI_cells']at hny;refine⟨⟨_,hS,brd (fun h=>?_) (fun h=>?_)⟩,?_⟩
 ·have hy1:y<0:=by
   unfold sgn at h;split at h
   ·assumption
   ·split at h<;>omega
  exact⟨_,_,hnx,_,_,hny, -x, -y,rfl,sm_neg hx,sm_neg hy,by omega,by rw[Rat.neg_divInt_neg]⟩
 ·have hy1:0<y:=by
   unfold sgn at h;split at h
   ·omega
   ·omega
  exact⟨x,y,rfl,hx,hy,hy1,rfl⟩
 ·rintro b1 es1 b2 es2 ⟨u,v,he,hu,hv,hv0,hr⟩;simp only[cI_cells,List.cons_append,List.nil_append,List.cons.injEq,D.bool.injEq,D.sl.injEq,and_true]at he;obtain⟨rfl,rfl,rfl,rfl⟩:=he;obtain⟨g,hg⟩:∃g:Nat,g=Nat.gcd u.natAbs v.natAbs:=⟨_,rfl⟩;have hgp:0<g:=by rw[hg];exact Nat.gcd_pos_of_pos_right _ (by omega)
  have hgs:Sm (g:Int):=smN.2 (by rw[hg];exact Nat.lt_of_le_of_lt (Nat.gcd_le_right _ (by omega)) hv);have g1:=qGCD_ok hd hu hv;rw[←hg]at g1;have g2:=qDivMod_ok hd hu hgs (by omega);have g3:=qDivMod_ok hd hv hgs (by omega);refine⟨_,_,g1,_,_,_,_,_,g2,_,_,_,_,_,g3,?_⟩;rw[←hr,encR_divInt hv0,←hg];rfl
theorem uMake_ok (hd:PartsOk) {x y:Int} (hx:Sm x) (hy:Sm y):
 Gives CC 422 [encI x,encI y] (if y=0 then [.ag [.bool false,.sl [],.bool false,.sl []],.c (.int .i64 6)]else [encR (Rat.divInt x y),.c (.int .i64 0)]):=by
 refine wpF_ok (anns:=fun _=>⟨[],[],fun _ _=>True,fun _=>0⟩) mixedT Tryz.func422 ?_;rw[encI_cells x,encI_cells y,vc_uMake];refine⟨_,qSign_ok y,?_⟩;refine brb (fun h=>?_) (fun h=>?_)
 ·have:y=0:=by
   unfold sgn at h;split at h
   ·simp at h
   ·split at h
    ·simp at h
    ·omega
  rw[if_pos this]
 ·have:y≠0:=by rintro rfl;simp[sgn]at h
  rw[if_neg this];exact⟨q4 _,uOf_ok hd hx hy this,rfl⟩
theorem uSign_ok (r:Rat):Gives CC 75 [encR r] [.c (.int .i64 (sgn r.num))]:=by
 refine wpF_ok (anns:=fun _=>⟨[],[],fun _ _=>True,fun _=>0⟩) mixedT Tryz.func75 ?_;rw[encR_cells,vc_uSign];exact⟨_,qSign_ok r.num,rfl⟩
theorem uNeg_ok {x:Rat} (hx:Sr x):Gives CC 130 [encR x] [encR (-x)]:=by
 refine wpF_ok (anns:=fun _=>⟨[],[],fun _ _=>True,fun _=>0⟩) mixedT Tryz.func130 ?_;rw[encR_cells,vc_uNeg];refine⟨_,_,qNeg_ok hx.1.sm,?_⟩;rw[encR_cells,Rat.neg_num];have:(-x).den=x.den:=rfl;rw[this]
theorem uAdd_ok (hd:PartsOk) {x y:Rat} (hx:Sr x) (hy:Sr y):Gives CC 128 [encR x,encR y] [encR (x+y)]:=by
 refine wpF_ok (anns:=fun _=>⟨[],[],fun _ _=>True,fun _=>0⟩) mixedT Tryz.func128 ?_;rw[encR_cells,encR_cells,vc_uAdd];have px:=den_pos x;have py:=den_pos y;have hp:=Int.mul_pos px py;have e0:x+y=Rat.divInt (x.num*y.den+y.num*x.den) (x.den*y.den):=by rw[←Rat.divInt_add_divInt _ _ (by omega) (by omega),Rat.num_divInt_den,Rat.num_divInt_den]
 refine⟨_,_,qMul_ok hx.1.sm hy.2.sm,_,_,qMul_ok hy.1.sm hx.2.sm,_,_,qAdd_ok (hx.1.mul hy.2) (hy.1.mul hx.2),_,_,qMul_ok hx.2.sm hy.2.sm,q4 _,uOf_ok hd (hx.1.mul_add hy.2 hy.1 hx.2) (hx.2.mul hy.2) (by omega),?_⟩;rw[e0];rfl
theorem uSub_ok (hd:PartsOk) {x y:Rat} (hx:Sr x) (hy:Sr y):Gives CC 129 [encR x,encR y] [encR (x-y)]:=by
 refine wpF_ok (anns:=fun _=>⟨[],[],fun _ _=>True,fun _=>0⟩) mixedT Tryz.func129 ?_;rw[encR_cells,encR_cells,vc_uSub];refine⟨q4 _,uNeg_ok hy,q4 _,uAdd_ok hd hx hy.neg,?_⟩;rw[Rat.sub_eq_add_neg];rfl
theorem uCmp_ok {x y:Rat} (hx:Sr x) (hy:Sr y):Gives CC 54 [encR x,encR y] [.c (.int .i64 (cmpR x y))]:=by
 refine wpF_ok (anns:=fun _=>⟨[],[],fun _ _=>True,fun _=>0⟩) mixedT Tryz.func54 ?_;rw[encR_cells,encR_cells,vc_uCmp];rw[cmpR_eq];exact⟨_,_,qMul_ok hx.1.sm hy.2.sm,_,_,qMul_ok hy.1.sm hx.2.sm,_,qCmp_ok (hx.1.mul hy.2) (hy.1.mul hx.2),rfl⟩
theorem uMul_ok (hd:PartsOk) {x y:Rat} (hx:Sr x) (hy:Sr y):Gives CC 127 [encR x,encR y] [encR (x*y)]:=by
 refine wpF_ok (anns:=fun _=>⟨[],[],fun _ _=>True,fun _=>0⟩) mixedT Tryz.func127 ?_;rw[encR_cells,encR_cells,vc_uMul];have px:=den_pos x;have py:=den_pos y;have:=Int.mul_pos px py;refine⟨_,_,qMul_ok hx.1.sm hy.1.sm,_,_,qMul_ok hx.2.sm hy.2.sm,q4 _,uOf_ok hd (hx.1.mul hy.1) (hx.2.mul hy.2) (by omega),?_⟩;have e:x*y=Rat.divInt (x.num*y.num) (x.den*y.den):=by rw[←Rat.divInt_mul_divInt,Rat.num_divInt_den,Rat.num_divInt_den]
 rw[e];rfl
theorem uDiv_ok (hd:PartsOk) {x y:Rat} (hx:Sr x) (hy:Sr y):
 Gives CC 340 [encR x,encR y] (if y=0 then [.ag [.bool false,.sl [],.bool false,.sl []],.c (.int .i64 6)]else [encR (x/y),.c (.int .i64 0)]):=by
 refine wpF_ok (anns:=fun _=>⟨[],[],fun _ _=>True,fun _=>0⟩) mixedT Tryz.func340 ?_;rw[encR_cells,encR_cells,vc_uDiv];have px:=den_pos x;have py:=den_pos y;have hm:=uMake_ok hd (hx.1.mul hy.2) (hx.2.mul hy.1);by_cases hn:y.num=0
 ·have:y=0:=Rat.num_eq_zero.1 hn;rw[if_pos this];rw[if_pos (by rw[hn,Int.mul_zero])]at hm;exact⟨_,_,qMul_ok hx.1.sm hy.2.sm,_,_,qMul_ok hx.2.sm hy.1.sm,⟨false,[],false,[]⟩,_,hm,rfl⟩
 ·have:y≠0:=fun h=>hn (Rat.num_eq_zero.2 h)
  rw[if_neg this];have h0:(x.den:Int)*y.num≠0:=Int.mul_ne_zero (by omega) hn;rw[if_neg h0]at hm;refine⟨_,_,qMul_ok hx.1.sm hy.2.sm,_,_,qMul_ok hx.2.sm hy.1.sm,q4 _,_,hm,?_⟩;have e:x/y=Rat.divInt (x.num*y.den) (x.den*y.num):=by rw[Rat.div_def,←Rat.divInt_mul_divInt,Rat.num_divInt_den,←Rat.inv_divInt,Rat.num_divInt_den]
  rw[e];rfl
theorem uFromInt64_ok {n:Int} (h1: -9223372036854775808≤n) (h2:n<9223372036854775808):Gives CC 25 [.c (.int .i64 n)] [encR (n:Rat)]:=by
 refine wpF_ok (anns:=fun _=>⟨[],[],fun _ _=>True,fun _=>0⟩) mixedT Tryz.func25 ?_;rw[vc_uFromInt64];refine⟨_,_,qFromInt64_ok h1 h2,_,_,uunit_ok,?_⟩;rw[encR_cells,Rat.num_intCast,Rat.den_intCast];rfl
end Eng
end

section
namespace Eng
open Go Go.Proofs
set_option maxRecDepth 100000
variable [Env]
omit [Env] in
theorem lraw_inj {a b:Nat} (h:raw (lim a)=raw (lim b)):a=b:=by
 have:=raw_inj h;rw[←lim_val a,←lim_val b,this]
def annP (a b c j4 j18 j20 j23:Ann):Nat→Ann:=annJ (annJ (annJ (annJ (ann3 a b c) 4 j4) 18 j18) 20 j20) 23 j23
omit [Env] in
theorem lim_mul_len {x s:Nat} (hs:s<1000000000):(lim (x*s)).length≤(lim x).length+1:=by
 apply lim_length_le;have h:=val_lt (lim_limbs x);rw[lim_val]at h;rw[Nat.pow_succ]
 calc x*s≤x*1000000000:=Nat.mul_le_mul_left _ (by omega)
  _<1000000000^(lim x).length*1000000000:=Nat.mul_lt_mul_of_pos_right h (by omega)
omit [Env] in
theorem scale_of {y:Nat} (hy:y≠0):∃d s:Nat,0<d∧d<1000000000∧(∀h:(lim y).length-1<(lim y).length,(lim y)[(lim y).length-1]=d)∧0<s∧s=1000000000/(d+1)∧s<1000000000:=by
 have hl:0<(lim y).length:=lim_len_pos.2 (by omega);have hlt:(lim y).length-1<(lim y).length:=by omega
 obtain⟨d,hd⟩:∃d,(lim y)[(lim y).length-1]=d:=⟨_,rfl⟩;have hd1:d<1000000000:=hd▸(lim_limbs y).get hlt;have hd0:0<d:=by
  rcases Nat.eq_zero_or_pos d with h0|h0
  ·exfalso;rcases lim_last y with h|h
   ·rw[h]at hl;simp at hl
   ·apply h;rw[List.getLast?_eq_getElem?,List.getElem?_eq_getElem hlt,hd,h0]
  ·exact h0
 obtain⟨_,hs2,hs3⟩:=scale_half hd0 hd1 (s:=1000000000/(d+1)) rfl;refine⟨d,1000000000/(d+1),hd0,hd1,fun _=>hd,by omega,rfl,?_⟩;generalize 1000000000/(d+1)=s at *;have:s*2≤s*(d+1):=Nat.mul_le_mul_left _ (by omega);omega
omit [Env] in
theorem top_of {V p:Nat} (hp:(lim V).length=p+1):∃v1:Nat,v1=V/1000000000^p∧0<v1∧v1<1000000000∧(∀h:p<(lim V).length,(lim V)[p]=v1)∧v1*1000000000^p≤V∧V<1000000000^(p+1):=by
 have hB:V<1000000000^(p+1):=by have h:=val_lt (lim_limbs V);rw[lim_val,hp]at h;exact h
 have hP:1000000000^p≤V:=by
  rcases Nat.lt_or_ge V (1000000000^p)with h|h
  ·have:=lim_length_le h;omega
  ·exact h
 have hpp:0<1000000000^p:=Nat.pow_pos (by omega);have hv:V/1000000000^p<1000000000:=by rw[Nat.div_lt_iff_lt_mul hpp,Nat.mul_comm,←Nat.pow_succ];exact hB
 refine⟨V/1000000000^p,rfl,Nat.div_pos hP hpp,hv,fun h=>?_,Nat.div_mul_le_self _ _,hB⟩;have h2:=lim_getD p V;rw[Nat.mod_eq_of_lt hv]at h2;rw[←h2];simp[List.getD,h]
omit [Env] in
theorem high_lt {T V p:Nat} (h:T<1000000000*V) (hV:V<1000000000^(p+1)):T/1000000000^(p+1)<1000000000∧T/1000000000^p<1000000000000000000:=by
 have h1:T<1000000000*1000000000^(p+1):=Nat.lt_trans h (Nat.mul_lt_mul_of_pos_left hV (by omega));constructor
 ·rw[Nat.div_lt_iff_lt_mul (Nat.pow_pos (by omega))];exact h1
 ·rw[Nat.div_lt_iff_lt_mul (Nat.pow_pos (by omega))];rw[Nat.pow_succ]at h1
  calc T<1000000000*(1000000000^p*1000000000):=h1
   _=1000000000000000000*1000000000^p:=by rw[Nat.mul_comm (1000000000^p),←Nat.mul_assoc]
def qr (u:List Nat) (V:Nat) (kk:Nat) (ql:List Nat) (R:Nat):Prop:=
 kk+ql.length=u.length∧Limbs ql∧R<V∧val ql*V+R=val (u.drop kk)
omit [Env] in
theorem qr.start {u:List Nat} {V:Nat} (hV:0<V):qr u V u.length [] 0:=by
 refine⟨rfl,Limbs.nil,hV,?_⟩;rw[List.drop_length];simp[val]
omit [Env] in
theorem qr.next {u:List Nat} {V k R c:Nat} {ql:List Nat} (h:qr u V (k+1) ql R) (hc:c<1000000000) (hk:∀h:k<u.length,u[k]=c):qr u V k ((c+1000000000*R)/V::ql) ((c+1000000000*R)%V):=by
 obtain⟨h1,h2,h3,h4⟩:=h;have hku:k<u.length:=by omega
 refine⟨by simp only[List.length_cons];omega,h2.cons (div_lt_round hc h3),Nat.mod_lt _ (by omega),?_⟩;rw[drop_val hku,←h4,hk hku,←round_ref];rfl
omit [Env] in
theorem qr.fin {u:List Nat} {V R:Nat} {ql:List Nat} (h:qr u V 0 ql R):val ql=val u/V∧R=val u%V:=by
 obtain⟨h1,h2,h3,h4⟩:=h;rw[List.drop_zero]at h4;exact divmod_uniq h4 h3
theorem parts_small {x y:Nat} (h1:(lim x).length≤2) (h2:(lim y).length≤2) (hy:y≠0) {Q:List A→Prop} (hQ:Q [.c (.sl (raw (lim (x/y)))),.c (.sl (raw (lim (x%y))))]):
 ∃n,Gives CC 179 [A.c (D.sl (raw (lim x)))] [A.c (D.int IntKind.u64 n)]∧
  ∃n_1,Gives CC 179 [A.c (D.sl (raw (lim y)))] [A.c (D.int IntKind.u64 n_1)]∧n_1≠(0:Int)∧
   ∃es,Gives CC 95 [A.c (D.int IntKind.u64 (IntKind.wrap IntKind.u64 (Int.tdiv n n_1)))] [A.c (D.sl es)]∧
    n_1≠(0:Int)∧∃es_1,Gives CC 95 [A.c (D.int IntKind.u64 (Int.tmod n n_1))] [A.c (D.sl es_1)]∧Q [A.c (D.sl es),A.c (D.sl es_1)]:=by
 have hx:=qshort_ok (lim_limbs x) h1;have hy':=qshort_ok (lim_limbs y) h2;rw[lim_val]at hx hy';have bx:x<1000000000000000000:=by have h:=val_lt (lim_limbs x);rw[lim_val]at h;exact Nat.lt_of_lt_of_le h (Nat.le_trans (Nat.pow_le_pow_right (by omega) h1) (by decide))
 have by_:y<1000000000000000000:=by have h:=val_lt (lim_limbs y);rw[lim_val]at h;exact Nat.lt_of_lt_of_le h (Nat.le_trans (Nat.pow_le_pow_right (by omega) h2) (by decide))
 have e1:Int.tdiv (x:Int) (y:Int)=((x/y:Nat):Int):=(Int.ofNat_tdiv x y).symm;have e2:Int.tmod (x:Int) (y:Int)=((x%y:Nat):Int):=(Int.ofNat_tmod x y).symm;have l1:x/y≤x:=Nat.div_le_self _ _;have l2:x%y<y:=Nat.mod_lt _ (by omega);refine⟨_,hx,_,hy',by omega,?_⟩;rw[e1,e2];generalize x/y=q at *;generalize x%y=r at *;rw[u64w];exact⟨_,qlimbs_ok (by omega),by omega,_,qlimbs_ok (by omega),hQ⟩
theorem partsOk:PartsOk:=by
 intro x y hy hlx hly;by_cases hsmall:(lim x).length≤2∧(lim y).length≤2
 ·refine wpF_ok (anns:=annP ⟨[.own 12 173 1,.slot 11 (.slice none 0 0),.slot 14 (.int .i64 0)],[],fun _ _=>True,fun _=>0⟩ ⟨[.slot 16 (.int .u64 0),.slot 17 (.slice none 0 0)],[.slot 11 (.slice none 0 0),.slot 14 (.int .i64 0),.own 12 173 1],fun _ _=>True,fun _=>0⟩ ⟨[.own 19 174 1,.slot 18 (.int .u64 0),.slot 20 (.int .i64 0)],[.slot 11 (.slice none 0 0)],fun _ _=>True,fun _=>0⟩
   ⟨[],[],fun _ _=>False,fun _=>0⟩ ⟨[.slot 15 (.int .u64 0)],[.slot 11 (.slice none 0 0)],fun _ _=>True,fun _=>0⟩ ⟨[.slot 15 (.int .u64 0)],[.slot 11 (.slice none 0 0)],fun _ _=>True,fun _=>0⟩ ⟨[.slot 16 (.int .u64 0)],[.slot 11 (.slice none 0 0)],fun _ _=>True,fun _=>0⟩) mixedT Tryz.func178 ?_
  unfold annP;rw[vc_qparts];simp only[Int.ofNat_eq_natCast,raw_length];refine⟨brd (fun _=>brd (fun _=>parts_small (Q:=fun rs=>rs=[.c (.sl (raw (lim (x/y)))),.c (.sl (raw (lim (x%y))))]) hsmall.1 hsmall.2 hy rfl) (fun h=>?_)) (fun h=>?_),fun h=>h.elim⟩
  ·exact h (by have:=hsmall.2;omega)
  ·exact h (by have:=hsmall.1;omega)
 ·--the scale
  obtain⟨d,s,hd0,hd1,hdl,hs0,hs,hs1⟩:=scale_of hy;have hlyp:0<(lim y).length:=lim_len_pos.2 (by omega);obtain⟨V,hV⟩:∃V,V=y*s:=⟨_,rfl⟩;obtain⟨U,hU⟩:∃U,U=x*s:=⟨_,rfl⟩;have hV0:0<V:=by rw[hV];exact Nat.mul_pos (by omega) hs0
  have hcV:=qby_ok (lim_limbs y) hs1 (by omega);have hcU:=qby_ok (lim_limbs x) hs1 (by omega);rw[lim_val,←hV]at hcV;rw[lim_val,←hU]at hcU;have hlV:(lim V).length≤(lim y).length+1:=by rw[hV];exact lim_mul_len hs1
  have hlU:(lim U).length≤(lim x).length+1:=by rw[hU];exact lim_mul_len hs1
  have hlVp:0<(lim V).length:=lim_len_pos.2 hV0;obtain⟨p,hp⟩:∃p,(lim V).length=p+1:=⟨(lim V).length-1,by omega⟩;obtain⟨v1,hv1,hv0,hvB,hvl,hvP,hVB⟩:=top_of hp;have hwd:IntKind.wrap .u32 (IntKind.wrap .u64 (Int.tdiv 1000000000 (IntKind.wrap .u64 (IntKind.wrap .u64 (d:Int)+1))))=(s:Int):=by rw[u64w (n:=(d:Int)),u64w (n:=(d:Int)+1)];have:Int.tdiv (1000000000:Int) ((d:Int)+1)=((1000000000/(d+1):Nat):Int):=(Int.ofNat_tdiv 1000000000 (d+1)).symm;rw[this,←hs,u64w,u32w]
  have hws:IntKind.wrap .u64 (s:Int)=(s:Int):=u64w;have hwp:IntKind.wrap .i64 (((lim V).length:Int)-1)=(p:Int):=by rw[hp,i64w];omega
  have hwv:IntKind.wrap .u64 (v1:Int)=(v1:Int):=u64w;refine wpF_ok (anns:=annP
   ⟨[.own 12 173 1,.slot 11 (.slice none 0 0),.slot 14 (.int .i64 0)],[],fun _ ds=>∃(kk:Nat) (ql:List Nat) (R:Nat),ds=[.sl (raw (List.replicate kk 0++ql)),.sl (raw (lim R)),.int .i64 ((kk:Int)-1)]∧qr (lim U) V kk ql R,fun ds=>(toI (nth .undef ds 2)+1).toNat⟩
   ⟨[.slot 16 (.int .u64 0),.slot 17 (.slice none 0 0)],[.slot 11 (.slice none 0 0),.slot 14 (.int .i64 0),.own 12 173 1],fun gs ds=>∃(T g:Nat),nth .undef gs 0= .sl (raw (lim T))∧ds=[.int .u64 (g:Int),.sl (raw (lim (V*g)))]∧T/V≤g∧g≤999999999,fun ds=>(toI (nth .undef ds 0)).toNat⟩
   ⟨[.own 19 174 1,.slot 18 (.int .u64 0),.slot 20 (.int .i64 0)],[.slot 11 (.slice none 0 0)],fun gs ds=>∃(R kk:Nat) (ql:List Nat) (t:Nat),gs=[.sl (raw (lim R))]∧ds=[.sl (raw (List.replicate kk 0++ql)),.int .u64 (t:Int),.int .i64 ((kk:Int)-1)]∧qr (lim R) s kk ql t,fun ds=>(toI (nth .undef ds 2)+1).toNat⟩
   ⟨[],[],fun _ _=>True,fun _=>0⟩
   ⟨[.slot 15 (.int .u64 0)],[.slot 11 (.slice none 0 0)],fun gs ds=>∃T:Nat,gs=[.sl (raw (lim T))]∧ds=[.int .u64 ((T/1000000000^(p+1)*1000000000:Nat):Int)],fun _=>0⟩
   ⟨[.slot 15 (.int .u64 0)],[.slot 11 (.slice none 0 0)],fun gs ds=>∃T:Nat,gs=[.sl (raw (lim T))]∧ds=[.int .u64 ((T/1000000000^p:Nat):Int)],fun _=>0⟩
   ⟨[.slot 16 (.int .u64 0)],[.slot 11 (.slice none 0 0)],fun gs ds=>∃(T g:Nat),gs=[.sl (raw (lim T))]∧ds=[.int .u64 (g:Int)]∧T/V≤g∧g≤999999999,fun _=>0⟩) mixedT Tryz.func178 ?_
  unfold annP;rw[vc_qparts];simp only[Int.ofNat_eq_natCast,raw_length];refine⟨brd (fun _=>brd (fun h=>?_) (fun _=>trivial)) (fun _=>trivial),fun _=>?_⟩
  ·exact absurd ⟨by omega,by omega⟩ hsmall
  have hwl:IntKind.wrap .i64 (((lim y).length:Int)-1)=(((lim y).length-1:Nat):Int):=by rw[i64w];omega
  have hwx:IntKind.wrap .i64 (((lim x).length:Int)+1)=(((lim x).length+1:Nat):Int):=by rw[i64w];omega
  rw[hwl,hwx,Int.toNat_natCast,Int.toNat_natCast];have hdc:cut (nth [] (raw (lim y)) ((lim y).length-1)) 0 1 [.int .u32 (d:Int)]:=by have:=cut_raw (l:=lim y) (i:=(lim y).length-1) (by omega);rw[hdl (by omega)]at this;exact this
  refine⟨⟨by omega,by omega,raw_len1 (by omega)⟩,_,hdc,?_⟩;rw[hwd];refine⟨?_,_,hcV,?_⟩
  ·rw[u64w (n:=(d:Int)),u64w (n:=(d:Int)+1)];omega
  have hvc:cut (nth [] (raw (lim V)) p) 0 1 [.int .u32 (v1:Int)]:=by have:=cut_raw (l:=lim V) (i:=p) (by omega);rw[hvl (by omega)]at this;exact this
  rw[raw_length,hwp,Int.toNat_natCast];refine⟨⟨by omega,by omega,raw_len1 (by omega)⟩,_,hvc,⟨by omega,by omega,by unfold room;omega⟩,_,hcU,?_⟩;rw[hws,hwv];simp only[raw_length,List.length_replicate,Int.toNat_natCast];refine⟨⟨by omega,by omega⟩,⟨(lim U).length,[],0,?_,qr.start hV0⟩,?_⟩
  ·rw[List.take_replicate,Nat.min_eq_left hlU,raw_replicate,List.append_nil,i64w];rfl
  rintro es es_3 n_2 ⟨kk,ql,R,he,hq⟩;simp only[List.cons.injEq,D.sl.injEq,D.int.injEq,true_and,and_true]at he;obtain⟨rfl,rfl,rfl⟩:=he;refine brd (fun h=>?_) (fun h=>?_)
  ·obtain⟨k,rfl⟩:∃k,kk=k+1:=⟨kk-1,by omega⟩;have hk1:((k+1:Nat):Int)-1=(k:Int):=by omega
   have hkU:k<(lim U).length:=by have:=hq.1;omega
   obtain⟨c,hc⟩:∃c,(lim U)[k]=c:=⟨_,rfl⟩;have hcB:c<1000000000:=hc▸(lim_limbs U).get hkU;have hRV:R<V:=hq.2.2.1;obtain⟨T,hT⟩:∃T,T=c+1000000000*R:=⟨_,rfl⟩;have hnext:=hq.next hcB (fun _=>hc)
   rw[←hT]at hnext;have hTV:T<1000000000*V:=hT▸lt_round hcB hRV;have hTq:T/V<1000000000:=hT▸div_lt_round hcB hRV;have hlR:(lim R).length≤(lim V).length:=ldif (Nat.le_of_lt hRV);have hlT:(lim T).length≤(lim V).length+1:=by refine Nat.le_trans (ldif (Nat.le_of_lt hTV)) ?_;rw[Nat.mul_comm];apply lim_length_le;rw[hp,Nat.pow_succ];exact Nat.mul_lt_mul_of_pos_right hVB (by omega)
   have htrim:Gives CC 157 [.c (.sl ([D.int .u32 (c:Int)]::raw (lim R)))] [.c (.sl (raw (lim T)))]:=by have h:=qtrim_ok (l:=c::lim R) ((lim_limbs R).cons hcB) (by rw[List.length_cons];omega);rw[show val (c::lim R)=T by show c+1000000000*val (lim R)=T;rw[lim_val,hT]]at h;exact h
   have hcut:cut (nth [] (raw (lim U)) k) 0 1 [.int .u32 (c:Int)]:=by have h:=cut_raw (l:=lim U) (i:=k) hkU;rw[hc]at h;exact h
   obtain⟨hH1,hH0⟩:=high_lt hTV hVB;rw[hk1,Int.toNat_natCast];refine⟨⟨by omega,by omega,raw_len1 hkU⟩,_,hcut,⟨by rw[raw_length];unfold room;omega,lens_raw _⟩,_,htrim,?_⟩;simp only[raw_length];rw[hp];refine⟨brd (fun h2=>?_) (fun h2=>?_),?_⟩
   ·have hlt:p+1<(lim T).length:=by omega
    have hcu:=cut_raw (l:=lim T) (i:=p+1) hlt;have hg:=lim_getD (p+1) T;rw[Nat.mod_eq_of_lt hH1,List.getD,List.getElem?_eq_getElem hlt,Option.getD_some]at hg;rw[hg]at hcu;refine⟨⟨by omega,by omega,raw_len1 hlt⟩,_,hcu,T,rfl,?_⟩;generalize T/1000000000^(p+1)=t at *;rw[u64w (n:=(t:Int)),u64w];rfl
   ·have:=lim_short (n:=T) (i:=p+1) (by omega);exact⟨T,rfl,by rw[this];rfl⟩
   rintro n ⟨T',h2,h3⟩;simp only[List.cons.injEq,D.sl.injEq,D.int.injEq,true_and,and_true]at h2 h3;obtain rfl:=lraw_inj h2;subst h3;refine⟨brd (fun h2=>?_) (fun h2=>?_),?_⟩
   ·have hlt:p<(lim T).length:=by omega
    have hcu:=cut_raw (l:=lim T) (i:=p) hlt;have hg:=lim_getD p T;rw[List.getD,List.getElem?_eq_getElem hlt,Option.getD_some]at hg;rw[hg]at hcu;refine⟨⟨by omega,by omega,raw_len1 hlt⟩,_,hcu,T,rfl,?_⟩;have hst:=high_step (R:=T) (n:=p);have hm:=Nat.mod_lt (T/1000000000^p) (show 1000000000>0 by omega);generalize T/1000000000^(p+1)=t at *;generalize T/1000000000^p=t2 at *;generalize t2%1000000000=t3 at *;rw[u64w (n:=(t3:Int)),u64w,←hst];rfl
   ·have h4:=lim_short (n:=T) (i:=p) (by omega);have hst:=high_step (R:=T) (n:=p);rw[h4,Nat.zero_mod,Nat.add_zero]at hst;exact⟨T,rfl,by rw[h4,hst]⟩
   rintro n ⟨T',h2,h3⟩;simp only[List.cons.injEq,D.sl.injEq,D.int.injEq,true_and,and_true]at h2 h3;obtain rfl:=lraw_inj h2;subst h3;have hup:T/V≤T/1000000000^p/v1:=div_up (vl:=V-v1*1000000000^p) (Nat.add_sub_cancel' hvP).symm (Nat.mul_pos hv0 (Nat.pow_pos (by omega)));have htd:Int.tdiv ((T/1000000000^p:Nat):Int) (v1:Int)=((T/1000000000^p/v1:Nat):Int):=(Int.ofNat_tdiv _ _).symm;have hle:T/1000000000^p/v1≤T/1000000000^p:=Nat.div_le_self _ _;rw[htd];generalize T/1000000000^p/v1=G at *;generalize T/1000000000^p=H at *;rw[u64w (n:=(G:Int))];refine⟨by omega,brd (fun h2=>?_) (fun h2=>?_),?_⟩
   ·exact⟨T,999999999,rfl,rfl,by generalize T/V=q at *;omega,by omega⟩
   ·exact⟨T,G,rfl,rfl,hup,by omega⟩
   rintro n ⟨T',g,h2,h3,hg1,hg2⟩;simp only[List.cons.injEq,D.sl.injEq,D.int.injEq,true_and,and_true]at h2 h3;obtain rfl:=lraw_inj h2;subst h3;have hby:=qby_ok (lim_limbs V) (d:=g) (by omega) (by omega);rw[lim_val]at hby;rw[u32w (n:=(g:Int))];refine⟨_,hby,⟨T,g,rfl,rfl,hg1,hg2⟩,?_⟩;rintro n es_6 ⟨T',g',h2,h3,hg1',hg2'⟩;simp only[nth,List.cons.injEq,D.sl.injEq,D.int.injEq,true_and,and_true]at h2 h3;obtain rfl:=lraw_inj h2;obtain⟨rfl,rfl⟩:=h3;have hlg:(lim (V*g')).length≤(lim V).length+1:=lim_mul_len (by omega);refine⟨_,qcompare_ok (x:=V*g') (y:=T) (by omega) (by omega),brd (fun h2=>?_) (fun h2=>?_)⟩
   ·have hgt:T<V*g':=by
     unfold cmpN at h2;split at h2
     ·omega
     ·split at h2
      ·assumption
      ·omega
    have hg0:T/V<g':=mul_gt hV0 hgt;have hg00:0<g':=Nat.lt_of_le_of_lt (Nat.zero_le _) hg0;have hg01:T/V≤g'-1:=Nat.le_sub_one_of_lt hg0;clear hg0 hg1 hg1' hTq;have hm:=qminus_ok (lim_limbs (V*g')) (lim_limbs V) (by omega) (by rw[lim_val,lim_val];exact Nat.le_mul_of_pos_right _ hg00);rw[lim_val,lim_val,show V*g'-V=V*(g'-1)by rw[Nat.mul_sub_one]]at hm;have hw:IntKind.wrap .u64 ((g':Int)-1)=((g'-1:Nat):Int):=by rw[u64w];omega
    rw[hw];exact⟨_,hm,⟨T,g'-1,rfl,rfl,hg01,by omega⟩,by simp only[nth,toI];omega⟩
   ·have hle2:V*g'≤T:=by
     unfold cmpN at h2;split at h2
     ·omega
     ·split at h2
      ·omega
      ·omega
    have hge:=mul_le hV0 hle2 hg1';have hm:=qminus_ok (lim_limbs T) (lim_limbs (V*g')) (by omega) (by rw[lim_val,lim_val];exact hle2);rw[lim_val,lim_val,hge,sub_mod]at hm;rw[hge];have hq32:IntKind.wrap .u32 ((T/V:Nat):Int)=((T/V:Nat):Int):=by have h5:=hTq;generalize T/V=q at h5;exact u32w
    rw[hq32,upd_raw (by rw[List.length_append,List.length_replicate];omega),set_next];have hw:IntKind.wrap .i64 ((k:Int)-1)=(k:Int)-1:=i64w;rw[hw];refine⟨_,hm,⟨by omega,by simp only[List.length_append,List.length_replicate];omega⟩,by omega,⟨k,_,_,rfl,hnext⟩,?_⟩;simp only[nth,toI];omega
  ·obtain rfl:kk=0:=by omega
   have hqf:=hq.fin;rw[lim_val]at hqf;have e1:U/V=x/y:=by rw[hU,hV];exact Nat.mul_div_mul_right _ _ hs0
   have e2:U%V=x%y*s:=by rw[hU,hV];exact Nat.mul_mod_mul_right _ _ _
   rw[e1,e2]at hqf;obtain⟨hv,hR⟩:=hqf;have hRV:R<V:=hq.2.2.1;have hlR:(lim R).length≤(lim V).length:=ldif (Nat.le_of_lt hRV);have hlq:ql.length=(lim U).length:=by have:=hq.1;omega
   have hLq:Limbs ql:=hq.2.1;simp only[raw_length];refine⟨⟨by omega,by omega,by unfold room;omega⟩,⟨R,(lim R).length,[],0,rfl,?_,qr.start hs0⟩,?_⟩
   ·rw[List.append_nil,raw_replicate,i64w];rfl
   rintro es_4 n_3 n_4 ⟨R',kk,ll,t,h2,h3,hr⟩;simp only[List.cons.injEq,D.sl.injEq,D.int.injEq,true_and,and_true]at h2 h3;obtain rfl:=lraw_inj h2;obtain⟨rfl,rfl,rfl⟩:=h3;refine brd (fun h4=>?_) (fun h4=>?_)
   ·obtain⟨k,rfl⟩:∃k,kk=k+1:=⟨kk-1,by omega⟩;have hk1:((k+1:Nat):Int)-1=(k:Int):=by omega
    have hkU:k<(lim R).length:=by have:=hr.1;omega
    obtain⟨c,hc⟩:∃c,(lim R)[k]=c:=⟨_,rfl⟩;have hcB:c<1000000000:=hc▸(lim_limbs R).get hkU;have hts:t<s:=hr.2.2.1;have hnext:=hr.next hcB (fun _=>hc)
    have hq:=div_lt_round hcB hts;have hcut:cut (nth [] (raw (lim R)) k) 0 1 [.int .u32 (c:Int)]:=by have h:=cut_raw (l:=lim R) (i:=k) hkU;rw[hc]at h;exact h
    have hw:IntKind.wrap .u64 (IntKind.wrap .u64 ((t:Int)*1000000000)+IntKind.wrap .u64 (c:Int))=((c+1000000000*t:Nat):Int):=by rw[u64w (n:=(c:Int)),u64w (n:=(t:Int)*1000000000),u64w];omega
    generalize c+1000000000*t=T at *;have hd:=(Int.ofNat_tdiv T s).symm;have hm:=(Int.ofNat_tmod T s).symm;rw[hk1,Int.toNat_natCast];refine⟨⟨by omega,by omega,raw_len1 hkU⟩,_,hcut,?_⟩;rw[hw];rw[hd,hm];have hq32:IntKind.wrap .u32 (IntKind.wrap .u64 ((T/s:Nat):Int))=((T/s:Nat):Int):=by have h5:=hq;generalize T/s=q at h5;rw[u64w];exact u32w
    rw[hq32,upd_raw (by rw[List.length_append,List.length_replicate];omega),set_next];have hw:IntKind.wrap .i64 ((k:Int)-1)=(k:Int)-1:=i64w;rw[hw];refine⟨by omega,⟨by omega,by simp only[raw_length,List.length_append,List.length_replicate];omega⟩,by omega,by omega,⟨R,k,_,_,rfl,rfl,hnext⟩,?_⟩;simp only[nth,toI];omega
   ·obtain rfl:kk=0:=by omega
    have hrf:=hr.fin;rw[lim_val,hR,Nat.mul_div_cancel _ hs0]at hrf;have ho:=qtrim_ok hLq (by omega);rw[hv]at ho;have hl:=qtrim_ok hr.2.1 (by have:=hr.1;omega);rw[hrf.1]at hl;exact⟨_,ho,_,hl,rfl⟩
end Eng
end

section
namespace Eng
open Go Go.Proofs
set_option maxRecDepth 100000
variable [Env]
omit [Env] in
theorem tmul (x y:Rat):quoR (x.num*y.num) (x.den*y.den)=encR (x*y):=by
 rw[quoR_ok (Int.mul_pos (den_pos x) (den_pos y))];have e:x*y=Rat.divInt (x.num*y.num) (x.den*y.den):=by rw[←Rat.divInt_mul_divInt,Rat.num_divInt_den,Rat.num_divInt_den]
 rw[←e]
omit [Env] in
theorem tadd (x y:Rat):quoR (x.num*y.den+y.num*x.den) (x.den*y.den)=encR (x+y):=by
 have px:=den_pos x;have py:=den_pos y;rw[quoR_ok (Int.mul_pos px py)];have e:x+y=Rat.divInt (x.num*y.den+y.num*x.den) (x.den*y.den):=by rw[←Rat.divInt_add_divInt _ _ (by omega) (by omega),Rat.num_divInt_den,Rat.num_divInt_den]
 rw[←e]
omit [Env] in
theorem tsub (x y:Rat):quoR (x.num*y.den+(-y.num)*x.den) (x.den*y.den)=encR (x-y):=by
 have px:=den_pos x;have py:=den_pos y;rw[quoR_ok (Int.mul_pos px py)];have e:x-y=Rat.divInt (x.num*y.den+(-y.num)*x.den) (x.den*y.den):=by
  rw[Rat.sub_eq_add_neg,←Rat.divInt_add_divInt _ _ (by omega) (by omega),Rat.num_divInt_den];have:Rat.divInt (-y.num) y.den= -y:=by rw[←Rat.neg_num];exact Rat.num_divInt_den (-y)
  rw[this]
 rw[←e]
omit [Env] in
theorem tneg (x:Rat):A.ag (cI (-x.num)++cI x.den)=encR (-x):=by
 unfold encR cR;rw[Rat.neg_num];rfl
def sgZ (a:Int):Int:=match decide (a<0)with|true=> -1|false=>match decide (0<a)with|true=>1|false=>0
omit [Env] in
theorem sgZ_eq (a:Int):sgZ a=sgn a:=by
 unfold sgZ sgn;by_cases h:a<0
 ·rw[decide_eq_true h,if_pos h]
 ·rw[decide_eq_false h,if_neg h];by_cases h2:0<a
  ·rw[decide_eq_true h2];simp;omega
  ·rw[decide_eq_false h2];simp;omega
def rd1R (al:List A):Option Rat:=match al with
 |[a]=>rdR a
 |_=>none
omit [Env] in
theorem rd1R_ok {al:List A} {x:Rat} (h:rd1R al=some x):al=[encR x]∧Sr x:=by
 unfold rd1R at h;split at h
 ·rw[(rdR_ok h).1];exact⟨rfl,(rdR_ok h).2⟩
 ·simp at h
def rd1I (al:List A):Option Int:=match al with
 |[a]=>rdI a
 |_=>none
omit [Env] in
theorem rd1I_ok {al:List A} {x:Int} (h:rd1I al=some x):al=[encI x]:=by
 unfold rd1I at h;split at h
 ·rw[rdI_ok h]
 ·simp at h
def tabU (f:Nat) (al:List A):Option (List A):=
 match f with
 |127=>match rd2R al with|some (x,y)=>some [quoR (x.num*y.num) (x.den*y.den)]|none=>none
 |128=>match rd2R al with|some (x,y)=>some [quoR (x.num*y.den+y.num*x.den) (x.den*y.den)]|none=>none
 |129=>match rd2R al with|some (x,y)=>some [quoR (x.num*y.den+(-y.num)*x.den) (x.den*y.den)]|none=>none
 |54=>match rd2R al with|some (x,y)=>some [.c (.int .i64 (ordZ (x.num*y.den) (y.num*x.den)))]|none=>none
 |130=>match rd1R al with|some x=>some [.ag (cI (-x.num)++cI x.den)]|none=>none
 |315=>match rd1R al with|some x=>some [.ag (cI (-x.num)++cI x.den)]|none=>none
 |75=>match rd1R al with|some x=>some [.c (.int .i64 (sgZ x.num))]|none=>none
 |97=>match rd1R al with|some x=>some [.c (.int .i64 (sgZ x.num))]|none=>none
 |25=>match al with
  |[.c (.int .i64 n)]=>match decide (-9223372036854775808≤n)&&decide (n<9223372036854775808)with
   |true=>some [.ag (cI n++cI 1)]
   |false=>none
  |_=>none
 |107=>match rd2I al with|some (x,y)=>some [encI (x*y)]|none=>none
 |181=>match rd2I al with|some (x,y)=>some [encI (x+y)]|none=>none
 |180=>match rd2I al with|some (x,y)=>some [encI (x-y)]|none=>none
 |106=>match rd2I al with|some (x,y)=>some [.c (.int .i64 (ordZ x y))]|none=>none
 |111=>match rd2I al with|some (x,y)=>some [encI (Nat.gcd x.natAbs y.natAbs:Nat)]|none=>none
 |112=>match rd2I al with
  |some (x,y)=>match decide (0<y)with
   |true=>some [encI (x/y),encI (x%y),.c (.int .i64 0)]
   |false=>none
  |none=>none
 |301=>match rd2I al with
  |some (x,y)=>match decide (0<y)with
   |true=>some [encI (x/y),encI (x%y),.c (.int .i64 0)]
   |false=>none
  |none=>none
 |109=>match rd1I al with|some x=>some [.c (.int .i64 (sgZ x))]|none=>none
 |50=>match al with|[]=>some [encI 1]|_=>none
 |49=>match al with
  |[.c (.int .i64 n)]=>match decide (-9223372036854775808≤n)&&decide (n<9223372036854775808)with
   |true=>some [encI n]
   |false=>none
  |_=>none
 |_=>tabR f al
theorem tabU_ok (f:Nat) (al rs:List A) (h:tabU f al=some rs):Gives CC f al rs:=by
 unfold tabU at h;split at h
 ·split at h
  ·rename_i x y h1;obtain⟨rfl,hx,hy⟩:=rd2R_ok h1;simp only[Option.some.injEq]at h;subst h;rw[tmul];exact uMul_ok partsOk hx hy
  ·simp at h
 ·split at h
  ·rename_i x y h1;obtain⟨rfl,hx,hy⟩:=rd2R_ok h1;simp only[Option.some.injEq]at h;subst h;rw[tadd];exact uAdd_ok partsOk hx hy
  ·simp at h
 ·split at h
  ·rename_i x y h1;obtain⟨rfl,hx,hy⟩:=rd2R_ok h1;simp only[Option.some.injEq]at h;subst h;rw[tsub];exact uSub_ok partsOk hx hy
  ·simp at h
 ·split at h
  ·rename_i x y h1;obtain⟨rfl,hx,hy⟩:=rd2R_ok h1;simp only[Option.some.injEq]at h;subst h;rw[ordZ_eq,←cmpR_eq];exact uCmp_ok hx hy
  ·simp at h
 ·split at h
  ·rename_i x h1;obtain⟨rfl,hx⟩:=rd1R_ok h1;simp only[Option.some.injEq]at h;subst h;rw[tneg];exact uNeg_ok hx
  ·simp at h
 ·split at h
  ·rename_i x h1;obtain⟨rfl,hx⟩:=rd1R_ok h1;simp only[Option.some.injEq]at h;subst h;rw[tneg];exact rNeg_ok hx
  ·simp at h
 ·split at h
  ·rename_i x h1;obtain⟨rfl,hx⟩:=rd1R_ok h1;simp only[Option.some.injEq]at h;subst h;rw[sgZ_eq];exact uSign_ok x
  ·simp at h
 ·split at h
  ·rename_i x h1;obtain⟨rfl,hx⟩:=rd1R_ok h1;simp only[Option.some.injEq]at h;subst h;rw[sgZ_eq];exact rSign_ok x
  ·simp at h
 ·split at h
  ·split at h
   ·rename_i hb;simp only[Option.some.injEq]at h;subst h;simp only[Bool.and_eq_true,decide_eq_true_eq]at hb;have g:=uFromInt64_ok hb.1 hb.2;unfold encR cR at g;rw[Rat.num_intCast,Rat.den_intCast]at g;exact g
   ·simp at h
  ·simp at h
 ·split at h
  ·rename_i x y h1;obtain⟨rfl,hx,hy⟩:=rd2I_ok h1;simp only[Option.some.injEq]at h;subst h;exact qMul_ok hx hy
  ·simp at h
 ·split at h
  ·rename_i x y h1;obtain⟨rfl,hx,hy⟩:=rd2I_ok h1;simp only[Option.some.injEq]at h;subst h;exact qAdd_ok hx hy
  ·simp at h
 ·split at h
  ·rename_i x y h1;obtain⟨rfl,hx,hy⟩:=rd2I_ok h1;simp only[Option.some.injEq]at h;subst h;exact qSub_ok hx hy
  ·simp at h
 ·split at h
  ·rename_i x y h1;obtain⟨rfl,hx,hy⟩:=rd2I_ok h1;simp only[Option.some.injEq]at h;subst h;rw[ordZ_eq];exact qCmp_ok hx hy
  ·simp at h
 ·split at h
  ·rename_i x y h1;obtain⟨rfl,hx,hy⟩:=rd2I_ok h1;simp only[Option.some.injEq]at h;subst h;exact qGCD_ok partsOk hx hy
  ·simp at h
 ·split at h
  ·rename_i x y h1;obtain⟨rfl,hx,hy⟩:=rd2I_ok h1;split at h
   ·rename_i h2;simp only[Option.some.injEq]at h;subst h;exact qDivMod_ok partsOk hx hy (of_decide_eq_true h2)
   ·simp at h
  ·simp at h
 ·split at h
  ·rename_i x y h1;obtain⟨rfl,hx,hy⟩:=rd2I_ok h1;split at h
   ·rename_i h2;simp only[Option.some.injEq]at h;subst h;exact iDivMod_ok divOk hx hy (of_decide_eq_true h2)
   ·simp at h
  ·simp at h
 ·split at h
  ·rename_i x h1;obtain rfl:=rd1I_ok h1;simp only[Option.some.injEq]at h;subst h;rw[sgZ_eq];exact qSign_ok x
  ·simp at h
 ·split at h
  ·simp only[Option.some.injEq]at h;subst h;exact uunit_ok
  ·simp at h
 ·split at h
  ·split at h
   ·rename_i hb;simp only[Option.some.injEq]at h;subst h;simp only[Bool.and_eq_true,decide_eq_true_eq]at hb;exact qFromInt64_ok hb.1 hb.2
   ·simp at h
  ·simp at h
 ·exact tabR_ok f al rs h
end Eng
end

section
namespace Eng
open Go Go.Proofs
set_option maxRecDepth 100000
variable [Env]
abbrev EffF:=Option Nat→List V→List Obj→R
def keepX (t:TypeId) (d:Option Nat):Bool:=keepT t d||match d with
 |some d=>(Nat.beq t 105&&(Nat.beq d 28||(Nat.beq d 56||Nat.beq d 59)))||((Nat.beq t 280&&Nat.beq d 34)||((Nat.beq t 159&&Nat.beq d 46)||(Nat.beq t 172&&(Nat.beq d 38||(Nat.beq d 31||(Nat.beq d 61||Nat.beq d 64))))))
 |none=>false
def findE (f:Nat):List (Nat×EffF)→Option EffF
 |[]=>none
 |(g,e)::r=>match Nat.beq f g with
  |true=>some e
  |false=>findE f r
def effX (ex:List (Nat×EffF)) (f:Nat):Option EffF:=
 match findE f ex with
 |some e=>some e
 |none=>effM timesChk timesMk f
noncomputable def CX (ex:List (Nat×EffF)):Cx:=⟨Tryz.prog,fun _=>none,fun _=>false,effX ex,keepX,fun _=>false⟩
def AllE (C:Cx):List (Nat×EffF)→Prop
 |[]=>True
 |(f,e)::r=>EffAt C f e∧AllE C r
theorem findE_ok {C:Cx} {f:Nat} {e:EffF}:∀{ex:List (Nat×EffF)},AllE C ex→findE f ex=some e→EffAt C f e
 |[],_,h=>by simp[findE]at h
 |(g,e0)::r,ha,h=>by
  obtain⟨h1,h2⟩:=ha;unfold findE at h;split at h
  ·rename_i hb;obtain rfl:=Nat.eq_of_beq_eq_true hb;simp only[Option.some.injEq]at h;subst h;exact h1
  ·exact findE_ok h2 h
theorem effX_ok {ex:List (Nat×EffF)} (ha:AllE (CX ex) ex) (f:Nat) (e:EffF) (h:(CX ex).eff f=some e):EffAt (CX ex) f e:=by
 replace h:effX ex f=some e:=h;unfold effX at h;split at h
 ·rename_i e' he;simp only[Option.some.injEq]at h;subst h;exact findE_ok ha he
 unfold effM at h;split at h
 ·rename_i hb;obtain rfl:=Nat.eq_of_beq_eq_true hb;simp only[Option.some.injEq]at h;subst h;exact effAt_sub (C:=CX ex) subK
 ·split at h
  ·rename_i hb;obtain rfl:=Nat.eq_of_beq_eq_true hb;simp only[Option.some.injEq]at h;subst h;exact effAt_res (C:=CX ex) subK
  ·split at h
   ·rename_i hb;obtain rfl:=Nat.eq_of_beq_eq_true hb;simp only[Option.some.injEq]at h;subst h;exact effAt_ownC (C:=CX ex) Tryz.func161 (by simp[Tryz.f161]) (by decide) fun al hc=>givesOwn_cx (C:=C0) (C':=CX ex) rfl rfl (times_chk al hc)
   ·simp at h
theorem upX {ex:List (Nat×EffF)} {f:Nat} {al rs:List A} (h:Gives CC f al rs):Gives (CX ex) f al rs:=gives_cx rfl rfl h
noncomputable def CB:Cx:=CX []
instance:EffOk CB:=effOk_all (effX_ok trivial)
end Eng
end

section
open Go Go.Proofs Eng
set_option maxRecDepth 1000000
namespace Eng
def mg0 (m:Int):Int:=match decide (0<m)with|true=>m|false=>0
def mg1 (m:Int):Int:=match decide (m<0)with|true=>0|false=>m
theorem vc_rlength (Gv:Nat→List A→List A→Prop) (i0:Int) (i1:Int) (Q:List A→Prop):wpF CC Gv an0 Tryz.f46 [.c (.int .i64 i0),.c (.int .i64 i1)] Q=(
 br (toB (D.bool (decide (i0≥i1)))) (Q [A.c (D.bool (decide (i0≤10000000)))]) (Q [A.c (D.bool false)])):=by kernel_rfl
theorem vc_rrect (Gv:Nat→List A→List A→Prop) (i0:Int) (i1:Int) (i2:Int) (i3:Int) (Q:List A→Prop):wpF CC Gv an0 Tryz.f45 [.c (.int .i64 i0),.c (.int .i64 i1),.c (.int .i64 i2),.c (.int .i64 i3)] Q=(
 ∃b,Gv 46 [A.c (D.int .i64 i0),A.c (D.int .i64 (-10000000))] [A.c (D.bool b)]∧br b (∃b,Gv 46 [A.c (D.int .i64 i1),A.c (D.int .i64 (-10000000))] [A.c (D.bool b)]∧br b (∃b,Gv 46 [A.c (D.int .i64 i2),A.c (D.int .i64 (-10000000))] [A.c (D.bool b)]∧br b (∃b,Gv 46 [A.c (D.int .i64 i3),A.c (D.int .i64 (-10000000))] [A.c (D.bool b)]∧br b (br (toB (D.bool (decide (i0<i2)))) (Q [A.c (D.bool (decide (i1<i3)))]) (Q [A.c (D.bool false)])) (Q [A.c (D.bool false)])) (Q [A.c (D.bool false)])) (Q [A.c (D.bool false)])) (Q [A.c (D.bool false)])):=by kernel_rfl
theorem vc_rValid (Gv:Nat→List A→List A→Prop) (I0:List D→List D→Prop) (M0:List D→Nat) (x0 y0 x1 y1 th ga sf:Int) (es:List (List D)) (Q:List A→Prop):wpF CC Gv (fun _=>⟨[.slot 3 (.bool false),.slot 4 (.int .i64 0)],[],I0,M0⟩) Tryz.f23 [.ag [.int .i64 x0,.int .i64 y0,.int .i64 x1,.int .i64 y1,.int .i64 th,.int .i64 ga,.sl es,.int .i64 sf]] Q=(
 ∃b,Gv 45 [A.c (D.int .i64 x0),A.c (D.int .i64 y0),A.c (D.int .i64 x1),A.c (D.int .i64 y1)] [A.c (D.bool b)]∧br b (∃b,Gv 46 [A.c (D.int .i64 th),A.c (D.int .i64 1)] [A.c (D.bool b)]∧br b (∃b,Gv 46 [A.c (D.int .i64 ga),A.c (D.int .i64 0)] [A.c (D.bool b)]∧br b (br (toB (D.bool (decide ((Int.ofNat es.length)≤50)))) (∃b,Gv 46 [A.c (D.int .i64 sf),A.c (D.int .i64 1)] [A.c (D.bool b)]∧I0 [] [D.bool b,D.int .i64 0]∧∀(b:Bool) (i:Int),I0 [] [D.bool b,D.int .i64 i]→br (toB (D.bool (decide (i<(Int.ofNat es.length))))) (br b ((0≤i∧i<(Int.ofNat es.length)∧List.length (nth [] es (Int.toNat i))=5)∧∃i_1 i_2 i_3 i_4 i_5,cut (nth [] es (Int.toNat i)) 0 5 [D.int .i64 i_1,D.int .i64 i_2,D.int .i64 i_3,D.int .i64 i_4,D.int .i64 i_5]∧∃b1,Gv 45 [A.c (D.int .i64 i_1),A.c (D.int .i64 i_2),A.c (D.int .i64 i_3),A.c (D.int .i64 i_4)] [A.c (D.bool b1)]∧br b1 (∃b2,Gv 46 [A.c (D.int .i64 i_5),A.c (D.int .i64 (IntKind.wrap .i64 (IntKind.wrap .i64 (0-th)-ga)))] [A.c (D.bool b2)]∧br b2 (I0 [] [D.bool (decide (i_5<sf)),D.int .i64 (IntKind.wrap .i64 (i+1))]∧M0 [D.bool (decide (i_5<sf)),D.int .i64 (IntKind.wrap .i64 (i+1))]<M0 [D.bool b,D.int .i64 i]) (I0 [] [D.bool false,D.int .i64 (IntKind.wrap .i64 (i+1))]∧M0 [D.bool false,D.int .i64 (IntKind.wrap .i64 (i+1))]<M0 [D.bool b,D.int .i64 i])) (I0 [] [D.bool false,D.int .i64 (IntKind.wrap .i64 (i+1))]∧M0 [D.bool false,D.int .i64 (IntKind.wrap .i64 (i+1))]<M0 [D.bool b,D.int .i64 i])) (br (toB (D.bool !b)) (Q [A.c (D.int .i64 1)]) (Q [A.c (D.int .i64 0)]))) (br (toB (D.bool !b)) (Q [A.c (D.int .i64 1)]) (Q [A.c (D.int .i64 0)]))) (I0 [] [D.bool false,D.int .i64 0]∧∀(b:Bool) (i:Int),I0 [] [D.bool b,D.int .i64 i]→br (toB (D.bool (decide (i<(Int.ofNat es.length))))) (br b ((0≤i∧i<(Int.ofNat es.length)∧List.length (nth [] es (Int.toNat i))=5)∧∃i_1 i_2 i_3 i_4 i_5,cut (nth [] es (Int.toNat i)) 0 5 [D.int .i64 i_1,D.int .i64 i_2,D.int .i64 i_3,D.int .i64 i_4,D.int .i64 i_5]∧∃b1,Gv 45 [A.c (D.int .i64 i_1),A.c (D.int .i64 i_2),A.c (D.int .i64 i_3),A.c (D.int .i64 i_4)] [A.c (D.bool b1)]∧br b1 (∃b2,Gv 46 [A.c (D.int .i64 i_5),A.c (D.int .i64 (IntKind.wrap .i64 (IntKind.wrap .i64 (0-th)-ga)))] [A.c (D.bool b2)]∧br b2 (I0 [] [D.bool (decide (i_5<sf)),D.int .i64 (IntKind.wrap .i64 (i+1))]∧M0 [D.bool (decide (i_5<sf)),D.int .i64 (IntKind.wrap .i64 (i+1))]<M0 [D.bool b,D.int .i64 i]) (I0 [] [D.bool false,D.int .i64 (IntKind.wrap .i64 (i+1))]∧M0 [D.bool false,D.int .i64 (IntKind.wrap .i64 (i+1))]<M0 [D.bool b,D.int .i64 i])) (I0 [] [D.bool false,D.int .i64 (IntKind.wrap .i64 (i+1))]∧M0 [D.bool false,D.int .i64 (IntKind.wrap .i64 (i+1))]<M0 [D.bool b,D.int .i64 i])) (br (toB (D.bool !b)) (Q [A.c (D.int .i64 1)]) (Q [A.c (D.int .i64 0)]))) (br (toB (D.bool !b)) (Q [A.c (D.int .i64 1)]) (Q [A.c (D.int .i64 0)])))) (I0 [] [D.bool false,D.int .i64 0]∧∀(b:Bool) (i:Int),I0 [] [D.bool b,D.int .i64 i]→br (toB (D.bool (decide (i<(Int.ofNat es.length))))) (br b ((0≤i∧i<(Int.ofNat es.length)∧List.length (nth [] es (Int.toNat i))=5)∧∃i_1 i_2 i_3 i_4 i_5,cut (nth [] es (Int.toNat i)) 0 5 [D.int .i64 i_1,D.int .i64 i_2,D.int .i64 i_3,D.int .i64 i_4,D.int .i64 i_5]∧∃b1,Gv 45 [A.c (D.int .i64 i_1),A.c (D.int .i64 i_2),A.c (D.int .i64 i_3),A.c (D.int .i64 i_4)] [A.c (D.bool b1)]∧br b1 (∃b2,Gv 46 [A.c (D.int .i64 i_5),A.c (D.int .i64 (IntKind.wrap .i64 (IntKind.wrap .i64 (0-th)-ga)))] [A.c (D.bool b2)]∧br b2 (I0 [] [D.bool (decide (i_5<sf)),D.int .i64 (IntKind.wrap .i64 (i+1))]∧M0 [D.bool (decide (i_5<sf)),D.int .i64 (IntKind.wrap .i64 (i+1))]<M0 [D.bool b,D.int .i64 i]) (I0 [] [D.bool false,D.int .i64 (IntKind.wrap .i64 (i+1))]∧M0 [D.bool false,D.int .i64 (IntKind.wrap .i64 (i+1))]<M0 [D.bool b,D.int .i64 i])) (I0 [] [D.bool false,D.int .i64 (IntKind.wrap .i64 (i+1))]∧M0 [D.bool false,D.int .i64 (IntKind.wrap .i64 (i+1))]<M0 [D.bool b,D.int .i64 i])) (br (toB (D.bool !b)) (Q [A.c (D.int .i64 1)]) (Q [A.c (D.int .i64 0)]))) (br (toB (D.bool !b)) (Q [A.c (D.int .i64 1)]) (Q [A.c (D.int .i64 0)])))) (I0 [] [D.bool false,D.int .i64 0]∧∀(b:Bool) (i:Int),I0 [] [D.bool b,D.int .i64 i]→br (toB (D.bool (decide (i<(Int.ofNat es.length))))) (br b ((0≤i∧i<(Int.ofNat es.length)∧List.length (nth [] es (Int.toNat i))=5)∧∃i_1 i_2 i_3 i_4 i_5,cut (nth [] es (Int.toNat i)) 0 5 [D.int .i64 i_1,D.int .i64 i_2,D.int .i64 i_3,D.int .i64 i_4,D.int .i64 i_5]∧∃b1,Gv 45 [A.c (D.int .i64 i_1),A.c (D.int .i64 i_2),A.c (D.int .i64 i_3),A.c (D.int .i64 i_4)] [A.c (D.bool b1)]∧br b1 (∃b2,Gv 46 [A.c (D.int .i64 i_5),A.c (D.int .i64 (IntKind.wrap .i64 (IntKind.wrap .i64 (0-th)-ga)))] [A.c (D.bool b2)]∧br b2 (I0 [] [D.bool (decide (i_5<sf)),D.int .i64 (IntKind.wrap .i64 (i+1))]∧M0 [D.bool (decide (i_5<sf)),D.int .i64 (IntKind.wrap .i64 (i+1))]<M0 [D.bool b,D.int .i64 i]) (I0 [] [D.bool false,D.int .i64 (IntKind.wrap .i64 (i+1))]∧M0 [D.bool false,D.int .i64 (IntKind.wrap .i64 (i+1))]<M0 [D.bool b,D.int .i64 i])) (I0 [] [D.bool false,D.int .i64 (IntKind.wrap .i64 (i+1))]∧M0 [D.bool false,D.int .i64 (IntKind.wrap .i64 (i+1))]<M0 [D.bool b,D.int .i64 i])) (br (toB (D.bool !b)) (Q [A.c (D.int .i64 1)]) (Q [A.c (D.int .i64 0)]))) (br (toB (D.bool !b)) (Q [A.c (D.int .i64 1)]) (Q [A.c (D.int .i64 0)])))) (I0 [] [D.bool false,D.int .i64 0]∧∀(b:Bool) (i:Int),I0 [] [D.bool b,D.int .i64 i]→br (toB (D.bool (decide (i<(Int.ofNat es.length))))) (br b ((0≤i∧i<(Int.ofNat es.length)∧List.length (nth [] es (Int.toNat i))=5)∧∃i_1 i_2 i_3 i_4 i_5,cut (nth [] es (Int.toNat i)) 0 5 [D.int .i64 i_1,D.int .i64 i_2,D.int .i64 i_3,D.int .i64 i_4,D.int .i64 i_5]∧∃b1,Gv 45 [A.c (D.int .i64 i_1),A.c (D.int .i64 i_2),A.c (D.int .i64 i_3),A.c (D.int .i64 i_4)] [A.c (D.bool b1)]∧br b1 (∃b2,Gv 46 [A.c (D.int .i64 i_5),A.c (D.int .i64 (IntKind.wrap .i64 (IntKind.wrap .i64 (0-th)-ga)))] [A.c (D.bool b2)]∧br b2 (I0 [] [D.bool (decide (i_5<sf)),D.int .i64 (IntKind.wrap .i64 (i+1))]∧M0 [D.bool (decide (i_5<sf)),D.int .i64 (IntKind.wrap .i64 (i+1))]<M0 [D.bool b,D.int .i64 i]) (I0 [] [D.bool false,D.int .i64 (IntKind.wrap .i64 (i+1))]∧M0 [D.bool false,D.int .i64 (IntKind.wrap .i64 (i+1))]<M0 [D.bool b,D.int .i64 i])) (I0 [] [D.bool false,D.int .i64 (IntKind.wrap .i64 (i+1))]∧M0 [D.bool false,D.int .i64 (IntKind.wrap .i64 (i+1))]<M0 [D.bool b,D.int .i64 i])) (br (toB (D.bool !b)) (Q [A.c (D.int .i64 1)]) (Q [A.c (D.int .i64 0)]))) (br (toB (D.bool !b)) (Q [A.c (D.int .i64 1)]) (Q [A.c (D.int .i64 0)])))):=by kernel_rfl
theorem vc_rRight (Gv:Nat→List A→List A→Prop) (x0 y0 x1 y1 th ga sf:Int) (es:List (List D)) (Q:List A→Prop):wpF CC Gv an0 Tryz.f5 [.ag [.int .i64 x0,.int .i64 y0,.int .i64 x1,.int .i64 y1,.int .i64 th,.int .i64 ga,.sl es,.int .i64 sf]] Q=(
 br (toB (D.bool (decide ((Int.ofNat es.length)≤4)))) (∃i,Gv 23 [A.ag [D.int .i64 x0,D.int .i64 y0,D.int .i64 x1,D.int .i64 y1,D.int .i64 th,D.int .i64 ga,D.sl es,D.int .i64 sf]] [A.c (D.int .i64 i)]∧Q [A.c (D.bool (i==0))]) (Q [A.c (D.bool false)])):=by kernel_rfl
theorem vc_pWorld (Gv:Nat→List A→List A→Prop) (x0 y0 x1 y1 th ga sf:Int) (es:List (List D)) (i0:Int) (Q:List A→Prop):wpF CC Gv an0 Tryz.f6 [.ag [.int .i64 x0,.int .i64 y0,.int .i64 x1,.int .i64 y1,.int .i64 th,.int .i64 ga,.sl es,.int .i64 sf],.c (.int .i64 i0)] Q=(
 ∃x,Gv 24 [A.c (D.int .i64 (IntKind.wrap .i64 (x0-mg0 i0)))] [A.ag (rk x [])]∧∃x_1,Gv 24 [A.c (D.int .i64 (IntKind.wrap .i64 (y0-(mg0 i0))))] [A.ag (rk x_1 [])]∧∃x2,Gv 24 [A.c (D.int .i64 (IntKind.wrap .i64 (x1+(mg0 i0))))] [A.ag (rk x2 [])]∧∃x3,Gv 24 [A.c (D.int .i64 (IntKind.wrap .i64 (y1+(mg0 i0))))] [A.ag (rk x3 [])]∧Q [A.ag (rk x (rk x_1 (rk x2 (rk x3 []))))]):=by kernel_rfl
theorem vc_rWorld (Gv:Nat→List A→List A→Prop) (x0 y0 x1 y1 th ga sf:Int) (es:List (List D)) (i0:Int) (Q:List A→Prop):wpF CC Gv an0 Tryz.f7 [.ag [.int .i64 x0,.int .i64 y0,.int .i64 x1,.int .i64 y1,.int .i64 th,.int .i64 ga,.sl es,.int .i64 sf],.c (.int .i64 i0)] Q=(
 ∃x,Gv 25 [A.c (D.int .i64 (IntKind.wrap .i64 (x0-(mg1 i0))))] [A.ag (rk x [])]∧∃x_1,Gv 25 [A.c (D.int .i64 (IntKind.wrap .i64 (y0-(mg1 i0))))] [A.ag (rk x_1 [])]∧∃x2,Gv 25 [A.c (D.int .i64 (IntKind.wrap .i64 (x1+(mg1 i0))))] [A.ag (rk x2 [])]∧∃x3,Gv 25 [A.c (D.int .i64 (IntKind.wrap .i64 (y1+(mg1 i0))))] [A.ag (rk x3 [])]∧Q [A.ag (rk x (rk x_1 (rk x2 (rk x3 []))))]):=by kernel_rfl
theorem vc_pStock (Gv:Nat→List A→List A→Prop) (x0 y0 x1 y1 th ga sf:Int) (es:List (List D)) (Q:List A→Prop):wpF CC Gv an0 Tryz.f8 [.ag [.int .i64 x0,.int .i64 y0,.int .i64 x1,.int .i64 y1,.int .i64 th,.int .i64 ga,.sl es,.int .i64 sf]] Q=(
 ∃x x_1 x2 x3,Gv 6 [A.ag [D.int .i64 x0,D.int .i64 y0,D.int .i64 x1,D.int .i64 y1,D.int .i64 th,D.int .i64 ga,D.sl es,D.int .i64 sf],A.c (D.int .i64 0)] [A.ag (rk x (rk x_1 (rk x2 (rk x3 []))))]∧∃es i,Gv 26 [A.ag (rk x (rk x_1 (rk x2 (rk x3 []))))] [A.ag [D.sl es],A.c (D.int .i64 i)]∧Q [A.ag [D.sl es],A.c (D.int .i64 i)]):=by kernel_rfl
theorem vc_rStock (Gv:Nat→List A→List A→Prop) (x0 y0 x1 y1 th ga sf:Int) (es:List (List D)) (Q:List A→Prop):wpF CC Gv an0 Tryz.f9 [.ag [.int .i64 x0,.int .i64 y0,.int .i64 x1,.int .i64 y1,.int .i64 th,.int .i64 ga,.sl es,.int .i64 sf]] Q=(
 ∃x x_1 x2 x3,Gv 7 [A.ag [D.int .i64 x0,D.int .i64 y0,D.int .i64 x1,D.int .i64 y1,D.int .i64 th,D.int .i64 ga,D.sl es,D.int .i64 sf],A.c (D.int .i64 0)] [A.ag (rk x (rk x_1 (rk x2 (rk x3 []))))]∧∃es i,Gv 27 [A.ag (rk x (rk x_1 (rk x2 (rk x3 []))))] [A.ag [D.sl es],A.c (D.int .i64 i)]∧Q [A.ag [D.sl es],A.c (D.int .i64 i)]):=by kernel_rfl
theorem vc_pTable (Gv:Nat→List A→List A→Prop) (x0 y0 x1 y1 th ga sf:Int) (es:List (List D)) (Q:List A→Prop):wpF CC Gv an0 Tryz.f16 [.ag [.int .i64 x0,.int .i64 y0,.int .i64 x1,.int .i64 y1,.int .i64 th,.int .i64 ga,.sl es,.int .i64 sf]] Q=(
 Q [A.c (D.int .i64 (IntKind.wrap .i64 (IntKind.wrap .i64 (0-th)-ga)))]):=by kernel_rfl
theorem vc_rTable (Gv:Nat→List A→List A→Prop) (x0 y0 x1 y1 th ga sf:Int) (es:List (List D)) (Q:List A→Prop):wpF CC Gv an0 Tryz.f17 [.ag [.int .i64 x0,.int .i64 y0,.int .i64 x1,.int .i64 y1,.int .i64 th,.int .i64 ga,.sl es,.int .i64 sf]] Q=(
 Q [A.c (D.int .i64 (IntKind.wrap .i64 (IntKind.wrap .i64 (0-th)-ga)))]):=by kernel_rfl
theorem vc_uSame (Gv:Nat→List A→List A→Prop) (r0:R4) (r1:R4) (Q:List A→Prop):wpF CC Gv an0 Tryz.f10 [.ag (rk r0 []),.ag (rk r1 [])] Q=(
 ∃b,Gv 28 [A.ag [D.bool (R4.b r0),D.sl (R4.l r0)],A.ag [D.bool (R4.b r1),D.sl (R4.l r1)]] [A.c (D.bool b)]∧br b (∃b,Gv 28 [A.ag [D.bool (R4.c r0),D.sl (R4.m r0)],A.ag [D.bool (R4.c r1),D.sl (R4.m r1)]] [A.c (D.bool b)]∧Q [A.c (D.bool b)]) (Q [A.c (D.bool false)])):=by kernel_rfl
theorem vc_oZero (Gv:Nat→List A→List A→Prop) (Q:List A→Prop):wpF CC Gv an0 Tryz.f29 [] Q=(
 ∃x,Gv 25 [A.c (D.int .i64 0)] [A.ag (rk x [])]∧Q [A.ag (rk x [])]):=by kernel_rfl
theorem vc_oAt (Gv:Nat→List A→List A→Prop) (r0:R4) (r1:R4) (Q:List A→Prop):wpF CC Gv an0 Tryz.f11 [.ag (rk r0 (rk r1 []))] Q=(
 ∃x,Gv 29 [] [A.ag (rk x [])]∧∃x1,Gv 29 [] [A.ag (rk x1 [])]∧∃x2,Gv 29 [] [A.ag (rk x2 [])]∧Q [A.ag (rk r0 (rk x (rk r1 (rk x1 (rk x2 [])))))]):=by kernel_rfl
theorem vc_oAt2 (Gv:Nat→List A→List A→Prop) (sx sy su:Int) (Q:List A→Prop):wpF CC Gv an0 Tryz.f12 [.ag [.int .i16 sx,.int .i16 sy,.int .u8 su]] Q=(
 ∃x,Gv 30 [A.c (D.int .i64 (IntKind.wrap .i64 sx)),A.c (D.int .i64 (IntKind.wrap .i64 (IntKind.wrap .i64 su+1)))] [A.ag (rk x [])]∧∃x1,Gv 30 [A.c (D.int .i64 (IntKind.wrap .i64 sy)),A.c (D.int .i64 (IntKind.wrap .i64 (IntKind.wrap .i64 su+1)))] [A.ag (rk x1 [])]∧Q [A.ag (rk x (rk x1 []))]):=by kernel_rfl
theorem vc_uFrac (Gv:Nat→List A→List A→Prop) (i0:Int) (i1:Int) (Q:List A→Prop):wpF CC Gv an0 Tryz.f30 [.c (.int .i64 i0),.c (.int .i64 i1)] Q=(
 br (toB (D.bool (i1==0))) (∃b es,Gv 49 [A.c (D.int .i64 0)] [A.ag [D.bool b,D.sl es]]∧∃b1 e1,Gv 49 [A.c (D.int .i64 1)] [A.ag [D.bool b1,D.sl e1]]∧∃x,Gv 58 [A.ag [D.bool b,D.sl es],A.ag [D.bool b1,D.sl e1]] [A.ag (rk x [])]∧Q [A.ag (rk x [])]) (∃b es,Gv 49 [A.c (D.int .i64 i0)] [A.ag [D.bool b,D.sl es]]∧∃b1 e1,Gv 49 [A.c (D.int .i64 i1)] [A.ag [D.bool b1,D.sl e1]]∧∃x,Gv 58 [A.ag [D.bool b,D.sl es],A.ag [D.bool b1,D.sl e1]] [A.ag (rk x [])]∧Q [A.ag (rk x [])])):=by kernel_rfl
end Eng
end

section
namespace Eng
open Go Go.Proofs
set_option maxRecDepth 100000
def Hz (k:Nat) (r:Rat):Prop:=r.num.natAbs≤10^k∧r.den≤10^k
theorem Hz.mono {k m:Nat} {r:Rat} (h:Hz k r) (hk:k≤m):Hz m r:=
 ⟨Nat.le_trans h.1 (Nat.pow_le_pow_right (by omega) hk),Nat.le_trans h.2 (Nat.pow_le_pow_right (by omega) hk)⟩
theorem halfZ {n:Nat} (hn:n=9*100*100*4):halfN=10^n:=by
 have e:(1000000000:Nat)=10^9:=by decide
 unfold halfN;rw[e];exact pow4 hn
theorem Hz.sr {k:Nat} {r:Rat} (h:Hz k r) (hk:k<360000):Sr r:=by
 obtain⟨n,hn⟩:∃n,n=9*100*100*4:=⟨_,rfl⟩;have h1:10^k<halfN:=by rw[halfZ hn];exact Nat.pow_lt_pow_right (by omega) (by omega)
 refine⟨Nat.lt_of_le_of_lt h.1 h1,?_⟩;unfold Sq;rw[Int.natAbs_natCast];exact Nat.lt_of_le_of_lt h.2 h1
theorem Hz.divInt {n d:Int} {k:Nat} (hd:0<d) (h1:n.natAbs≤10^k) (h2:d.natAbs≤10^k):Hz k (Rat.divInt n d):=by
 obtain⟨e1,e2⟩:=divInt_nd (n:=n) hd;constructor
 ·rw[e1];exact Nat.le_trans (Int.natAbs_ediv_le_natAbs _ _) h1
 ·have:((Rat.divInt n d).den:Int).natAbs≤d.natAbs:=by rw[e2];exact Int.natAbs_ediv_le_natAbs _ _
  rw[Int.natAbs_natCast]at this;exact Nat.le_trans this h2
theorem Hz.neg {k:Nat} {r:Rat} (h:Hz k r):Hz k (-r):=by
 refine⟨?_,h.2⟩;rw[Rat.neg_num,Int.natAbs_neg];exact h.1
theorem Hz.mul {j k l:Nat} {x y:Rat} (hx:Hz j x) (hy:Hz k y) (h:j+k≤l:=by omega):Hz l (x*y):=by
 have e:x*y=Rat.divInt (x.num*y.num) (x.den*y.den):=by rw[←Rat.divInt_mul_divInt,Rat.num_divInt_den,Rat.num_divInt_den]
 have px:=den_pos x;have py:=den_pos y;refine Hz.mono (k:=j+k) ?_ h;rw[e];refine Hz.divInt (Int.mul_pos px py) ?_ ?_
 ·rw[Int.natAbs_mul,Nat.pow_add];exact Nat.mul_le_mul hx.1 hy.1
 ·rw[Int.natAbs_mul,Nat.pow_add,Int.natAbs_natCast,Int.natAbs_natCast];exact Nat.mul_le_mul hx.2 hy.2
theorem Hz.add {j k l:Nat} {x y:Rat} (hx:Hz j x) (hy:Hz k y) (h:j+k+1≤l:=by omega):Hz l (x+y):=by
 have px:=den_pos x;have py:=den_pos y;have e0:x+y=Rat.divInt (x.num*y.den+y.num*x.den) (x.den*y.den):=by rw[←Rat.divInt_add_divInt _ _ (by omega) (by omega),Rat.num_divInt_den,Rat.num_divInt_den]
 refine Hz.mono (k:=j+k+1) ?_ h;rw[e0];have hp:10^(j+k+1)=10*(10^j*10^k):=by rw[Nat.pow_succ,Nat.pow_add,Nat.mul_comm]
 have a1:(x.num*y.den).natAbs≤10^j*10^k:=by rw[Int.natAbs_mul,Int.natAbs_natCast];exact Nat.mul_le_mul hx.1 hy.2
 have a2:(y.num*x.den).natAbs≤10^j*10^k:=by rw[Int.natAbs_mul,Int.natAbs_natCast,Nat.mul_comm];exact Nat.mul_le_mul hx.2 hy.1
 have a3:((x.den:Int)*y.den).natAbs≤10^j*10^k:=by rw[Int.natAbs_mul,Int.natAbs_natCast,Int.natAbs_natCast];exact Nat.mul_le_mul hx.2 hy.2
 refine Hz.divInt (Int.mul_pos px py) ?_ ?_
 ·rw[hp];generalize 10^j*10^k=T at *;have:=Int.natAbs_add_le (x.num*y.den) (y.num*x.den);omega
 ·rw[hp];generalize 10^j*10^k=T at *;omega
theorem Hz.sub {j k l:Nat} {x y:Rat} (hx:Hz j x) (hy:Hz k y) (h:j+k+1≤l:=by omega):Hz l (x-y):=by
 rw[Rat.sub_eq_add_neg];exact hx.add hy.neg h
theorem Hz.inv {k:Nat} {y:Rat} (hy:Hz k y) (h:y≠0):Hz k (y⁻¹):=by
 have hn:y.num≠0:=fun h0=>h (Rat.num_eq_zero.1 h0)
 have e:y⁻¹=Rat.divInt y.den y.num:=by rw[←Rat.inv_divInt,Rat.num_divInt_den]
 rw[e];by_cases hp:0<y.num
 ·exact Hz.divInt hp (by rw[Int.natAbs_natCast];exact hy.2) hy.1
 ·have e2:Rat.divInt (y.den:Int) y.num=Rat.divInt (-(y.den:Int)) (-y.num):=(Rat.neg_divInt_neg _ _).symm;rw[e2];exact Hz.divInt (by omega) (by rw[Int.natAbs_neg,Int.natAbs_natCast];exact hy.2) (by rw[Int.natAbs_neg];exact hy.1)
theorem Hz.div {j k l:Nat} {x y:Rat} (hx:Hz j x) (hy:Hz k y) (h0:y≠0) (h:j+k≤l):Hz l (x/y):=by
 rw[Rat.div_def];exact hx.mul (hy.inv h0) h
theorem Hz.int {n:Int} {k:Nat} (h:n.natAbs≤10^k):Hz k (n:Rat):=by
 refine⟨by rw[Rat.num_intCast];exact h,by rw[Rat.den_intCast];exact Nat.pow_pos (by omega)⟩
theorem Hz.zero {k:Nat}:Hz k 0:=Hz.int (n:=0) (by simp)
theorem Hz.one {k:Nat}:Hz k 1:=Hz.int (n:=1) (Nat.pow_pos (by omega))
end Eng
end

section
namespace Eng
theorem Rl_mul_le {x y B e:Rat} (h1: -B≤x) (h2:x≤B) (h3: -e≤y) (h4:y≤e):x*y≤B*e∧ -(B*e)≤x*y:=by
 have a:0≤(B-x)*(e+y):=Rat.mul_nonneg (by grind) (by grind);have b:0≤(B+x)*(e-y):=Rat.mul_nonneg (by grind) (by grind);have c:0≤(B-x)*(e-y):=Rat.mul_nonneg (by grind) (by grind);have d:0≤(B+x)*(e+y):=Rat.mul_nonneg (by grind) (by grind);constructor<;>grind
structure Cs where
 v:Nat→Rat
 cau:∀e:Rat,0<e→∃N,∀m n,N≤m→N≤n→v m-v n≤e
namespace Cs
theorem bnd (x:Cs):∃B:Rat,0<B∧∃N,∀n,N≤n→ -B≤x.v n∧x.v n≤B:=by
 obtain⟨N,h⟩:=x.cau 1 (by grind);refine⟨(if 0≤x.v N then x.v N else-x.v N)+2,by split<;>grind,N,fun n hn=>?_⟩;have h1:=h n N hn (Nat.le_refl _);have h2:=h N n (Nat.le_refl _) hn;split<;>grind
def cst (a:Rat):Cs:=⟨fun _=>a,fun e he=>⟨0,fun _ _ _ _=>by grind⟩⟩
def add (x y:Cs):Cs:=⟨fun n=>x.v n+y.v n,fun e he=>by
 obtain⟨N,h⟩:=x.cau (e/2) (by grind);obtain⟨M,k⟩:=y.cau (e/2) (by grind);refine⟨max N M,fun m n hm hn=>?_⟩;have:=h m n (by omega) (by omega);have:=k m n (by omega) (by omega)
 grind⟩
def neg (x:Cs):Cs:=⟨fun n=> -x.v n,fun e he=>by
 obtain⟨N,h⟩:=x.cau e he;refine⟨N,fun m n hm hn=>?_⟩;have:=h n m hn hm
 grind⟩
theorem scale {B e:Rat} (hB:0<B) (he:0<e):0<e/B∧B*(e/B)=e:=by
 constructor
 ·rw[Rat.div_def];exact Rat.mul_pos he (Rat.inv_pos.2 hB)
 ·rw[Rat.div_def,Rat.mul_comm e,←Rat.mul_assoc,Rat.mul_inv_cancel _ (by grind),Rat.one_mul]
def mul (x y:Cs):Cs:=⟨fun n=>x.v n*y.v n,fun e he=>by
 obtain⟨B,hB,N,h⟩:=x.bnd;obtain⟨B',hB',N',h'⟩:=y.bnd;obtain⟨p1,p2⟩:=scale hB (show(0:Rat)<e/2 by grind);obtain⟨q1,q2⟩:=scale hB' (show(0:Rat)<e/2 by grind);obtain⟨M,k⟩:=y.cau _ p1;obtain⟨M',k'⟩:=x.cau _ q1;refine⟨max (max N N') (max M M'),fun m n hm hn=>?_⟩;have a:=Rl_mul_le (h m (by omega)).1 (h m (by omega)).2 (show-(e/2/B)≤y.v m-y.v n by have:=k n m (by omega) (by omega);grind) (k m n (by omega) (by omega));have b:=Rl_mul_le (h' n (by omega)).1 (h' n (by omega)).2 (show-(e/2/B')≤x.v m-x.v n by have:=k' n m (by omega) (by omega);grind) (k' m n (by omega) (by omega));rw[p2]at a;rw[q2]at b
 grind⟩
def Z (f:Nat→Rat):Prop:=∀e:Rat,0<e→∃N,∀n,N≤n→ -e≤f n∧f n≤e
def rel (x y:Cs):Prop:=Z fun n=>x.v n-y.v n
theorem Z.add {f g:Nat→Rat} (hf:Z f) (hg:Z g):Z fun n=>f n+g n:=fun e he=>by
 obtain⟨N,h⟩:=hf (e/2) (by grind);obtain⟨M,k⟩:=hg (e/2) (by grind);refine⟨max N M,fun n hn=>?_⟩;have:=h n (by omega);have:=k n (by omega)
 grind
theorem Z.neg {f:Nat→Rat} (hf:Z f):Z fun n=> -f n:=fun e he=>by
 obtain⟨N,h⟩:=hf e he;refine⟨N,fun n hn=>?_⟩;have:=h n hn
 grind
theorem Z.mul (x:Cs) {f:Nat→Rat} (hf:Z f):Z fun n=>x.v n*f n:=fun e he=>by
 obtain⟨B,hB,N,h⟩:=x.bnd;obtain⟨p1,p2⟩:=scale hB he;obtain⟨M,k⟩:=hf _ p1;refine⟨max N M,fun n hn=>?_⟩;have a:=Rl_mul_le (h n (by omega)).1 (h n (by omega)).2 (k n (by omega)).1 (k n (by omega)).2;rw[p2]at a;exact⟨a.2,a.1⟩
theorem Z.congr {f g:Nat→Rat} (hf:Z f) (h:∀n,f n=g n):Z g:=by
 have:f=g:=funext h;exact this▸hf
instance set:Setoid Cs where
 r:=rel
 iseqv:=⟨fun x e he=>⟨0,fun n _=>by grind⟩,fun h=>(Z.neg h).congr fun n=>by grind,fun h k=>(Z.add h k).congr fun n=>by grind⟩
def P (f:Nat→Rat):Prop:=∃e:Rat,0<e∧∃N,∀n,N≤n→e≤f n
theorem P.congr {f g:Nat→Rat} (hf:P f) (h:Z fun n=>f n-g n):P g:=by
 obtain⟨e,he,N,k⟩:=hf;obtain⟨M,j⟩:=h (e/2) (by grind);refine⟨e/2,by grind,max N M,fun n hn=>?_⟩;have:=k n (by omega);have:=j n (by omega)
 grind
end Cs
def Rl:Type:=Quotient Cs.set
namespace Rl
def mk (x:Cs):Rl:=Quotient.mk Cs.set x
theorem mk_eq {x y:Cs}:mk x=mk y↔Cs.Z fun n=>x.v n-y.v n:=⟨fun h=>Quotient.exact h,fun h=>Quotient.sound h⟩
def add (x y:Rl):Rl:=Quotient.liftOn₂ x y (fun a b=>mk (a.add b)) fun _ _ _ _ h k=>mk_eq.2 ((Cs.Z.add h k).congr fun n=>by simp only[Cs.add];grind)
def neg (x:Rl):Rl:=Quotient.liftOn x (fun a=>mk a.neg) fun _ _ h=>mk_eq.2 ((Cs.Z.neg h).congr fun n=>by simp only[Cs.neg];grind)
def mul (x y:Rl):Rl:=Quotient.liftOn₂ x y (fun a b=>mk (a.mul b)) fun a b c d h k=>mk_eq.2 ((Cs.Z.add (Cs.Z.mul b h) (Cs.Z.mul c k)).congr fun n=>by simp only[Cs.mul];grind)
def ofR (a:Rat):Rl:=mk (.cst a)
instance:Add Rl:=⟨add⟩
instance:Neg Rl:=⟨neg⟩
instance:Sub Rl:=⟨fun x y=>x+ -y⟩
instance:Mul Rl:=⟨mul⟩
instance:OfNat Rl 0:=⟨ofR 0⟩
instance:OfNat Rl 1:=⟨ofR 1⟩
theorem add_v (a b:Cs) (n:Nat):(a.add b).v n=a.v n+b.v n:=rfl
theorem neg_v (a:Cs) (n:Nat):a.neg.v n= -a.v n:=rfl
theorem mul_v (a b:Cs) (n:Nat):(a.mul b).v n=a.v n*b.v n:=rfl
theorem cst_v (a:Rat) (n:Nat):(Cs.cst a).v n=a:=rfl
def pos (x:Rl):Prop:=Quotient.liftOn x (fun a=>Cs.P a.v) fun _ _ h=>propext ⟨fun k=>k.congr h,fun k=>k.congr ((Cs.Z.neg h).congr fun n=>by grind)⟩
instance:LT Rl:=⟨fun x y=>pos (y-x)⟩
instance:LE Rl:=⟨fun x y=>¬y<x⟩
end Rl
end Eng
end

section
namespace Eng
namespace Rl
def sr (a:Rat):Int:=if 0<a then 1 else if a<0 then-1 else 0
end Rl
end Eng
end

section
namespace Eng
open Rl
abbrev Mon:=Int×List Nat
abbrev Pol:=List Mon
variable (ρ:Nat→Rat)
def powR (x:Rat):Nat→Rat
 |0=>1
 |n+1=>x*powR x n
def evE:Nat→List Nat→Rat
 |_,[]=>1
 |i,e::r=>powR (ρ i) e*evE (i+1) r
def evM (m:Mon):Rat:=(m.1:Rat)*evE ρ 0 m.2
def evP:Pol→Rat
 |[]=>0
 |m::r=>evM ρ m+evP r
def eqE:List Nat→List Nat→Bool
 |[],[]=>true
 |a::r,b::s=>Nat.beq a b&&eqE r s
 |_,_=>false
def ltE:List Nat→List Nat→Bool
 |a::r,b::s=>match Nat.blt a b with
  |true=>true
  |false=>Nat.beq a b&&ltE r s
 |[],_::_=>true
 |_,_=>false
def insM (m:Mon):Pol→Pol
 |[]=>[m]
 |k::r=>match eqE m.2 k.2 with
  |true=>match m.1+k.1 with
   | .ofNat 0=>r
   |c=>(c,k.2)::r
  |false=>match ltE m.2 k.2 with
   |true=>m::k::r
   |false=>k::insM m r
def pAdd:Pol→Pol→Pol
 |[],q=>q
 |m::r,q=>insM m (pAdd r q)
def pNeg:Pol→Pol
 |[]=>[]
 |(c,e)::r=>(-c,e)::pNeg r
def addE:List Nat→List Nat→List Nat
 |[],s=>s
 |r,[]=>r
 |a::r,b::s=>(a+b)::addE r s
def mulM (m:Mon):Pol→Pol
 |[]=>[]
 |k::r=>insM (m.1*k.1,addE m.2 k.2) (mulM m r)
def pMul:Pol→Pol→Pol
 |[],_=>[]
 |m::r,q=>pAdd (mulM m q) (pMul r q)
theorem eqE_ok:∀{a b:List Nat},eqE a b=true→a=b
 |[],[],_=>rfl
 |a::r,b::s,h=>by unfold eqE at h;rw[Bool.and_eq_true]at h;rw[Nat.eq_of_beq_eq_true h.1,eqE_ok h.2]
 |[],_::_,h=>by cases h
 |_::_,[],h=>by cases h
theorem insM_ev (m:Mon):∀p:Pol,evP ρ (insM m p)=evM ρ m+evP ρ p
 |[]=>rfl
 |k::r=>by
  unfold insM;cases he:eqE m.2 k.2 with
  |true=>
   have e:=eqE_ok he;have s:evM ρ m+evM ρ k=((m.1+k.1:Int):Rat)*evE ρ 0 k.2:=by unfold evM;rw[e,Rat.intCast_add];grind
   show evP ρ (match m.1+k.1 with
    | .ofNat 0=>r
    |c=>(c,k.2)::r)=evM ρ m+(evM ρ k+evP ρ r)
   split
   ·rename_i h0;rw[show m.1+k.1=0 from h0]at s;have:((0:Int):Rat)=0:=rfl;rw[this]at s
    grind
   ·show(((m.1+k.1:Int):Rat)*evE ρ 0 k.2)+evP ρ r=_;rw[←s];grind
  |false=>
   cases ltE m.2 k.2 with
   |true=>rfl
   |false=>show evM ρ k+evP ρ (insM m r)=evM ρ m+(evM ρ k+evP ρ r);rw[insM_ev m r];grind
theorem pAdd_ev:∀p q:Pol,evP ρ (pAdd p q)=evP ρ p+evP ρ q
 |[],q=>by show evP ρ q=0+evP ρ q;grind
 |m::r,q=>by show evP ρ (insM m (pAdd r q))=(evM ρ m+evP ρ r)+evP ρ q;rw[insM_ev,pAdd_ev r q];grind
theorem pNeg_ev:∀p:Pol,evP ρ (pNeg p)= -evP ρ p
 |[]=>by show(0:Rat)= -0;grind
 |(c,e)::r=>by show((-c:Int):Rat)*evE ρ 0 e+evP ρ (pNeg r)= -((c:Rat)*evE ρ 0 e+evP ρ r);rw[pNeg_ev r,Rat.intCast_neg];grind
theorem powR_add (x:Rat) (a:Nat):∀b:Nat,powR x (a+b)=powR x a*powR x b
 |0=>by show powR x a=powR x a*1;grind
 |b+1=>by show x*powR x (a+b)=powR x a*(x*powR x b);rw[powR_add x a b];grind
theorem addE_ev:∀(i:Nat) (a b:List Nat),evE ρ i (addE a b)=evE ρ i a*evE ρ i b
 |i,[],s=>by show evE ρ i s=1*evE ρ i s;grind
 |i,a::r,[]=>by show evE ρ i (a::r)=evE ρ i (a::r)*1;grind
 |i,a::r,b::s=>by show powR (ρ i) (a+b)*evE ρ (i+1) (addE r s)=powR (ρ i) a*evE ρ (i+1) r*(powR (ρ i) b*evE ρ (i+1) s);rw[powR_add (ρ i) a b,addE_ev (i+1) r s];grind
theorem mulM_ev (m:Mon):∀q:Pol,evP ρ (mulM m q)=evM ρ m*evP ρ q
 |[]=>by show(0:Rat)=evM ρ m*0;grind
 |k::r=>by
  show evP ρ (insM (m.1*k.1,addE m.2 k.2) (mulM m r))=evM ρ m*(evM ρ k+evP ρ r);rw[insM_ev,mulM_ev m r];have:evM ρ (m.1*k.1,addE m.2 k.2)=evM ρ m*evM ρ k:=by unfold evM;show((m.1*k.1:Int):Rat)*evE ρ 0 (addE m.2 k.2)=_;rw[addE_ev,Rat.intCast_mul];grind
  rw[this];grind
theorem pMul_ev:∀p q:Pol,evP ρ (pMul p q)=evP ρ p*evP ρ q
 |[],q=>by show(0:Rat)=0*evP ρ q;grind
 |m::r,q=>by show evP ρ (pAdd (mulM m q) (pMul r q))=(evM ρ m+evP ρ r)*evP ρ q;rw[pAdd_ev,mulM_ev,pMul_ev r q];grind
def posE:List Bool→List Nat→Bool
 |_,[]=>true
 |[],0::r=>posE [] r
 |[],(_+1)::_=>false
 |true::bs,_::r=>posE bs r
 |false::bs,0::r=>posE bs r
 |false::_,(_+1)::_=>false
def sgA (bs:List Bool) (s:Bool):Pol→Bool
 |[]=>true
 |(c,e)::r=>(match s with
  |true=>decide (0<c)
  |false=>decide (c<0))&&(posE bs e&&sgA bs s r)
def sgP (bs:List Bool) (p:Pol):Option Int:=
 match p with
 |[]=>some 0
 |_=>match sgA bs true p with
  |true=>some 1
  |false=>match sgA bs false p with
   |true=>some (-1)
   |false=>none
def PosOk (bs:List Bool):Prop:=∀i,bs[i]? =some true→0<ρ i
theorem powR_pos {x:Rat} (h:0<x):∀n,0<powR x n
 |0=>by show(0:Rat)<1;decide
 |n+1=>Rat.mul_pos h (powR_pos h n)
theorem posE_ok:∀(bs:List Bool) (e:List Nat) (i:Nat),(∀j,bs[j]? =some true→0<ρ (i+j))→posE bs e=true→0<evE ρ i e
 |_,[],_,_,_=>by show(0:Rat)<1;decide
 |[],0::r,i,h,hp=>by
  show(0:Rat)<1*evE ρ (i+1) r;have:=posE_ok [] r (i+1) (fun j hj=>by simp at hj) hp
  grind
 |[],(_+1)::_,_,_,hp=>by cases hp
 |true::bs,e::r,i,h,hp=>by
  refine Rat.mul_pos (powR_pos (by have:=h 0 rfl;exact this) e) ?_;have hp:posE bs r=true:=by simpa only[posE]using hp
  exact posE_ok bs r (i+1) (fun j hj=>by have:=h (j+1) (by simpa using hj);rwa [show i+1+j=i+(j+1)by omega]) hp
 |false::bs,0::r,i,h,hp=>by
  show(0:Rat)<1*evE ρ (i+1) r;have:=posE_ok bs r (i+1) (fun j hj=>by have:=h (j+1) (by simpa using hj);rwa [show i+1+j=i+(j+1)by omega]) hp
  grind
 |false::_,(_+1)::_,_,_,hp=>by cases hp
theorem sgA_pos {bs:List Bool} (hb:PosOk ρ bs):∀p:Pol,sgA bs true p=true→0≤evP ρ p∧(p≠[]→0<evP ρ p)
 |[],_=>⟨Rat.le_refl,fun h=>absurd rfl h⟩
 |(c,e)::r,h=>by
  unfold sgA at h;simp only[Bool.and_eq_true,decide_eq_true_eq]at h;obtain⟨h1,h2,h3⟩:=h;have k1:=posE_ok ρ bs e 0 (fun j hj=>by rw[Nat.zero_add];exact hb j hj) h2;have k2:=(sgA_pos hb r h3).1;have k3:(0:Rat)<(c:Rat):=by have:=Rat.intCast_lt_intCast.2 h1;exact this
  have k4:=Rat.mul_pos k3 k1;have k5:0<evP ρ ((c,e)::r):=by show 0<(c:Rat)*evE ρ 0 e+evP ρ r;grind
  exact⟨Rat.le_of_lt k5,fun _=>k5⟩
theorem sgA_neg {bs:List Bool}:∀p:Pol,sgA bs false p=true→sgA bs true (pNeg p)=true
 |[],_=>rfl
 |(c,e)::r,h=>by unfold sgA at h;simp only[Bool.and_eq_true,decide_eq_true_eq]at h;show sgA bs true ((-c,e)::pNeg r)=true;unfold sgA;simp only[Bool.and_eq_true,decide_eq_true_eq];exact⟨by omega,h.2.1,sgA_neg r h.2.2⟩
theorem sgP_ok {bs:List Bool} (hb:PosOk ρ bs) {p:Pol} {s:Int} (h:sgP bs p=some s):sr (evP ρ p)=s:=by
 unfold sgP at h;split at h
 ·obtain rfl:=Option.some.inj h;show sr 0=0;simp[sr]
 ·rename_i hp;have hne:p≠[]:=fun e=>hp e
  split at h
  ·rename_i k;obtain rfl:=Option.some.inj h;have:=(sgA_pos ρ hb p k).2 hne;unfold sr;rw[if_pos this]
  ·split at h
   ·rename_i k;obtain rfl:=Option.some.inj h;have hn:pNeg p≠[]:=by
     cases p with
     |nil=>exact absurd rfl hne
     |cons m r=>obtain⟨c,e⟩:=m;intro e;cases e
    have:=(sgA_pos ρ hb _ (sgA_neg p k)).2 hn;rw[pNeg_ev]at this;unfold sr;rw[if_neg (by grind),if_pos (by grind)]
   ·cases h
def pPow (q:Pol):Nat→Pol
 |0=>[(1,[])]
 |n+1=>pMul (pPow q n) q
def zE:Nat→List Nat→List Nat
 |0,e=>e
 |n+1,e=>0::zE n e
def prE:Nat→List Pol→List Nat→Pol
 |_,_,[]=>[(1,[])]
 |i,[],e=>[(1,zE i e)]
 |i,q::s,k::r=>pMul (pPow q k) (prE (i+1) s r)
def subP (σ:List Pol):Pol→Pol
 |[]=>[]
 |(c,e)::r=>pAdd (pMul [(c,[])] (prE 0 σ e)) (subP σ r)
theorem pPow_ev (q:Pol):∀n,evP ρ (pPow q n)=powR (evP ρ q) n
 |0=>by show(1:Rat)*1+0=1;grind
 |n+1=>by unfold pPow powR;rw[pMul_ev,pPow_ev q n];grind
theorem zE_ev:∀(j i:Nat) (e:List Nat),evE ρ j (zE i e)=evE ρ (j+i) e
 |_,0,_=>rfl
 |j,i+1,e=>by
  show powR (ρ j) 0*evE ρ (j+1) (zE i e)=_;rw[zE_ev (j+1) i e,show j+1+i=j+(i+1)by omega];show(1:Rat)*_=_
  grind
theorem prE_ev:∀(e:List Nat) (i:Nat) (s:List Pol),(∀(j:Nat) q,s[j]? =some q→evP ρ q=ρ (i+j))→evP ρ (prE i s e)=evE ρ i e
 |[],i,s,_=>by
  have:prE i s []=[(1,[])]:=by unfold prE;rfl
  rw[this];show(1:Rat)*1+0=1;grind
 |k::r,i,[],_=>by show(1:Rat)*evE ρ 0 (zE i (k::r))+0=_;rw[zE_ev,Nat.zero_add];grind
 |k::r,i,q::s,h=>by
  show evP ρ (pMul (pPow q k) (prE (i+1) s r))=powR (ρ i) k*evE ρ (i+1) r;rw[pMul_ev,pPow_ev,h 0 q rfl,prE_ev r (i+1) s fun j q' hj=>by
   have:=h (j+1) q' (by simpa using hj);rw[this,show i+(j+1)=i+1+j by omega]]
  rfl
theorem subP_ev {σ:List Pol} (h:∀(j:Nat) q,σ[j]? =some q→evP ρ q=ρ j):∀p:Pol,evP ρ (subP σ p)=evP ρ p
 |[]=>rfl
 |(c,e)::r=>by
  show evP ρ (pAdd (pMul [(c,[])] (prE 0 σ e)) (subP σ r))=(c:Rat)*evE ρ 0 e+evP ρ r;rw[pAdd_ev,pMul_ev,prE_ev ρ e 0 σ (fun j q hj=>by rw[h j q hj,Nat.zero_add]),subP_ev h r];show((c:Rat)*1+0)*_+_=_
  grind
def sgS (σ:List Pol) (bs:List Bool) (p:Pol):Option Int:=
 match sgP bs p with
 |some s=>some s
 |none=>match σ with
  |[]=>none
  |_=>sgP bs (subP σ p)
theorem sgS_ok {σ:List Pol} {bs:List Bool} (hb:PosOk ρ bs) (h:∀(j:Nat) q,σ[j]? =some q→evP ρ q=ρ j) (p:Pol) (s:Int) (hs:sgS σ bs p=some s):sr (evP ρ p)=s:=by
 unfold sgS at hs;split at hs
 ·rename_i h1;obtain rfl:=Option.some.inj hs;exact sgP_ok ρ hb h1
 ·split at hs
  ·cases hs
  ·rw[←subP_ev ρ h p];exact sgP_ok ρ hb hs
end Eng
end

section
namespace Eng
open Go Go.Proofs
variable [Env]
def W (acc w:Nat):Nat:=acc*4722366482869645213696+w
def kindN:IntKind→Nat
 | .u8=>0| .u16=>1| .u32=>2| .u64=>3| .i8=>4| .i16=>5| .i32=>6| .i64=>7
def encInt (acc:Nat):Int→Nat
 | .ofNat n=>W (W acc 0) n
 | .negSucc n=>W (W acc 1) n
def encL {α:Type} (e:Nat→α→Nat) (acc:Nat) (l:List α):Nat:=l.foldl e (W acc l.length)
def encE (acc:Nat) (l:List Nat):Nat:=encL W acc l
def encP (acc:Nat) (p:List (Int×List Nat)):Nat:=encL (fun a m=>encE (encInt a m.1) m.2) acc p
def encD:Nat→Nat→D→Nat
 |0,acc,_=>W acc 99
 |_+1,acc,.undef=>W acc 0
 |_+1,acc,.bool b=>W (W acc 1) (match b with|true=>1|false=>0)
 |_+1,acc,.int k n=>encInt (W (W acc 2) (kindN k)) n
 |_+1,acc,.str s=>encL (fun a (b:UInt8)=>W a b.toNat) (W acc 3) s
 |n+1,acc,.sl es=>encL (encL (encD n)) (W acc 4) es
 |_+1,acc,.ifc b=>W (W acc 5) (match b with|true=>1|false=>0)
 |_+1,acc,.nilP=>W acc 6
 |_+1,acc,.fn f=>W (W acc 7) f
 |n+1,acc,.ptr cs=>encL (encD n) (W acc 8) cs
 |n+1,acc,.clo f ps=>encL (encD n) (W (W acc 9) f) ps
 |_+1,acc,.tok p i=>encP (W (W acc 10) i) p
def encA (acc:Nat):A→Nat
 | .c d=>encD 20 (W acc 0) d
 | .ag cs=>encL (encD 20) (W acc 1) cs
def keyA (al:List A):Nat:=encL encA (W 1 2) al%2305843009213693951
abbrev EntH:=Nat×Nat×List A×List A
def findH (f key:Nat) (al:List A):List EntH→Option (List A)
 |[]=>none
 |(f0,k0,al0,rs0)::r=>match Nat.beq f f0 with
  |true=>match Nat.beq key k0 with
   |true=>match eqL eqA al al0 with
    |true=>some rs0
    |false=>findH f key al r
   |false=>findH f key al r
  |false=>findH f key al r
def AllG (C:Cx):List EntH→Prop
 |[]=>True
 |(f0,_,al0,rs0)::r=>Gives C f0 al0 rs0∧AllG C r
def hasF (f:Nat):List EntH→Bool
 |[]=>false
 |(f0,_)::r=>match Nat.beq f f0 with
  |true=>true
  |false=>hasF f r
def tabH (ents:List EntH) (tab:Nat→List A→Option (List A)) (f:Nat) (al:List A):Option (List A):=
 match hasF f ents with
 |true=>match keyA al with
  |0=>tab f al
  |k+1=>match findH f (k+1) al ents with
   |some rs=>some rs
   |none=>tab f al
 |false=>tab f al
theorem findH_ok {C:Cx} {f key:Nat} {al rs:List A}:∀{ents:List EntH},AllG C ents→findH f key al ents=some rs→Gives C f al rs
 |[],_,h=>by simp[findH]at h
 |(f0,k0,al0,rs0)::r,hg,h=>by
  obtain⟨h1,h2⟩:=hg;unfold findH at h;split at h
  ·rename_i hf;split at h
   ·split at h
    ·rename_i ha;obtain rfl:=Nat.eq_of_beq_eq_true hf;obtain rfl:=eqL_ok eqA_ok ha;simp only[Option.some.injEq]at h;subst h;exact h1
    ·exact findH_ok h2 h
   ·exact findH_ok h2 h
  ·exact findH_ok h2 h
theorem tabH_ok {C:Cx} {ents:List EntH} {tab:Nat→List A→Option (List A)} (h0:AllG C ents) (h:∀f al rs,tab f al=some rs→Gives C f al rs) (f:Nat) (al rs:List A) (hh:tabH ents tab f al=some rs):Gives C f al rs:=by
 unfold tabH at hh;split at hh
 ·split at hh
  ·exact h _ _ _ hh
  ·split at hh
   ·rename_i rs' hf;simp only[Option.some.injEq]at hh;subst hh;exact findH_ok h0 hf
   ·exact h _ _ _ hh
 ·exact h _ _ _ hh
end Eng
end

section
namespace Eng
open Go Go.Proofs Rl
set_option maxRecDepth 100000
def tk (p:Pol):List D:=[.tok p 0,.tok p 1,.tok p 2,.tok p 3]
def cell4 (x:Rat):Nat→D
 |0=> .bool (decide (x.num<0))
 |1=> .sl (raw (lim x.num.natAbs))
 |2=> .bool (decide ((x.den:Int)<0))
 |_=> .sl (raw (lim (x.den:Int).natAbs))
def cellE (ρ:Nat→Rat) (bd:Pol→Nat→Int) (p:Pol) (i:Nat):D:=
 match Nat.ble 4 i with
 |false=>cell4 (evP ρ p) i
 |true=>match Nat.beq i 8 with
  |true=> .bool (decide (bd p i≠0))
  |false=> .int .i64 (bd p i)
@[reducible] def envP (ρ:Nat→Rat) (bd:Pol→Nat→Int):Env:=⟨cellE ρ bd,fun p i h=>by
  unfold cellE;rw[h];cases Nat.beq i 8 with
  |true=>exact .inl ⟨_,rfl⟩
  |false=>exact .inr ⟨_,_,rfl⟩⟩
theorem cells4 (x:Rat):encR x= .ag [cell4 x 0,cell4 x 1,cell4 x 2,cell4 x 3]:=rfl
section
variable {ρ:Nat→Rat} {bd:Pol→Nat→Int}
theorem tokD {w:World} {F:Nat→Prop} {p:Pol} {i:Nat} {v:Value} (hi:Nat.ble 4 i=false): @CD (envP ρ bd) w F (.tok p i) v↔ @CD (envP ρ bd) w F (cell4 (evP ρ p) i) v:=by
 have e:(envP ρ bd).E p i=cell4 (evP ρ p) i:=by show cellE ρ bd p i=_;unfold cellE;rw[hi]
 rw[←e];constructor
 ·intro h;cases h;assumption
 ·intro h;exact @CD.tok (envP ρ bd) w F p i v h
theorem tokA {w:World} {F:Nat→Prop} {p:Pol} {v:Value}: @CA (envP ρ bd) w F (.ag (tk p)) v↔ @CA (envP ρ bd) w F (encR (evP ρ p)) v:=by
 rw[cells4];unfold CA;constructor
 ·rintro⟨vs,rfl,h⟩;refine⟨vs,rfl,?_⟩;generalize vs.toList=l at h ⊢
  match l,h with
  |[a,b,c,d],⟨h1,h2,h3,h4,_⟩=>exact⟨(tokD rfl).1 h1,(tokD rfl).1 h2,(tokD rfl).1 h3,(tokD rfl).1 h4,trivial⟩
 ·rintro⟨vs,rfl,h⟩;refine⟨vs,rfl,?_⟩;generalize vs.toList=l at h ⊢
  match l,h with
  |[a,b,c,d],⟨h1,h2,h3,h4,_⟩=>exact⟨(tokD rfl).2 h1,(tokD rfl).2 h2,(tokD rfl).2 h3,(tokD rfl).2 h4,trivial⟩
end
theorem Gives.conv [Env] {C:Cx} {f:Nat} {al al' rs rs':List A} (ha:∀w F vs,All2 (CA w F) al' vs→All2 (CA w F) al vs) (hr:∀w F v,CRes w F rs v→CRes w F rs' v) (h:Gives C f al rs):Gives C f al' rs':=by
 intro w F vs hF hi hv;refine(h w F vs hF hi (ha w F vs hv)).mono fun e w' he=>?_
 obtain⟨hb,v,rfl,k⟩:=he;exact⟨hb,v,rfl,hr _ _ _ k⟩
def sumE:List Nat→Nat
 |[]=>0
 |e::r=>e+sumE r
def coefOk:Pol→Bool
 |[]=>true
 |(c,_)::r=>decide (c.natAbs≤1000000000000000000)&&coefOk r
def szP:Pol→Nat
 |[]=>0
 |(_,e)::r=>18+20*sumE e+1+szP r
def small (p:Pol):Bool:=coefOk p&&decide (szP p≤70000)
theorem hz_pow {x:Rat} (h:Hz 20 x):∀n,Hz (20*n) (powR x n)
 |0=>Hz.one
 |n+1=>h.mul (hz_pow h n)
theorem hz_evE {ρ:Nat→Rat} (h:∀i,Hz 20 (ρ i)):∀(i:Nat) (e:List Nat),Hz (20*sumE e) (evE ρ i e)
 |_,[]=>Hz.one
 |i,e::r=>(hz_pow (h i) e).mul (hz_evE h (i+1) r) (by simp only[sumE];omega)
theorem hz_evP {ρ:Nat→Rat} (h:∀i,Hz 20 (ρ i)):∀p:Pol,coefOk p=true→Hz (szP p) (evP ρ p)
 |[],_=>Hz.zero
 |(c,e)::r,hc=>by unfold coefOk at hc;rw[Bool.and_eq_true,decide_eq_true_eq]at hc;have h1:Hz 18 (c:Rat):=Hz.int (by rw[show(10:Nat)^18=1000000000000000000 by decide];exact hc.1);have h2:=h1.mul (hz_evE h 0 e) (l:=18+20*sumE e);exact h2.add (hz_evP h r hc.2) (by simp only[szP];omega)
theorem small_sr {ρ:Nat→Rat} (h:∀i,Hz 20 (ρ i)) {p:Pol} (hs:small p=true):Sr (evP ρ p):=by
 unfold small at hs;rw[Bool.and_eq_true,decide_eq_true_eq]at hs;exact(hz_evP h p hs.1).sr (by omega)
def eqPl (p q:Pol):Bool:=eqL eqMn p q
theorem eqPl_ok {p q:Pol} (h:eqPl p q=true):p=q:=eqL_ok eqMn_ok h
def unT:List D→Option Pol
 |[.tok p 0,.tok p1 1,.tok p2 2,.tok p3 3]=>match eqPl p p1&&(eqPl p p2&&eqPl p p3)with
  |true=>some p
  |false=>none
 |_=>none
theorem unT_ok {ds:List D} {p:Pol} (h:unT ds=some p):ds=tk p:=by
 unfold unT at h;split at h
 ·split at h
  ·rename_i hh;obtain rfl:=Option.some.inj h;simp only[Bool.and_eq_true]at hh;rw[←eqPl_ok hh.1,←eqPl_ok hh.2.1,←eqPl_ok hh.2.2];rfl
  ·cases h
 ·cases h
def subE:List Nat→List Nat→Option (List Nat)
 |e,[]=>some e
 |[],0::r=>subE [] r
 |[],(_+1)::_=>none
 |a::r,b::s=>match Nat.ble b a,subE r s with
  |true,some t=>match a-b,t with
   |0,[]=>some []
   |n,t=>some (n::t)
  |_,_=>none
def divM (m:Mon):Pol→Option Pol
 |[]=>some []
 |(c,e)::r=>match subE e m.2,divM m r with
  |some e',some r'=>some ((c*m.1,e')::r')
  |_,_=>none
def pDiv (p q:Pol):Option Pol:=
 match p,q with
 |[],_=>some []
 |p,[m]=>match divM m p with
  |some r=>match eqPl (pMul (pAdd r []) q) p with
   |true=>some (pAdd r [])
   |false=>none
  |none=>none
 |_,_=>none
structure Ids where
 add:Nat
 sub:Nat
 mul:Nat
 neg:Nat
 sign:Nat
 cmp:Nat
 div:Nat
 int:Nat
def out1 (p:Pol):Option (List A):=some [.ag (tk p)]
def pC (n:Int):Pol:=match n with
 | .ofNat 0=>[]
 |n=>[(n,[])]
def numT (k:Ids) (sg:Pol→Option Int) (f:Nat) (al:List A):Option (List A):=
 match al with
 |[.ag x]=>match unT x with
  |some p=>match small p with
   |true=>match Nat.beq f k.neg with
    |true=>out1 (pNeg p)
    |false=>match Nat.beq f k.sign with
     |true=>match sg p with
      |some s=>some [.c (.int .i64 s)]
      |none=>none
     |false=>none
   |false=>none
  |none=>none
 |[.ag x,.ag y]=>match unT x,unT y with
  |some p,some q=>match small p&&small q with
   |true=>match Nat.beq f k.add with
    |true=>out1 (pAdd p q)
    |false=>match Nat.beq f k.sub with
     |true=>out1 (pAdd p (pNeg q))
     |false=>match Nat.beq f k.mul with
      |true=>out1 (pMul p q)
      |false=>match Nat.beq f k.cmp with
       |true=>match sg (pAdd p (pNeg q))with
        |some s=>some [.c (.int .i64 s)]
        |none=>none
       |false=>match Nat.beq f k.div with
        |true=>match sg q,pDiv p q with
         |some (.ofNat (_+1)),some r=>some [.ag (tk r),.c (.int .i64 0)]
         |some (.negSucc _),some r=>some [.ag (tk r),.c (.int .i64 0)]
         |_,_=>none
        |false=>none
   |false=>none
  |_,_=>none
 |[.c (.int .i64 n)]=>match Nat.beq f k.int&&(decide (-9223372036854775808≤n)&&decide (n<9223372036854775808))with
  |true=>out1 (pC n)
  |false=>none
 |_=>none
structure NumOk [Env] (k:Ids):Prop where
 add:∀x y,Sr x→Sr y→Gives CC k.add [encR x,encR y] [encR (x+y)]
 sub:∀x y,Sr x→Sr y→Gives CC k.sub [encR x,encR y] [encR (x-y)]
 mul:∀x y,Sr x→Sr y→Gives CC k.mul [encR x,encR y] [encR (x*y)]
 neg:∀x,Sr x→Gives CC k.neg [encR x] [encR (-x)]
 sign:∀x,Sr x→Gives CC k.sign [encR x] [.c (.int .i64 (sr x))]
 cmp:∀x y,Sr x→Sr y→Gives CC k.cmp [encR x,encR y] [.c (.int .i64 (sr (x-y)))]
 div:∀x y,Sr x→Sr y→y≠0→Gives CC k.div [encR x,encR y] [encR (x/y),.c (.int .i64 0)]
 int:∀n:Int, -9223372036854775808≤n→n<9223372036854775808→Gives CC k.int [.c (.int .i64 n)] [encR (n:Rat)]
section
variable {ρ:Nat→Rat} {bd:Pol→Nat→Int}
theorem all1 {w:World} {F:Nat→Prop} {p:Pol} {vs:List Value} (h:All2 (@CA (envP ρ bd) w F) [.ag (tk p)] vs):All2 (@CA (envP ρ bd) w F) [encR (evP ρ p)] vs:=by
 match vs,h with
 |[v],h=>exact⟨tokA.1 h.1,trivial⟩
theorem all2 {w:World} {F:Nat→Prop} {p q:Pol} {vs:List Value} (h:All2 (@CA (envP ρ bd) w F) [.ag (tk p),.ag (tk q)] vs):All2 (@CA (envP ρ bd) w F) [encR (evP ρ p),encR (evP ρ q)] vs:=by
 match vs,h with
 |[u,v],h=>exact⟨tokA.1 h.1,tokA.1 h.2.1,trivial⟩
theorem res1 {w:World} {F:Nat→Prop} {p:Pol} {v:Value} (h: @CRes (envP ρ bd) w F [encR (evP ρ p)] v): @CRes (envP ρ bd) w F [.ag (tk p)] v:=tokA.2 h
theorem pSub_ev (p q:Pol):evP ρ (pAdd p (pNeg q))=evP ρ p-evP ρ q:=by rw[pAdd_ev,pNeg_ev];grind
theorem pC_ev (n:Int):evP ρ (pC n)=(n:Rat):=by
 unfold pC;split
 ·rfl
 ·show(n:Rat)*1+0=n;grind
theorem pDiv_ev {p q r:Pol} (h:pDiv p q=some r) (hq:evP ρ q≠0):evP ρ r=evP ρ p/evP ρ q:=by
 unfold pDiv at h;split at h
 ·obtain rfl:=Option.some.inj h;show(0:Rat)=0/_
  grind
 ·split at h
  ·split at h
   ·rename_i hh;obtain rfl:=Option.some.inj h;have:=congrArg (evP ρ) (eqPl_ok hh);rw[pMul_ev]at this
    grind
   ·cases h
  ·cases h
 ·cases h
theorem numT_ok {k:Ids} {sg:Pol→Option Int} (hk: @NumOk (envP ρ bd) k) (hz:∀i,Hz 20 (ρ i)) (hb:∀p s,sg p=some s→sr (evP ρ p)=s) (f:Nat) (al rs:List A) (h:numT k sg f al=some rs): @Gives (envP ρ bd) CC f al rs:=by
 letI:Env:=envP ρ bd
 unfold numT at h;split at h
 ·rename_i x;split at h
  ·rename_i p hp;obtain rfl:=unT_ok hp;split at h
   ·rename_i hs;have hsr:=small_sr hz hs;split at h
    ·rename_i e;obtain rfl:=Nat.eq_of_beq_eq_true e;obtain rfl:=Option.some.inj h;have:=hk.neg _ hsr;rw[←pNeg_ev]at this;exact this.conv (fun _ _ _ h=>all1 h) (fun _ _ _ h=>res1 h)
    ·split at h
     ·rename_i e;obtain rfl:=Nat.eq_of_beq_eq_true e;split at h
      ·rename_i s hsg;obtain rfl:=Option.some.inj h;have:=hk.sign _ hsr;rw[hb _ _ hsg]at this;exact this.conv (fun _ _ _ h=>all1 h) (fun _ _ _ h=>h)
      ·cases h
     ·cases h
   ·cases h
  ·cases h
 ·rename_i x y;split at h
  ·rename_i p q hp hq;obtain rfl:=unT_ok hp;obtain rfl:=unT_ok hq;split at h
   ·rename_i hs;rw[Bool.and_eq_true]at hs;have h1:=small_sr hz hs.1;have h2:=small_sr hz hs.2;split at h
    ·rename_i e;obtain rfl:=Nat.eq_of_beq_eq_true e;obtain rfl:=Option.some.inj h;have:=hk.add _ _ h1 h2;rw[←pAdd_ev]at this;exact this.conv (fun _ _ _ h=>all2 h) (fun _ _ _ h=>res1 h)
    ·split at h
     ·rename_i e;obtain rfl:=Nat.eq_of_beq_eq_true e;obtain rfl:=Option.some.inj h;have:=hk.sub _ _ h1 h2;rw[←pSub_ev]at this;exact this.conv (fun _ _ _ h=>all2 h) (fun _ _ _ h=>res1 h)
     ·split at h
      ·rename_i e;obtain rfl:=Nat.eq_of_beq_eq_true e;obtain rfl:=Option.some.inj h;have:=hk.mul _ _ h1 h2;rw[←pMul_ev]at this;exact this.conv (fun _ _ _ h=>all2 h) (fun _ _ _ h=>res1 h)
      ·split at h
       ·rename_i e;obtain rfl:=Nat.eq_of_beq_eq_true e;split at h
        ·rename_i s hsg;obtain rfl:=Option.some.inj h;have:=hk.cmp _ _ h1 h2;rw[←pSub_ev,hb _ _ hsg]at this;exact this.conv (fun _ _ _ h=>all2 h) (fun _ _ _ h=>h)
        ·cases h
       ·split at h
        ·rename_i e;obtain rfl:=Nat.eq_of_beq_eq_true e;have go:∀{s:Int} {r:Pol},sg q=some s→s≠0→pDiv p q=some r→some [A.ag (tk r),.c (.int .i64 0)]=some rs→Gives CC k.div [.ag (tk p),.ag (tk q)] rs:=by
          intro s r hsg hs0 hd he;obtain rfl:=Option.some.inj he;have hq0:evP ρ q≠0:=fun e=>by have:=hb _ _ hsg;rw[e]at this;simp[sr]at this;exact hs0 this.symm
          have:=hk.div _ _ h1 h2 hq0;rw[←pDiv_ev hd hq0]at this;refine this.conv (fun _ _ _ h=>all2 h) (fun _ _ v h=>?_);obtain⟨vs,rfl,h⟩:=h;refine⟨vs,rfl,?_⟩;generalize vs.toList=l at h ⊢
          match l,h with
          |[u,v],h=>exact⟨tokA.2 h.1,h.2⟩
         split at h
         ·rename_i hsg hd;exact go hsg (by intro e;cases e) hd h
         ·rename_i hsg hd;exact go hsg (by intro e;cases e) hd h
         ·cases h
        ·cases h
   ·cases h
  ·cases h
 ·split at h
  ·rename_i e;rw[Bool.and_eq_true,Bool.and_eq_true,decide_eq_true_eq,decide_eq_true_eq]at e;obtain rfl:=Nat.eq_of_beq_eq_true e.1;obtain rfl:=Option.some.inj h;have:=hk.int _ e.2.1 e.2.2;rw[←pC_ev (ρ:=ρ)]at this;exact this.conv (fun _ _ _ h=>h) (fun _ _ _ h=>res1 h)
  ·cases h
 ·cases h
end
end Eng
end

section
namespace Eng
open Go Go.Proofs Go.RowKit Go.Lib Go.Shelf
set_option maxRecDepth 1000000
def ptZ:List Value:=[.bool false,.slice none 0 0,.bool false,.slice none 0 0,.bool false,.slice none 0 0,.bool false,.slice none 0 0,.bool false,.slice none 0 0,.bool false,.slice none 0 0,.bool false,.slice none 0 0,.bool false,.slice none 0 0,.bool false,.slice none 0 0,.bool false,.slice none 0 0]
theorem zerosPt:zeros Tryz.prog 46=some ptZ:=by kernel_rfl
theorem undPts:Tryz.prog.underlying 172=some (.slice 46):=by kernel_rfl
set_option maxHeartbeats 4000000 in
theorem clone_nil (c:Nat) (w:World):Calls Tryz.prog 333 #[.slice none 0 c] w fun e w'=>e= .returned (.slice none 0 0)∧w'=w:=by
 have mixed:Tryz.prog.follows .mixedOrders=true:=by kernel_rfl
 have tPts:=undPts;have he:∀w,(binOp .eql 172 (.slice none 0 c) (.slice none 0 0)).run Tryz.prog w= .ok (.bool true) w:=fun w=>by have:=run_eql_slice_nil (P:=Tryz.prog) w 172 46 none 0 c 0 0 undPts;simpa using this
 go_enter Tryz.func333,Tryz.ntmps333
 go_wp2
 all_goals (go_ret;exact⟨rfl,rfl⟩)
set_option maxHeartbeats 4000000 in
theorem clone_emp (a:Addr) (c:Nat) (w:World):Calls Tryz.prog 333 #[.slice (some a) 0 c] w fun e w'=>∃b,e= .returned (.slice (some b) 0 0)∧w'=w.alloc (.cells #[] 46):=by
 have mixed:Tryz.prog.follows .mixedOrders=true:=by kernel_rfl
 have tPts:=undPts;have he:∀w,(binOp .eql 172 (.slice (some a) 0 c) (.slice none 0 0)).run Tryz.prog w= .ok (.bool false) w:=fun w=>by have:=run_eql_slice_nil (P:=Tryz.prog) w 172 46 (some a) 0 c 0 0 undPts;simpa using this
 have zPt:∀w,(Go.sizeOf 46).run Tryz.prog w= .ok 20 w:=fun w=>run_sizeOf' zerosPt w
 go_enter Tryz.func333,Tryz.ntmps333
 go_wp2
 go_ret
 exact⟨_,rfl,rfl⟩
variable [Env]
theorem cloneE_ok:Gives CC 333 [.c (.sl [])] [.c (.sl [])]:=by
 intro w F vs _ _ ha
 match vs,ha with
 |[v],⟨h,_⟩=>
  obtain⟨ad,c,rfl,_⟩:=CD.slice_inv (show CD w F (.sl []) v from h);have hP:CC.P=Tryz.prog:=rfl;rw[hP];cases ad with
  |none=>refine(clone_nil c w).mono ?_;rintro e w' ⟨rfl,rfl⟩;exact⟨Below.refl _ _,_,rfl,CD.nil _ _⟩
  |some a=>refine(clone_emp a c w).mono ?_;rintro e w' ⟨b,rfl,rfl⟩;exact⟨(Below.refl _ _).alloc (Nat.le_refl _) _,_,rfl,CD.nil _ _⟩
def tabE (f:Nat) (al:List A):Option (List A):=
 match Nat.beq f 333 with
 |false=>tabU f al
 |true=>match al with
  |[.c (.sl [])]=>some [.c (.sl [])]
  |_=>none
theorem tabE_ok (f:Nat) (al rs:List A) (h:tabE f al=some rs):Gives CC f al rs:=by
 unfold tabE at h;split at h
 ·exact tabU_ok f al rs h
 ·rename_i hf;obtain rfl:=Nat.eq_of_beq_eq_true hf;split at h
  ·simp only[Option.some.injEq]at h;subst h;exact cloneE_ok
  ·simp at h
end Eng
end

section
namespace Eng
open Go Go.Proofs Rl
set_option maxRecDepth 100000
def idG:Ids:=⟨338,337,88,315,97,51,304,24⟩
def idR:Ids:=⟨128,129,127,130,75,54,340,25⟩
def bsT:List Bool:=[false,false,true,true,true,true,true,true,true,true]
def lt (i:Nat):Pol:=[(1,zE i [1])]
def sgT:List Pol:=[lt 0,lt 1,pAdd (lt 4) (lt 6),pAdd (lt 5) (lt 7),lt 4,lt 5,lt 6,lt 7,lt 8,lt 9]
def unTs:Nat→List D→Option (List Pol)
 |0,[]=>some []
 |n+1,a::b::c::d::r=>match unT [a,b,c,d],unTs n r with
  |some p,some l=>some (p::l)
  |_,_=>none
 |_,_=>none
def sideT (sg:Pol→Option Int) (l p:List D):Option Int:=
 match unTs 3 l,unTs 5 p with
 |some [a,b,c],some [x,[],y,[],[]]=>match small a&&(small b&&(small c&&(small x&&small y)))with
  |true=>sg (pAdd (pAdd (pMul a x) (pMul b y)) (pNeg c))
  |false=>none
 |_,_=>none
def moreT (sg:Pol→Option Int) (f:Nat) (al:List A):Option (List A):=
 match al with
 |[.ag x]=>match Nat.beq f 231||Nat.beq f 182 with
  |true=>match unT x with
   |some p=>match small p with
    |true=>some [.c (.bool true)]
    |false=>none
   |none=>none
  |false=>match Nat.beq f 183 with
   |true=>match unT x with
    |some []=>some [.ag (tk []),.c (.bool true)]
    |_=>none
   |false=>none
 |[.ag l,.ag p]=>match Nat.beq f 235 with
  |true=>match sideT sg l p with
   |some s=>some [.c (.int .i64 s)]
   |none=>none
  |false=>none
 |_=>none
def bdT (k:Int):List D:=[.tok [(k,[])] 4,.tok [(k,[])] 5,.tok [(k,[])] 6,.tok [(k,[])] 7,.tok [(k,[])] 8]
def tkR (l:List Pol):List D:=l.flatMap tk
def lX0:Pol:=lt 0
def lY0:Pol:=lt 1
def lA:Pol:=lt 2
def lB:Pol:=lt 3
def lX1:Pol:=pAdd lX0 lA
def lY1:Pol:=pAdd lY0 lB
def tabG (sg:Pol→Option Int) (f:Nat) (al:List A):Option (List A):=
 match numT idG sg f al with
 |some r=>some r
 |none=>match numT idR sg f al with
  |some r=>some r
  |none=>match moreT sg f al with
   |some r=>some r
   |none=>tabE f al
def sg0:Pol→Option Int:=sgS sgT bsT
def tabT:Nat→List A→Option (List A):=tabG sg0
class SgOk [Env] (sg:Pol→Option Int):Prop where
 ok:∀f al rs,tabG sg f al=some rs→Gives CC f al rs
abbrev TokOk [Env]:Prop:=SgOk sg0
theorem tabT_okX [Env] [TokOk] {ex:List (Nat×EffF)} (f:Nat) (al rs:List A) (h:tabT f al=some rs):Gives (CX ex) f al rs:=upX (SgOk.ok f al rs h)
end Eng
end
