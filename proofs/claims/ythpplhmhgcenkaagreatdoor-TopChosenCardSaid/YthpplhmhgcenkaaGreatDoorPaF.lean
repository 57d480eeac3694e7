import Derived.Test.YthpplhmhgcenkaaGreatDoorPaE
import Derived.Test.YthpplhmhgcenkaaGreatDoorEngF
import Derived.KernelRfl
import Derived.Shelf.Lay
import Derived.Shelf.LaySoft
import Derived.Shelf.SortG.Plain
import Derived.Shelf.SortG.SortNone
import Derived.Ground.SlgnProg
import Derived.Test.YthpplhmhgcenkaaGreatDoorProg
open Array renaming getElem?_append_left->Aw, getElem?_modify->Bx
open Bool renaming true_and->Dd, false_and->F0, and_eq_true->Hu, and_self->Hv, and_eq_false_iff->Hx, eq_false_iff->Hy, or_eq_true->I3, and_false->J3
open Classical renaming propDecidable->J4, byContradiction->Lm
open Eng.A renaming ag->Lr, c->Ls
open Eng.D renaming bool->Lv, int->M3, sl->No
open Eng.D.int renaming injEq->Pl
open Go.IntKind renaming wrap->P1, i64->Sz
open Go.Sort renaming putCells->Tk, mapBlock->Ts, putRow->U0, ahead->U3, grow->V1
open Int renaming toNat->W0, tmod->W1, ofNat->W2, ofNat_eq_natCast->ba, toNat_natCast->bb, toNat_of_nonneg->bc
open List renaming getElem_mem->bd, getElem?_eq_getElem->be, mem_cons->bh, length->bm, take_succ_eq_append_getElem->bs, mem_iff_getElem->bv, contains_iff_mem->bw, mem_cons_of_mem->bx, pairwise_cons->cb, all_eq_true->cc, take->cg, length_take->cm, mem_map->cp, length_map->cv, replicate->cH, mem_cons_self->cL, take_length->dc, drop->dl, mem_filter->dv, drop_eq_getElem_cons->ea, drop_of_length_le->eb, getElem_toArray->el, map_eq_nil_iff->ep, getElem?_drop->ey, getElem?_map->ez, append_assoc->e0, length_cons->e6, getElem_map->e7, length_set->eH, length_nil->eL, append_nil->eU, all_append->fe, drop_drop->fg
open List.cons renaming injEq->fk
open Nat renaming le_refl->ft, zero_le->fx, zero_add->fy, lt_or_ge->fz, lt_of_lt_of_le->fR, add_sub_cancel->fS
open Option renaming map_some->gd, getD_some->gk
open Option.some renaming inj->gm, injEq->gn
set_option maxRecDepth 1000000
section
namespace Eng
open Go Go.Proofs
structure GF extends FT where
 (wx wy R:Int)
def V0 (a b:Int):Int:=match decide (a<b)with
 |true=> -1
 |false=>match decide (a=b)with
  |true=>0
  |false=>1
theorem YH {a b:Int}:decide (V0 a b<=0)=decide (a<=b):=by
 unfold V0;by_cases h:a<b
 .rw[decide_eq_true h,decide_eq_true (show a<=b by omega)];rfl
 .rw[decide_eq_false h];by_cases e:a=b
  .rw[decide_eq_true e,decide_eq_true (show a<=b by omega)];rfl
  .rw[decide_eq_false e,decide_eq_false (show ¬a<=b by omega)];rfl
theorem EA {a b:Int}:decide (V0 a b>0)=decide (a>b):=by
 unfold V0;by_cases h:a<b
 .rw[decide_eq_true h,decide_eq_false (show ¬a>b by omega)];rfl
 .rw[decide_eq_false h];by_cases e:a=b
  .rw[decide_eq_true e,decide_eq_false (show ¬a>b by omega)];rfl
  .rw[decide_eq_false e,decide_eq_true (show a>b by omega)];rfl
theorem N3 {a b:Int}:decide (V0 a b<0)=decide (a<b):=by
 unfold V0;by_cases h:a<b
 .rw[decide_eq_true h];rfl
 .rw[decide_eq_false h];by_cases e:a=b
  .rw[decide_eq_true e];rfl
  .rw[decide_eq_false e];rfl
def QE (f:FT) (t:TL):Bool:=t.k==1||(f.k==3&&t.k==2)
def RP (R:Int) (t:TL):Bool:=match t.k==2 with
 |true=>t.r==R
 |false=>decide (t.r<R)&&decide (R<=2*t.r)
def YI (f:FT) (t:TL):Int:=match f.k==4 with
 |true=>5
 |false=>match f.k==3&&t.k==2 with
  |true=>3
  |false=>1
def EB (g:GF) (t:TL):Int:=match QE g.toFT t with
 |false=>1
 |true=>match decide (t.f<g.d)with
  |true=>16
  |false=>match g.k==3&&!RP g.R t with
   |true=>16
   |false=>0
def xV (g:GF) (t:TL):Bool:=match EB g t==0 with
 |false=>false
 |true=>match g.k==1 with
  |true=>decide (2*t.r<=g.wx)&&decide (2*t.r<=g.wy)
  |false=>true
section
variable [Env]
structure BoxOk (bF sF nF cF:Nat) (g:GF):Prop where
 ex:∃x0 y0 x1 y1 w h:R4,Gives CC bF [.ag [.sl g.es]] [.ag (rk x0 (rk y0 (rk x1 (rk y1 [])))),.c (.bool true)]/\Gives CC sF [.ag (rk x1 []),.ag (rk x0 [])] [.ag (rk w [])]/\Gives CC sF [.ag (rk y1 []),.ag (rk y0 [])] [.ag (rk h [])]/\
  Gives CC cF [.ag (rk h []),.ag (rk w [])] [.c (.int .i64 (V0 g.wy g.wx))]/\
  ∀n:Int,0<=n->n<=100000000->∃q:R4,Gives CC nF [.c (.int .i64 n)] [.ag (rk q [])]/\Gives CC cF [.ag (rk q []),.ag (rk w [])] [.c (.int .i64 (V0 n g.wx))]/\Gives CC cF [.ag (rk q []),.ag (rk h [])] [.c (.int .i64 (V0 n g.wy))]
structure HolOk (g:GF):Prop where
 row:∃q:R4,(nth [] g.es 0).length=66/\cut (nth [] g.es 0) 21 4 (rk q [])/\∀t:TL,t.Ok->(t.k=1\/t.k=2)->Gives CC 80 [.ag (tlD t),.ag (rk q [])] [.c (.bool (RP g.R t))]
 ctr:∃x y:Int,Gives CC 43 [.ag (ftD g.toFT)] [.ag [.int .i64 x,.int .i64 y],.c (.int .i64 g.R),.c (.int .i64 0)]
 R:1<=g.R/\g.R<=10000000
structure GOk (g:GF):Prop where
 f:FOk g.toFT
 bR:BoxOk 36 37 38 39 g
 bP:g.k=1->BoxOk 47 48 97 49 g
 h:g.k=3->HolOk g
def gsF (gs:List GF):List FT:=gs.map GF.toFT
omit [Env] in
theorem ZH (gs:List GF):(gsF gs).length=gs.length:=by simp[gsF]
omit [Env] in
theorem N4 {gs:List GF} {i:Nat} (h:i<gs.length):nth [] (wu (gsF gs)) i=ftD gs[i].toFT:=by
 rw[ZG (by rw[ZH];exact h)];simp[gsF]
theorem RQ (f:FT) (t:TL):Gives CC 35 [.ag (ftD f),.ag (tlD t)] [.c (.int .i64 (YI f t))]:=by
 refine qj (C:=CC) (anns:=an0) mixedT Tryz.func35 ?_;unfold ftD tlD;rw[RC];unfold YI;refine brb (λh=>by rw[h]) λh=>?_
 rw[h];refine brb (λh2=>?_) λh2=>by rw[h2];rfl
 rw[h2];exact brb (λh3=>by rw[h3];rfl) λh3=>by rw[h3];rfl
theorem RR {f:FT} {t:TL} (hf:f.k=1\/f.k=3\/f.k=4):Gives CC 79 [.c (.int .i64 (YI f t)),.c (.int .i64 f.k),.c (.int .i64 t.k)] [.c (.bool (QE f t))]:=by
 refine qj (C:=CC) (anns:=an0) mixedT Tryz.func79 ?_;rw[Ng];unfold YI QE;rcases hf with e|e|e<;>rw[e]
 .exact brb (λ_=>brb (λ_=>by simp) λh=>by cases h) λh=>by cases h
 .cases h:t.k==2 with
  |true=>exact brb (λh=>by cases h) λ_=>brb (λh=>by cases h) λ_=>brb (λ_=>brb (λ_=>by simp) λh=>by cases h) λh=>by cases h
  |false=>exact brb (λ_=>brb (λh=>by cases h) λ_=>brb (λ_=>by simp) λh=>by cases h) λh=>by cases h
 .exact brb (λh=>by cases h) λ_=>brb (λh=>by cases h) λ_=>brb (λh=>by cases h) λ_=>brb (λh=>by cases h) λ_=>brb (λ_=>brb (λ_=>by simp) λh=>by cases h) λh=>by cases h
theorem N5 {gs:List GF} {ts:List TL} {i j:Nat} (hi:i<gs.length) (hj:j<ts.length) (hg:GOk gs[i]) (ht:ts[j].Ok) (hs:BG ts[j].s):
 Gives CC 34 [.ag [.int .i64 (YI gs[i].toFT ts[j]),.int .i64 (i:Int),.int .i64 (j:Int),.sl (iR (psL gs[i].d (nPs gs[i].d ts[j].s))),.int .i64 0],.ag [.int .i64 6000,.sl (wu (gsF gs))],.c (.sl (mgD ts))] [.c (.int .i64 (EB gs[i] ts[j]))]:=by
 refine qj (C:=CC) (anns:=an0) mixedT Tryz.func34 ?_;rw[N0];simp only[ba,vF,ZH,vh,bb];rw[N4 hi,wt hj];have hd:=hg.f.d;have hk:gs[i].k=1\/gs[i].k=3\/gs[i].k=4:=by rcases hg.f.k with e|⟨e,_⟩|⟨e,_⟩<;>simp[e]
 have gp:=Nm hd.1 hd.2 hs;have gsu:=RR (f:=gs[i].toFT) (t:=ts[j]) hk;have hne:=hg.f.ne;refine brd (λh=>by omega) λ_=>brd (λh=>by omega) λ_=>brd (λh=>by omega) λ_=>brd (λh=>by omega) λ_=>brd (λh=>by omega) λ_=>brd (λh=>by omega) λ_=>?_
 refine⟨⟨by omega,by omega,rfl⟩,_,_,_,_,⟨rfl,ft 4⟩,⟨by omega,by omega,rfl⟩,_,_,_,_,_,_,_,_,⟨rfl,ft 8⟩,?_⟩;have a1:(YI gs[i].toFT ts[j] !=4)=true:=by
  unfold YI;rcases hk with e|e|e<;>rw[e]
  .rfl
  .cases ts[j].k==2<;>rfl
  .rfl
 unfold EB;refine brb (λ_=>⟨_,gp,_,gsu,?_⟩) λh=>by rw[a1]at h;cases h
 refine brb (λh=>?_) λh=>?_
 .have h:QE gs[i].toFT ts[j]=false:=by simpa using h
  rw[h]
 have a0:QE gs[i].toFT ts[j]=true:=by simpa using h
 rw[a0];refine brb (λh=>by cases h) λ_=>brb (λ_=>?_) λh=>by rw[a1]at h;cases h
 refine brd (λh=>by rw[decide_eq_true h]) λh=>?_
 rw[decide_eq_false h];refine brb (λh3=>?_) λh3=>by rw[h3];rfl
 rw[h3];have hk3:gs[i].k=3:=by simpa using h3
 obtain⟨q,q1,q2,q3⟩:=(hg.h hk3).row;have hkt:ts[j].k=1\/ts[j].k=2:=by
  unfold QE at a0;simp at a0;rcases a0 with e|e
  .exact .inl e
  .exact .inr e.2
 refine brd (λ_=>⟨⟨by omega,by omega,q1⟩,_,q2,_,q3 _ ht hkt,?_⟩) λh5=>by omega
 refine brb (λh5=>by rw[h5];rfl) λh5=>by rw[h5];rfl
theorem QF {gs:List GF} {ts:List TL} {i j:Nat} (hi:i<gs.length) (hj:j<ts.length) (hg:GOk gs[i]) (ht:ts[j].Ok) (hs:BG ts[j].s):
 Gives CC 9 [.ag [.int .i64 6000,.sl (wu (gsF gs))],.c (.sl (mgD ts)),.c (.int .i64 (i:Int)),.c (.int .i64 (j:Int))] [.c (.bool (xV gs[i] ts[j]))]:=by
 refine qj (C:=CC) (anns:=an0) mixedT Tryz.func9 ?_;rw[N1];simp only[ba,vF,ZH,vh,bb];rw[N4 hi,wt hj];have hd:=hg.f.d;obtain⟨x0,y0,x1,y1,w,h,b1,b2,b3,_,b4⟩:=hg.bR.ex;have hr:=ht.r;obtain⟨q,q1,q2,q3⟩:=b4 (2*ts[j].r) (by have:=hr.1;omega) (by have:=hr.2;omega);refine⟨⟨by omega,by omega,rfl⟩,_,_,_,_,⟨rfl,ft 4⟩,⟨by omega,by omega,rfl⟩,_,_,_,_,_,_,_,_,⟨rfl,ft 8⟩,_,_,Nl hd.1 hd.2 hs,brb (λh=>by cases h) λ_=>?_⟩;refine⟨_,RQ gs[i].toFT ts[j],_,N5 hi hj hg ht hs,?_⟩;unfold xV;refine brb (λh=>?_) λh=>?_
 .have h:(EB gs[i] ts[j]==0)=false:=by simpa using h
  rw[h]
 have h0:(EB gs[i] ts[j]==0)=true:=by simpa using h
 rw[h0];have hw:P1 .i64 (2*ts[j].r)=2*ts[j].r:=qR (by have:=hr.1;omega) (by have:=hr.2;omega);rw[hw];refine⟨_,_,_,_,_,b1,_,b2,_,b3,_,q1,brb (λh3=>?_) λh3=>?_⟩
 .have h3:(gs[i].k==1)=false:=by simpa using h3
  rw[h3]
 have h3:(gs[i].k==1)=true:=by simpa using h3
 rw[h3];refine⟨_,q2,?_⟩;rw[YH];refine brb (λh4=>⟨_,q3,by rw[YH,h4];rfl⟩) λh4=>by rw[h4];rfl
end
end Eng
end
section
namespace Eng
open Go Go.Proofs
def dTL:TL:=⟨0,0,0,0,0,0,0,0⟩
def QG (greater:Bool) (ts:List TL) (b:Int) (t:TL):Bool:=match decide (b<0)with
 |true=>true
 |false=>match greater with
  |true=>decide (t.r>((ts.getD b.toNat dTL).r))
  |false=>decide (t.r<((ts.getD b.toNat dTL).r))
def okM (d w:Int) (t:TL):Bool:=match t.k !=1 with
 |true=>false
 |false=>match decide (t.f<d)with
  |true=>false
  |false=>!decide (2*t.r>w)
def zn (ts:List TL) (d w:Int) (g:Bool):Nat->Int
 |0=> -1
 |k+1=>match okM d w (ts.getD k dTL)with
  |false=>zn ts d w g k
  |true=>match QG g ts (zn ts d w g k) (ts.getD k dTL)with
   |true=>(k:Int)
   |false=>zn ts d w g k
theorem Xx {ts:List TL} {d w:Int} {g:Bool}:∀k,(zn ts d w g k= -1/\∀i<k,okM d w (ts.getD i dTL)=false)\/∃i<k,zn ts d w g k=(i:Int)/\okM d w (ts.getD i dTL)=true
 |0=> .inl ⟨rfl,λ_ h=>by omega⟩
 |k+1=>by
  have ih:=Xx (ts:=ts) (d:=d) (w:=w) (g:=g) k;unfold zn;cases e:okM d w (ts.getD k dTL)with
  |false=>
   rcases ih with⟨a,b⟩|⟨i,a,b,c⟩
   .refine .inl ⟨a,λi hi=>?_⟩;rcases fz i k with q|q
    .exact b i q
    .obtain rfl:i=k:=by omega
     exact e
   .exact .inr ⟨i,by omega,b,c⟩
  |true=>
   cases e2:QG g ts (zn ts d w g k) (ts.getD k dTL)with
   |true=>exact .inr ⟨k,by omega,rfl,e⟩
   |false=>
    rcases ih with⟨a,b⟩|⟨i,a,b,c⟩
    .rw[a]at e2;simp[QG]at e2
    .exact .inr ⟨i,by omega,b,c⟩
def UJ (R:Int) (t:TL):Bool:=t.k==1&&(decide (t.r<R)&&decide (R-t.r<=t.r))
def xY (ts:List TL) (R d:Int):Nat->Bool×Int
 |0=>(false, -1)
 |k+1=>match(xY ts R d k).1 with
  |true=>xY ts R d k
  |false=>match decide ((ts.getD k dTL).f<d)with
   |true=>xY ts R d k
   |false=>match(ts.getD k dTL).k==2&&(ts.getD k dTL).r==R with
    |true=>(true,(k:Int))
    |false=>match UJ R (ts.getD k dTL)&&QG true ts (xY ts R d k).2 (ts.getD k dTL)with
     |true=>(false,(k:Int))
     |false=>xY ts R d k
def N6 (R d:Int) (t:TL):Bool:=!decide (t.f<d)&&((t.k==2&&t.r==R)||UJ R t)
theorem Wb {ts:List TL} {R d:Int}:∀k,(xY ts R d k=(false, -1)/\∀i<k,N6 R d (ts.getD i dTL)=false)\/∃i<k,(xY ts R d k).2=(i:Int)/\N6 R d (ts.getD i dTL)=true
 |0=> .inl ⟨rfl,λ_ h=>by omega⟩
 |k+1=>by
  have ih:=Wb (ts:=ts) (R:=R) (d:=d) k;have same:xY ts R d (k+1)=xY ts R d k->(xY ts R d k=(false, -1)->N6 R d (ts.getD k dTL)=false)->(xY ts R d (k+1)=(false, -1)/\∀i<k+1,N6 R d (ts.getD i dTL)=false)\/∃i<k+1,(xY ts R d (k+1)).2=(i:Int)/\N6 R d (ts.getD i dTL)=true:=λe hn=>by
   rw[e];rcases ih with⟨a,b⟩|⟨i,a,b,c⟩
   .refine .inl ⟨a,λi hi=>?_⟩;rcases fz i k with q|q
    .exact b i q
    .obtain rfl:i=k:=by omega
     exact hn a
   .exact .inr ⟨i,by omega,b,c⟩
  cases e1:(xY ts R d k).1 with
  |true=>exact same (by simp only[xY,e1]) λh=>by rw[h]at e1;cases e1
  |false=>
   cases e2:decide ((ts.getD k dTL).f<d)with
   |true=>exact same (by simp only[xY,e1,e2]) λ_=>by unfold N6;rw[e2];rfl
   |false=>
    cases e3:(ts.getD k dTL).k==2&&(ts.getD k dTL).r==R with
    |true=>exact .inr ⟨k,by omega,by simp only[xY,e1,e2,e3],by unfold N6;rw[e2,e3];rfl⟩
    |false=>
     cases e4:UJ R (ts.getD k dTL)with
     |false=>exact same (by simp only[xY,e1,e2,e3,e4,F0]) λ_=>by unfold N6;rw[e2,e3,e4];rfl
     |true=>
      cases e5:QG true ts (xY ts R d k).2 (ts.getD k dTL)with
      |true=>exact .inr ⟨k,by omega,by simp only[xY,e1,e2,e3,e4,e5,Hv],by unfold N6;rw[e2,e3,e4];rfl⟩
      |false=>exact same (by simp only[xY,e1,e2,e3,e4,e5,J3]) λh=>by rw[h]at e5;simp[QG]at e5
theorem N7 {ts:List TL} {R d:Int} {k:Nat} (h:(xY ts R d k).1=true):∀j,xY ts R d (k+j)=xY ts R d k
 |0=>rfl
 |j+1=>by
  have ih:=N7 h j;show xY ts R d (k+j+1)=_
  conv=>lhs;unfold xY
  simp only[ih,h]
def eR (ts:List TL) (R d:Int):List A:=match(xY ts R d ts.length).1 with
 |true=>[.c (.int .i64 (xY ts R d ts.length).2),.c (.bool true),.c (.int .i64 0)]
 |false=>match decide ((xY ts R d ts.length).2<0)with
  |true=>[.c (.int .i64 0),.c (.bool false),.c (.int .i64 16)]
  |false=>[.c (.int .i64 (xY ts R d ts.length).2),.c (.bool false),.c (.int .i64 0)]
section
variable [Env]
theorem RT {t:TL} (ht:t.Ok) {R:Int} (hR:1<=R/\R<=10000000):Gives CC 96 [.ag (tlD t),.c (.int .i64 R)] [.c (.bool (UJ R t))]:=by
 refine qj (C:=CC) (anns:=an0) mixedT Tryz.func96 ?_;unfold tlD;rw[Nh,qR (n:=R-t.r) (by have:=ht.r.2;omega) (by have:=ht.r.1;omega)];unfold UJ;refine brb (λh=>?_) λh=>by rw[h];rfl
 rw[h];exact brd (λh2=>by rw[decide_eq_true h2];rfl) λh2=>by rw[decide_eq_false h2];rfl
theorem RU {ts:List TL} (hok:∀t∈ts,t.Ok) (hl:ts.length<=1000) {R d:Int} (hR:1<=R/\R<=10000000) (hd:1<=d):Gives CC 44 [.c (.sl (mgD ts)),.c (.int .i64 R),.c (.int .i64 d)] (eR ts R d):=by
 refine qj (C:=CC) (anns:=λ_=>⟨[.slot 9 (.int .i64 0),.slot 20 (.int .i64 0)],[],λ_ ds=>∃k:Nat,k<=ts.length/\(xY ts R d k).1=false/\ds=[.int .i64 (xY ts R d k).2,.int .i64 (k:Int)],λds=>(ts.length-toI (nth .undef ds 1)).toNat⟩) mixedT Tryz.func44 ?_;rw[Ni];refine brd (λh=>by omega) λ_=>brd (λh=>by omega) λ_=>⟨⟨0,fx _,rfl,rfl⟩,?_⟩
 rintro _ _ ⟨k,hk,hf,e⟩;simp only[fk,Pl,true_and,and_true]at e;obtain⟨rfl,rfl⟩:=e;simp only[ba,vh,bb];refine brd (λh=>?_) λh=>?_
 .have a1:k<ts.length:=by omega
  have hw:P1 .i64 ((k:Int)+1)=((k+1:Nat):Int):=by rw[qR (by omega) (by omega)];omega
  have hg:ts.getD k dTL=ts[k]:=xh a1;have htk:=hok _ (bd a1);have ms:∀x,xY ts R d (k+1)=(false,x)->(∃k':Nat,k'<=ts.length/\(xY ts R d k').1=false/\[M3 .i64 x,.int .i64 ((k+1:Nat):Int)]=[.int .i64 (xY ts R d k').2,.int .i64 (k':Int)])/\
   (ts.length-toI (nth .undef [M3 .i64 x,.int .i64 ((k+1:Nat):Int)] 1)).toNat<(ts.length-toI (nth .undef [M3 .i64 (xY ts R d k).2,.int .i64 (k:Int)] 1)).toNat:=λx e=>
   ⟨⟨k+1,by omega,by rw[e],by rw[e]⟩,by simp only[nth,toI];omega⟩
  have hp:xY ts R d k=(false,(xY ts R d k).2):=by rw[<-hf]
  rw[wt a1,hw];refine⟨⟨by omega,by omega,rfl⟩,_,_,_,_,_,_,_,_,⟨rfl,ft 8⟩,brd (λh2=>ms _ ?_) λh2=>?_⟩
  .simp only[xY,hf,hg,decide_eq_true h2];exact hp
  have a0:(ts[k].k==2&&ts[k].r==R)=false->(∃b,Gives CC 96 [.ag (tlD ts[k]),.c (.int .i64 R)] [.c (.bool b)]/\br b
   (br (toB (Lv (decide ((xY ts R d k).2<0))))
    ((∃k':Nat,k'<=ts.length/\(xY ts R d k').1=false/\[M3 .i64 (k:Int),.int .i64 ((k+1:Nat):Int)]=[.int .i64 (xY ts R d k').2,.int .i64 (k':Int)])/\
      (ts.length-toI (nth .undef [M3 .i64 (k:Int),.int .i64 ((k+1:Nat):Int)] 1)).toNat<(ts.length-toI (nth .undef [M3 .i64 (xY ts R d k).2,.int .i64 (k:Int)] 1)).toNat)
    ((0<=(xY ts R d k).2/\(xY ts R d k).2<(ts.length:Int)/\(nth [] (mgD ts) (xY ts R d k).2.toNat).length=8)/\
      ∃r,cut (nth [] (mgD ts) (xY ts R d k).2.toNat) 2 1 [M3 .i64 r]/\br (toB (Lv (decide (ts[k].r>r))))
       ((∃k':Nat,k'<=ts.length/\(xY ts R d k').1=false/\[M3 .i64 (k:Int),.int .i64 ((k+1:Nat):Int)]=[.int .i64 (xY ts R d k').2,.int .i64 (k':Int)])/\
         (ts.length-toI (nth .undef [M3 .i64 (k:Int),.int .i64 ((k+1:Nat):Int)] 1)).toNat<(ts.length-toI (nth .undef [M3 .i64 (xY ts R d k).2,.int .i64 (k:Int)] 1)).toNat)
       ((∃k':Nat,k'<=ts.length/\(xY ts R d k').1=false/\[M3 .i64 (xY ts R d k).2,.int .i64 ((k+1:Nat):Int)]=[.int .i64 (xY ts R d k').2,.int .i64 (k':Int)])/\
         (ts.length-toI (nth .undef [M3 .i64 (xY ts R d k).2,.int .i64 ((k+1:Nat):Int)] 1)).toNat<(ts.length-toI (nth .undef [M3 .i64 (xY ts R d k).2,.int .i64 (k:Int)] 1)).toNat)))
   ((∃k':Nat,k'<=ts.length/\(xY ts R d k').1=false/\[M3 .i64 (xY ts R d k).2,.int .i64 ((k+1:Nat):Int)]=[.int .i64 (xY ts R d k').2,.int .i64 (k':Int)])/\
     (ts.length-toI (nth .undef [M3 .i64 (xY ts R d k).2,.int .i64 ((k+1:Nat):Int)] 1)).toNat<(ts.length-toI (nth .undef [M3 .i64 (xY ts R d k).2,.int .i64 (k:Int)] 1)).toNat)):=λe3=>by
   have e2:=decide_eq_false h2;refine⟨_,RT htk hR,js (λh4=>?_) λh4=>ms _ ?_⟩
   .rcases Wb (ts:=ts) (R:=R) (d:=d) k with⟨a,_⟩|⟨i,a,b,_⟩
    .rw[a];refine brd (λ_=>?_) λh5=>absurd (show(-1:Int)<0 by omega) h5
     have:=ms k (by simp only[xY,hg,e2,e3,h4,a,QG];rfl);rw[a]at this;exact this
    .have a2:i<ts.length:=by omega
     rw[b];refine brd (λh5=>by omega) λ_=>?_
     simp only[bb];rw[wt a2];refine⟨⟨by omega,by omega,rfl⟩,_,⟨rfl,by show 2+1<=8;omega⟩,?_⟩;have hb:QG true ts (xY ts R d k).2 ts[k]=decide (ts[k].r>ts[i].r):=by unfold QG;rw[b,decide_eq_false (by omega)];have hgi:ts.getD i dTL=ts[i]:=xh a2;simp only[bb,hgi]
     refine brb (λh5=>?_) λh5=>?_
     .have:=ms k (by simp only[xY,hf,hg,e2,e3,h4,hb,h5,Hv]);rw[b]at this;exact this
     .have:=ms (xY ts R d k).2 (by simp only[xY,hf,hg,e2,e3,h4,hb,h5,J3];exact hp);rw[b]at this;exact this
   .simp only[xY,hf,hg,e2,e3,h4,F0];exact hp
  refine brb (λh3=>brb (λh4=>?_) λh4=>a0 (by rw[h3,h4];rfl)) λh3=>a0 (by rw[h3];rfl)
  have e1:xY ts R d (k+1)=(true,(k:Int)):=by simp only[xY,hf,hg,decide_eq_false h2,h3,h4,Hv]
  have e2:=N7 (ts:=ts) (R:=R) (d:=d) (k:=k+1) (by rw[e1]) (ts.length-(k+1));rw[show k+1+(ts.length-(k+1))=ts.length by omega,e1]at e2;unfold eR;rw[e2]
 .obtain rfl:k=ts.length:=by omega
  unfold eR;rw[hf];exact brd (λh2=>by rw[decide_eq_true h2]) λh2=>by rw[decide_eq_false h2]
end
end Eng
end
section
namespace Eng
open Go Go.Proofs
structure CLp where
 (x0 y0 x1 y1 top:Int)
def clpD (c:CLp):List D:=[.int .i64 c.x0,.int .i64 c.y0,.int .i64 c.x1,.int .i64 c.y1,.int .i64 c.top]
def YJ (cs:List CLp):List (List D):=cs.map clpD
theorem N8 (cs:List CLp):(YJ cs).length=cs.length:=by simp[YJ]
theorem EC {cs:List CLp} {i:Nat} (h:i<cs.length):nth [] (YJ cs) i=clpD cs[i]:=by rw[qu];simp[YJ,h]
structure CLp.Ok (c:CLp):Prop where
 x:0<=c.x0/\c.x0<c.x1/\c.x1<=1000000
 y:0<=c.y0/\c.y0<c.y1/\c.y1<=1000000
 top:0<=c.top/\c.top<25000
def Jg (cs:List CLp):A:= .ag [.int .i64 0,.int .i64 0,.int .i64 30000,.int .i64 30000,.int .i64 6000,.int .i64 5000,.sl (YJ cs),.int .i64 25000]
section
variable [Env]
def aM (r0:R4) (w:Int):Prop:=∀n:Int,0<=n->n<=100000000->∃q:R4,Gives CC 97 [.c (.int .i64 n)] [.ag (rk q [])]/\Gives CC 49 [.ag (rk q []),.ag (rk r0 [])] [.c (.int .i64 (V0 n w))]
theorem N9 {n:Int} {q:R4} (h:Gives CC 97 [.c (.int .i64 n)] [.ag (rk q [])]):Gives CC 46 [.c (.int .i64 n)] [.ag (rk q [])]:=by
 refine qj (C:=CC) (anns:=an0) mixedT Tryz.func46 ?_;rw[E9];exact⟨_,h,rfl⟩
theorem jT {ts:List TL} (hok:∀t∈ts,t.Ok) (hl:ts.length<=1000) {d w:Int} {r0:R4} (hw0:aM r0 w) (g:Bool):Gives CC 45 [.c (.sl (mgD ts)),.c (.int .i64 d),.ag (rk r0 []),.c (.bool g)] [.c (.int .i64 (zn ts d w g ts.length))]:=by
 refine qj (C:=CC) (anns:=λ_=>⟨[.slot 9 (.int .i64 0),.slot 14 (.int .i64 0)],[],λ_ ds=>∃k:Nat,k<=ts.length/\ds=[.int .i64 (zn ts d w g k),.int .i64 (k:Int)],λds=>(ts.length-toI (nth .undef ds 1)).toNat⟩) mixedT Tryz.func45 ?_;rw[RD];refine⟨⟨0,fx _,rfl⟩,?_⟩;rintro _ _ ⟨k,hk,e⟩;simp only[fk,Pl,true_and,and_true]at e;obtain⟨rfl,rfl⟩:=e;simp only[ba,vh,bb];refine brd (λh=>?_) λh=>?_
 .have a0:k<ts.length:=by omega
  have hw:P1 .i64 ((k:Int)+1)=((k+1:Nat):Int):=by rw[qR (by omega) (by omega)];omega
  have hg:ts.getD k dTL=ts[k]:=xh a0;have htk:=hok _ (bd a0);have hr:=htk.r;have ms:∀x,zn ts d w g (k+1)=x->(∃k':Nat,k'<=ts.length/\[M3 .i64 x,.int .i64 ((k+1:Nat):Int)]=[.int .i64 (zn ts d w g k'),.int .i64 (k':Int)])/\
   (ts.length-toI (nth .undef [M3 .i64 x,.int .i64 ((k+1:Nat):Int)] 1)).toNat<(ts.length-toI (nth .undef [M3 .i64 (zn ts d w g k),.int .i64 (k:Int)] 1)).toNat:=λx e=>
   ⟨⟨k+1,by omega,by rw[e]⟩,by simp only[nth,toI];omega⟩
  have no:okM d w ts[k]=false->zn ts d w g (k+1)=zn ts d w g k:=λe=>by simp only[zn,hg,e]
  have a2:okM d w ts[k]=true->QG g ts (zn ts d w g k) ts[k]=true->zn ts d w g (k+1)=(k:Int):=λe e2=>by simp only[zn,hg,e,e2]
  have yno:okM d w ts[k]=true->QG g ts (zn ts d w g k) ts[k]=false->zn ts d w g (k+1)=zn ts d w g k:=λe e2=>by simp only[zn,hg,e,e2]
  rw[wt a0,hw];obtain⟨q,q1,q2⟩:=hw0 (2*ts[k].r) (by have:=hr.1;omega) (by have:=hr.2;omega);have hw2:P1 .i64 (2*ts[k].r)=2*ts[k].r:=qR (by have:=hr.1;omega) (by have:=hr.2;omega);refine⟨⟨by omega,by omega,rfl⟩,_,_,_,_,_,_,_,_,⟨rfl,ft 8⟩,brb (λh2=>ms _ (no (by unfold okM;rw[h2]))) λh2=>?_⟩;refine brd (λh3=>ms _ (no (by unfold okM;rw[h2,decide_eq_true h3]))) λh3=>?_
  rw[hw2];refine⟨_,N9 q1,_,q2,?_⟩;rw[EA];refine brd (λh4=>ms _ (no (by unfold okM;rw[h2,decide_eq_false h3,decide_eq_true h4];rfl))) λh4=>?_
  have ok:okM d w ts[k]=true:=by unfold okM;rw[h2,decide_eq_false h3,decide_eq_false h4];rfl
  rcases Xx (ts:=ts) (d:=d) (w:=w) (g:=g) k with⟨a,_⟩|⟨i,a,b,_⟩
  .have:=ms _ (a2 ok (by rw[a];rfl));rw[a]at this ⊢;exact brd (λ_=>this) λh5=>absurd (show(-1:Int)<0 by omega) h5
  .have a1:i<ts.length:=by omega
   have hgi:ts.getD i dTL=ts[i]:=xh a1;have m1:=λe=>ms _ (a2 ok e)
   have m2:=λe=>ms _ (yno ok e)
   have hb:QG g ts (zn ts d w g k) ts[k]=match g with
    |true=>decide (ts[k].r>ts[i].r)
    |false=>decide (ts[k].r<ts[i].r):=by
    unfold QG;rw[b,decide_eq_false (by omega)];simp only[bb,hgi];cases g<;>rfl
   rw[hb]at m1 m2;rw[b]at m1 m2 ⊢;refine brd (λh5=>by omega) λ_=>?_
   simp only[bb];rw[wt a1];cases g with
   |true=>
    refine js (λ_=>⟨⟨by omega,by omega,rfl⟩,_,⟨rfl,by show 2+1<=8;omega⟩,brb (λh5=>m1 h5) λh5=>?_⟩) λh5=>by cases h5
    exact brb (λh6=>by cases h6) λ_=>m2 h5
   |false=>
    refine js (λh5=>by cases h5) λ_=>?_
    refine brb (λ_=>⟨⟨by omega,by omega,rfl⟩,_,⟨rfl,by show 2+1<=8;omega⟩,brb (λh5=>m1 h5) λh5=>m2 h5⟩) λh5=>by cases h5
 .obtain rfl:k=ts.length:=by omega
  rfl
theorem H2 {a b c d:Int} (h1:a<c) (h2:b<d) (h3: -10000000<=a) (h4: -10000000<=b) (h5:c<=10000000) (h6:d<=10000000):Gives CC 165 [.c (.int .i64 a),.c (.int .i64 b),.c (.int .i64 c),.c (.int .i64 d)] [.c (.bool true)]:=by
 refine qj (C:=CC) (anns:=an0) mixedT Tryz.func165 ?_;rw[RI];refine brd (λ_=>?_) λh=>absurd h1 h
 refine brd (λ_=>?_) λh=>absurd h2 h
 refine brd (λ_=>?_) λh=>absurd h3 h
 refine brd (λ_=>?_) λh=>absurd h4 h
 exact brd (λ_=>by rw[decide_eq_true h6]) λh=>absurd h5 h
theorem vG {n l:Int} (h1:l<=n) (h2:n<=10000000):Gives CC 166 [.c (.int .i64 n),.c (.int .i64 l)] [.c (.bool true)]:=by
 refine qj (C:=CC) (anns:=an0) mixedT Tryz.func166 ?_;rw[UD];exact brd (λ_=>by rw[decide_eq_true h2]) λh=>absurd h1 h
theorem NA (cs:List CLp):Gives CC 167 [Jg cs] [.c (.int .i64 (-11000))]:=by
 refine qj (C:=CC) (anns:=an0) mixedT Tryz.func167 ?_;unfold Jg;rw[Nt];rfl
theorem NB {cs:List CLp} (hc:∀c∈cs,c.Ok) (hl:cs.length<=50):Gives CC 90 [Jg cs] [.c (.int .i64 0)]:=by
 have ht:=NA cs;refine qj (C:=CC) (anns:=λ_=>⟨[.slot 42 (.int .i64 0)],[],λ_ ds=>∃k:Nat,k<=cs.length/\ds=[.int .i64 (k:Int)],λds=>(cs.length-toI (nth .undef ds 0)).toNat⟩) mixedT Tryz.func90 ?_;unfold Jg at ht ⊢;rw[Nu];simp only[ba,N8];refine⟨_,H2 (by omega) (by omega) (by omega) (by omega) (by omega) (by omega),brb (λh=>by cases h) λ_=>?_⟩;refine⟨_,vG (by omega) (by omega),brb (λh=>by cases h) λ_=>?_⟩;refine⟨_,vG (by omega) (by omega),brb (λh=>by cases h) λ_=>?_⟩;refine⟨_,vG (by omega) (by omega),brb (λh=>by cases h) λ_=>?_⟩;refine brd (λh=>by omega) λ_=>⟨⟨0,fx _,rfl⟩,?_⟩
 rintro _ ⟨k,hk,e⟩;simp only[fk,Pl,true_and,and_true]at e;subst e;simp only[bb];refine brd (λh=>?_) λ_=>by trivial
 have a1:k<cs.length:=by omega
 have a0:=hc _ (bd a1);have hx:=a0.x;have hy:=a0.y;have htp:=a0.top;have hw:P1 .i64 ((k:Int)+1)=((k+1:Nat):Int):=by rw[qR (by omega) (by omega)];omega
 rw[EC a1,hw];refine⟨⟨by omega,by omega,rfl⟩,_,_,_,_,_,⟨rfl,ft 5⟩,_,H2 (by omega) (by omega) (by omega) (by omega) (by omega) (by omega),brb (λh=>by cases h) λ_=>?_⟩;refine⟨_,ht,_,vG (by omega) (by omega),brb (λh=>by cases h) λ_=>brd (λh=>by omega) λ_=>⟨⟨k+1,by omega,rfl⟩,by simp only[nth,toI];omega⟩⟩
end
end Eng
end
section
namespace Eng
open Go Go.Proofs
def O7 (g:GF):Int:=match decide (g.wy<g.wx)with
 |true=>g.wy
 |false=>g.wx
def chA (ts:List TL) (g:GF):Int×Int:=match g.k==3 with
 |true=>((xY ts g.R g.d ts.length).2,(xY ts g.R g.d ts.length).2)
 |false=>match g.k==4 with
  |true=>(zn ts g.d 20000000 false ts.length,zn ts g.d 20000000 false ts.length)
  |false=>(zn ts g.d (O7 g) true ts.length,zn ts g.d (O7 g) false ts.length)
def prR (l:List (Int×Int)):List (List D):=l.map λp=>[.int .i64 p.1,.int .i64 p.2]
def YK (ts:List TL) (gs:List GF):Bool:=gs.all λg=>decide (0<=(chA ts g).1)
def UK (ts:List TL) (gs:List GF):List A:=match YK ts gs with
 |true=>[.c (.sl (prR (gs.map (chA ts)))),.c (.int .i64 0)]
 |false=>[.c (.sl []),.c (.int .i64 16)]
section
variable [Env]
structure PlOk (gs:List GF) (ts:List TL) (cs:List CLp):Prop where
 p:POk (gsF gs)
 g:∀g∈gs,GOk g
 m:MagOk ts
 c:∀c∈cs,c.Ok
 cl:cs.length<=50
 n:∀m:Int,0<=m->m<=100000000->∃r:R4,Gives CC 97 [.c (.int .i64 m)] [.ag (rk r [])]/\aM r m
 s:Gives CC 31 [Jg cs] [.c (.int .i64 0)]
theorem UL {gs:List GF} {ts:List TL} {cs:List CLp} (h:PlOk gs ts cs):Gives (CN []) 42 [.ag [.int .i64 6000,.sl (wu (gsF gs))],Jg cs,.c (.sl (mgD ts))] [.c (.int .i64 0)]:=by
 have hs:=upN (ex:=[]) (NB h.c h.cl);refine qj (C:=CN []) (anns:=an0) mixedT Tryz.func42 ?_;unfold Jg at hs ⊢;rw[UF];exact⟨_,upN (Nz h.p),brb (λh=>by cases h) λ_=>⟨_,hs,brb (λh=>by cases h) λ_=>⟨_,E7 h.m,brb (λh=>by cases h) λ_=>brb (λh=>by cases h) λ_=>rfl⟩⟩⟩
theorem vH {gs:List GF} {ts:List TL} {cs:List CLp} (h:PlOk gs ts cs):Gives CC 8 [.ag [.int .i64 6000,.sl (wu (gsF gs))],Jg cs,.c (.sl (mgD ts))] [.c (.int .i64 0)]:=by
 have hs:=h.s;refine qj (C:=CC) (anns:=an0) mixedT Tryz.func8 ?_;unfold Jg at hs ⊢;rw[UE];exact⟨_,YG h.p,brb (λh=>by cases h) λ_=>⟨_,hs,brb (λh=>by cases h) λ_=>⟨_,E3 h.m,brb (λh=>by cases h) λ_=>brb (λh=>by cases h) λ_=>rfl⟩⟩⟩
theorem vJ {gs:List GF} {ts:List TL} {cs:List CLp} (h:PlOk gs ts cs):Gives (CN []) 12 [.ag [.int .i64 6000,.sl (wu (gsF gs))],Jg cs,.c (.sl (mgD ts))] (UK ts gs):=by
 have hc:=UL h;have hl:gs.length<=40:=by have:=h.p.len;rw[ZH]at this;exact this
 have a1:ts.length<=1000:=by have:=h.m.len;omega
 have a2:=h.m.ok;refine qj (C:=CN []) (anns:=λ_=>⟨[.own 9 110 2,.slot 31 (.int .i64 0)],[],λ_ ds=>∃k:Nat,k<=gs.length/\(∀i (hi:i<gs.length),i<k->0<=(chA ts gs[i]).1)/\ds=[.sl (prR ((gs.take k).map (chA ts))),.int .i64 (k:Int)],λds=>(gs.length-toI (nth .undef ds 1)).toNat⟩) mixedT Tryz.func12 ?_;unfold Jg at hc ⊢;rw[UG];refine⟨_,hc,brb (λh=>by cases h) λ_=>⟨⟨0,fx _,λ_ _ h=>by omega,rfl⟩,?_⟩⟩;rintro _ _ ⟨k,hk,a3,e⟩;simp only[fk,D.sl.injEq,Pl,true_and,and_true]at e;obtain⟨rfl,rfl⟩:=e;simp only[ba,vF,ZH,bb];refine brd (λh2=>?_) λh2=>?_
 .have a6:k<gs.length:=by omega
  have a5:=h.g _ (bd a6);have hw:P1 .i64 ((k:Int)+1)=((k+1:Nat):Int):=by rw[qR (by omega) (by omega)];omega
  have lp:(prR ((gs.take k).map (chA ts))).length=k:=by simp[prR];omega
  have a4:(chA ts gs[k]).1<0->[Ls (.sl []),.c (.int .i64 16)]=UK ts gs:=λhb=>by
   have:YK ts gs=false:=by rw[Hy];intro ht;have:=of_decide_eq_true (cc.1 ht _ (bd a6));omega
   unfold UK;rw[this]
  have a0:∀a b:Int,chA ts gs[k]=(a,b)->0<=a->(room ((prR ((gs.take k).map (chA ts))).length+1)/\lens 2 [[M3 .i64 a,.int .i64 b]])/\
   (∃k':Nat,k'<=gs.length/\(∀i (hi:i<gs.length),i<k'->0<=(chA ts gs[i]).1)/\[No (prR ((gs.take k).map (chA ts))++[[M3 .i64 a,.int .i64 b]]),.int .i64 ((k+1:Nat):Int)]=[.sl (prR ((gs.take k').map (chA ts))),.int .i64 (k':Int)])/\
   (gs.length-toI (nth .undef [No (prR ((gs.take k).map (chA ts))++[[M3 .i64 a,.int .i64 b]]),.int .i64 ((k+1:Nat):Int)] 1)).toNat<(gs.length-toI (nth .undef [No (prR ((gs.take k).map (chA ts))),.int .i64 (k:Int)] 1)).toNat:=λa b e h0=>by
   refine⟨⟨by rw[lp];unfold room;omega,by intro x hx;simp at hx;subst hx;rfl⟩,⟨k+1,by omega,λi hi hik=>?_,?_⟩,by simp only[nth,toI];omega⟩
   .rcases fz i k with q|q
    .exact a3 i hi q
    .obtain rfl:i=k:=by omega
     rw[e];exact h0
   .rw[bs a6,List.map_append];simp[prR,e]
  rw[N4 a6,hw];have hd:=a5.f.d;refine⟨⟨by omega,by omega,rfl⟩,_,_,_,_,⟨rfl,ft 4⟩,brb (λh3=>?_) λh3=>?_⟩
  .have hk3:gs[k].k=3:=by simpa using h3
   have hh:=a5.h hk3;obtain⟨x,y,hx⟩:=hh.ctr;have hm:=RU a2 a1 (R:=gs[k].R) (d:=gs[k].d) hh.R hd.1;have ec:chA ts gs[k]=((xY ts gs[k].R gs[k].d ts.length).2,(xY ts gs[k].R gs[k].d ts.length).2):=by unfold chA;rw[h3]
   refine⟨_,_,_,_,upN hx,brb (λh=>by cases h) λ_=>?_⟩;unfold eR at hm;rcases Wb (ts:=ts) (R:=gs[k].R) (d:=gs[k].d) ts.length with⟨a,_⟩|⟨i,a,b,_⟩
   .rw[a]at hm ec;refine⟨_,_,_,upN hm,brb (λ_=>a4 (by rw[ec];omega)) λh=>by cases h⟩
   .rw[b]at hm ec;have hg:=a0 _ _ ec (by omega);cases hf:(xY ts gs[k].R gs[k].d ts.length).1 with
    |true=>rw[hf]at hm;exact⟨_,_,_,upN hm,brb (λh=>by cases h) λ_=>brd (λh=>by omega) λ_=>hg⟩
    |false=>
     rw[hf]at hm;have hm:Gives CC 44 [.c (.sl (mgD ts)),.c (.int .i64 gs[k].R),.c (.int .i64 gs[k].d)] [.c (.int .i64 (i:Int)),.c (.bool false),.c (.int .i64 0)]:=by rw[decide_eq_false (show ¬(i:Int)<0 by omega)]at hm;exact hm
     exact⟨_,_,_,upN hm,brb (λh=>by cases h) λ_=>brd (λh=>by omega) λ_=>hg⟩
  refine brb (λh4=>?_) λh4=>?_
  .obtain⟨r,r1,r2⟩:=h.n 20000000 (by omega) (by omega);have hs:=jT a2 a1 (d:=gs[k].d) r2 false;have ec:chA ts gs[k]=(zn ts gs[k].d 20000000 false ts.length,zn ts gs[k].d 20000000 false ts.length):=by unfold chA;rw[h3,h4]
   exact⟨_,upN (N9 r1),_,upN hs,brd (λh5=>a4 (by rw[ec];exact h5)) λh5=>a0 _ _ ec (by omega)⟩
  .have hk1:gs[k].k=1:=by
    rcases a5.f.k with e|⟨e,_⟩|⟨e,_⟩
    .exact e
    .rw[e]at h3;cases h3
    .rw[e]at h4;cases h4
   obtain⟨x0,y0,x1,y1,w,hh,b1,b2,b3,b4,b5⟩:=(a5.bP hk1).ex;have w1:aM w gs[k].wx:=λn n1 n2=>by obtain⟨q,q1,q2,_⟩:=b5 n n1 n2;exact⟨q,q1,q2⟩
   have w2:aM hh gs[k].wy:=λn n1 n2=>by obtain⟨q,q1,_,q2⟩:=b5 n n1 n2;exact⟨q,q1,q2⟩
   have ec:∀v,O7 gs[k]=v->chA ts gs[k]=(zn ts gs[k].d v true ts.length,zn ts gs[k].d v false ts.length):=λv e=>by unfold chA;rw[h3,h4,e]
   refine⟨_,_,_,_,_,upN b1,_,upN b2,_,upN b3,_,upN b4,?_⟩;rw[N3];refine brd (λh5=>?_) λh5=>?_
   .have e:=ec gs[k].wy (by unfold O7;rw[decide_eq_true h5]);exact⟨_,upN (jT a2 a1 w2 true),_,upN (jT a2 a1 w2 false),brd (λh6=>a4 (by rw[e];exact h6)) λh6=>a0 _ _ e (by omega)⟩
   .have e:=ec gs[k].wx (by unfold O7;rw[decide_eq_false h5]);exact⟨_,upN (jT a2 a1 w1 true),_,upN (jT a2 a1 w1 false),brd (λh6=>a4 (by rw[e];exact h6)) λh6=>a0 _ _ e (by omega)⟩
 .obtain rfl:k=gs.length:=by omega
  have:YK ts gs=true:=cc.2 λg hg=>by obtain⟨i,hi,rfl⟩:=bv.1 hg;exact decide_eq_true (a3 i hi hi)
  unfold UK;rw[this,dc]
end
end Eng
end
section
namespace Eng
open Go Go.Proofs
theorem iq (g:GF) (t:TL):(EB g t==0)=(QE g.toFT t&&(!decide (t.f<g.d)&&!(g.k==3&&!RP g.R t))):=by
 unfold EB;cases QE g.toFT t with
 |false=>rfl
 |true=>
  cases decide (t.f<g.d)with
  |true=>rfl
  |false=>cases(g.k==3&&!RP g.R t)<;>rfl
theorem Wc (g:GF) (t:TL):xV g t=(QE g.toFT t&&(!decide (t.f<g.d)&&(!(g.k==3&&!RP g.R t)&&(!(g.k==1)||(decide (2*t.r<=g.wx)&&decide (2*t.r<=g.wy)))))):=by
 unfold xV;rw[iq];cases QE g.toFT t<;>cases decide (t.f<g.d)<;>cases(g.k==3&&!RP g.R t)<;>cases g.k==1<;>simp
theorem BI (d w:Int) (t:TL):okM d w t=(t.k==1&&(!decide (t.f<d)&&!decide (2*t.r>w))):=by
 unfold okM;cases h:t.k !=1 with
 |true=>
  have:(t.k==1)=false:=by simpa using h
  rw[this];rfl
 |false=>
  have:(t.k==1)=true:=by simpa using h
  rw[this];cases decide (t.f<d)<;>rfl
theorem ED {g:GF} {t:TL} (hk:g.k=4) (ht:t.Ok):xV g t=okM g.d 20000000 t:=by
 have hr:=ht.r.2;rw[Wc,BI];unfold QE;rw[hk,decide_eq_false (show ¬2*t.r>20000000 by omega)];cases t.k==1<;>cases decide (t.f<g.d)<;>rfl
theorem EE {g:GF} {t:TL} (hk:g.k=1):xV g t=okM g.d (O7 g) t:=by
 rw[Wc,BI];unfold QE;rw[hk];have:(decide (2*t.r<=g.wx)&&decide (2*t.r<=g.wy))=!decide (2*t.r>O7 g):=by
  unfold O7;by_cases h:g.wy<g.wx
  .rw[decide_eq_true h];by_cases h2:2*t.r<=g.wy
   .rw[decide_eq_true h2,decide_eq_true (show 2*t.r<=g.wx by omega),decide_eq_false (show ¬2*t.r>g.wy by omega)];rfl
   .rw[decide_eq_false h2,decide_eq_true (show 2*t.r>g.wy by omega)];simp
  .rw[decide_eq_false h];by_cases h2:2*t.r<=g.wx
   .rw[decide_eq_true h2,decide_eq_true (show 2*t.r<=g.wy by omega),decide_eq_false (show ¬2*t.r>g.wx by omega)];rfl
   .rw[decide_eq_false h2,decide_eq_true (show 2*t.r>g.wx by omega)];simp
 rw[this];cases t.k==1<;>cases decide (t.f<g.d)<;>cases decide (2*t.r>O7 g)<;>rfl
theorem YL {g:GF} {t:TL} (hk:g.k=3):xV g t=N6 g.R g.d t:=by
 rw[Wc];unfold N6 QE RP UJ;rw[hk];have e:decide (g.R-t.r<=t.r)=decide (g.R<=2*t.r):=by
  by_cases h:g.R<=2*t.r
  .rw[decide_eq_true h,decide_eq_true (by omega)]
  .rw[decide_eq_false h,decide_eq_false (by omega)]
 rw[e];by_cases h2:t.k=2
 .rw[h2];cases decide (t.f<g.d)<;>cases t.r==g.R<;>rfl
 .have h2':(t.k==2)=false:=by simpa using h2
  rw[h2'];cases t.k==1<;>cases decide (t.f<g.d)<;>cases decide (t.r<g.R)<;>cases decide (g.R<=2*t.r)<;>rfl
theorem NC {ts:List TL} (hto:∀t∈ts,t.Ok) {g:GF} (hk:g.k=1\/g.k=3\/g.k=4):
 ((chA ts g).1<0/\∀t∈ts,xV g t=false)\/∃a b:Nat,∃(ha:a<ts.length) (hb:b<ts.length),chA ts g=((a:Int),(b:Int))/\xV g ts[a]=true/\xV g ts[b]=true:=by
 have sk:∀d w,(∀t∈ts,xV g t=okM d w t)->∀s1 s2:Bool,chA ts g=(zn ts d w s1 ts.length,zn ts d w s2 ts.length)->
  ((chA ts g).1<0/\∀t∈ts,xV g t=false)\/∃a b:Nat,∃(ha:a<ts.length) (hb:b<ts.length),chA ts g=((a:Int),(b:Int))/\xV g ts[a]=true/\xV g ts[b]=true:=λd w hr s1 s2 e=>by
  rcases Xx (ts:=ts) (d:=d) (w:=w) (g:=s1) ts.length with⟨a,b⟩|⟨i,a,b,c⟩
  .refine .inl ⟨by rw[e];simp only;omega,λt ht=>?_⟩;obtain⟨i,hi,rfl⟩:=bv.1 ht;have:=b i hi;rw[xh hi]at this;rw[hr _ ht];exact this
  .rcases Xx (ts:=ts) (d:=d) (w:=w) (g:=s2) ts.length with⟨_,b2⟩|⟨j,a2,b3,c2⟩
   .rw[b2 i a]at c;cases c
   .rw[xh a]at c;rw[xh a2]at c2;exact .inr ⟨i,j,a,a2,by rw[e,b,b3],by rw[hr _ (bd a)];exact c,by rw[hr _ (bd a2)];exact c2⟩
 rcases hk with e|e|e
 .exact sk g.d (O7 g) (λt _=>EE e) true false (by unfold chA;rw[e];rfl)
 .have ec:chA ts g=((xY ts g.R g.d ts.length).2,(xY ts g.R g.d ts.length).2):=by unfold chA;rw[e];rfl
  rcases Wb (ts:=ts) (R:=g.R) (d:=g.d) ts.length with⟨a,b⟩|⟨i,a,b,c⟩
  .refine .inl ⟨by rw[ec,a];simp only;omega,λt ht=>?_⟩;obtain⟨i,hi,rfl⟩:=bv.1 ht;have:=b i hi;rw[xh hi]at this;rw[YL e];exact this
  .rw[xh a]at c;exact .inr ⟨i,i,a,a,by rw[ec,b],by rw[YL e];exact c,by rw[YL e];exact c⟩
 .exact sk g.d 20000000 (λt ht=>ED e (hto _ ht)) false false (by unfold chA;rw[e];rfl)
def xz (gs:List GF) (ts:List TL):List (List Bool):=ts.map λt=>gs.map λg=>xV g t
theorem JJ (gs:List GF) (ts:List TL):(xz gs ts).length=ts.length:=by simp[xz]
theorem JK {gs:List GF} {ts:List TL}:∀r∈xz gs ts,r.length=gs.length:=λr hr=>by
 obtain⟨t,_,rfl⟩:=cp.1 hr;simp
theorem QH {gs:List GF} {ts:List TL} {t i:Nat} (ht:t<ts.length) (hi:i<gs.length):vK (xz gs ts) t i=xV gs[i] ts[t]:=by
 unfold vK xz;have h1:t<(ts.map λt=>gs.map λg=>xV g t).length:=by simpa using ht
 have e1:(ts.map λt=>gs.map λg=>xV g t).getD t []=gs.map λg=>xV g ts[t]:=by rw[xh h1,e7]
 have h2:i<(gs.map λg=>xV g ts[t]).length:=by simpa using hi
 rw[e1,xh h2,e7]
def wE (ts:List TL):List GF->List Int
 |[]=>[]
 |g::gs=>(chA ts g).1::(chA ts g).2::wE ts gs
def BJ (ts:List TL) (gs:List GF) (t:Nat):Bool:=(wE ts gs).contains (t:Int)
theorem RV {ts:List TL} {gs:List GF} {g:GF} (h:g∈gs):(chA ts g).1∈wE ts gs:=by
 induction gs with
 |nil=>cases h
 |cons a gs ih=>
  rcases bh.1 h with rfl|h
  .exact cL
  .exact bx _ (bx _ (ih h))
theorem ND {gs:List GF} {ts:List TL} (h5:ts.length=5) (hto:∀t∈ts,t.Ok) (hk:∀g∈gs,g.k=1\/g.k=3\/g.k=4):
 (YK ts gs=true↔∀i<gs.length,∃t<5,vK (xz gs ts) t i=true)/\
 (YK ts gs=true->(VA gs.length (xz gs ts) (nmd (BJ ts gs)) (nmd (BJ ts gs)).length).contains true=false/\VB (qS (xz gs ts) gs.length gs.length).2 gs.length<=(zw gs.length (xz gs ts) 5 32).2/\(zw gs.length (xz gs ts) 5 32).2<=((nmd (BJ ts gs)).length:Int)):=by
 have a0:YK ts gs=true->∀i (hi:i<gs.length),∃a b:Nat,∃(ha:a<ts.length) (hb:b<ts.length),chA ts gs[i]=((a:Int),(b:Int))/\xV gs[i] ts[a]=true/\xV gs[i] ts[b]=true:=λh i hi=>by
  have:=of_decide_eq_true (cc.1 h _ (bd hi));rcases NC hto (hk _ (bd hi))with⟨a,_⟩|h
  .omega
  .exact h
 have h1:YK ts gs=true->∀i<gs.length,∃t<5,vK (xz gs ts) t i=true:=λh i hi=>by obtain⟨a,b,ha,hb,_,h1,_⟩:=a0 h i hi;exact⟨a,by omega,by rw[QH ha hi];exact h1⟩
 refine⟨⟨h1,λh=>?_⟩,λh=>?_⟩
 .refine cc.2 λg hg=>?_
  obtain⟨i,hi,rfl⟩:=bv.1 hg;obtain⟨t,ht,h2⟩:=h i hi;rw[QH (by omega) hi]at h2;rcases NC hto (hk _ hg)with⟨_,b⟩|⟨a,b,_,_,e,_⟩
  .rw[b _ (bd (by omega))]at h2;cases h2
  .rw[e];exact decide_eq_true (by simp only;omega)
 .refine aF JK (by rw[JJ,h5]) (h1 h) (BJ ts gs) λi hi=>?_
  obtain⟨a,b,ha,hb,e,h2,_⟩:=a0 h i hi;refine⟨a,?_,by rw[QH ha hi];exact h2⟩;unfold nmd;refine dv.2 ⟨?_,?_⟩
  .have:a=0\/a=1\/a=2\/a=3\/a=4:=by omega
   rcases this with rfl|rfl|rfl|rfl|rfl<;>simp
  .have:=RV (ts:=ts) (bd hi);rw[e]at this;exact bw.2 this
end Eng
end
section
namespace Eng
open Go Go.Proofs
abbrev Ck2:=List (List D)->List A->Bool
abbrev Mk2:=List (List D)->List A->List (List D)
section
variable [Env]
noncomputable def CL (k3:Ck2) (m3:Mk2) (k4:Ck2) (m4:Mk2):Cx:=
 CX [(13,Jc 1 k3 m3 (λ_ _=>[])),(14,Ja 1 k4 m4)]
end
end Eng
end
section
open Go Go.Proofs Eng
namespace Eng
theorem UM (Gv:Nat->List A->List A->Prop) (I0:List D->List D->Prop) (M0:List D->Nat) (I1:List D->List D->Prop) (M1:List D->Nat) (k3:Ck2) (m3:Mk2) (k4:Ck2) (m4:Mk2) (es:List (List D)) (Q:Nat->List (List D)->Prop):gJ (CL k3 m3 k4 m4) Gv (Kt ⟨[.slot 3 (.int .i64 0),.own 0 68 1],[],I0,M0⟩ ⟨[.slot 5 (.int .i64 0),.slot 3 (.int .i64 0),.own 0 68 1],[.slot 3 (.int .i64 0)],I1,M1⟩) Tryz.f14 [] (some (1,es)) [] Q=(bB (decide ((W2 es.length)<2)) (es≠[]/\Q 1 es) (I0 [] [dI (1:Int),No es]/\∀(i:Int) (es:List (List D)),I0 [] [dI i,No es]->bB (decide (i<(W2 es.length))) ((0<=i/\i<(W2 es.length))/\∃i_1,cut (nth [] es (W0 i)) 0 1 [dI i_1]/\(0<=P1 .i64 (i-1)/\P1 .i64 (i-1)<(W2 es.length))/\∃i_2,cut (nth [] es (W0 (P1 .i64 (i-1)))) 0 1 [dI i_2]/\bB (i_1==i_2) ((0<=i/\i<=(W2 es.length)/\(W2 es.length)<=(W2 es.length))/\I1 [dI i] [dI (1:Int),dI i,No es]/\∀(i_3 i_4:Int) (e1:List (List D)),I1 [dI i] [dI i_3,dI i_4,No e1]->bB (decide (i_3<(W2 (W0 (W2 es.length)-W0 i)))) ((0<=i_3/\i_3<(W2 (W0 (W2 es.length)-W0 i)))/\∃i_5,cut (nth [] e1 (W0 i+W0 i_3)) 0 1 [dI i_5]/\(0<=P1 .i64 (i_3-1)/\P1 .i64 (i_3-1)<(W2 (W0 (W2 es.length)-W0 i)))/\∃i_6,cut (nth [] e1 (W0 i+W0 (P1 .i64 (i_3-1)))) 0 1 [dI i_6]/\bB (i_5 !=i_6) ((0<=i_3/\i_3<(W2 (W0 (W2 es.length)-W0 i)))/\∃i_7,cut (nth [] e1 (W0 i+W0 i_3)) 0 1 [dI i_7]/\(0<=i_4/\i_4<(W2 e1.length))/\0<1/\I1 [dI i] [dI (P1 .i64 (i_3+1)),dI (P1 .i64 (i_4+1)),No (upd e1 (W0 i_4) (upd (nth [] e1 (W0 i_4)) 0 (dI i_7)))]/\M1 [dI (P1 .i64 (i_3+1)),dI (P1 .i64 (i_4+1)),No (upd e1 (W0 i_4) (upd (nth [] e1 (W0 i_4)) 0 (dI i_7)))]<M1 [dI i_3,dI i_4,No e1]) (I1 [dI i] [dI (P1 .i64 (i_3+1)),dI i_4,No e1]/\M1 [dI (P1 .i64 (i_3+1)),dI i_4,No e1]<M1 [dI i_3,dI i_4,No e1])) ((0<=i_4/\i_4<=(W2 e1.length)/\(W2 e1.length)<=(W2 e1.length))/\0<W0 (W2 e1.length)-W0 i_4/\(0<=i_4/\i_4<=(W2 (bm (cg (W0 i_4) e1++(cH (W0 (W2 e1.length)-W0 i_4) [dI (0:Int)]++dl (W0 i_4+(W0 (W2 e1.length)-W0 i_4)) e1)))))/\cg (W0 i_4) (cg (W0 i_4) e1++(cH (W0 (W2 e1.length)-W0 i_4) [dI (0:Int)]++dl (W0 i_4+(W0 (W2 e1.length)-W0 i_4)) e1))≠[]/\Q 1 (cg (W0 i_4) (cg (W0 i_4) e1++(cH (W0 (W2 e1.length)-W0 i_4) [dI (0:Int)]++dl (W0 i_4+(W0 (W2 e1.length)-W0 i_4)) e1))))) (I0 [] [dI (P1 .i64 (i+1)),No es]/\M0 [dI (P1 .i64 (i+1)),No es]<M0 [dI i,No es])) (es≠[]/\Q 1 es))):=by kernel_rfl
end Eng
end
section
namespace Eng
open Go Go.Proofs
def kI (z:Int):List D:=[.int .i64 z]
theorem aN (z:Int):(kI z).length=1:=rfl
theorem kC {α:Type} (f:α->List D) (l:List α):(l.map f).length=l.length:=cv ..
theorem BK {α:Type} (f:α->List D) {l:List α} {i:Nat} (h:i<l.length):nth [] (l.map f) i=f l[i]:=by
 rw[qu];simp[h]
theorem EF {α:Type} {f:α->List D} {n:Nat} (hf:∀x,(f x).length=n) (l:List α):lens n (l.map f):=by
 intro e he;obtain⟨x,_,rfl⟩:=cp.1 he;exact hf x
theorem wI {n:Int} (_: -9000000000000000000<=n/\n<=9000000000000000000:=by omega):P1 .i64 n=n:=qR
def gK (gs:List D):Nat:=(toI (nth .undef gs 0)).toNat
def EG (n:Nat) (ds:List D):Nat:=n-(toI (nth .undef ds 0)).toNat
theorem NE (n:Nat) (z:Int) (t:List D):EG n (.int .i64 z::t)=n-z.toNat:=rfl
theorem NF {n k:Nat} {r s:List D} (h:k<n:=by omega) (hn:n<=1000000000:=by omega):EG n (.int .i64 (P1 .i64 ((k:Int)+1))::r)<EG n (.int .i64 (k:Int)::s):=by
 rw[NE,NE,wI];omega
def jU (zs:List Int):List Int:=zs.mergeSort λx y=>decide (x<=y)
theorem V2 (zs:List Int):(jU zs).length=zs.length:=List.length_mergeSort _
theorem NG {zs:List Int} {x:Int}:x∈jU zs↔x∈zs:=List.mem_mergeSort
theorem NH (zs:List Int):(jU zs).Pairwise (· <= ·):=by
 have:=List.pairwise_mergeSort (le:=λx y:Int=>decide (x<=y)) (by intro a b c h1 h2;simp only[decide_eq_true_eq]at *;omega) (by intro a b;simp only[I3,decide_eq_true_eq];omega) zs;exact this.imp λh=>by simpa using h
abbrev ir (l:List Int):Prop:=l.Pairwise (· < ·)
def Wd (a:Int):List Int->List Int
 |[]=>[]
 |b::r=>if b=a then Wd b r else b::Wd b r
def YM:List Int->List Int
 |[]=>[]
 |a::r=>a::Wd a r
theorem H3 {x:Int}:∀{r:List Int} {a:Int},(x=a\/x∈Wd a r)↔(x=a\/x∈r)
 |[],a=>by simp[Wd]
 |b::r,a=>by
  unfold Wd;have ih:=H3 (x:=x) (r:=r) (a:=b);split
  .rename_i e;subst e;rw[ih,bh];constructor
   .rintro(h|h)
    .exact .inl h
    .exact .inr (.inr h)
   .rintro(h|h|h)
    .exact .inl h
    .exact .inl h
    .exact .inr h
  .rw[bh,bh,ih]
theorem H4 {l:List Int} {x:Int}:x∈YM l↔x∈l:=by
 cases l with
 |nil=>rfl
 |cons a r=>unfold YM;rw[bh,bh];exact H3
theorem H5:∀{r:List Int} {a:Int},(a::r).Pairwise (· <= ·)->(a::Wd a r).Pairwise (· < ·)
 |[],a,_=>by simp[Wd]
 |b::r,a,h=>by
  obtain⟨h1,h2⟩:=cb.1 h;have ih:=H5 h2;obtain⟨i1,i2⟩:=cb.1 ih;have hab:=h1 b (by simp);unfold Wd;split
  .rename_i e;subst e;exact ih
  .rename_i e;refine cb.2 ⟨λx hx=>?_,ih⟩;rcases bh.1 hx with rfl|hx
   .omega
   .have:=i1 x hx;omega
theorem RW {l:List Int} (h:l.Pairwise (· <= ·)):ir (YM l):=by
 cases l with
 |nil=>exact List.Pairwise.nil
 |cons a r=>exact H5 h
def noK:Ck2:=λ_ _=>false
def nmK:Mk2:=λ_ _=>[]
section
variable [Env]
theorem aO {k3 k4:Ck2} {m3 m4:Mk2} (h3:∀es al,k3 es al=true->es≠[]/\QU CC 13 1 es al [] (m3 es al)) (h4:∀es al,k4 es al=true->es≠[]/\m4 es al≠[]/\wq CC 14 [] (some (1,es)) al 1 (m4 es al)):
 EffOk (CL k3 m3 k4 m4):=
 qV (zh ⟨Kw Tryz.func13 (by simp[Tryz.f13]) (by decide) λes al h=>⟨(h3 es al h).1,WU (C:=CC) rfl rfl (h3 es al h).2⟩,
  Kv Tryz.func14 (by simp[Tryz.f14]) (by decide) λes al h=>⟨(h4 es al h).1,(h4 es al h).2.1,wT (C:=CC) rfl rfl (h4 es al h).2.2⟩,
  trivial⟩)
noncomputable abbrev CL0:Cx:=CL noK nmK noK nmK
instance:EffOk CL0:=aO (λ_ _ h=>by simp[noK]at h) (λ_ _ h=>by simp[noK]at h)
end
def cpI0 (l:List Int) (_ ds:List D):Prop:=∃k:Nat,1<=k/\k<=l.length/\ds=[.int .i64 (k:Int),.sl (l.map kI)]/\∀a,l[k-1]? =some a->YM l=l.take k++Wd a (l.drop k)
def cpI1 (l:List Int) (gs ds:List D):Prop:=∃j w:Nat,∃E:List Int,ds=[.int .i64 (j:Int),.int .i64 (w:Int),.sl (E.map kI)]/\1<=j/\gK gs+j<=l.length/\gK gs<=w/\w+1<=gK gs+j/\E.length=l.length/\
 E.drop (gK gs+j-1)=l.drop (gK gs+j-1)/\∀a,l[gK gs+j-1]? =some a->YM l=E.take w++Wd a (l.drop (gK gs+j))
theorem H6 {l:List Int} {k:Nat} (h:k<l.length):cut (nth [] (l.map kI) k) 0 1 [.int .i64 l[k]]:=by
 rw[BK kI h];exact⟨rfl,by show 0+1<=1;omega⟩
theorem aQ {l:List Int} {k:Nat} (h:k<l.length) (z:Int):upd (l.map kI) k (upd (nth [] (l.map kI) k) 0 (.int .i64 z))=(l.set k z).map kI:=by
 rw[BK kI h,xn,List.map_set];rfl
section
variable [Env]
theorem NI {l:List Int} (hne:l≠[]) (hn:l.length<=1000000):wq CC 14 [] (some (1,l.map kI)) [] 1 ((YM l).map kI):=by
 refine wT (C:=CL0) rfl rfl (CH (C:=CL0) mixedT Tryz.func14 ((UM (Gives CL0) (cpI0 l) (EG 10000000) (cpI1 l) (EG 10000000) ..).mpr ?_));have hl0:0<l.length:=List.length_pos_iff.2 hne;have ag:∀m:List Int,m≠[]->m.map kI≠[]:=λm h e=>h (ep.1 e)
 rw[kC];refine brd (λh=>?_) (λh=>?_)
 .have:l.length=1:=by simp only[ba]at h;omega
  obtain⟨a,rfl⟩:=List.length_eq_one_iff.1 this;exact⟨ag _ hne,rfl,rfl⟩
 .have h2:2<=l.length:=by simp only[ba]at h;omega
  refine⟨⟨1,ft _,by omega,rfl,λa ha=>?_⟩,?_⟩
  .cases l with
   |nil=>simp at hl0
   |cons b r=>have ha:(b::r)[0]? =some a:=ha;simp only[List.getElem?_cons_zero,gn]at ha;subst ha;rfl
  rintro _ _ ⟨k,hk1,hk,he,a1⟩;simp only[fk,Pl,D.sl.injEq,and_true,true_and]at he;obtain⟨rfl,rfl⟩:=he;rw[kC];have a4:k-1<l.length:=by omega
  have a1:=a1 _ (be a4);refine brd (λh3=>?_) (λh3=>?_)
  .have a2:k<l.length:=by simp only[ba]at h3;omega
   have w1:P1 .i64 ((k:Int)-1)=((k-1:Nat):Int):=by rw[wI];omega
   rw[w1];simp only[ba,bb];refine⟨⟨by omega,by omega⟩,_,H6 a2,⟨by omega,by omega⟩,_,H6 a4,?_⟩;rw[ea a2]at a1;refine brb (λh4=>?_) (λh4=>?_)
   .have h4:l[k]=l[k-1]:=by simpa using h4
    rw[Wd,if_pos h4]at a1;refine⟨⟨by omega,by omega,by omega⟩,⟨1,k,l,rfl,ft _,by show k+1<=_;omega,ft _,ft _,rfl,rfl,λa ha=>?_⟩,?_⟩
    .have ha:l[k+1-1]? =some a:=ha;rw[fS,be a2]at ha;obtain rfl:=gm ha;exact a1
    rintro _ _ _ ⟨j,w,E,he,hj1,ap,ad,b1,an,a7,a0⟩;simp only[fk,Pl,D.sl.injEq,and_true,true_and]at he;obtain⟨rfl,rfl,rfl⟩:=he;have ap:k+j<=l.length:=ap;have ad:k<=w:=ad;have b1:w+1<=k+j:=b1;have a7:E.drop (k+j-1)=l.drop (k+j-1):=a7;have hq:k+j-1<l.length:=by omega
    have a0:YM l=E.take w++Wd l[k+j-1] (l.drop (k+j)):=a0 _ (be hq);have a6:∀i,∀hi:i<l.length,k+j-1<=i->E[i]'(by omega)=l[i]:=by
     intro i hi hle;have h1:(E.drop (k+j-1))[i-(k+j-1)]? =(l.drop (k+j-1))[i-(k+j-1)]? :=by rw[a7]
     rw[ey,ey,show k+j-1+(i-(k+j-1))=i by omega,be hi,be (by omega:i<E.length)]at h1;exact gm h1
    have wj1:P1 .i64 ((j:Int)-1)=((j-1:Nat):Int):=by rw[wI];omega
    rw[wj1];simp only[bb,kC];refine brd (λh5=>?_) (λh5=>?_)
    .have a5:k+j<l.length:=by omega
     have c1:=H6 (l:=E) (k:=k+j) (by omega);have c2:=H6 (l:=E) (k:=k+(j-1)) (by omega);have e1:E[k+j]'(by omega)=l[k+j]:=a6 _ a5 (by omega);have e2:E[k+(j-1)]'(by omega)=l[k+j-1]:=by have:=a6 (k+j-1) hq (ft _);simp only[show k+(j-1)=k+j-1 by omega];exact this
     rw[e1]at c1;rw[e2]at c2;rw[ea a5]at a0;refine⟨⟨by omega,by omega⟩,_,c1,⟨by omega,by omega⟩,_,c2,?_⟩;have wj:P1 .i64 ((j:Int)+1)=((j+1:Nat):Int):=by rw[wI];rfl
     have ww:P1 .i64 ((w:Int)+1)=((w+1:Nat):Int):=by rw[wI];rfl
     have al:∀r s,EG 10000000 (.int .i64 (P1 .i64 ((j:Int)+1))::r)<EG 10000000 (.int .i64 (j:Int)::s):=λr s=>NF
     have d1:∀F:List Int,F.drop (k+j)=l.drop (k+j)->F.drop (k+(j+1)-1)=l.drop (k+(j+1)-1):=λF h=>by rw[show k+(j+1)-1=k+j by omega];exact h
     have a3:E.drop (k+j)=l.drop (k+j):=by have:=congrArg (dl 1) a7;rw[fg,fg,show k+j-1+1=k+j by omega]at this;exact this
     refine brb (λh6=>?_) (λh6=>?_)
     .have h6:l[k+j]≠l[k+j-1]:=by simpa using h6
      rw[Wd,if_neg h6]at a0;have b0:w<E.length:=by omega
      refine⟨⟨by omega,by omega⟩,_,c1,⟨by omega,by omega⟩,by omega,?_,?_⟩
      .rw[aQ b0];refine⟨j+1,w+1,E.set w l[k+j],by rw[wj,ww],by omega,by show k+(j+1)<=_;omega,by show k<=w+1;omega,by show w+1+1<=k+(j+1);omega,by rw[eH,an],?_,?_⟩
       .exact d1 _ (by rw[List.drop_set,if_pos (by omega)];exact a3)
       .intro a ha;have ha:l[k+(j+1)-1]? =some a:=ha;rw[show k+(j+1)-1=k+j by omega,be a5]at ha;obtain rfl:=gm ha;show YM l=(E.set w l[k+j]).take (w+1)++Wd l[k+j] (l.drop (k+(j+1)));rw[bs (by rw[eH];exact b0),List.take_set_of_le (ft _),List.getElem_set_self,e0];exact a0
      .exact al _ _
     .have h6:l[k+j]=l[k+j-1]:=by simpa using h6
      rw[Wd,if_pos h6]at a0;refine⟨⟨j+1,w,E,by rw[wj],by omega,by show k+(j+1)<=_;omega,ad,by show w+1<=k+(j+1);omega,an,d1 _ a3,?_⟩,al _ _⟩;intro a ha;have ha:l[k+(j+1)-1]? =some a:=ha;rw[show k+(j+1)-1=k+j by omega,be a5]at ha;obtain rfl:=gm ha;exact a0
    .have a5:k+j=l.length:=by omega
     have a0:YM l=E.take w:=by rw[a0,eb (by omega),Wd,eU]
     have ht:cg w (cg w (E.map kI)++(cH (E.length-w) [M3 .i64 0]++dl (w+(E.length-w)) (E.map kI)))=(E.take w).map kI:=by rw[List.take_append_of_le_length (by rw[cm,kC];omega),List.take_take,Nat.min_self,List.map_take]
     rw[ht];refine⟨⟨by omega,by omega,by omega⟩,by omega,⟨by omega,?_⟩,?_,trivial,?_⟩
     .simp only[List.length_append,cm,List.length_replicate,List.length_drop,kC];omega
     .refine ag _ λe=>?_
      have:=congrArg bm e;rw[cm,eL]at this;omega
     .rw[a0]
   .have h4:¬l[k]=l[k-1]:=by simpa using h4
    rw[Wd,if_neg h4]at a1;refine⟨⟨k+1,by omega,by omega,by rw[wI];rfl,λa ha=>?_⟩,NF⟩;have ha:l[k+1-1]? =some a:=ha;rw[fS,be a2]at ha;obtain rfl:=gm ha;rw[a1,bs a2,e0];rfl
  .have a2:k=l.length:=by simp only[ba]at h3;omega
   refine⟨ag _ hne,rfl,?_⟩;rw[a1,eb (by omega),List.take_of_length_le (by omega),Wd,eU]
end
end Eng
end
section
namespace Go.Proofs
open Go.Shelf
 shelf_lay_g SlLaysN.n53 Slgn 53 at Tryz 13 as Tryz.sortI64
end Go.Proofs
end
section
namespace Eng
open Go Go.Proofs Go.RowKit
open Go.Sort (Holds grow)
theorem aS (zs:List Int):(zs.map kI).flatten=zs.map (M3 .i64):=by
 induction zs with
 |nil=>rfl
 |cons a r ih=>simp only[List.map_cons,List.flatten_cons,ih];rfl
section
variable [Env]
theorem EH (zs:List Int):QU CC 13 1 (zs.map kI) [] [] ((jU zs).map kI):=by
 intro w F vs2 g c0 a0 t0 hb hinv h2 hL;cases vs2 with
 |cons _ _=>exact h2.elim
 |nil=>
 have hle:zs.length<=c0:=by have:=hL.lc.1;rw[kC]at this;exact this
 have hsz:a0.size=c0:=by have:=hL.sz;omega
 have a2:∀j,∀hj:j<zs.length,a0[j]? =some (.int .i64 zs[j]):=by
  intro j hj;obtain⟨v,h1,h3⟩:=hL.cd j (by rw[kC];omega);rw[aS,qu]at h3;simp only[ez,be hj,gd,gk]at h3;have:v= .int .i64 zs[j]:=by cases h3;rfl
  rw[h1,this]
 have hH:Holds (Value.int .i64) w g 0 zs.toArray:=by
  intro j hj;have hj:j<zs.length:=by simpa using hj
  rw[getElem!_pos zs.toArray j (by simpa using hj),el];constructor
  .unfold World.cell?;simp only[fy];rw[hL.blk];exact a2 j hj
  .unfold World.frozen?;simp only[fy];rw[hL.blk];simp
 have hr:=hL.room;rw[kC]at hr;have hS:=AnyG.slices_Sort_int Tryz.sortI64 g 0 c0 zs w hH hL.lt (by have:=hr.max;omega);rw[kC];refine hS.mono λe w' ⟨he,n,os,hw'⟩=>?_
 have hat:w'.heap[g]? =some (Go.Obj.cells (Tk (Value.int .i64) 0 (jU zs).toArray a0) t0 (0,0)):=by rw[hw'];unfold V1 U0 Ts U3;simp only;rw[Aw (by simpa using hL.lt),Bx,if_pos rfl,hL.blk];rfl
 have hne:∀b,b<w.heap.size->¬b=g->w'.heap[b]? =w.heap[b]? :=by intro b hb hn;rw[hw'];unfold V1 U0 Ts U3;simp only;rw[Aw (by simpa using hb),Bx,if_neg (Ne.symm hn)]
 have a1:w.heap.size<=w'.heap.size:=by rw[hw'];unfold V1 U0 Ts U3;simp
 have hps:(Tk (Value.int .i64) 0 (jU zs).toArray a0).size=a0.size:=by simp[Tk]
 have a3:=V2 zs;refine⟨⟨by rw[hw'];rfl,by rw[hw'];rfl,by rw[hw'];rfl,a1,hne⟩,F,Tk (Value.int .i64) 0 (jU zs).toArray a0,.tuple #[],he,λ_ h=>h,λx hx=>⟨fR (hb x hx) a1,.inl hx⟩,⟨#[],rfl,trivial⟩,?_,by rw[kC,a3]⟩;refine⟨hL.nF,fR hL.lt a1,hat,by rw[hps];exact hL.sz,⟨by rw[kC,a3];exact hle,hL.lc.2⟩,by rw[kC,a3];exact hr,hL.s0,EF aN _,hL.ct,λj hj=>?_⟩;rw[kC,a3,Nat.mul_one]at hj;have a4:j<(jU zs).length:=by omega
 refine⟨.int .i64 (jU zs)[j],?_,?_⟩
 .unfold Tk;have hjs:j<a0.size:=by omega
  rw[Array.getElem?_mapIdx,Array.getElem?_eq_getElem hjs];simp only[gd,List.size_toArray,Nat.sub_zero];rw[if_pos ⟨by omega,by omega⟩,getElem!_pos (jU zs).toArray j (by simpa using a4),el]
 .rw[aS,qu];simp only[ez,be a4,gd,gk];exact CD.int _ _
theorem UN:Gives CC 13 [.c (.sl [])] []:=by
 intro w F vs hb hi h
 match vs,h with
 |[v],⟨h,_⟩=>obtain⟨ad,c,rfl,_⟩:=CD.slice_inv (show CD w F (.sl []) v from h);refine(AnyG.slices_Sort_int_none Tryz.sortI64 ad c w).mono ?_;rintro e w' ⟨rfl,rfl⟩;exact⟨Below.refl _ _,_,rfl,⟨#[],rfl,trivial⟩⟩
end
end Eng
end
section
namespace Eng
open Go Go.Proofs
theorem BL:∀{l m:List Int},ir l->ir m->(∀x,x∈l↔x∈m)->l=m
 |[],[],_,_,_=>rfl
 |[],b::s,_,_,h=>absurd ((h b).2 (by simp)) (by simp)
 |a::r,[],_,_,h=>absurd ((h a).1 (by simp)) (by simp)
 |a::r,b::s,h1,h2,h=>by
  obtain⟨p1,p2⟩:=cb.1 h1;obtain⟨q1,q2⟩:=cb.1 h2;have e:a=b:=by
   rcases bh.1 ((h a).1 (by simp))with e|ha
   .exact e
   .rcases bh.1 ((h b).2 (by simp))with e|hb
    .exact e.symm
    .have:=q1 a ha;have:=p1 b hb;omega
  subst e;rw[BL p2 q2 λx=>?_];constructor
  .intro hx;rcases bh.1 ((h x).1 (bx _ hx))with e|a0
   .have:=p1 x hx;omega
   .exact a0
  .intro hx;rcases bh.1 ((h x).2 (bx _ hx))with e|a0
   .have:=q1 x hx;omega
   .exact a0
theorem EI (p:Nat->Bool):((nmd p).map W2).Pairwise (· < ·):=by
 have h:([0,1,2,3,4]:List Nat).Pairwise (· < ·):=by decide
 rw[List.pairwise_map];exact(h.filter p).imp λh=>Int.ofNat_lt.2 h
theorem RX {l:List Int} (h:∀x∈l,0<=x/\x<5):YM (jU l)=(nmd λt=>l.contains (t:Int)).map W2:=by
 refine BL (RW (NH l)) (EI _) λx=>?_
 rw[H4,NG];constructor
 .intro hx;obtain⟨h0,h5⟩:=h x hx;refine cp.2 ⟨x.toNat,?_,bc h0⟩;unfold nmd;refine dv.2 ⟨?_,?_⟩
  .have:x.toNat=0\/x.toNat=1\/x.toNat=2\/x.toNat=3\/x.toNat=4:=by omega
   rcases this with e|e|e|e|e<;>simp[e]
  .show l.contains ((x.toNat:Nat):Int)=true;rw[bc h0];exact bw.2 hx
 .intro hx;obtain⟨t,ht,rfl⟩:=cp.1 hx;unfold nmd at ht;exact bw.1 (dv.1 ht).2
theorem BM {ts:List TL} (h5:ts.length=5) (hto:∀t∈ts,t.Ok):∀{gs:List GF},(∀g∈gs,g.k=1\/g.k=3\/g.k=4)->YK ts gs=true->∀x∈wE ts gs,0<=x/\x<5
 |[],_,_,x,hx=>by cases hx
 |g::gs,hk,hc,x,hx=>by
  have hc:(decide (0<=(chA ts g).1)&&YK ts gs)=true:=hc;simp only[Hu,decide_eq_true_eq]at hc;have ih:=BM h5 hto (gs:=gs) (λg hg=>hk g (bx _ hg)) hc.2;rcases NC hto (hk g cL)with⟨a,_⟩|⟨a,b,ha,hb,e,_⟩
  .omega
  .rcases bh.1 hx with rfl|hx
   .rw[e];simp only;omega
   .rcases bh.1 hx with rfl|hx
    .rw[e];simp only;omega
    .exact ih x hx
theorem RY {ts:List TL} {gs:List GF} (h5:ts.length=5) (hto:∀t∈ts,t.Ok) (hk:∀g∈gs,g.k=1\/g.k=3\/g.k=4) (hc:YK ts gs=true):iR (YM (jU (wE ts gs)))=nR (nmd (BJ ts gs)):=by
 rw[RX (BM h5 hto hk hc)];rfl
end Eng
end
section
open Go Go.Proofs Eng
namespace Eng
theorem NJ (Gv:Nat->List A->List A->Prop) (a0 a1 a2 a3 co h0 h1 h2 fr ha d0 d1 c0 c1 c2 m0 m1 m2 dr to:Int) (Q:List A->Prop):wpF CC Gv an0 Tryz.f6 [.ag (.int .u8 a0:: .int .u8 a1:: .int .u8 a2:: .int .u8 a3:: .int .u8 co:: .int .u8 h0:: .int .u8 h1:: .int .u8 h2:: .int .u8 fr:: .int .u8 ha:: .int .u8 d0:: .int .u8 d1:: .int .u8 c0:: .int .u8 c1:: .int .u8 c2:: .int .u8 m0:: .int .u8 m1:: .int .u8 m2:: .int .u8 dr:: .int .u8 to::[])] Q=(bB (decide (c2>0)) ((36:Int)≠(0:Int)/\(36:Int)≠(0:Int)/\(20:Int)≠(0:Int)/\Q [Lr [dI (0:Int),dI (0:Int),dI (30000:Int),dI (30000:Int),dI (6000:Int),dI (5000:Int),No [[dI (P1 .i64 (1000*P1 .i64 (W1 c0 (36:Int)))),dI (P1 .i64 (1000*P1 .i64 (W1 c1 (36:Int)))),dI (P1 .i64 (P1 .i64 (1000*P1 .i64 (W1 c0 (36:Int)))+4000)),dI (P1 .i64 (P1 .i64 (1000*P1 .i64 (W1 c1 (36:Int)))+4000)),dI (P1 .i64 (1000*P1 .i64 (W1 c2 (20:Int))))]],dI (25000:Int)]]) (Q [Lr [dI (0:Int),dI (0:Int),dI (30000:Int),dI (30000:Int),dI (6000:Int),dI (5000:Int),No [],dI (25000:Int)]])):=by kernel_rfl
theorem aU (Gv:Nat->List A->List A->Prop) (i0:Int) (i1:Int) (Q:List A->Prop):wpF CC Gv an0 Tryz.f68 [.c (.int .i64 i0),.c (.int .i64 i1)] Q=(∃x x1,Gv 138 [aI (P1 .i64 (1000*i0)),aI (P1 .i64 (1000*i1))] [aV x x1]/\Q [aV x x1]):=by kernel_rfl
theorem RZ (Gv:Nat->List A->List A->Prop) (a0 a1 a2 a3 co h0 h1 h2 fr ha d0 d1 c0 c1 c2 m0 m1 m2 dr to:Int) (Q:List A->Prop):wpF CC Gv an0 Tryz.f25 [.ag (.int .u8 a0:: .int .u8 a1:: .int .u8 a2:: .int .u8 a3:: .int .u8 co:: .int .u8 h0:: .int .u8 h1:: .int .u8 h2:: .int .u8 fr:: .int .u8 ha:: .int .u8 d0:: .int .u8 d1:: .int .u8 c0:: .int .u8 c1:: .int .u8 c2:: .int .u8 m0:: .int .u8 m1:: .int .u8 m2:: .int .u8 dr:: .int .u8 to::[])] Q=((12:Int)≠(0:Int)/\(12:Int)≠(0:Int)/\(5:Int)≠(0:Int)/\(5:Int)≠(0:Int)/\(3:Int)≠(0:Int)/\bB (W1 co (3:Int)==(1:Int)) (∃x x1,Gv 68 [aI (P1 .i64 (W1 a0 (12:Int))),aI (P1 .i64 (W1 a1 (12:Int)))] [aV x x1]/\∃x2 x3,Gv 68 [aI (P1 .i64 (P1 .i64 (P1 .i64 (W1 a0 (12:Int))+6)+P1 .i64 (W1 a2 (5:Int)))),aI (P1 .i64 (W1 a1 (12:Int)))] [aV x2 x3]/\∃x4 x5,Gv 68 [aI (P1 .i64 (P1 .i64 (P1 .i64 (W1 a0 (12:Int))+6)+P1 .i64 (W1 a2 (5:Int)))),aI (P1 .i64 (P1 .i64 (P1 .i64 (P1 .i64 (W1 a1 (12:Int))+6)+P1 .i64 (W1 a3 (5:Int)))-2))] [aV x4 x5]/\∃x6 x7,Gv 68 [aI (P1 .i64 (P1 .i64 (P1 .i64 (P1 .i64 (W1 a0 (12:Int))+6)+P1 .i64 (W1 a2 (5:Int)))-3)),aI (P1 .i64 (P1 .i64 (P1 .i64 (W1 a1 (12:Int))+6)+P1 .i64 (W1 a3 (5:Int))))] [aV x6 x7]/\∃x8 x9,Gv 68 [aI (P1 .i64 (W1 a0 (12:Int))),aI (P1 .i64 (P1 .i64 (P1 .i64 (W1 a1 (12:Int))+6)+P1 .i64 (W1 a3 (5:Int))))] [aV x8 x9]/\Q [aL [(rk x (rk x1 [])),(rk x2 (rk x3 [])),(rk x4 (rk x5 [])),(rk x6 (rk x7 [])),(rk x8 (rk x9 []))]]) ((3:Int)≠(0:Int)/\bB (W1 co (3:Int)==(2:Int)) (∃x x1,Gv 68 [aI (P1 .i64 (W1 a0 (12:Int))),aI (P1 .i64 (W1 a1 (12:Int)))] [aV x x1]/\∃x2 x3,Gv 68 [aI (P1 .i64 (P1 .i64 (P1 .i64 (W1 a0 (12:Int))+6)+P1 .i64 (W1 a2 (5:Int)))),aI (P1 .i64 (W1 a1 (12:Int)))] [aV x2 x3]/\∃x4 x5,Gv 68 [aI (P1 .i64 (W1 a0 (12:Int))),aI (P1 .i64 (P1 .i64 (P1 .i64 (W1 a1 (12:Int))+6)+P1 .i64 (W1 a3 (5:Int))))] [aV x4 x5]/\Q [aL [(rk x (rk x1 [])),(rk x2 (rk x3 [])),(rk x4 (rk x5 []))]]) (∃x x1,Gv 68 [aI (P1 .i64 (W1 a0 (12:Int))),aI (P1 .i64 (W1 a1 (12:Int)))] [aV x x1]/\∃x2 x3,Gv 68 [aI (P1 .i64 (P1 .i64 (P1 .i64 (W1 a0 (12:Int))+6)+P1 .i64 (W1 a2 (5:Int)))),aI (P1 .i64 (W1 a1 (12:Int)))] [aV x2 x3]/\∃x4 x5,Gv 68 [aI (P1 .i64 (P1 .i64 (P1 .i64 (W1 a0 (12:Int))+6)+P1 .i64 (W1 a2 (5:Int)))),aI (P1 .i64 (P1 .i64 (P1 .i64 (W1 a1 (12:Int))+6)+P1 .i64 (W1 a3 (5:Int))))] [aV x4 x5]/\∃x6 x7,Gv 68 [aI (P1 .i64 (W1 a0 (12:Int))),aI (P1 .i64 (P1 .i64 (P1 .i64 (W1 a1 (12:Int))+6)+P1 .i64 (W1 a3 (5:Int))))] [aV x6 x7]/\Q [aL [(rk x (rk x1 [])),(rk x2 (rk x3 [])),(rk x4 (rk x5 [])),(rk x6 (rk x7 []))]]))):=by kernel_rfl
theorem EJ (Gv:Nat->List A->List A->Prop) (i0:Int) (i1:Int) (Q:List A->Prop):wpF CC Gv an0 Tryz.f29 [.c (.int .i64 i0),.c (.int .i64 i1)] Q=(Q [Lr [dI i0,dI (1:Int),dI i1,dI (20000:Int),dI (P1 .i64 (i1+7000)),dI (1500:Int),dI (20000:Int),dI (5000:Int)]]):=by kernel_rfl
theorem NK (Gv:Nat->List A->List A->Prop) (i0:Int) (Q:List A->Prop):wpF CC Gv an0 Tryz.f27 [.c (.int .i64 i0)] Q=(∃x,Gv 38 [aI i0] [aR x]/\Q [aR x]):=by kernel_rfl
end Eng
end
section
namespace Eng
open Go Go.Proofs
def clA (c0 c1 c2:Int):List CLp:=match decide (c2>0)with
 |true=>[⟨1000*W1 c0 36,1000*W1 c1 36,1000*W1 c0 36+4000,1000*W1 c1 36+4000,1000*W1 c2 20⟩]
 |false=>[]
theorem xv {a b:Int} (h:0<=a) (hb:0<b):0<=W1 a b/\W1 a b<b:=⟨Int.tmod_nonneg _ h,Int.tmod_lt_of_pos _ hb⟩
theorem aW {c0 c1 c2:Int} (h0:0<=c0) (h1:0<=c1) (h2:0<=c2):∀c∈clA c0 c1 c2,c.Ok:=λc hc=>by
 unfold clA at hc;have b0:=xv (b:=36) h0 (by omega);have b1:=xv (b:=36) h1 (by omega);have b2:=xv (b:=20) h2 (by omega);cases h:decide (c2>0)with
 |false=>rw[h]at hc;cases hc
 |true=>rw[h]at hc;simp only[List.mem_singleton]at hc;subst hc;refine⟨⟨?_,?_,?_⟩,⟨?_,?_,?_⟩,?_,?_⟩<;>simp only<;>omega
section
variable [Env]
theorem NL (a0 a1 a2 a3 co h0 h1 h2 fr ha d0 d1 c0 c1 c2 m0 m1 m2 dr to:Int) (g0:0<=c0) (g1:0<=c1) (g2:0<=c2):
 Gives CC 6 [.ag (.int .u8 a0:: .int .u8 a1:: .int .u8 a2:: .int .u8 a3:: .int .u8 co:: .int .u8 h0:: .int .u8 h1:: .int .u8 h2:: .int .u8 fr:: .int .u8 ha:: .int .u8 d0:: .int .u8 d1:: .int .u8 c0:: .int .u8 c1:: .int .u8 c2:: .int .u8 m0:: .int .u8 m1:: .int .u8 m2:: .int .u8 dr:: .int .u8 to::[])] [Jg (clA c0 c1 c2)]:=by
 have b0:=xv (b:=36) g0 (by omega);have b1:=xv (b:=36) g1 (by omega);have b2:=xv (b:=20) g2 (by omega);refine qj (C:=CC) (anns:=an0) mixedT Tryz.func6 ?_;rw[NJ];unfold clA Jg;refine brd (λh=>?_) λh=>?_
 .rw[decide_eq_true h,qR (n:=W1 c0 36) (by omega) (by omega),qR (n:=W1 c1 36) (by omega) (by omega),qR (n:=W1 c2 20) (by omega) (by omega),
   qR (n:=1000*W1 c0 36) (by omega) (by omega),qR (n:=1000*W1 c1 36) (by omega) (by omega),qR (n:=1000*W1 c2 20) (by omega) (by omega),
   qR (n:=1000*W1 c0 36+4000) (by omega) (by omega),qR (n:=1000*W1 c1 36+4000) (by omega) (by omega)]
  exact⟨by omega,by omega,by omega,rfl⟩
 .rw[decide_eq_false h];rfl
end
end Eng
end
section
open Go Go.Proofs Eng
namespace Eng
theorem EK (Gv:Nat->List A->List A->Prop) (I0:List D->List D->Prop) (M0:List D->Nat) (I1:List D->List D->Prop) (M1:List D->Nat) (I2:List D->List D->Prop) (M2:List D->Nat) (chk5 chk7 chk12:List A->Bool) (t0 t1 t2 t3 t4:List D) (a0 a1 a2 a3 co h0 h1 h2 fr ha d0 d1 c0 c1 c2 m0 m1 m2 dr to:Int) (Q:List A->Prop):Be (CN [(5,kV (CN []) 5 chk5 (λ_=>[.ag [.int .i64 6000,.sl []]])),(7,kV (CN []) 7 chk7 (λ_=>[.c (.sl [t0,t1,t2,t3,t4])])),(12,kV (CN []) 12 chk12 (λ_=>[.c (.sl []),.c (.int .i64 0)]))]) Gv (Pn ⟨[.slot 44 (.int .i64 0)],[],I0,M0⟩ ⟨[.slot 53 (.int .i64 0)],[],I1,M1⟩ ⟨[.slot 97 (.int .i64 0)],[],I2,M2⟩) (λn=>match n with|0=>6|1=>1|_=>1) Tryz.f3 [.ag (.int .u8 a0:: .int .u8 a1:: .int .u8 a2:: .int .u8 a3:: .int .u8 co:: .int .u8 h0:: .int .u8 h1:: .int .u8 h2:: .int .u8 fr:: .int .u8 ha:: .int .u8 d0:: .int .u8 d1:: .int .u8 c0:: .int .u8 c1:: .int .u8 c2:: .int .u8 m0:: .int .u8 m1:: .int .u8 m2:: .int .u8 dr:: .int .u8 to::[])] Q=(∃b,Gv 4 [] [aB b]/\bB (!b) (Q [aB false]) (chk5 [Lr [M3 .u8 a0,M3 .u8 a1,M3 .u8 a2,M3 .u8 a3,M3 .u8 co,M3 .u8 h0,M3 .u8 h1,M3 .u8 h2,M3 .u8 fr,M3 .u8 ha,M3 .u8 d0,M3 .u8 d1,M3 .u8 c0,M3 .u8 c1,M3 .u8 c2,M3 .u8 m0,M3 .u8 m1,M3 .u8 m2,M3 .u8 dr,M3 .u8 to]]=true/\∃i i_1 i_2 i_3 i_4 i_5 es i_6,Gv 6 [Lr [M3 .u8 a0,M3 .u8 a1,M3 .u8 a2,M3 .u8 a3,M3 .u8 co,M3 .u8 h0,M3 .u8 h1,M3 .u8 h2,M3 .u8 fr,M3 .u8 ha,M3 .u8 d0,M3 .u8 d1,M3 .u8 c0,M3 .u8 c1,M3 .u8 c2,M3 .u8 m0,M3 .u8 m1,M3 .u8 m2,M3 .u8 dr,M3 .u8 to]] [Lr [dI i,dI i_1,dI i_2,dI i_3,dI i_4,dI i_5,No es,dI i_6]]/\chk7 [Lr [M3 .u8 a0,M3 .u8 a1,M3 .u8 a2,M3 .u8 a3,M3 .u8 co,M3 .u8 h0,M3 .u8 h1,M3 .u8 h2,M3 .u8 fr,M3 .u8 ha,M3 .u8 d0,M3 .u8 d1,M3 .u8 c0,M3 .u8 c1,M3 .u8 c2,M3 .u8 m0,M3 .u8 m1,M3 .u8 m2,M3 .u8 dr,M3 .u8 to]]=true/\∃i_7,Gv 8 [Lr [dI (6000:Int),No []],Lr [dI i,dI i_1,dI i_2,dI i_3,dI i_4,dI i_5,No es,dI i_6],aL [t0,t1,t2,t3,t4]] [aI i_7]/\bB (i_7 !=0) (Q [aB true]) (((0:Int)<=(5:Int)/\(5:Int)=(5:Int)/\room 5)/\((0:Int)<=(5:Int)/\(5:Int)<=(5:Int)/\room 5)/\((0:Int)<=(0:Int)/\(0:Int)<(5:Int))/\0<1/\((0:Int)<=(1:Int)/\(1:Int)<(5:Int))/\0<1/\((0:Int)<=(2:Int)/\(2:Int)<(5:Int))/\0<1/\((0:Int)<=(3:Int)/\(3:Int)<(5:Int))/\0<1/\((0:Int)<=(4:Int)/\(4:Int)<(5:Int))/\0<1/\∃e1,Gv 11 [aL [[No []],[No []],[No []],[No []],[No []]]] [aL e1]/\∃b,Gv 10 [aL e1,aB false] [aB b]/\chk12 [Lr [dI (6000:Int),No []],Lr [dI i,dI i_1,dI i_2,dI i_3,dI i_4,dI i_5,No es,dI i_6],Ls (No [t0,t1,t2,t3,t4])]=true/\bB (!!b) (bB (!!b) (Q [aB false]) (Q [aB false])) (Gv 13 [Ls (No [])] []/\∃es,Gv 14 [aL []] [aL es]/\∃e2 i i_8,Gv 15 [aL [[No []],[No []],[No []],[No []],[No []]],aL [[dI (1:Int)],[dI (1:Int)],[dI (1:Int)],[dI (1:Int)],[dI (1:Int)]]] [aL e2,aI i,aI i_8]/\∃e3 i_9,Gv 16 [aL [[No []],[No []],[No []],[No []],[No []]],aL [[dI (1:Int)],[dI (1:Int)],[dI (1:Int)],[dI (1:Int)],[dI (1:Int)]]] [aL e3,aI i_9]/\∃i_10 b,Gv 17 [aL [[No []],[No []],[No []],[No []],[No []]],aL [[dI (1:Int)],[dI (1:Int)],[dI (1:Int)],[dI (1:Int)],[dI (1:Int)]],aL e3] [aI i_10,aB b]/\bB (i_8==0) (bB (i_9==0) (br b (bB (decide (i_10<=i)) (bB (decide (i<=(W2 es.length))) (∃b,Gv 18 [aL [[No []],[No []],[No []],[No []],[No []]],aL es] [aB b]/\Q [aB b]) (Q [aB false])) (Q [aB false])) (Q [aB false])) (Q [aB false])) (Q [aB false]))))):=by kernel_rfl
end Eng
end
section
open Go Go.Proofs Eng
namespace Eng
theorem EL (Gv:Nat->List A->List A->Prop) (I0:List D->List D->Prop) (M0:List D->Nat) (I1:List D->List D->Prop) (M1:List D->Nat) (I2:List D->List D->Prop) (M2:List D->Nat) (chk5 chk7:List A->Bool) (k3:List (List D)->List A->Bool) (m3:List (List D)->List A->List (List D)) (k4:List (List D)->List A->Bool) (m4:List (List D)->List A->List (List D)) (f0:List D) (t0 t1 t2 t3 t4:List D) (a0 a1 a2 a3 co h0 h1 h2 fr ha d0 d1 c0 c1 c2 m0 m1 m2 dr to:Int) (Q:List A->Prop):Be (CN [(5,kV (CN []) 5 chk5 (λ_=>[.ag [.int .i64 6000,.sl [f0]]])),(7,kV (CN []) 7 chk7 (λ_=>[.c (.sl [t0,t1,t2,t3,t4])])),(13,Jc 1 k3 m3 (λ_ _=>[])),(14,Ja 1 k4 m4)]) Gv (Pn ⟨[.slot 44 (.int .i64 0)],[],I0,M0⟩ ⟨[.slot 53 (.int .i64 0)],[],I1,M1⟩ ⟨[.own 13 158 1,.slot 97 (.int .i64 0)],[],I2,M2⟩) (λn=>match n with|0=>6|1=>2|_=>0) Tryz.f3 [.ag (.int .u8 a0:: .int .u8 a1:: .int .u8 a2:: .int .u8 a3:: .int .u8 co:: .int .u8 h0:: .int .u8 h1:: .int .u8 h2:: .int .u8 fr:: .int .u8 ha:: .int .u8 d0:: .int .u8 d1:: .int .u8 c0:: .int .u8 c1:: .int .u8 c2:: .int .u8 m0:: .int .u8 m1:: .int .u8 m2:: .int .u8 dr:: .int .u8 to::[])] Q=(∃b,Gv 4 [] [aB b]/\bB (!b) (Q [aB false]) (chk5 [Lr [M3 .u8 a0,M3 .u8 a1,M3 .u8 a2,M3 .u8 a3,M3 .u8 co,M3 .u8 h0,M3 .u8 h1,M3 .u8 h2,M3 .u8 fr,M3 .u8 ha,M3 .u8 d0,M3 .u8 d1,M3 .u8 c0,M3 .u8 c1,M3 .u8 c2,M3 .u8 m0,M3 .u8 m1,M3 .u8 m2,M3 .u8 dr,M3 .u8 to]]=true/\∃i i_1 i_2 i_3 i_4 i_5 es i_6,Gv 6 [Lr [M3 .u8 a0,M3 .u8 a1,M3 .u8 a2,M3 .u8 a3,M3 .u8 co,M3 .u8 h0,M3 .u8 h1,M3 .u8 h2,M3 .u8 fr,M3 .u8 ha,M3 .u8 d0,M3 .u8 d1,M3 .u8 c0,M3 .u8 c1,M3 .u8 c2,M3 .u8 m0,M3 .u8 m1,M3 .u8 m2,M3 .u8 dr,M3 .u8 to]] [Lr [dI i,dI i_1,dI i_2,dI i_3,dI i_4,dI i_5,No es,dI i_6]]/\chk7 [Lr [M3 .u8 a0,M3 .u8 a1,M3 .u8 a2,M3 .u8 a3,M3 .u8 co,M3 .u8 h0,M3 .u8 h1,M3 .u8 h2,M3 .u8 fr,M3 .u8 ha,M3 .u8 d0,M3 .u8 d1,M3 .u8 c0,M3 .u8 c1,M3 .u8 c2,M3 .u8 m0,M3 .u8 m1,M3 .u8 m2,M3 .u8 dr,M3 .u8 to]]=true/\∃i_7,Gv 8 [Lr [dI (6000:Int),No [f0]],Lr [dI i,dI i_1,dI i_2,dI i_3,dI i_4,dI i_5,No es,dI i_6],aL [t0,t1,t2,t3,t4]] [aI i_7]/\bB (i_7 !=0) (Q [aB true]) (((0:Int)<=(5:Int)/\(5:Int)=(5:Int)/\room 5)/\((0:Int)<=(5:Int)/\(5:Int)<=(5:Int)/\room 5)/\((0:Int)<=(0:Int)/\(0:Int)<(5:Int))/\0<1/\((0:Int)<=(0:Int)/\(0:Int)<(5:Int))/\∃b,Gv 9 [Lr [dI (6000:Int),No [f0]],aL [t0,t1,t2,t3,t4],aI (0:Int),aI (0:Int)] [aB b]/\(room 1/\lens 1 [[Lv b]])/\((0:Int)<=(0:Int)/\(0:Int)<(5:Int))/\((0:Int)<=(1:Int)/\(1:Int)<(5:Int))/\0<1/\((0:Int)<=(1:Int)/\(1:Int)<(5:Int))/\∃b1,Gv 9 [Lr [dI (6000:Int),No [f0]],aL [t0,t1,t2,t3,t4],aI (0:Int),aI (1:Int)] [aB b1]/\(room 1/\lens 1 [[Lv b1]])/\((0:Int)<=(1:Int)/\(1:Int)<(5:Int))/\((0:Int)<=(2:Int)/\(2:Int)<(5:Int))/\0<1/\((0:Int)<=(2:Int)/\(2:Int)<(5:Int))/\∃b2,Gv 9 [Lr [dI (6000:Int),No [f0]],aL [t0,t1,t2,t3,t4],aI (0:Int),aI (2:Int)] [aB b2]/\(room 1/\lens 1 [[Lv b2]])/\((0:Int)<=(2:Int)/\(2:Int)<(5:Int))/\((0:Int)<=(3:Int)/\(3:Int)<(5:Int))/\0<1/\((0:Int)<=(3:Int)/\(3:Int)<(5:Int))/\∃b3,Gv 9 [Lr [dI (6000:Int),No [f0]],aL [t0,t1,t2,t3,t4],aI (0:Int),aI (3:Int)] [aB b3]/\(room 1/\lens 1 [[Lv b3]])/\((0:Int)<=(3:Int)/\(3:Int)<(5:Int))/\((0:Int)<=(4:Int)/\(4:Int)<(5:Int))/\0<1/\((0:Int)<=(4:Int)/\(4:Int)<(5:Int))/\∃b4,Gv 9 [Lr [dI (6000:Int),No [f0]],aL [t0,t1,t2,t3,t4],aI (0:Int),aI (4:Int)] [aB b4]/\(room 1/\lens 1 [[Lv b4]])/\((0:Int)<=(4:Int)/\(4:Int)<(5:Int))/\∃e1,Gv 11 [aL [[No [[Lv b]]],[No [[Lv b1]]],[No [[Lv b2]]],[No [[Lv b3]]],[No [[Lv b4]]]]] [aL e1]/\∃b5,Gv 10 [aL e1,aB false] [aB b5]/\∃e2 i_8,Gv 12 [Lr [dI (6000:Int),No [f0]],Lr [dI i,dI i_1,dI i_2,dI i_3,dI i_4,dI i_5,No es,dI i_6],aL [t0,t1,t2,t3,t4]] [aL e2,aI i_8]/\bB (!!b5) (bB (!!b5) (Q [aB (i_8==16)]) (Q [aB false])) (bB (i_8 !=0) (bB (!!b5) (Q [aB (i_8==16)]) (Q [aB false])) (I2 [] [No [],dI (0:Int)]/\∀(es:List (List D)) (i:Int),I2 [] [No es,dI i]->bB (decide (i<(W2 e2.length))) ((0<=i/\i<(W2 e2.length)/\bm (nth [] e2 (W0 i))=2)/\∃i_9 i_10,cut (nth [] e2 (W0 i)) 0 2 [dI i_9,dI i_10]/\(room (es.length+2)/\lens 1 [[dI i_9],[dI i_10]])/\I2 [] [No (es++[[dI i_9],[dI i_10]]),dI (P1 .i64 (i+1))]/\M2 [No (es++[[dI i_9],[dI i_10]]),dI (P1 .i64 (i+1))]<M2 [No es,dI i]) (k3 es []=true/\k4 (m3 es []) []=true/\∃e3 i i_9,Gv 15 [aL [[No [[Lv b]]],[No [[Lv b1]]],[No [[Lv b2]]],[No [[Lv b3]]],[No [[Lv b4]]]],aL [[dI (1:Int)],[dI (1:Int)],[dI (1:Int)],[dI (1:Int)],[dI (1:Int)]]] [aL e3,aI i,aI i_9]/\∃e4 i_10,Gv 16 [aL [[No [[Lv b]]],[No [[Lv b1]]],[No [[Lv b2]]],[No [[Lv b3]]],[No [[Lv b4]]]],aL [[dI (1:Int)],[dI (1:Int)],[dI (1:Int)],[dI (1:Int)],[dI (1:Int)]]] [aL e4,aI i_10]/\∃i_11 b6,Gv 17 [aL [[No [[Lv b]]],[No [[Lv b1]]],[No [[Lv b2]]],[No [[Lv b3]]],[No [[Lv b4]]]],aL [[dI (1:Int)],[dI (1:Int)],[dI (1:Int)],[dI (1:Int)],[dI (1:Int)]],aL e4] [aI i_11,aB b6]/\bB (i_9==0) (bB (i_10==0) (br b6 (bB (decide (i_11<=i)) (bB (decide (i<=(W2 (bm (m4 (m3 es []) []))))) (∃b7,Gv 18 [aL [[No [[Lv b]]],[No [[Lv b1]]],[No [[Lv b2]]],[No [[Lv b3]]],[No [[Lv b4]]]],aL (m4 (m3 es []) [])] [aB b7]/\Q [aB b7]) (Q [aB false])) (Q [aB false])) (Q [aB false])) (Q [aB false])) (Q [aB false]))))))):=by kernel_rfl
end Eng
end
section
open Go Go.Proofs Eng
namespace Eng
theorem EM (Gv:Nat->List A->List A->Prop) (I0:List D->List D->Prop) (M0:List D->Nat) (I1:List D->List D->Prop) (M1:List D->Nat) (I2:List D->List D->Prop) (M2:List D->Nat) (chk5 chk7:List A->Bool) (k3:List (List D)->List A->Bool) (m3:List (List D)->List A->List (List D)) (k4:List (List D)->List A->Bool) (m4:List (List D)->List A->List (List D)) (f0 f1:List D) (t0 t1 t2 t3 t4:List D) (a0 a1 a2 a3 co h0 h1 h2 fr ha d0 d1 c0 c1 c2 m0 m1 m2 dr to:Int) (Q:List A->Prop):Be (CN [(5,kV (CN []) 5 chk5 (λ_=>[.ag [.int .i64 6000,.sl [f0,f1]]])),(7,kV (CN []) 7 chk7 (λ_=>[.c (.sl [t0,t1,t2,t3,t4])])),(13,Jc 1 k3 m3 (λ_ _=>[])),(14,Ja 1 k4 m4)]) Gv (Pn ⟨[.slot 44 (.int .i64 0)],[],I0,M0⟩ ⟨[.slot 53 (.int .i64 0)],[],I1,M1⟩ ⟨[.own 13 158 1,.slot 97 (.int .i64 0)],[],I2,M2⟩) (λn=>match n with|0=>6|1=>3|_=>0) Tryz.f3 [.ag (.int .u8 a0:: .int .u8 a1:: .int .u8 a2:: .int .u8 a3:: .int .u8 co:: .int .u8 h0:: .int .u8 h1:: .int .u8 h2:: .int .u8 fr:: .int .u8 ha:: .int .u8 d0:: .int .u8 d1:: .int .u8 c0:: .int .u8 c1:: .int .u8 c2:: .int .u8 m0:: .int .u8 m1:: .int .u8 m2:: .int .u8 dr:: .int .u8 to::[])] Q=(∃b,Gv 4 [] [aB b]/\bB (!b) (Q [aB false]) (chk5 [Lr [M3 .u8 a0,M3 .u8 a1,M3 .u8 a2,M3 .u8 a3,M3 .u8 co,M3 .u8 h0,M3 .u8 h1,M3 .u8 h2,M3 .u8 fr,M3 .u8 ha,M3 .u8 d0,M3 .u8 d1,M3 .u8 c0,M3 .u8 c1,M3 .u8 c2,M3 .u8 m0,M3 .u8 m1,M3 .u8 m2,M3 .u8 dr,M3 .u8 to]]=true/\∃i i_1 i_2 i_3 i_4 i_5 es i_6,Gv 6 [Lr [M3 .u8 a0,M3 .u8 a1,M3 .u8 a2,M3 .u8 a3,M3 .u8 co,M3 .u8 h0,M3 .u8 h1,M3 .u8 h2,M3 .u8 fr,M3 .u8 ha,M3 .u8 d0,M3 .u8 d1,M3 .u8 c0,M3 .u8 c1,M3 .u8 c2,M3 .u8 m0,M3 .u8 m1,M3 .u8 m2,M3 .u8 dr,M3 .u8 to]] [Lr [dI i,dI i_1,dI i_2,dI i_3,dI i_4,dI i_5,No es,dI i_6]]/\chk7 [Lr [M3 .u8 a0,M3 .u8 a1,M3 .u8 a2,M3 .u8 a3,M3 .u8 co,M3 .u8 h0,M3 .u8 h1,M3 .u8 h2,M3 .u8 fr,M3 .u8 ha,M3 .u8 d0,M3 .u8 d1,M3 .u8 c0,M3 .u8 c1,M3 .u8 c2,M3 .u8 m0,M3 .u8 m1,M3 .u8 m2,M3 .u8 dr,M3 .u8 to]]=true/\∃i_7,Gv 8 [Lr [dI (6000:Int),No [f0,f1]],Lr [dI i,dI i_1,dI i_2,dI i_3,dI i_4,dI i_5,No es,dI i_6],aL [t0,t1,t2,t3,t4]] [aI i_7]/\bB (i_7 !=0) (Q [aB true]) (((0:Int)<=(5:Int)/\(5:Int)=(5:Int)/\room 5)/\((0:Int)<=(5:Int)/\(5:Int)<=(5:Int)/\room 5)/\((0:Int)<=(0:Int)/\(0:Int)<(5:Int))/\0<1/\((0:Int)<=(0:Int)/\(0:Int)<(5:Int))/\∃b,Gv 9 [Lr [dI (6000:Int),No [f0,f1]],aL [t0,t1,t2,t3,t4],aI (0:Int),aI (0:Int)] [aB b]/\(room 1/\lens 1 [[Lv b]])/\((0:Int)<=(0:Int)/\(0:Int)<(5:Int))/\((0:Int)<=(0:Int)/\(0:Int)<(5:Int))/\∃b1,Gv 9 [Lr [dI (6000:Int),No [f0,f1]],aL [t0,t1,t2,t3,t4],aI (1:Int),aI (0:Int)] [aB b1]/\(room 2/\lens 1 [[Lv b1]])/\((0:Int)<=(0:Int)/\(0:Int)<(5:Int))/\((0:Int)<=(1:Int)/\(1:Int)<(5:Int))/\0<1/\((0:Int)<=(1:Int)/\(1:Int)<(5:Int))/\∃b2,Gv 9 [Lr [dI (6000:Int),No [f0,f1]],aL [t0,t1,t2,t3,t4],aI (0:Int),aI (1:Int)] [aB b2]/\(room 1/\lens 1 [[Lv b2]])/\((0:Int)<=(1:Int)/\(1:Int)<(5:Int))/\((0:Int)<=(1:Int)/\(1:Int)<(5:Int))/\∃b3,Gv 9 [Lr [dI (6000:Int),No [f0,f1]],aL [t0,t1,t2,t3,t4],aI (1:Int),aI (1:Int)] [aB b3]/\(room 2/\lens 1 [[Lv b3]])/\((0:Int)<=(1:Int)/\(1:Int)<(5:Int))/\((0:Int)<=(2:Int)/\(2:Int)<(5:Int))/\0<1/\((0:Int)<=(2:Int)/\(2:Int)<(5:Int))/\∃b4,Gv 9 [Lr [dI (6000:Int),No [f0,f1]],aL [t0,t1,t2,t3,t4],aI (0:Int),aI (2:Int)] [aB b4]/\(room 1/\lens 1 [[Lv b4]])/\((0:Int)<=(2:Int)/\(2:Int)<(5:Int))/\((0:Int)<=(2:Int)/\(2:Int)<(5:Int))/\∃b5,Gv 9 [Lr [dI (6000:Int),No [f0,f1]],aL [t0,t1,t2,t3,t4],aI (1:Int),aI (2:Int)] [aB b5]/\(room 2/\lens 1 [[Lv b5]])/\((0:Int)<=(2:Int)/\(2:Int)<(5:Int))/\((0:Int)<=(3:Int)/\(3:Int)<(5:Int))/\0<1/\((0:Int)<=(3:Int)/\(3:Int)<(5:Int))/\∃b6,Gv 9 [Lr [dI (6000:Int),No [f0,f1]],aL [t0,t1,t2,t3,t4],aI (0:Int),aI (3:Int)] [aB b6]/\(room 1/\lens 1 [[Lv b6]])/\((0:Int)<=(3:Int)/\(3:Int)<(5:Int))/\((0:Int)<=(3:Int)/\(3:Int)<(5:Int))/\∃b7,Gv 9 [Lr [dI (6000:Int),No [f0,f1]],aL [t0,t1,t2,t3,t4],aI (1:Int),aI (3:Int)] [aB b7]/\(room 2/\lens 1 [[Lv b7]])/\((0:Int)<=(3:Int)/\(3:Int)<(5:Int))/\((0:Int)<=(4:Int)/\(4:Int)<(5:Int))/\0<1/\((0:Int)<=(4:Int)/\(4:Int)<(5:Int))/\∃b8,Gv 9 [Lr [dI (6000:Int),No [f0,f1]],aL [t0,t1,t2,t3,t4],aI (0:Int),aI (4:Int)] [aB b8]/\(room 1/\lens 1 [[Lv b8]])/\((0:Int)<=(4:Int)/\(4:Int)<(5:Int))/\((0:Int)<=(4:Int)/\(4:Int)<(5:Int))/\∃b9,Gv 9 [Lr [dI (6000:Int),No [f0,f1]],aL [t0,t1,t2,t3,t4],aI (1:Int),aI (4:Int)] [aB b9]/\(room 2/\lens 1 [[Lv b9]])/\((0:Int)<=(4:Int)/\(4:Int)<(5:Int))/\∃e1,Gv 11 [aL [[No [[Lv b],[Lv b1]]],[No [[Lv b2],[Lv b3]]],[No [[Lv b4],[Lv b5]]],[No [[Lv b6],[Lv b7]]],[No [[Lv b8],[Lv b9]]]]] [aL e1]/\∃b10,Gv 10 [aL e1,aB false] [aB b10]/\∃e2 i_8,Gv 12 [Lr [dI (6000:Int),No [f0,f1]],Lr [dI i,dI i_1,dI i_2,dI i_3,dI i_4,dI i_5,No es,dI i_6],aL [t0,t1,t2,t3,t4]] [aL e2,aI i_8]/\bB (!!b10) (bB (!!b10) (Q [aB (i_8==16)]) (Q [aB false])) (bB (i_8 !=0) (bB (!!b10) (Q [aB (i_8==16)]) (Q [aB false])) (I2 [] [No [],dI (0:Int)]/\∀(es:List (List D)) (i:Int),I2 [] [No es,dI i]->bB (decide (i<(W2 e2.length))) ((0<=i/\i<(W2 e2.length)/\bm (nth [] e2 (W0 i))=2)/\∃i_9 i_10,cut (nth [] e2 (W0 i)) 0 2 [dI i_9,dI i_10]/\(Xd false (es.length+2)/\lens 1 [[dI i_9],[dI i_10]])/\I2 [] [No (es++[[dI i_9],[dI i_10]]),dI (P1 .i64 (i+1))]/\M2 [No (es++[[dI i_9],[dI i_10]]),dI (P1 .i64 (i+1))]<M2 [No es,dI i]) (k3 es []=true/\k4 (m3 es []) []=true/\∃e3 i i_9,Gv 15 [aL [[No [[Lv b],[Lv b1]]],[No [[Lv b2],[Lv b3]]],[No [[Lv b4],[Lv b5]]],[No [[Lv b6],[Lv b7]]],[No [[Lv b8],[Lv b9]]]],aL [[dI (1:Int)],[dI (1:Int)],[dI (1:Int)],[dI (1:Int)],[dI (1:Int)]]] [aL e3,aI i,aI i_9]/\∃e4 i_10,Gv 16 [aL [[No [[Lv b],[Lv b1]]],[No [[Lv b2],[Lv b3]]],[No [[Lv b4],[Lv b5]]],[No [[Lv b6],[Lv b7]]],[No [[Lv b8],[Lv b9]]]],aL [[dI (1:Int)],[dI (1:Int)],[dI (1:Int)],[dI (1:Int)],[dI (1:Int)]]] [aL e4,aI i_10]/\∃i_11 b11,Gv 17 [aL [[No [[Lv b],[Lv b1]]],[No [[Lv b2],[Lv b3]]],[No [[Lv b4],[Lv b5]]],[No [[Lv b6],[Lv b7]]],[No [[Lv b8],[Lv b9]]]],aL [[dI (1:Int)],[dI (1:Int)],[dI (1:Int)],[dI (1:Int)],[dI (1:Int)]],aL e4] [aI i_11,aB b11]/\bB (i_9==0) (bB (i_10==0) (br b11 (bB (decide (i_11<=i)) (bB (decide (i<=(W2 (bm (m4 (m3 es []) []))))) (∃b12,Gv 18 [aL [[No [[Lv b],[Lv b1]]],[No [[Lv b2],[Lv b3]]],[No [[Lv b4],[Lv b5]]],[No [[Lv b6],[Lv b7]]],[No [[Lv b8],[Lv b9]]]],aL (m4 (m3 es []) [])] [aB b12]/\Q [aB b12]) (Q [aB false])) (Q [aB false])) (Q [aB false])) (Q [aB false])) (Q [aB false]))))))):=by kernel_rfl
end Eng
end
section
open Go Go.Proofs Eng
namespace Eng
theorem EN (Gv:Nat->List A->List A->Prop) (I0:List D->List D->Prop) (M0:List D->Nat) (I1:List D->List D->Prop) (M1:List D->Nat) (I2:List D->List D->Prop) (M2:List D->Nat) (chk5 chk7:List A->Bool) (k3:List (List D)->List A->Bool) (m3:List (List D)->List A->List (List D)) (k4:List (List D)->List A->Bool) (m4:List (List D)->List A->List (List D)) (f0 f1 f2:List D) (t0 t1 t2 t3 t4:List D) (a0 a1 a2 a3 co h0 h1 h2 fr ha d0 d1 c0 c1 c2 m0 m1 m2 dr to:Int) (Q:List A->Prop):Be (CN [(5,kV (CN []) 5 chk5 (λ_=>[.ag [.int .i64 6000,.sl [f0,f1,f2]]])),(7,kV (CN []) 7 chk7 (λ_=>[.c (.sl [t0,t1,t2,t3,t4])])),(13,Jc 1 k3 m3 (λ_ _=>[])),(14,Ja 1 k4 m4)]) Gv (Pn ⟨[.slot 44 (.int .i64 0)],[],I0,M0⟩ ⟨[.slot 53 (.int .i64 0)],[],I1,M1⟩ ⟨[.own 13 158 1,.slot 97 (.int .i64 0)],[],I2,M2⟩) (λn=>match n with|0=>6|1=>4|_=>0) Tryz.f3 [.ag (.int .u8 a0:: .int .u8 a1:: .int .u8 a2:: .int .u8 a3:: .int .u8 co:: .int .u8 h0:: .int .u8 h1:: .int .u8 h2:: .int .u8 fr:: .int .u8 ha:: .int .u8 d0:: .int .u8 d1:: .int .u8 c0:: .int .u8 c1:: .int .u8 c2:: .int .u8 m0:: .int .u8 m1:: .int .u8 m2:: .int .u8 dr:: .int .u8 to::[])] Q=(∃b,Gv 4 [] [aB b]/\bB (!b) (Q [aB false]) (chk5 [Lr [M3 .u8 a0,M3 .u8 a1,M3 .u8 a2,M3 .u8 a3,M3 .u8 co,M3 .u8 h0,M3 .u8 h1,M3 .u8 h2,M3 .u8 fr,M3 .u8 ha,M3 .u8 d0,M3 .u8 d1,M3 .u8 c0,M3 .u8 c1,M3 .u8 c2,M3 .u8 m0,M3 .u8 m1,M3 .u8 m2,M3 .u8 dr,M3 .u8 to]]=true/\∃i i_1 i_2 i_3 i_4 i_5 es i_6,Gv 6 [Lr [M3 .u8 a0,M3 .u8 a1,M3 .u8 a2,M3 .u8 a3,M3 .u8 co,M3 .u8 h0,M3 .u8 h1,M3 .u8 h2,M3 .u8 fr,M3 .u8 ha,M3 .u8 d0,M3 .u8 d1,M3 .u8 c0,M3 .u8 c1,M3 .u8 c2,M3 .u8 m0,M3 .u8 m1,M3 .u8 m2,M3 .u8 dr,M3 .u8 to]] [Lr [dI i,dI i_1,dI i_2,dI i_3,dI i_4,dI i_5,No es,dI i_6]]/\chk7 [Lr [M3 .u8 a0,M3 .u8 a1,M3 .u8 a2,M3 .u8 a3,M3 .u8 co,M3 .u8 h0,M3 .u8 h1,M3 .u8 h2,M3 .u8 fr,M3 .u8 ha,M3 .u8 d0,M3 .u8 d1,M3 .u8 c0,M3 .u8 c1,M3 .u8 c2,M3 .u8 m0,M3 .u8 m1,M3 .u8 m2,M3 .u8 dr,M3 .u8 to]]=true/\∃i_7,Gv 8 [Lr [dI (6000:Int),No [f0,f1,f2]],Lr [dI i,dI i_1,dI i_2,dI i_3,dI i_4,dI i_5,No es,dI i_6],aL [t0,t1,t2,t3,t4]] [aI i_7]/\bB (i_7 !=0) (Q [aB true]) (((0:Int)<=(5:Int)/\(5:Int)=(5:Int)/\room 5)/\((0:Int)<=(5:Int)/\(5:Int)<=(5:Int)/\room 5)/\((0:Int)<=(0:Int)/\(0:Int)<(5:Int))/\0<1/\((0:Int)<=(0:Int)/\(0:Int)<(5:Int))/\∃b,Gv 9 [Lr [dI (6000:Int),No [f0,f1,f2]],aL [t0,t1,t2,t3,t4],aI (0:Int),aI (0:Int)] [aB b]/\(room 1/\lens 1 [[Lv b]])/\((0:Int)<=(0:Int)/\(0:Int)<(5:Int))/\((0:Int)<=(0:Int)/\(0:Int)<(5:Int))/\∃b1,Gv 9 [Lr [dI (6000:Int),No [f0,f1,f2]],aL [t0,t1,t2,t3,t4],aI (1:Int),aI (0:Int)] [aB b1]/\(room 2/\lens 1 [[Lv b1]])/\((0:Int)<=(0:Int)/\(0:Int)<(5:Int))/\((0:Int)<=(0:Int)/\(0:Int)<(5:Int))/\∃b2,Gv 9 [Lr [dI (6000:Int),No [f0,f1,f2]],aL [t0,t1,t2,t3,t4],aI (2:Int),aI (0:Int)] [aB b2]/\(room 3/\lens 1 [[Lv b2]])/\((0:Int)<=(0:Int)/\(0:Int)<(5:Int))/\((0:Int)<=(1:Int)/\(1:Int)<(5:Int))/\0<1/\((0:Int)<=(1:Int)/\(1:Int)<(5:Int))/\∃b3,Gv 9 [Lr [dI (6000:Int),No [f0,f1,f2]],aL [t0,t1,t2,t3,t4],aI (0:Int),aI (1:Int)] [aB b3]/\(room 1/\lens 1 [[Lv b3]])/\((0:Int)<=(1:Int)/\(1:Int)<(5:Int))/\((0:Int)<=(1:Int)/\(1:Int)<(5:Int))/\∃b4,Gv 9 [Lr [dI (6000:Int),No [f0,f1,f2]],aL [t0,t1,t2,t3,t4],aI (1:Int),aI (1:Int)] [aB b4]/\(room 2/\lens 1 [[Lv b4]])/\((0:Int)<=(1:Int)/\(1:Int)<(5:Int))/\((0:Int)<=(1:Int)/\(1:Int)<(5:Int))/\∃b5,Gv 9 [Lr [dI (6000:Int),No [f0,f1,f2]],aL [t0,t1,t2,t3,t4],aI (2:Int),aI (1:Int)] [aB b5]/\(room 3/\lens 1 [[Lv b5]])/\((0:Int)<=(1:Int)/\(1:Int)<(5:Int))/\((0:Int)<=(2:Int)/\(2:Int)<(5:Int))/\0<1/\((0:Int)<=(2:Int)/\(2:Int)<(5:Int))/\∃b6,Gv 9 [Lr [dI (6000:Int),No [f0,f1,f2]],aL [t0,t1,t2,t3,t4],aI (0:Int),aI (2:Int)] [aB b6]/\(room 1/\lens 1 [[Lv b6]])/\((0:Int)<=(2:Int)/\(2:Int)<(5:Int))/\((0:Int)<=(2:Int)/\(2:Int)<(5:Int))/\∃b7,Gv 9 [Lr [dI (6000:Int),No [f0,f1,f2]],aL [t0,t1,t2,t3,t4],aI (1:Int),aI (2:Int)] [aB b7]/\(room 2/\lens 1 [[Lv b7]])/\((0:Int)<=(2:Int)/\(2:Int)<(5:Int))/\((0:Int)<=(2:Int)/\(2:Int)<(5:Int))/\∃b8,Gv 9 [Lr [dI (6000:Int),No [f0,f1,f2]],aL [t0,t1,t2,t3,t4],aI (2:Int),aI (2:Int)] [aB b8]/\(room 3/\lens 1 [[Lv b8]])/\((0:Int)<=(2:Int)/\(2:Int)<(5:Int))/\((0:Int)<=(3:Int)/\(3:Int)<(5:Int))/\0<1/\((0:Int)<=(3:Int)/\(3:Int)<(5:Int))/\∃b9,Gv 9 [Lr [dI (6000:Int),No [f0,f1,f2]],aL [t0,t1,t2,t3,t4],aI (0:Int),aI (3:Int)] [aB b9]/\(room 1/\lens 1 [[Lv b9]])/\((0:Int)<=(3:Int)/\(3:Int)<(5:Int))/\((0:Int)<=(3:Int)/\(3:Int)<(5:Int))/\∃b10,Gv 9 [Lr [dI (6000:Int),No [f0,f1,f2]],aL [t0,t1,t2,t3,t4],aI (1:Int),aI (3:Int)] [aB b10]/\(room 2/\lens 1 [[Lv b10]])/\((0:Int)<=(3:Int)/\(3:Int)<(5:Int))/\((0:Int)<=(3:Int)/\(3:Int)<(5:Int))/\∃b11,Gv 9 [Lr [dI (6000:Int),No [f0,f1,f2]],aL [t0,t1,t2,t3,t4],aI (2:Int),aI (3:Int)] [aB b11]/\(Xd false 3/\lens 1 [[Lv b11]])/\((0:Int)<=(3:Int)/\(3:Int)<(5:Int))/\((0:Int)<=(4:Int)/\(4:Int)<(5:Int))/\0<1/\((0:Int)<=(4:Int)/\(4:Int)<(5:Int))/\∃b12,Gv 9 [Lr [dI (6000:Int),No [f0,f1,f2]],aL [t0,t1,t2,t3,t4],aI (0:Int),aI (4:Int)] [aB b12]/\(Xd false 1/\lens 1 [[Lv b12]])/\((0:Int)<=(4:Int)/\(4:Int)<(5:Int))/\((0:Int)<=(4:Int)/\(4:Int)<(5:Int))/\∃b13,Gv 9 [Lr [dI (6000:Int),No [f0,f1,f2]],aL [t0,t1,t2,t3,t4],aI (1:Int),aI (4:Int)] [aB b13]/\(Xd false 2/\lens 1 [[Lv b13]])/\((0:Int)<=(4:Int)/\(4:Int)<(5:Int))/\((0:Int)<=(4:Int)/\(4:Int)<(5:Int))/\∃b14,Gv 9 [Lr [dI (6000:Int),No [f0,f1,f2]],aL [t0,t1,t2,t3,t4],aI (2:Int),aI (4:Int)] [aB b14]/\(Xd false 3/\lens 1 [[Lv b14]])/\((0:Int)<=(4:Int)/\(4:Int)<(5:Int))/\∃e1,Gv 11 [aL [[No [[Lv b],[Lv b1],[Lv b2]]],[No [[Lv b3],[Lv b4],[Lv b5]]],[No [[Lv b6],[Lv b7],[Lv b8]]],[No [[Lv b9],[Lv b10],[Lv b11]]],[No [[Lv b12],[Lv b13],[Lv b14]]]]] [aL e1]/\∃b15,Gv 10 [aL e1,aB false] [aB b15]/\∃e2 i_8,Gv 12 [Lr [dI (6000:Int),No [f0,f1,f2]],Lr [dI i,dI i_1,dI i_2,dI i_3,dI i_4,dI i_5,No es,dI i_6],aL [t0,t1,t2,t3,t4]] [aL e2,aI i_8]/\bB (!!b15) (bB (!!b15) (Q [aB (i_8==16)]) (Q [aB false])) (bB (i_8 !=0) (bB (!!b15) (Q [aB (i_8==16)]) (Q [aB false])) (I2 [] [No [],dI (0:Int)]/\∀(es:List (List D)) (i:Int),I2 [] [No es,dI i]->bB (decide (i<(W2 e2.length))) ((0<=i/\i<(W2 e2.length)/\bm (nth [] e2 (W0 i))=2)/\∃i_9 i_10,cut (nth [] e2 (W0 i)) 0 2 [dI i_9,dI i_10]/\(Xd false (es.length+2)/\lens 1 [[dI i_9],[dI i_10]])/\I2 [] [No (es++[[dI i_9],[dI i_10]]),dI (P1 .i64 (i+1))]/\M2 [No (es++[[dI i_9],[dI i_10]]),dI (P1 .i64 (i+1))]<M2 [No es,dI i]) (k3 es []=true/\k4 (m3 es []) []=true/\∃e3 i i_9,Gv 15 [aL [[No [[Lv b],[Lv b1],[Lv b2]]],[No [[Lv b3],[Lv b4],[Lv b5]]],[No [[Lv b6],[Lv b7],[Lv b8]]],[No [[Lv b9],[Lv b10],[Lv b11]]],[No [[Lv b12],[Lv b13],[Lv b14]]]],aL [[dI (1:Int)],[dI (1:Int)],[dI (1:Int)],[dI (1:Int)],[dI (1:Int)]]] [aL e3,aI i,aI i_9]/\∃e4 i_10,Gv 16 [aL [[No [[Lv b],[Lv b1],[Lv b2]]],[No [[Lv b3],[Lv b4],[Lv b5]]],[No [[Lv b6],[Lv b7],[Lv b8]]],[No [[Lv b9],[Lv b10],[Lv b11]]],[No [[Lv b12],[Lv b13],[Lv b14]]]],aL [[dI (1:Int)],[dI (1:Int)],[dI (1:Int)],[dI (1:Int)],[dI (1:Int)]]] [aL e4,aI i_10]/\∃i_11 b16,Gv 17 [aL [[No [[Lv b],[Lv b1],[Lv b2]]],[No [[Lv b3],[Lv b4],[Lv b5]]],[No [[Lv b6],[Lv b7],[Lv b8]]],[No [[Lv b9],[Lv b10],[Lv b11]]],[No [[Lv b12],[Lv b13],[Lv b14]]]],aL [[dI (1:Int)],[dI (1:Int)],[dI (1:Int)],[dI (1:Int)],[dI (1:Int)]],aL e4] [aI i_11,aB b16]/\bB (i_9==0) (bB (i_10==0) (br b16 (bB (decide (i_11<=i)) (bB (decide (i<=(W2 (bm (m4 (m3 es []) []))))) (∃b17,Gv 18 [aL [[No [[Lv b],[Lv b1],[Lv b2]]],[No [[Lv b3],[Lv b4],[Lv b5]]],[No [[Lv b6],[Lv b7],[Lv b8]]],[No [[Lv b9],[Lv b10],[Lv b11]]],[No [[Lv b12],[Lv b13],[Lv b14]]]],aL (m4 (m3 es []) [])] [aB b17]/\Q [aB b17]) (Q [aB false])) (Q [aB false])) (Q [aB false])) (Q [aB false])) (Q [aB false]))))))):=by kernel_rfl
end Eng
end
section
namespace Eng
open Go Go.Proofs
theorem H7 {n:Nat} {T:List (List Bool)} (hT:∀r∈T,r.length=n) {i:Nat}:∀{k:Nat},k<=T.length->(wi n T k).getD i false=true->∃t<k,vK T t i=true
 |0,_,h=>by unfold wi at h;rw[List.getD_eq_getElem?_getD,List.getElem?_replicate]at h;split at h<;>cases h
 |k+1,hk,h=>by
  have hg:=j8 hT (k:=k) (by omega);have la:=jp hT k (by omega);unfold wi at h;rw[Qq (by omega),I3]at h;rcases h with h|h
  .obtain⟨t,ht,h⟩:=H7 hT (by omega) h;exact⟨t,by omega,h⟩
  .exact⟨k,by omega,h⟩
noncomputable def chE (al:List A) (a:List A):Bool:= @decide (a=al) (J4 _)
theorem NM {al a:List A} (h:chE al a=true):a=al:= @of_decide_eq_true _ (J4 _) h
theorem We (al:List A):chE al al=true:= @decide_eq_true _ (J4 _) rfl
noncomputable def chK (l:List Int) (es:List (List D)) (al:List A):Bool:= @decide (es=iR l/\al=[]) (J4 _)
theorem aX {l:List Int} {es:List (List D)} {al:List A} (h:chK l es al=true):es=iR l/\al=[]:= @of_decide_eq_true _ (J4 _) h
theorem aY (l:List Int):chK l (iR l) []=true:= @decide_eq_true _ (J4 _) ⟨rfl,rfl⟩
theorem xA {n:Nat} (h:n<=1000000):room n:=by unfold room;omega
theorem ln1 (b:Bool):lens 1 [[Lv b]]:=by intro x hx;simp at hx;subst hx;rfl
section
variable [Env]
theorem upNI {ex:List (Nat×k9)} {f s:Nat} {es es':List (List D)} {post res:List A} (h:QU CC f s es post res es'):QU (CN ex) f s es post res es':=λw F vs2 g c0 cs0 t0 hb _ h2 hl=>h w F vs2 g c0 cs0 t0 hb (λ_ _ hg=>by cases hg) h2 hl
theorem upNC {ex:List (Nat×k9)} {f s:Nat} {pre post:List A} {lent:Option (Nat×List (List D))} {es:List (List D)} (h:wq CC f pre lent post s es):wq (CN ex) f pre lent post s es:=λw F vs1 vs2 g c0 cs0 t0 hb _ h1 h2 hl=>h w F vs1 vs2 g c0 cs0 t0 hb (λ_ _ hg=>by cases hg) h1 h2 hl
structure ChsF (T:List (List Bool)) (ok:Bool) (nm:List (List D)):Prop where
 cov:∃l:List Bool,Gives CC 11 [.c (.sl (tR T))] [.c (.sl (bR l))]/\Gives CC 10 [.c (.sl (bR l)),.c (.bool false)] [.c (.bool (!ok))]
 rest:ok=true->∃(b r:List (List D)) (Km low:Int),Gives CC 15 [.c (.sl (tR T)),.c (.sl (y6 5))] [.c (.sl b),.c (.int .i64 Km),.c (.int .i64 0)]/\Gives CC 16 [.c (.sl (tR T)),.c (.sl (y6 5))] [.c (.sl r),.c (.int .i64 0)]/\
  Gives CC 17 [.c (.sl (tR T)),.c (.sl (y6 5)),.c (.sl r)] [.c (.int .i64 low),.c (.bool true)]/\low<=Km/\Km<=(nm.length:Int)/\Gives CC 18 [.c (.sl (tR T)),.c (.sl nm)] [.c (.bool true)]
theorem EO {gs:List GF} {ts:List TL} (h5:ts.length=5) (hto:∀t∈ts,t.Ok) (hk:∀g∈gs,g.k=1\/g.k=3\/g.k=4) (h0:0<gs.length) (h3:gs.length<=3):ChsF (xz gs ts) (YK ts gs) (nR (nmd (BJ ts gs))):=by
 have hT:=JK (gs:=gs) (ts:=ts);have lT:(xz gs ts).length=5:=by rw[JJ,h5]
 have a0:xz gs ts≠[]:=λe=>by rw[e]at lT;cases lT
 obtain⟨p1,p2⟩:=ND h5 hto hk;have lc:=jp hT (xz gs ts).length (ft _);have a1:∀i<gs.length,(wi gs.length (xz gs ts) (xz gs ts).length).getD i false=true↔∃t<5,vK (xz gs ts) t i=true:=λi hi=>⟨λh=>(H7 hT (ft _) h).imp λt ⟨a,b⟩=>⟨by omega,b⟩,λ⟨t,ht,h⟩=>Nc hT h _ (ft _) (by omega)⟩
 have a2:(wi gs.length (xz gs ts) (xz gs ts).length).contains false=!YK ts gs:=by
  cases hc:YK ts gs with
  |true=>rw[Bool.not_true,Hy];intro h;obtain⟨i,hi,h⟩:=bv.1 (bw.1 h);have:=(a1 i (by omega)).2 (p1.1 hc i (by omega));rw[xh hi,h]at this;cases this
  |false=>
   rw[Bool.not_false];refine Lm λhn=>?_
   have:YK ts gs=true:=p1.2 λi hi=>(a1 i hi).1 (by
    have a3:i<(wi gs.length (xz gs ts) (xz gs ts).length).length:=by omega
    rw[xh a3];cases e:(wi gs.length (xz gs ts) (xz gs ts).length)[i]with
    |true=>rfl
    |false=>exact absurd (bw.2 (e▸bd a3)) hn)
   rw[this]at hc;cases hc
 refine⟨⟨_,MN hT h0 (by omega) a0 (by omega),?_⟩,λhc=>?_⟩
 .rw[<-a2];exact ZB false (by omega)
 .obtain⟨q1,q2,q3⟩:=p2 hc;have ri:=vg (xz gs ts) gs.length gs.length (ft _);have gb:=En hT h0 h3 a0 (by omega);have gr:=R9 hT h0 (by omega) a0 (by omega);have gp:=MX hT h0 (by omega) a0 (by omega) ri.l2 ri.fair (λi hi=> .inr ((a1 i hi).2 (p1.1 hc i hi))) (λr hr=>by
   obtain⟨t,ht,rfl⟩:=bv.1 hr;have:=ri.bal t ht;rw[xh ht]at this;omega)
  have gc:=MW hT h0 (by omega) a0 (by omega) (ts:=nmd (BJ ts gs)) (λt ht=>by have:=Nf ht;omega) (by
   have:(nmd (BJ ts gs)).length<=5:=List.length_filter_le _ _;omega)
  rw[lT]at gb gr gp;rw[q1]at gc;refine⟨_,_,_,_,gb,gr,gp,q2,?_,gc⟩;show _<=((iR _).length:Int);rw[kB,cv];exact q3
theorem chsF_0:ChsF [[],[],[],[],[]] true []:=by
 have a0:∀{f:Nat} {al rs:List A},y5 U2 CC 1000 40 f al=some rs->Gives CC f al rs:=λh=>z2 (C:=CC) (tab:=U2) (lim:=1000) mixedT (λf al rs h=>yw f al rs h) 40 _ _ _ h
 have c1:Gives CC 11 [.c (.sl (tR [[],[],[],[],[]]))] [.c (.sl (bR []))]:=a0 (by kernel_rfl);have hb:=B8 (n:=0) (T:=[[],[],[],[],[]]) (by simp) (by omega) (by simp) c1;have e:zw 0 [[],[],[],[],[]] 5 32=([],0):=by kernel_rfl
 simp only[e6,eL,fy,Nat.reduceAdd,Nat.reducePow,e]at hb;exact⟨⟨[],c1,a0 (by kernel_rfl)⟩,λ_=>⟨[],[],0,0,hb,a0 (by kernel_rfl),a0 (by kernel_rfl),by omega,by simp,a0 (by kernel_rfl)⟩⟩
end
theorem NN {ts:List TL} {gs:List GF} {k:Nat} (h:k<gs.length):wE ts (gs.take (k+1))=wE ts (gs.take k)++[(chA ts gs[k]).1,(chA ts gs[k]).2]:=by
 induction gs generalizing k with
 |nil=>simp at h
 |cons g gs ih=>
  cases k with
  |zero=>rfl
  |succ k=>have:=ih (k:=k) (by simpa using h);show _::_::wE ts (gs.take (k+1))=_::_::(wE ts (gs.take k)++_);rw[this];rfl
theorem Qt (ts:List TL):∀gs:List GF,(wE ts gs).length=2*gs.length
 |[]=>rfl
 |_::gs=>by simp only[wE,e6,Qt ts gs];omega
theorem bf (a b:List Int):iR a++iR b=iR (a++b):=by simp[iR]
section
variable [Env]
noncomputable abbrev exL (x:List D) (fs:List (List D)) (t0 t1 t2 t3 t4:List D) (l:List Int):List (Nat×k9):=
 [(5,kV (CN []) 5 (chE [.ag x]) (λ_=>[.ag [.int .i64 6000,.sl fs]])),(7,kV (CN []) 7 (chE [.ag x]) (λ_=>[.c (.sl [t0,t1,t2,t3,t4])])),(13,Jc 1 (chK l) (λ_ _=>iR (jU l)) (λ_ _=>[])),(14,Ja 1 (chK (jU l)) (λ_ _=>iR (YM (jU l))))]
theorem NO {x:List D} {fs:List (List D)} {t0 t1 t2 t3 t4:List D} {l:List Int} (hl:l≠[]) (hn:l.length<=1000) (h5:Gives (CN []) 5 [.ag x] [.ag [.int .i64 6000,.sl fs]]) (h7:Gives (CN []) 7 [.ag x] [.c (.sl [t0,t1,t2,t3,t4])]):EffOk (CN (exL x fs t0 t1 t2 t3 t4 l)):=by
 have ls:=V2 l;have hs:jU l≠[]:=λe=>hl (List.length_eq_zero_iff.1 (by rw[<-ls,e];rfl))
 have ne:∀m:List Int,m≠[]->iR m≠[]:=λm h e=>h (ep.1 e)
 have hc:YM (jU l)≠[]:=λe=>by
  cases hsl:jU l with
  |nil=>exact hs hsl
  |cons a r=>have:=(H4 (x:=a) (l:=jU l)).2 (by rw[hsl];exact cL);rw[e]at this;cases this
 refine qV (YF ⟨vz λal h=>?_,vz λal h=>?_,Kw Tryz.func13 (by simp[Tryz.f13]) (by decide) λes al h=>?_,Kv Tryz.func14 (by simp[Tryz.f14]) (by decide) λes al h=>?_,trivial⟩)
 .rw[NM h];exact qL (C:=CN []) rfl rfl h5
 .rw[NM h];exact qL (C:=CN []) rfl rfl h7
 .obtain⟨rfl,rfl⟩:=aX h;exact⟨ne _ hl,upNI (EH l)⟩
 .obtain⟨rfl,rfl⟩:=aX h;exact⟨ne _ hs,ne _ hc,upNC (NI hs (by omega))⟩
theorem Sa:Gives CC 14 [.c (.sl [])] [.c (.sl [])]:=z2 (C:=CC) (tab:=U2) (lim:=1000) mixedT (λf al rs h=>yw f al rs h) 40 _ _ _ (by kernel_rfl)
noncomputable abbrev ex0 (x t0 t1 t2 t3 t4:List D) (al:List A):List (Nat×k9):=
 [(5,kV (CN []) 5 (chE [.ag x]) (λ_=>[.ag [.int .i64 6000,.sl []]])),(7,kV (CN []) 7 (chE [.ag x]) (λ_=>[.c (.sl [t0,t1,t2,t3,t4])])),(12,kV (CN []) 12 (chE al) (λ_=>[.c (.sl []),.c (.int .i64 0)]))]
theorem bi {x t0 t1 t2 t3 t4:List D} {al:List A} (h5:Gives (CN []) 5 [.ag x] [.ag [.int .i64 6000,.sl []]]) (h7:Gives (CN []) 7 [.ag x] [.c (.sl [t0,t1,t2,t3,t4])]) (h12:Gives (CN []) 12 al [.c (.sl []),.c (.int .i64 0)]):EffOk (CN (ex0 x t0 t1 t2 t3 t4 al)):=by
 refine qV (YF ⟨vz λal h=>?_,vz λal h=>?_,vz λal h=>?_,trivial⟩)
 .rw[NM h];exact qL (C:=CN []) rfl rfl h5
 .rw[NM h];exact qL (C:=CN []) rfl rfl h7
 .rw[NM h];exact qL (C:=CN []) rfl rfl h12
structure ShOk (x:List D) (gs:List GF) (t0 t1 t2 t3 t4:TL) (cs:List CLp):Prop where
 p:PlOk gs [t0,t1,t2,t3,t4] cs
 s:∀t∈[t0,t1,t2,t3,t4],BG t.s
 f4:Gives (CN []) 4 [] [.c (.bool true)]
 f5:Gives (CN []) 5 [.ag x] [.ag [.int .i64 6000,.sl (wu (gsF gs))]]
 f6:Gives (CN []) 6 [.ag x] [Jg cs]
 f7:Gives (CN []) 7 [.ag x] [.c (.sl (mgD [t0,t1,t2,t3,t4]))]
def A0 (ts:List TL) (gs:List GF) (_ ds:List D):Prop:=∃k:Nat,k<=gs.length/\ds=[.sl (iR (wE ts (gs.take k))),.int .i64 (k:Int)]
def A1 (gs:List GF) (ds:List D):Nat:=(gs.length-toI (nth .undef ds 1)).toNat
theorem k_of {gs:List GF} (h:∀g∈gs,GOk g):∀g∈gs,g.k=1\/g.k=3\/g.k=4:=λg hg=>by
 rcases(h g hg).f.k with e|⟨e,_⟩|⟨e,_⟩
 .exact .inl e
 .exact .inr (.inl e)
 .exact .inr (.inr e)
theorem NP {x:List D} {gs:List GF} {t0 t1 t2 t3 t4:TL} {cs:List CLp} (h:ShOk x gs t0 t1 t2 t3 t4 cs) (h0:0<gs.length) (h3:gs.length<=3) {G:Nat->List A->List A->Prop} (hG:∀n a r,Gives (CN []) n a r->G n a r) {pD sD lD:A} (hc:G 12 [pD,sD,lD] (UK [t0,t1,t2,t3,t4] gs)) (rm:Nat->Prop) (hrm:∀n,n<=1000->rm n):
 ∃es_1,G 11 [.c (.sl (tR (xz gs [t0,t1,t2,t3,t4])))] [.c (.sl es_1)]/\∃b_10,G 10 [.c (.sl es_1),.c (.bool false)] [.c (.bool b_10)]/\∃es_2 i_8,G 12 [pD,sD,lD] [.c (.sl es_2),.c (.int .i64 i_8)]/\
  br (toB (.bool !!b_10)) (br (toB (.bool !!b_10)) ([Ls (.bool (i_8==16))]=[Ls (.bool true)]) ([Ls (.bool false)]=[Ls (.bool true)])) (br (toB (.bool (i_8 !=0))) (br (toB (.bool !!b_10)) ([Ls (.bool (i_8==16))]=[Ls (.bool true)]) ([Ls (.bool false)]=[Ls (.bool true)]))
   (A0 [t0,t1,t2,t3,t4] gs [] [.sl [],.int .i64 0]/\∀(es:List (List D)) (i:Int),A0 [t0,t1,t2,t3,t4] gs [] [.sl es,.int .i64 i]->br (toB (.bool (decide (i<W2 es_2.length))))
    ((0<=i/\i<W2 es_2.length/\(nth [] es_2 i.toNat).length=2)/\∃i_9 i_10,cut (nth [] es_2 i.toNat) 0 2 [.int .i64 i_9,.int .i64 i_10]/\(rm (es.length+2)/\lens 1 [[M3 .i64 i_9],[.int .i64 i_10]])/\
      A0 [t0,t1,t2,t3,t4] gs [] [.sl (es++[[.int .i64 i_9],[.int .i64 i_10]]),.int .i64 (P1 .i64 (i+1))]/\A1 gs [.sl (es++[[.int .i64 i_9],[.int .i64 i_10]]),.int .i64 (P1 .i64 (i+1))]<A1 gs [.sl es,.int .i64 i])
    (chK (wE [t0,t1,t2,t3,t4] gs) es []=true/\chK (jU (wE [t0,t1,t2,t3,t4] gs)) (iR (jU (wE [t0,t1,t2,t3,t4] gs))) []=true/\∃es_3 i i_9,G 15 [.c (.sl (tR (xz gs [t0,t1,t2,t3,t4]))),.c (.sl (y6 5))] [.c (.sl es_3),.c (.int .i64 i),.c (.int .i64 i_9)]/\
     ∃es_4 i_10,G 16 [.c (.sl (tR (xz gs [t0,t1,t2,t3,t4]))),.c (.sl (y6 5))] [.c (.sl es_4),.c (.int .i64 i_10)]/\∃i_11 b_11,G 17 [.c (.sl (tR (xz gs [t0,t1,t2,t3,t4]))),.c (.sl (y6 5)),.c (.sl es_4)] [.c (.int .i64 i_11),.c (.bool b_11)]/\
      br (toB (.bool (i_9==0))) (br (toB (.bool (i_10==0))) (br b_11 (br (toB (.bool (decide (i_11<=i)))) (br (toB (.bool (decide (i<=W2 (iR (YM (jU (wE [t0,t1,t2,t3,t4] gs)))).length)))) (∃b_12,G 18 [.c (.sl (tR (xz gs [t0,t1,t2,t3,t4]))),.c (.sl (iR (YM (jU (wE [t0,t1,t2,t3,t4] gs)))))] [.c (.bool b_12)]/\[Ls (.bool b_12)]=[Ls (.bool true)])
       ([Ls (.bool false)]=[Ls (.bool true)])) ([Ls (.bool false)]=[Ls (.bool true)])) ([Ls (.bool false)]=[Ls (.bool true)])) ([Ls (.bool false)]=[Ls (.bool true)])) ([Ls (.bool false)]=[Ls (.bool true)])))):=by
 have a1:=h.p.m.ok;have hk:=k_of h.p.g;have hf:=EO (gs:=gs) (ts:=[t0,t1,t2,t3,t4]) rfl a1 hk h0 h3;obtain⟨l,g1,g2⟩:=hf.cov;refine⟨_,hG _ _ _ (upN g1),_,hG _ _ _ (upN g2),?_⟩;unfold UK at hc;cases hok:YK [t0,t1,t2,t3,t4] gs with
 |false=>rw[hok]at hc;exact⟨_,_,hc,brb (λ_=>brb (λ_=>rfl) λh=>by cases h) λh=>by cases h⟩
 |true=>
  rw[hok]at hc;obtain⟨b,r,Km,low,c1,c2,c3,c4,c5,c6⟩:=hf.rest hok;have hn:=RY (ts:=[t0,t1,t2,t3,t4]) rfl a1 hk hok;refine⟨_,_,hc,brb (λh=>by cases h) λ_=>brb (λh=>by cases h) λ_=>⟨⟨0,fx _,rfl⟩,?_⟩⟩;rintro _ _ ⟨k,hkl,e⟩;simp only[fk,D.sl.injEq,Pl,true_and,and_true]at e;obtain⟨rfl,rfl⟩:=e;have lp:(prR (gs.map (chA [t0,t1,t2,t3,t4]))).length=gs.length:=by simp[prR]
  simp only[ba,lp,bb];refine brd (λh2=>?_) λh2=>?_
  .have a0:k<gs.length:=by omega
   have en:nth [] (prR (gs.map (chA [t0,t1,t2,t3,t4]))) k=[.int .i64 (chA [t0,t1,t2,t3,t4] gs[k]).1,.int .i64 (chA [t0,t1,t2,t3,t4] gs[k]).2]:=by rw[qu];simp[prR,a0]
   have hw:P1 .i64 ((k:Int)+1)=((k+1:Nat):Int):=by rw[qR (by omega) (by omega)];omega
   have ln:(wE [t0,t1,t2,t3,t4] (gs.take k)).length<=6:=by rw[Qt,cm];omega
   rw[en,hw,kB];refine⟨⟨by omega,by omega,rfl⟩,_,_,⟨rfl,ft 2⟩,⟨hrm _ (by omega),by intro x hx;simp at hx;rcases hx with rfl|rfl<;>rfl⟩,⟨k+1,by omega,?_⟩,by simp only[A1,nth,toI];omega⟩;rw[NN a0,<-bf];rfl
  .obtain rfl:k=gs.length:=by omega
   rw[dc];refine⟨aY _,aY _,_,_,_,hG _ _ _ (upN c1),_,_,hG _ _ _ (upN c2),_,_,hG _ _ _ (upN c3),brb (λ_=>brb (λ_=>brb (b:=true) (λ_=>brd (λ_=>brd (λ_=>?_) λh=>?_) λh=>absurd c4 h) λh=>by cases h) λh=>by cases h) λh=>by cases h⟩
   .rw[hn];exact⟨_,hG _ _ _ (upN c6),rfl⟩
   .rw[hn]at h;exact absurd c5 h
theorem iu {a0 a1 a2 a3 co h0 h1 h2 fr ha d0 d1 c0 c1 c2 m0 m1 m2 dr to:Int} {t0 t1 t2 t3 t4:TL} {cs:List CLp} (h:ShOk (.int .u8 a0:: .int .u8 a1:: .int .u8 a2:: .int .u8 a3:: .int .u8 co:: .int .u8 h0:: .int .u8 h1:: .int .u8 h2:: .int .u8 fr:: .int .u8 ha:: .int .u8 d0:: .int .u8 d1:: .int .u8 c0:: .int .u8 c1:: .int .u8 c2:: .int .u8 m0:: .int .u8 m1:: .int .u8 m2:: .int .u8 dr:: .int .u8 to::[]) [] t0 t1 t2 t3 t4 cs):Gives (CN []) 3 [.ag (.int .u8 a0:: .int .u8 a1:: .int .u8 a2:: .int .u8 a3:: .int .u8 co:: .int .u8 h0:: .int .u8 h1:: .int .u8 h2:: .int .u8 fr:: .int .u8 ha:: .int .u8 d0:: .int .u8 d1:: .int .u8 c0:: .int .u8 c1:: .int .u8 c2:: .int .u8 m0:: .int .u8 m1:: .int .u8 m2:: .int .u8 dr:: .int .u8 to::[])] [.c (.bool true)]:=by
 have hE:EffOk (CN (ex0 (.int .u8 a0:: .int .u8 a1:: .int .u8 a2:: .int .u8 a3:: .int .u8 co:: .int .u8 h0:: .int .u8 h1:: .int .u8 h2:: .int .u8 fr:: .int .u8 ha:: .int .u8 d0:: .int .u8 d1:: .int .u8 c0:: .int .u8 c1:: .int .u8 c2:: .int .u8 m0:: .int .u8 m1:: .int .u8 m2:: .int .u8 dr:: .int .u8 to::[]) (tlD t0) (tlD t1) (tlD t2) (tlD t3) (tlD t4) [.ag [.int .i64 6000,.sl []],Jg cs,.c (.sl (mgD [t0,t1,t2,t3,t4]))])):=bi h.f5 h.f7 (vJ h.p);refine qL (C:=CN (ex0 (.int .u8 a0:: .int .u8 a1:: .int .u8 a2:: .int .u8 a3:: .int .u8 co:: .int .u8 h0:: .int .u8 h1:: .int .u8 h2:: .int .u8 fr:: .int .u8 ha:: .int .u8 d0:: .int .u8 d1:: .int .u8 c0:: .int .u8 c1:: .int .u8 c2:: .int .u8 m0:: .int .u8 m1:: .int .u8 m2:: .int .u8 dr:: .int .u8 to::[]) (tlD t0) (tlD t1) (tlD t2) (tlD t3) (tlD t4) [.ag [.int .i64 6000,.sl []],Jg cs,.c (.sl (mgD [t0,t1,t2,t3,t4]))])) rfl rfl (Zp (C:=CN (ex0 (.int .u8 a0:: .int .u8 a1:: .int .u8 a2:: .int .u8 a3:: .int .u8 co:: .int .u8 h0:: .int .u8 h1:: .int .u8 h2:: .int .u8 fr:: .int .u8 ha:: .int .u8 d0:: .int .u8 d1:: .int .u8 c0:: .int .u8 c1:: .int .u8 c2:: .int .u8 m0:: .int .u8 m1:: .int .u8 m2:: .int .u8 dr:: .int .u8 to::[]) (tlD t0) (tlD t1) (tlD t2) (tlD t3) (tlD t4) [.ag [.int .i64 6000,.sl []],Jg cs,.c (.sl (mgD [t0,t1,t2,t3,t4]))])) mixedT Tryz.func3 ((EK _ (λ_ _=>True) (λ_=>0) (λ_ _=>True) (λ_=>0) (λ_ _=>True) (λ_=>0) ..).mpr ?_))
 have up:∀n a r,Gives (CN []) n a r->Gives (CN (ex0 (.int .u8 a0:: .int .u8 a1:: .int .u8 a2:: .int .u8 a3:: .int .u8 co:: .int .u8 h0:: .int .u8 h1:: .int .u8 h2:: .int .u8 fr:: .int .u8 ha:: .int .u8 d0:: .int .u8 d1:: .int .u8 c0:: .int .u8 c1:: .int .u8 c2:: .int .u8 m0:: .int .u8 m1:: .int .u8 m2:: .int .u8 dr:: .int .u8 to::[]) (tlD t0) (tlD t1) (tlD t2) (tlD t3) (tlD t4) [.ag [.int .i64 6000,.sl []],Jg cs,.c (.sl (mgD [t0,t1,t2,t3,t4]))])) n a r:=λn a r q=>qL (C:=CN []) rfl rfl q
 refine⟨_,up _ _ _ h.f4,brb (λh=>by cases h) λ_=>⟨We _,_,_,_,_,_,_,_,_,up _ _ _ h.f6,We _,_,up _ _ _ (upN (vH h.p)),brb (λh=>by cases h) λ_=>⟨⟨by omega,rfl,xA (by omega)⟩,⟨by omega,by omega,xA (by omega)⟩,by decide,by decide,by decide,by decide,by decide,by decide,by decide,by decide,by decide,by decide,?_⟩⟩⟩;obtain⟨l,g1,g2⟩:=chsF_0.cov;obtain⟨b,r,Km,low,c1,c2,c3,c4,c5,c6⟩:=chsF_0.rest rfl;refine⟨_,up _ _ _ (upN g1),_,up _ _ _ (upN g2),We _,brb (λh=>by cases h) λ_=>⟨up _ _ _ (upN UN),_,up _ _ _ (upN Sa),_,_,_,up _ _ _ (upN c1),_,_,up _ _ _ (upN c2),_,_,up _ _ _ (upN c3),?_⟩⟩;exact brb (λ_=>brb (λ_=>brb (b:=true) (λ_=>brd (λ_=>brd (λ_=>⟨_,up _ _ _ (upN c6),rfl⟩) λh=>absurd c5 h) λh=>absurd c4 h) λh=>by cases h) λh=>by cases h) λh=>by cases h
theorem EP {a0 a1 a2 a3 co h0 h1 h2 fr ha d0 d1 c0 c1 c2 m0 m1 m2 dr to:Int} {g0:GF} {t0 t1 t2 t3 t4:TL} {cs:List CLp} (h:ShOk (.int .u8 a0:: .int .u8 a1:: .int .u8 a2:: .int .u8 a3:: .int .u8 co:: .int .u8 h0:: .int .u8 h1:: .int .u8 h2:: .int .u8 fr:: .int .u8 ha:: .int .u8 d0:: .int .u8 d1:: .int .u8 c0:: .int .u8 c1:: .int .u8 c2:: .int .u8 m0:: .int .u8 m1:: .int .u8 m2:: .int .u8 dr:: .int .u8 to::[]) [g0] t0 t1 t2 t3 t4 cs):Gives (CN []) 3 [.ag (.int .u8 a0:: .int .u8 a1:: .int .u8 a2:: .int .u8 a3:: .int .u8 co:: .int .u8 h0:: .int .u8 h1:: .int .u8 h2:: .int .u8 fr:: .int .u8 ha:: .int .u8 d0:: .int .u8 d1:: .int .u8 c0:: .int .u8 c1:: .int .u8 c2:: .int .u8 m0:: .int .u8 m1:: .int .u8 m2:: .int .u8 dr:: .int .u8 to::[])] [.c (.bool true)]:=by
 have f5:=h.f5;have f7:=h.f7;have hE:=NO (x:=(.int .u8 a0:: .int .u8 a1:: .int .u8 a2:: .int .u8 a3:: .int .u8 co:: .int .u8 h0:: .int .u8 h1:: .int .u8 h2:: .int .u8 fr:: .int .u8 ha:: .int .u8 d0:: .int .u8 d1:: .int .u8 c0:: .int .u8 c1:: .int .u8 c2:: .int .u8 m0:: .int .u8 m1:: .int .u8 m2:: .int .u8 dr:: .int .u8 to::[])) (fs:=wu (gsF [g0])) (t0:=tlD t0) (t1:=tlD t1) (t2:=tlD t2) (t3:=tlD t3) (t4:=tlD t4) (l:=wE [t0,t1,t2,t3,t4] [g0]) (by simp[wE]) (by rw[Qt];simp) f5 f7;have up:∀n a r,Gives (CN []) n a r->Gives (CN (exL (.int .u8 a0:: .int .u8 a1:: .int .u8 a2:: .int .u8 a3:: .int .u8 co:: .int .u8 h0:: .int .u8 h1:: .int .u8 h2:: .int .u8 fr:: .int .u8 ha:: .int .u8 d0:: .int .u8 d1:: .int .u8 c0:: .int .u8 c1:: .int .u8 c2:: .int .u8 m0:: .int .u8 m1:: .int .u8 m2:: .int .u8 dr:: .int .u8 to::[]) (wu (gsF [g0])) (tlD t0) (tlD t1) (tlD t2) (tlD t3) (tlD t4) (wE [t0,t1,t2,t3,t4] [g0]))) n a r:=λn a r q=>qL (C:=CN []) rfl rfl q
 refine qL (C:=CN (exL (.int .u8 a0:: .int .u8 a1:: .int .u8 a2:: .int .u8 a3:: .int .u8 co:: .int .u8 h0:: .int .u8 h1:: .int .u8 h2:: .int .u8 fr:: .int .u8 ha:: .int .u8 d0:: .int .u8 d1:: .int .u8 c0:: .int .u8 c1:: .int .u8 c2:: .int .u8 m0:: .int .u8 m1:: .int .u8 m2:: .int .u8 dr:: .int .u8 to::[]) (wu (gsF [g0])) (tlD t0) (tlD t1) (tlD t2) (tlD t3) (tlD t4) (wE [t0,t1,t2,t3,t4] [g0]))) rfl rfl (Zp (C:=CN (exL (.int .u8 a0:: .int .u8 a1:: .int .u8 a2:: .int .u8 a3:: .int .u8 co:: .int .u8 h0:: .int .u8 h1:: .int .u8 h2:: .int .u8 fr:: .int .u8 ha:: .int .u8 d0:: .int .u8 d1:: .int .u8 c0:: .int .u8 c1:: .int .u8 c2:: .int .u8 m0:: .int .u8 m1:: .int .u8 m2:: .int .u8 dr:: .int .u8 to::[]) (wu (gsF [g0])) (tlD t0) (tlD t1) (tlD t2) (tlD t3) (tlD t4) (wE [t0,t1,t2,t3,t4] [g0]))) mixedT Tryz.func3 ((EL _ (λ_ _=>True) (λ_=>0) (λ_ _=>True) (λ_=>0) (A0 [t0,t1,t2,t3,t4] [g0]) (A1 [g0]) ..).mpr ?_))
 have rc:∀i j (hi:i<[g0].length) (hj:j<[t0,t1,t2,t3,t4].length),Gives (CN (exL (.int .u8 a0:: .int .u8 a1:: .int .u8 a2:: .int .u8 a3:: .int .u8 co:: .int .u8 h0:: .int .u8 h1:: .int .u8 h2:: .int .u8 fr:: .int .u8 ha:: .int .u8 d0:: .int .u8 d1:: .int .u8 c0:: .int .u8 c1:: .int .u8 c2:: .int .u8 m0:: .int .u8 m1:: .int .u8 m2:: .int .u8 dr:: .int .u8 to::[]) (wu (gsF [g0])) (tlD t0) (tlD t1) (tlD t2) (tlD t3) (tlD t4) (wE [t0,t1,t2,t3,t4] [g0]))) 9 [.ag [.int .i64 6000,.sl (wu (gsF [g0]))],.c (.sl (mgD [t0,t1,t2,t3,t4])),.c (.int .i64 (i:Int)),.c (.int .i64 (j:Int))] [.c (.bool (xV [g0][i] [t0,t1,t2,t3,t4][j]))]:=λi j hi hj=>up _ _ _ (upN (QF hi hj (h.p.g _ (bd hi)) (h.p.m.ok _ (bd hj)) (h.s _ (bd hj))))
 have hc:=up _ _ _ (vJ h.p);refine⟨_,up _ _ _ h.f4,brb (λh=>by cases h) λ_=>⟨We _,_,_,_,_,_,_,_,_,up _ _ _ h.f6,We _,_,up _ _ _ (upN (vH h.p)),brb (λh=>by cases h) λ_=>⟨⟨by omega,rfl,xA (by omega)⟩,⟨by omega,by omega,xA (by omega)⟩,?_⟩⟩⟩;refine⟨by decide,by decide,by decide,_,rc 0 0 (by simp) (by simp),⟨xA (by omega),ln1 _⟩,by decide,?_⟩;refine⟨by decide,by decide,by decide,_,rc 0 1 (by simp) (by simp),⟨xA (by omega),ln1 _⟩,by decide,?_⟩;refine⟨by decide,by decide,by decide,_,rc 0 2 (by simp) (by simp),⟨xA (by omega),ln1 _⟩,by decide,?_⟩;refine⟨by decide,by decide,by decide,_,rc 0 3 (by simp) (by simp),⟨xA (by omega),ln1 _⟩,by decide,?_⟩;refine⟨by decide,by decide,by decide,_,rc 0 4 (by simp) (by simp),⟨xA (by omega),ln1 _⟩,by decide,?_⟩;exact NP h (by simp) (by simp) up hc _ λn hn=>xA (by omega)
theorem EQ {a0 a1 a2 a3 co h0 h1 h2 fr ha d0 d1 c0 c1 c2 m0 m1 m2 dr to:Int} {g0 g1:GF} {t0 t1 t2 t3 t4:TL} {cs:List CLp} (h:ShOk (.int .u8 a0:: .int .u8 a1:: .int .u8 a2:: .int .u8 a3:: .int .u8 co:: .int .u8 h0:: .int .u8 h1:: .int .u8 h2:: .int .u8 fr:: .int .u8 ha:: .int .u8 d0:: .int .u8 d1:: .int .u8 c0:: .int .u8 c1:: .int .u8 c2:: .int .u8 m0:: .int .u8 m1:: .int .u8 m2:: .int .u8 dr:: .int .u8 to::[]) [g0,g1] t0 t1 t2 t3 t4 cs):Gives (CN []) 3 [.ag (.int .u8 a0:: .int .u8 a1:: .int .u8 a2:: .int .u8 a3:: .int .u8 co:: .int .u8 h0:: .int .u8 h1:: .int .u8 h2:: .int .u8 fr:: .int .u8 ha:: .int .u8 d0:: .int .u8 d1:: .int .u8 c0:: .int .u8 c1:: .int .u8 c2:: .int .u8 m0:: .int .u8 m1:: .int .u8 m2:: .int .u8 dr:: .int .u8 to::[])] [.c (.bool true)]:=by
 have f5:=h.f5;have f7:=h.f7;have hE:=NO (x:=(.int .u8 a0:: .int .u8 a1:: .int .u8 a2:: .int .u8 a3:: .int .u8 co:: .int .u8 h0:: .int .u8 h1:: .int .u8 h2:: .int .u8 fr:: .int .u8 ha:: .int .u8 d0:: .int .u8 d1:: .int .u8 c0:: .int .u8 c1:: .int .u8 c2:: .int .u8 m0:: .int .u8 m1:: .int .u8 m2:: .int .u8 dr:: .int .u8 to::[])) (fs:=wu (gsF [g0,g1])) (t0:=tlD t0) (t1:=tlD t1) (t2:=tlD t2) (t3:=tlD t3) (t4:=tlD t4) (l:=wE [t0,t1,t2,t3,t4] [g0,g1]) (by simp[wE]) (by rw[Qt];simp) f5 f7;have up:∀n a r,Gives (CN []) n a r->Gives (CN (exL (.int .u8 a0:: .int .u8 a1:: .int .u8 a2:: .int .u8 a3:: .int .u8 co:: .int .u8 h0:: .int .u8 h1:: .int .u8 h2:: .int .u8 fr:: .int .u8 ha:: .int .u8 d0:: .int .u8 d1:: .int .u8 c0:: .int .u8 c1:: .int .u8 c2:: .int .u8 m0:: .int .u8 m1:: .int .u8 m2:: .int .u8 dr:: .int .u8 to::[]) (wu (gsF [g0,g1])) (tlD t0) (tlD t1) (tlD t2) (tlD t3) (tlD t4) (wE [t0,t1,t2,t3,t4] [g0,g1]))) n a r:=λn a r q=>qL (C:=CN []) rfl rfl q
 refine qL (C:=CN (exL (.int .u8 a0:: .int .u8 a1:: .int .u8 a2:: .int .u8 a3:: .int .u8 co:: .int .u8 h0:: .int .u8 h1:: .int .u8 h2:: .int .u8 fr:: .int .u8 ha:: .int .u8 d0:: .int .u8 d1:: .int .u8 c0:: .int .u8 c1:: .int .u8 c2:: .int .u8 m0:: .int .u8 m1:: .int .u8 m2:: .int .u8 dr:: .int .u8 to::[]) (wu (gsF [g0,g1])) (tlD t0) (tlD t1) (tlD t2) (tlD t3) (tlD t4) (wE [t0,t1,t2,t3,t4] [g0,g1]))) rfl rfl (Zp (C:=CN (exL (.int .u8 a0:: .int .u8 a1:: .int .u8 a2:: .int .u8 a3:: .int .u8 co:: .int .u8 h0:: .int .u8 h1:: .int .u8 h2:: .int .u8 fr:: .int .u8 ha:: .int .u8 d0:: .int .u8 d1:: .int .u8 c0:: .int .u8 c1:: .int .u8 c2:: .int .u8 m0:: .int .u8 m1:: .int .u8 m2:: .int .u8 dr:: .int .u8 to::[]) (wu (gsF [g0,g1])) (tlD t0) (tlD t1) (tlD t2) (tlD t3) (tlD t4) (wE [t0,t1,t2,t3,t4] [g0,g1]))) mixedT Tryz.func3 ((EM _ (λ_ _=>True) (λ_=>0) (λ_ _=>True) (λ_=>0) (A0 [t0,t1,t2,t3,t4] [g0,g1]) (A1 [g0,g1]) ..).mpr ?_))
 have rc:∀i j (hi:i<[g0,g1].length) (hj:j<[t0,t1,t2,t3,t4].length),Gives (CN (exL (.int .u8 a0:: .int .u8 a1:: .int .u8 a2:: .int .u8 a3:: .int .u8 co:: .int .u8 h0:: .int .u8 h1:: .int .u8 h2:: .int .u8 fr:: .int .u8 ha:: .int .u8 d0:: .int .u8 d1:: .int .u8 c0:: .int .u8 c1:: .int .u8 c2:: .int .u8 m0:: .int .u8 m1:: .int .u8 m2:: .int .u8 dr:: .int .u8 to::[]) (wu (gsF [g0,g1])) (tlD t0) (tlD t1) (tlD t2) (tlD t3) (tlD t4) (wE [t0,t1,t2,t3,t4] [g0,g1]))) 9 [.ag [.int .i64 6000,.sl (wu (gsF [g0,g1]))],.c (.sl (mgD [t0,t1,t2,t3,t4])),.c (.int .i64 (i:Int)),.c (.int .i64 (j:Int))] [.c (.bool (xV [g0,g1][i] [t0,t1,t2,t3,t4][j]))]:=λi j hi hj=>up _ _ _ (upN (QF hi hj (h.p.g _ (bd hi)) (h.p.m.ok _ (bd hj)) (h.s _ (bd hj))))
 have hc:=up _ _ _ (vJ h.p);refine⟨_,up _ _ _ h.f4,brb (λh=>by cases h) λ_=>⟨We _,_,_,_,_,_,_,_,_,up _ _ _ h.f6,We _,_,up _ _ _ (upN (vH h.p)),brb (λh=>by cases h) λ_=>⟨⟨by omega,rfl,xA (by omega)⟩,⟨by omega,by omega,xA (by omega)⟩,?_⟩⟩⟩;refine⟨by decide,by decide,by decide,_,rc 0 0 (by simp) (by simp),⟨xA (by omega),ln1 _⟩,by decide,?_⟩;refine⟨by decide,_,rc 1 0 (by simp) (by simp),⟨xA (by omega),ln1 _⟩,by decide,?_⟩;refine⟨by decide,by decide,by decide,_,rc 0 1 (by simp) (by simp),⟨xA (by omega),ln1 _⟩,by decide,?_⟩;refine⟨by decide,_,rc 1 1 (by simp) (by simp),⟨xA (by omega),ln1 _⟩,by decide,?_⟩;refine⟨by decide,by decide,by decide,_,rc 0 2 (by simp) (by simp),⟨xA (by omega),ln1 _⟩,by decide,?_⟩;refine⟨by decide,_,rc 1 2 (by simp) (by simp),⟨xA (by omega),ln1 _⟩,by decide,?_⟩;refine⟨by decide,by decide,by decide,_,rc 0 3 (by simp) (by simp),⟨xA (by omega),ln1 _⟩,by decide,?_⟩;refine⟨by decide,_,rc 1 3 (by simp) (by simp),⟨xA (by omega),ln1 _⟩,by decide,?_⟩;refine⟨by decide,by decide,by decide,_,rc 0 4 (by simp) (by simp),⟨xA (by omega),ln1 _⟩,by decide,?_⟩;refine⟨by decide,_,rc 1 4 (by simp) (by simp),⟨xA (by omega),ln1 _⟩,by decide,?_⟩;exact NP h (by simp) (by simp) up hc _ λn hn=>xA (by omega)
theorem iw {a0 a1 a2 a3 co h0 h1 h2 fr ha d0 d1 c0 c1 c2 m0 m1 m2 dr to:Int} {g0 g1 g2:GF} {t0 t1 t2 t3 t4:TL} {cs:List CLp} (h:ShOk (.int .u8 a0:: .int .u8 a1:: .int .u8 a2:: .int .u8 a3:: .int .u8 co:: .int .u8 h0:: .int .u8 h1:: .int .u8 h2:: .int .u8 fr:: .int .u8 ha:: .int .u8 d0:: .int .u8 d1:: .int .u8 c0:: .int .u8 c1:: .int .u8 c2:: .int .u8 m0:: .int .u8 m1:: .int .u8 m2:: .int .u8 dr:: .int .u8 to::[]) [g0,g1,g2] t0 t1 t2 t3 t4 cs):Gives (CN []) 3 [.ag (.int .u8 a0:: .int .u8 a1:: .int .u8 a2:: .int .u8 a3:: .int .u8 co:: .int .u8 h0:: .int .u8 h1:: .int .u8 h2:: .int .u8 fr:: .int .u8 ha:: .int .u8 d0:: .int .u8 d1:: .int .u8 c0:: .int .u8 c1:: .int .u8 c2:: .int .u8 m0:: .int .u8 m1:: .int .u8 m2:: .int .u8 dr:: .int .u8 to::[])] [.c (.bool true)]:=by
 have f5:=h.f5;have f7:=h.f7;have hE:=NO (x:=(.int .u8 a0:: .int .u8 a1:: .int .u8 a2:: .int .u8 a3:: .int .u8 co:: .int .u8 h0:: .int .u8 h1:: .int .u8 h2:: .int .u8 fr:: .int .u8 ha:: .int .u8 d0:: .int .u8 d1:: .int .u8 c0:: .int .u8 c1:: .int .u8 c2:: .int .u8 m0:: .int .u8 m1:: .int .u8 m2:: .int .u8 dr:: .int .u8 to::[])) (fs:=wu (gsF [g0,g1,g2])) (t0:=tlD t0) (t1:=tlD t1) (t2:=tlD t2) (t3:=tlD t3) (t4:=tlD t4) (l:=wE [t0,t1,t2,t3,t4] [g0,g1,g2]) (by simp[wE]) (by rw[Qt];simp) f5 f7;have up:∀n a r,Gives (CN []) n a r->Gives (CN (exL (.int .u8 a0:: .int .u8 a1:: .int .u8 a2:: .int .u8 a3:: .int .u8 co:: .int .u8 h0:: .int .u8 h1:: .int .u8 h2:: .int .u8 fr:: .int .u8 ha:: .int .u8 d0:: .int .u8 d1:: .int .u8 c0:: .int .u8 c1:: .int .u8 c2:: .int .u8 m0:: .int .u8 m1:: .int .u8 m2:: .int .u8 dr:: .int .u8 to::[]) (wu (gsF [g0,g1,g2])) (tlD t0) (tlD t1) (tlD t2) (tlD t3) (tlD t4) (wE [t0,t1,t2,t3,t4] [g0,g1,g2]))) n a r:=λn a r q=>qL (C:=CN []) rfl rfl q
 refine qL (C:=CN (exL (.int .u8 a0:: .int .u8 a1:: .int .u8 a2:: .int .u8 a3:: .int .u8 co:: .int .u8 h0:: .int .u8 h1:: .int .u8 h2:: .int .u8 fr:: .int .u8 ha:: .int .u8 d0:: .int .u8 d1:: .int .u8 c0:: .int .u8 c1:: .int .u8 c2:: .int .u8 m0:: .int .u8 m1:: .int .u8 m2:: .int .u8 dr:: .int .u8 to::[]) (wu (gsF [g0,g1,g2])) (tlD t0) (tlD t1) (tlD t2) (tlD t3) (tlD t4) (wE [t0,t1,t2,t3,t4] [g0,g1,g2]))) rfl rfl (Zp (C:=CN (exL (.int .u8 a0:: .int .u8 a1:: .int .u8 a2:: .int .u8 a3:: .int .u8 co:: .int .u8 h0:: .int .u8 h1:: .int .u8 h2:: .int .u8 fr:: .int .u8 ha:: .int .u8 d0:: .int .u8 d1:: .int .u8 c0:: .int .u8 c1:: .int .u8 c2:: .int .u8 m0:: .int .u8 m1:: .int .u8 m2:: .int .u8 dr:: .int .u8 to::[]) (wu (gsF [g0,g1,g2])) (tlD t0) (tlD t1) (tlD t2) (tlD t3) (tlD t4) (wE [t0,t1,t2,t3,t4] [g0,g1,g2]))) mixedT Tryz.func3 ((EN _ (λ_ _=>True) (λ_=>0) (λ_ _=>True) (λ_=>0) (A0 [t0,t1,t2,t3,t4] [g0,g1,g2]) (A1 [g0,g1,g2]) ..).mpr ?_))
 have rc:∀i j (hi:i<[g0,g1,g2].length) (hj:j<[t0,t1,t2,t3,t4].length),Gives (CN (exL (.int .u8 a0:: .int .u8 a1:: .int .u8 a2:: .int .u8 a3:: .int .u8 co:: .int .u8 h0:: .int .u8 h1:: .int .u8 h2:: .int .u8 fr:: .int .u8 ha:: .int .u8 d0:: .int .u8 d1:: .int .u8 c0:: .int .u8 c1:: .int .u8 c2:: .int .u8 m0:: .int .u8 m1:: .int .u8 m2:: .int .u8 dr:: .int .u8 to::[]) (wu (gsF [g0,g1,g2])) (tlD t0) (tlD t1) (tlD t2) (tlD t3) (tlD t4) (wE [t0,t1,t2,t3,t4] [g0,g1,g2]))) 9 [.ag [.int .i64 6000,.sl (wu (gsF [g0,g1,g2]))],.c (.sl (mgD [t0,t1,t2,t3,t4])),.c (.int .i64 (i:Int)),.c (.int .i64 (j:Int))] [.c (.bool (xV [g0,g1,g2][i] [t0,t1,t2,t3,t4][j]))]:=λi j hi hj=>up _ _ _ (upN (QF hi hj (h.p.g _ (bd hi)) (h.p.m.ok _ (bd hj)) (h.s _ (bd hj))))
 have hc:=up _ _ _ (vJ h.p);refine⟨_,up _ _ _ h.f4,brb (λh=>by cases h) λ_=>⟨We _,_,_,_,_,_,_,_,_,up _ _ _ h.f6,We _,_,up _ _ _ (upN (vH h.p)),brb (λh=>by cases h) λ_=>⟨⟨by omega,rfl,xA (by omega)⟩,⟨by omega,by omega,xA (by omega)⟩,?_⟩⟩⟩;refine⟨by decide,by decide,by decide,_,rc 0 0 (by simp) (by simp),⟨xA (by omega),ln1 _⟩,by decide,?_⟩;refine⟨by decide,_,rc 1 0 (by simp) (by simp),⟨xA (by omega),ln1 _⟩,by decide,?_⟩;refine⟨by decide,_,rc 2 0 (by simp) (by simp),⟨xA (by omega),ln1 _⟩,by decide,?_⟩;refine⟨by decide,by decide,by decide,_,rc 0 1 (by simp) (by simp),⟨xA (by omega),ln1 _⟩,by decide,?_⟩;refine⟨by decide,_,rc 1 1 (by simp) (by simp),⟨xA (by omega),ln1 _⟩,by decide,?_⟩;refine⟨by decide,_,rc 2 1 (by simp) (by simp),⟨xA (by omega),ln1 _⟩,by decide,?_⟩;refine⟨by decide,by decide,by decide,_,rc 0 2 (by simp) (by simp),⟨xA (by omega),ln1 _⟩,by decide,?_⟩;refine⟨by decide,_,rc 1 2 (by simp) (by simp),⟨xA (by omega),ln1 _⟩,by decide,?_⟩;refine⟨by decide,_,rc 2 2 (by simp) (by simp),⟨xA (by omega),ln1 _⟩,by decide,?_⟩;refine⟨by decide,by decide,by decide,_,rc 0 3 (by simp) (by simp),⟨xA (by omega),ln1 _⟩,by decide,?_⟩;refine⟨by decide,_,rc 1 3 (by simp) (by simp),⟨xA (by omega),ln1 _⟩,by decide,?_⟩;refine⟨by decide,_,rc 2 3 (by simp) (by simp),⟨xA (by omega),ln1 _⟩,by decide,?_⟩;refine⟨by decide,by decide,by decide,_,rc 0 4 (by simp) (by simp),⟨xA (by omega),ln1 _⟩,by decide,?_⟩
 refine⟨by decide,_,rc 1 4 (by simp) (by simp),⟨xA (by omega),ln1 _⟩,by decide,?_⟩;refine⟨by decide,_,rc 2 4 (by simp) (by simp),⟨xA (by omega),ln1 _⟩,by decide,?_⟩;exact NP h (by simp) (by simp) up hc _ λn hn=>xA (by omega)
end
end Eng
end
section
open Go Go.Proofs Eng
namespace Eng
theorem NQ (Gv:Nat->List A->List A->Prop) (I0:List D->List D->Prop) (M0:List D->Nat) (a0 a1 a2 a3 co h0 h1 h2 fr ha d0 d1 c0 c1 c2 m0 m1 m2 dr to:Int) (Q:List A->Prop):Be CC Gv (λ_=>⟨[.own 3 46 8,.slot 4 (.int .i64 0)],[],I0,M0⟩) (λn=>match n with|0=>4|_=>0) Tryz.f7 [.ag (.int .u8 a0:: .int .u8 a1:: .int .u8 a2:: .int .u8 a3:: .int .u8 co:: .int .u8 h0:: .int .u8 h1:: .int .u8 h2:: .int .u8 fr:: .int .u8 ha:: .int .u8 d0:: .int .u8 d1:: .int .u8 c0:: .int .u8 c1:: .int .u8 c2:: .int .u8 m0:: .int .u8 m1:: .int .u8 m2:: .int .u8 dr:: .int .u8 to::[])] Q=((6:Int)≠(0:Int)/\∃i i_1 i_2 i_3 i_4 i_5 i_6 i_7,Gv 29 [aI (1:Int),aI (P1 .i64 (2500+P1 .i64 (500*P1 .i64 (W1 m0 (6:Int)))))] [Lr [dI i,dI i_1,dI i_2,dI i_3,dI i_4,dI i_5,dI i_6,dI i_7]]/\(room 1/\lens 8 [[dI i,dI i_1,dI i_2,dI i_3,dI i_4,dI (2000:Int),dI i_6,dI i_7]])/\(6:Int)≠(0:Int)/\∃i_8 i_9 i_10 i_11 i_12 i_13 i_14 i_15,Gv 29 [aI (2:Int),aI (P1 .i64 (2500+P1 .i64 (500*P1 .i64 (W1 m1 (6:Int)))))] [Lr [dI i_8,dI i_9,dI i_10,dI i_11,dI i_12,dI i_13,dI i_14,dI i_15]]/\(room 2/\lens 8 [[dI i_8,dI i_9,dI i_10,dI (4000:Int),dI i_12,dI (2000:Int),dI i_14,dI i_15]])/\(6:Int)≠(0:Int)/\∃i_16 i_17 i_18 i_19 i_20 i_21 i_22 i_23,Gv 29 [aI (3:Int),aI (P1 .i64 (2500+P1 .i64 (500*P1 .i64 (W1 m2 (6:Int)))))] [Lr [dI i_16,dI i_17,dI i_18,dI i_19,dI i_20,dI i_21,dI i_22,dI i_23]]/\(room 3/\lens 8 [[dI i_16,dI i_17,dI i_18,dI i_19,dI i_20,dI (2000:Int),dI i_22,dI i_23]])/\(5:Int)≠(0:Int)/\∃i_24 i_25 i_26 i_27 i_28 i_29 i_30 i_31,Gv 29 [aI (4:Int),aI (P1 .i64 (1000*P1 .i64 (1+P1 .i64 (W1 dr (5:Int)))))] [Lr [dI i_24,dI i_25,dI i_26,dI i_27,dI i_28,dI i_29,dI i_30,dI i_31]]/\∃i_32 i_33 i_34 i_35 i_36 i_37 i_38 i_39,Gv 29 [aI (5:Int),aI (1500:Int)] [Lr [dI i_32,dI i_33,dI i_34,dI i_35,dI i_36,dI i_37,dI i_38,dI i_39]]/\(room 5/\lens 8 [[dI i_24,dI (2:Int),dI i_26,dI i_27,dI i_28,dI i_29,dI i_30,dI i_31],[dI i_32,dI (3:Int),dI i_34,dI i_35,dI i_36,dI i_37,dI i_38,dI i_39]])/\Q [aL [[dI i,dI i_1,dI i_2,dI i_3,dI i_4,dI (2000:Int),dI i_6,dI i_7],[dI i_8,dI i_9,dI i_10,dI (4000:Int),dI i_12,dI (2000:Int),dI i_14,dI i_15],[dI i_16,dI i_17,dI i_18,dI i_19,dI i_20,dI (2000:Int),dI i_22,dI i_23],[dI i_24,dI (2:Int),dI i_26,dI i_27,dI i_28,dI i_29,dI i_30,dI i_31],[dI i_32,dI (3:Int),dI i_34,dI i_35,dI i_36,dI i_37,dI i_38,dI i_39]]]):=by kernel_rfl
end Eng
end
section
open Go Go.Proofs Eng
namespace Eng
theorem UO (Gv:Nat->List A->List A->Prop) (i0:Int) (i1:Int) (Q:List A->Prop):wpF CC Gv an0 Tryz.f74 [.c (.int .i64 i0),.c (.int .i64 i1)] Q=(bB (decide (i0>=i1)) (Q [aB (decide (i0<=10000000))]) (Q [aB false])):=by kernel_rfl
theorem Sb (Gv:Nat->List A->List A->Prop) (i0:Int) (i1:Int) (i2:Int) (i3:Int) (Q:List A->Prop):wpF CC Gv an0 Tryz.f73 [.c (.int .i64 i0),.c (.int .i64 i1),.c (.int .i64 i2),.c (.int .i64 i3)] Q=(∃b,Gv 74 [aI i0,aI (-10000000:Int)] [aB b]/\br b (∃b,Gv 74 [aI i1,aI (-10000000:Int)] [aB b]/\br b (∃b,Gv 74 [aI i2,aI (-10000000:Int)] [aB b]/\br b (∃b,Gv 74 [aI i3,aI (-10000000:Int)] [aB b]/\br b (bB (decide (i0<i2)) (Q [aB (decide (i1<i3))]) (Q [aB false])) (Q [aB false])) (Q [aB false])) (Q [aB false])) (Q [aB false])):=by kernel_rfl
theorem NR (Gv:Nat->List A->List A->Prop) (I0:List D->List D->Prop) (M0:List D->Nat) (x0 y0 x1 y1 th ga sf:Int) (es:List (List D)) (Q:List A->Prop):wpF CC Gv (λ_=>⟨[.slot 3 (.bool false),.slot 4 (.int .i64 0)],[],I0,M0⟩) Tryz.f31 [.ag [.int .i64 x0,.int .i64 y0,.int .i64 x1,.int .i64 y1,.int .i64 th,.int .i64 ga,.sl es,.int .i64 sf]] Q=(∃b,Gv 73 [aI x0,aI y0,aI x1,aI y1] [aB b]/\br b (∃b,Gv 74 [aI th,aI (1:Int)] [aB b]/\br b (∃b,Gv 74 [aI ga,aI (0:Int)] [aB b]/\br b (bB (decide ((W2 es.length)<=50)) (∃b,Gv 74 [aI sf,aI (1:Int)] [aB b]/\I0 [] [Lv b,dI (0:Int)]/\∀(b:Bool) (i:Int),I0 [] [Lv b,dI i]->bB (decide (i<(W2 es.length))) (br b ((0<=i/\i<(W2 es.length)/\bm (nth [] es (W0 i))=5)/\∃i_1 i_2 i_3 i_4 i_5,cut (nth [] es (W0 i)) 0 5 [dI i_1,dI i_2,dI i_3,dI i_4,dI i_5]/\∃b1,Gv 73 [aI i_1,aI i_2,aI i_3,aI i_4] [aB b1]/\br b1 (∃b2,Gv 74 [aI i_5,aI (P1 .i64 (P1 .i64 (0-th)-ga))] [aB b2]/\br b2 (I0 [] [Lv (decide (i_5<sf)),dI (P1 .i64 (i+1))]/\M0 [Lv (decide (i_5<sf)),dI (P1 .i64 (i+1))]<M0 [Lv b,dI i]) (I0 [] [Lv false,dI (P1 .i64 (i+1))]/\M0 [Lv false,dI (P1 .i64 (i+1))]<M0 [Lv b,dI i])) (I0 [] [Lv false,dI (P1 .i64 (i+1))]/\M0 [Lv false,dI (P1 .i64 (i+1))]<M0 [Lv b,dI i])) (bB (!b) (Q [aI (1:Int)]) (Q [aI (0:Int)]))) (bB (!b) (Q [aI (1:Int)]) (Q [aI (0:Int)]))) (I0 [] [Lv false,dI (0:Int)]/\∀(b:Bool) (i:Int),I0 [] [Lv b,dI i]->bB (decide (i<(W2 es.length))) (br b ((0<=i/\i<(W2 es.length)/\bm (nth [] es (W0 i))=5)/\∃i_1 i_2 i_3 i_4 i_5,cut (nth [] es (W0 i)) 0 5 [dI i_1,dI i_2,dI i_3,dI i_4,dI i_5]/\∃b1,Gv 73 [aI i_1,aI i_2,aI i_3,aI i_4] [aB b1]/\br b1 (∃b2,Gv 74 [aI i_5,aI (P1 .i64 (P1 .i64 (0-th)-ga))] [aB b2]/\br b2 (I0 [] [Lv (decide (i_5<sf)),dI (P1 .i64 (i+1))]/\M0 [Lv (decide (i_5<sf)),dI (P1 .i64 (i+1))]<M0 [Lv b,dI i]) (I0 [] [Lv false,dI (P1 .i64 (i+1))]/\M0 [Lv false,dI (P1 .i64 (i+1))]<M0 [Lv b,dI i])) (I0 [] [Lv false,dI (P1 .i64 (i+1))]/\M0 [Lv false,dI (P1 .i64 (i+1))]<M0 [Lv b,dI i])) (bB (!b) (Q [aI (1:Int)]) (Q [aI (0:Int)]))) (bB (!b) (Q [aI (1:Int)]) (Q [aI (0:Int)])))) (I0 [] [Lv false,dI (0:Int)]/\∀(b:Bool) (i:Int),I0 [] [Lv b,dI i]->bB (decide (i<(W2 es.length))) (br b ((0<=i/\i<(W2 es.length)/\bm (nth [] es (W0 i))=5)/\∃i_1 i_2 i_3 i_4 i_5,cut (nth [] es (W0 i)) 0 5 [dI i_1,dI i_2,dI i_3,dI i_4,dI i_5]/\∃b1,Gv 73 [aI i_1,aI i_2,aI i_3,aI i_4] [aB b1]/\br b1 (∃b2,Gv 74 [aI i_5,aI (P1 .i64 (P1 .i64 (0-th)-ga))] [aB b2]/\br b2 (I0 [] [Lv (decide (i_5<sf)),dI (P1 .i64 (i+1))]/\M0 [Lv (decide (i_5<sf)),dI (P1 .i64 (i+1))]<M0 [Lv b,dI i]) (I0 [] [Lv false,dI (P1 .i64 (i+1))]/\M0 [Lv false,dI (P1 .i64 (i+1))]<M0 [Lv b,dI i])) (I0 [] [Lv false,dI (P1 .i64 (i+1))]/\M0 [Lv false,dI (P1 .i64 (i+1))]<M0 [Lv b,dI i])) (bB (!b) (Q [aI (1:Int)]) (Q [aI (0:Int)]))) (bB (!b) (Q [aI (1:Int)]) (Q [aI (0:Int)])))) (I0 [] [Lv false,dI (0:Int)]/\∀(b:Bool) (i:Int),I0 [] [Lv b,dI i]->bB (decide (i<(W2 es.length))) (br b ((0<=i/\i<(W2 es.length)/\bm (nth [] es (W0 i))=5)/\∃i_1 i_2 i_3 i_4 i_5,cut (nth [] es (W0 i)) 0 5 [dI i_1,dI i_2,dI i_3,dI i_4,dI i_5]/\∃b1,Gv 73 [aI i_1,aI i_2,aI i_3,aI i_4] [aB b1]/\br b1 (∃b2,Gv 74 [aI i_5,aI (P1 .i64 (P1 .i64 (0-th)-ga))] [aB b2]/\br b2 (I0 [] [Lv (decide (i_5<sf)),dI (P1 .i64 (i+1))]/\M0 [Lv (decide (i_5<sf)),dI (P1 .i64 (i+1))]<M0 [Lv b,dI i]) (I0 [] [Lv false,dI (P1 .i64 (i+1))]/\M0 [Lv false,dI (P1 .i64 (i+1))]<M0 [Lv b,dI i])) (I0 [] [Lv false,dI (P1 .i64 (i+1))]/\M0 [Lv false,dI (P1 .i64 (i+1))]<M0 [Lv b,dI i])) (bB (!b) (Q [aI (1:Int)]) (Q [aI (0:Int)]))) (bB (!b) (Q [aI (1:Int)]) (Q [aI (0:Int)])))) (I0 [] [Lv false,dI (0:Int)]/\∀(b:Bool) (i:Int),I0 [] [Lv b,dI i]->bB (decide (i<(W2 es.length))) (br b ((0<=i/\i<(W2 es.length)/\bm (nth [] es (W0 i))=5)/\∃i_1 i_2 i_3 i_4 i_5,cut (nth [] es (W0 i)) 0 5 [dI i_1,dI i_2,dI i_3,dI i_4,dI i_5]/\∃b1,Gv 73 [aI i_1,aI i_2,aI i_3,aI i_4] [aB b1]/\br b1 (∃b2,Gv 74 [aI i_5,aI (P1 .i64 (P1 .i64 (0-th)-ga))] [aB b2]/\br b2 (I0 [] [Lv (decide (i_5<sf)),dI (P1 .i64 (i+1))]/\M0 [Lv (decide (i_5<sf)),dI (P1 .i64 (i+1))]<M0 [Lv b,dI i]) (I0 [] [Lv false,dI (P1 .i64 (i+1))]/\M0 [Lv false,dI (P1 .i64 (i+1))]<M0 [Lv b,dI i])) (I0 [] [Lv false,dI (P1 .i64 (i+1))]/\M0 [Lv false,dI (P1 .i64 (i+1))]<M0 [Lv b,dI i])) (bB (!b) (Q [aI (1:Int)]) (Q [aI (0:Int)]))) (bB (!b) (Q [aI (1:Int)]) (Q [aI (0:Int)])))):=by kernel_rfl
theorem Sc (Gv:Nat->List A->List A->Prop) (i0:Int) (i1:Int) (Q:List A->Prop):wpF CC Gv an0 Tryz.f138 [.c (.int .i64 i0),.c (.int .i64 i1)] Q=(∃x,Gv 38 [aI i0] [aR x]/\∃x1,Gv 38 [aI i1] [aR x1]/\Q [aV x x1]):=by kernel_rfl
end Eng
end
section
namespace Eng
open Go Go.Proofs Rl
variable [Env]
structure Cl where
 x0:Int
 y0:Int
 x1:Int
 y1:Int
 top:Int
structure Su where
 x0:Int
 y0:Int
 x1:Int
 y1:Int
 th:Int
 ga:Int
 cl:List Cl
 sf:Int
def clR (c:Cl):List D:=[.int .i64 c.x0,.int .i64 c.y0,.int .i64 c.x1,.int .i64 c.y1,.int .i64 c.top]
def NS (l:List Cl):List (List D):=l.map clR
def eS (s:Su):A:= .ag [.int .i64 s.x0,.int .i64 s.y0,.int .i64 s.x1,.int .i64 s.y1,.int .i64 s.th,.int .i64 s.ga,.sl (NS s.cl),.int .i64 s.sf]
omit [Env] in
theorem YN (l:List Cl):(NS l).length=l.length:=by simp[NS]
omit [Env] in
theorem BN {l:List Cl} {i:Nat} (h:i<l.length):nth [] (NS l) i=clR l[i]:=by
 rw[qu];simp[NS,h]
omit [Env] in
theorem bj {l:List Cl} {i:Nat} (h:i<l.length):cut (nth [] (NS l) i) 0 5 [.int .i64 l[i].x0,.int .i64 l[i].y0,.int .i64 l[i].x1,.int .i64 l[i].y1,.int .i64 l[i].top]:=by
 rw[BN h];exact⟨rfl,by simp[clR]⟩
omit [Env] in
theorem bk {l:List Cl} {i:Nat} (h:i<l.length):(nth [] (NS l) i).length=5:=by rw[BN h];rfl
def H8 (n low:Int):Bool:=decide (n>=low)&&decide (n<=10000000)
def UP (a b c d:Int):Bool:=H8 a (-10000000)&&(H8 b (-10000000)&&(H8 c (-10000000)&&(H8 d (-10000000)&&(decide (a<c)&&decide (b<d)))))
def H9 (th ga:Int):Int:=P1 .i64 (P1 .i64 (0-th)-ga)
def clB (th ga sf:Int) (c:Cl):Bool:=UP c.x0 c.y0 c.x1 c.y1&&(H8 c.top (H9 th ga)&&decide (c.top<sf))
def Jh (s:Su):Bool:=UP s.x0 s.y0 s.x1 s.y1&&(H8 s.th 1&&(H8 s.ga 0&&(decide (s.cl.length<=50)&&H8 s.sf 1)))
def ya (s:Su):Bool:=Jh s&&s.cl.all (clB s.th s.ga s.sf)
theorem zF (n low:Int):Gives CC 74 [.c (.int .i64 n),.c (.int .i64 low)] [.c (.bool (H8 n low))]:=by
 refine qj (anns:=an0) mixedT Tryz.func74 ?_;rw[UO];unfold H8;refine brb (λh=>?_) (λh=>?_)
 .rw[h,Dd]
 .rw[h,F0]
theorem HA (a b c d:Int):Gives CC 73 [.c (.int .i64 a),.c (.int .i64 b),.c (.int .i64 c),.c (.int .i64 d)] [.c (.bool (UP a b c d))]:=by
 refine qj (anns:=an0) mixedT Tryz.func73 ?_;rw[Sb];unfold UP;refine⟨_,zF _ _,js (λh=>?_) (λh=>by rw[h];rfl)⟩;rw[h,Dd];refine⟨_,zF _ _,js (λh=>?_) (λh=>by rw[h];rfl)⟩;rw[h,Dd];refine⟨_,zF _ _,js (λh=>?_) (λh=>by rw[h];rfl)⟩;rw[h,Dd];refine⟨_,zF _ _,js (λh=>?_) (λh=>by rw[h];rfl)⟩;rw[h,Dd];exact brb (λh=>by rw[h,Dd]) (λh=>by rw[h,F0])
omit [Env] in
theorem Wf {α:Type} (p:α->Bool) (l:List α) (k:Nat) (h:k<l.length):(l.take (k+1)).all p=((l.take k).all p&&p l[k]):=by
 rw[bs h,fe];simp
theorem NT (s:Su) (hl:s.cl.length<=1000000000):Gives CC 31 [eS s] [.c (.int .i64 (match ya s with|true=>0|false=>1))]:=by
 obtain⟨x0,y0,x1,y1,th,ga,cl,sf⟩:=s;refine qj (anns:=λ_=>⟨[.slot 3 (.bool false),.slot 4 (.int .i64 0)],[],λ_ ds=>∃k:Nat,k<=cl.length/\ds=[.bool (Jh ⟨x0,y0,x1,y1,th,ga,cl,sf⟩&&(cl.take k).all (clB th ga sf)),.int .i64 (k:Int)],λds=>(cl.length-toI (nth .undef ds 1)).toNat⟩) mixedT Tryz.func31 ?_;simp only at hl;simp only[eS];rw[NR];simp only[ba,YN];have a0:∀(b:Bool) (n:Int),
  (∃k:Nat,k<=cl.length/\[Lv b,M3 .i64 n]=[.bool (Jh ⟨x0,y0,x1,y1,th,ga,cl,sf⟩&&(cl.take k).all (clB th ga sf)),.int .i64 (k:Int)])->
  br (toB (Lv (decide (n<(cl.length:Int)))))
   (br b
    (((0:Int)<=n/\n<(cl.length:Int)/\bm (nth [] (NS cl) (W0 n))=(5:Nat))/\
      ∃n_1 n_2 n_3 n_4 n_5,
       cut (nth [] (NS cl) (W0 n)) (0:Nat) (5:Nat)
        [M3 Sz n_1,M3 Sz n_2,M3 Sz n_3,M3 Sz n_4,M3 Sz n_5]/\
        ∃b_1,
         Gives CC (73:Nat)
          [Ls (M3 Sz n_1),Ls (M3 Sz n_2),Ls (M3 Sz n_3),
           Ls (M3 Sz n_4)]
          [Ls (Lv b_1)]/\
          br b_1
           (∃b_2,
            Gives CC (74:Nat)
             [Ls (M3 Sz n_5),
              Ls (M3 Sz (P1 Sz (P1 Sz ((0:Int)-th)-ga)))]
             [Ls (Lv b_2)]/\
             br b_2
              ((∃k:Nat,k<=cl.length/\[Lv (decide (n_5<sf)),M3 .i64 (P1 Sz (n+(1:Int)))]=[.bool (Jh ⟨x0,y0,x1,y1,th,ga,cl,sf⟩&&(cl.take k).all (clB th ga sf)),.int .i64 (k:Int)])/\
                (cl.length-toI (nth .undef [Lv (decide (n_5<sf)),M3 Sz (P1 Sz (n+(1:Int)))] 1)).toNat<
                 (cl.length-toI (nth .undef [Lv b,M3 Sz n] 1)).toNat)
              ((∃k:Nat,k<=cl.length/\[Lv false,M3 .i64 (P1 Sz (n+(1:Int)))]=[.bool (Jh ⟨x0,y0,x1,y1,th,ga,cl,sf⟩&&(cl.take k).all (clB th ga sf)),.int .i64 (k:Int)])/\
                (cl.length-toI (nth .undef [Lv false,M3 Sz (P1 Sz (n+(1:Int)))] 1)).toNat<
                 (cl.length-toI (nth .undef [Lv b,M3 Sz n] 1)).toNat))
           ((∃k:Nat,k<=cl.length/\[Lv false,M3 .i64 (P1 Sz (n+(1:Int)))]=[.bool (Jh ⟨x0,y0,x1,y1,th,ga,cl,sf⟩&&(cl.take k).all (clB th ga sf)),.int .i64 (k:Int)])/\
            (cl.length-toI (nth .undef [Lv false,M3 Sz (P1 Sz (n+(1:Int)))] 1)).toNat<
             (cl.length-toI (nth .undef [Lv b,M3 Sz n] 1)).toNat))
    (br (toB (Lv !b)) ([Ls (M3 Sz (1:Int))]=[.c (.int .i64 (match ya ⟨x0,y0,x1,y1,th,ga,cl,sf⟩with|true=>0|false=>1))]) ([Ls (M3 Sz (0:Int))]=[.c (.int .i64 (match ya ⟨x0,y0,x1,y1,th,ga,cl,sf⟩with|true=>0|false=>1))])))
   (br (toB (Lv !b)) ([Ls (M3 Sz (1:Int))]=[.c (.int .i64 (match ya ⟨x0,y0,x1,y1,th,ga,cl,sf⟩with|true=>0|false=>1))]) ([Ls (M3 Sz (0:Int))]=[.c (.int .i64 (match ya ⟨x0,y0,x1,y1,th,ga,cl,sf⟩with|true=>0|false=>1))])):=by
  rintro b n ⟨k,hk,he⟩;simp only[fk,D.bool.injEq,Pl,true_and,and_true]at he;obtain⟨hb,rfl⟩:=he;refine brd (λh=>?_) (λh=>?_)
  .have a1:k<cl.length:=by omega
   have hw:P1 .i64 ((k:Int)+1)=((k+1:Nat):Int):=by rw[qR (by omega) (by omega)];omega
   have hs:=Wf (clB th ga sf) cl k a1;refine js (λh1=>?_) (λh1=>?_)
   .rw[h1]at hb;have a2:=hb.symm;rw[Hu]at a2;obtain⟨hh,ht⟩:=a2;rw[ht,Dd]at hs;have hm:∀c:Bool,(cl.length-toI (nth .undef [Lv c,M3 Sz (((k+1:Nat):Int))] 1)).toNat<(cl.length-toI (nth .undef [Lv b,M3 Sz (k:Int)] 1)).toNat:=by intro c;simp only[nth,toI];omega
    rw[hw,bb];refine⟨⟨by omega,by omega,bk a1⟩,_,_,_,_,_,bj a1,_,HA _ _ _ _,?_⟩;refine js (λh2=>?_) (λh2=>?_)
    .refine⟨_,zF _ _,?_⟩;refine js (λh3=>?_) (λh3=>?_)
     .refine⟨⟨k+1,a1,?_⟩,hm _⟩;rw[hs,hh,Dd];unfold clB;rw[h2,Dd,H9,h3,Dd]
     .refine⟨⟨k+1,a1,?_⟩,hm _⟩;rw[hs,hh,Dd];unfold clB;rw[h2,Dd,H9,h3,F0]
    .refine⟨⟨k+1,a1,?_⟩,hm _⟩;rw[hs,hh,Dd];unfold clB;rw[h2,F0]
   .have hv:ya ⟨x0,y0,x1,y1,th,ga,cl,sf⟩=false:=by
     rw[h1]at hb;have a2:=hb.symm;rw[Hx]at a2;unfold ya;rcases a2 with h2|h2
     .rw[h2];rfl
     .rw[Hx];refine .inr ?_;rw[<-List.take_append_drop k cl,fe];simp only at h2 ⊢;rw[h2];rfl
    rw[h1,hv];exact rfl
  .have a1:k=cl.length:=by omega
   subst a1;rw[dc]at hb;have hv:ya ⟨x0,y0,x1,y1,th,ga,cl,sf⟩=b:=hb.symm;rw[hv];cases b<;>exact rfl
 have h0:∀b:Bool,b=Jh ⟨x0,y0,x1,y1,th,ga,cl,sf⟩->∃k:Nat,k<=cl.length/\[Lv b,M3 .i64 (0:Int)]=[.bool (Jh ⟨x0,y0,x1,y1,th,ga,cl,sf⟩&&(cl.take k).all (clB th ga sf)),.int .i64 (k:Int)]:=λb hb=>⟨0,by omega,by rw[hb];simp⟩
 have hh:Jh ⟨x0,y0,x1,y1,th,ga,cl,sf⟩=(UP x0 y0 x1 y1&&(H8 th 1&&(H8 ga 0&&(decide (cl.length<=50)&&H8 sf 1)))):=rfl;refine⟨_,HA _ _ _ _,js (λh1=>?_) (λh1=>⟨h0 _ (by rw[hh,h1];rfl),a0⟩)⟩;refine⟨_,zF _ _,js (λh2=>?_) (λh2=>⟨h0 _ (by rw[hh,h1,h2];rfl),a0⟩)⟩;refine⟨_,zF _ _,js (λh3=>?_) (λh3=>⟨h0 _ (by rw[hh,h1,h2,h3];rfl),a0⟩)⟩;have e50:decide ((cl.length:Int)<=50)=decide (cl.length<=50):=by rw[decide_eq_decide];omega
 rw[e50];refine brb (λh4=>?_) (λh4=>⟨h0 _ (by rw[hh,h1,h2,h3,h4];rfl),a0⟩);exact⟨_,zF _ _,h0 _ (by rw[hh,h1,h2,h3,h4];rfl),a0⟩
def bn (c:CLp):Cl:=⟨c.x0,c.y0,c.x1,c.y1,c.top⟩
omit [Env] in
theorem bo (cs:List CLp):NS (cs.map bn)=YJ cs:=by
 unfold NS YJ;rw[List.map_map];rfl
theorem ER {cs:List CLp} (h:∀c∈cs,c.Ok) (hl:cs.length<=50):Gives CC 31 [Jg cs] [.c (.int .i64 0)]:=by
 have g:=NT ⟨0,0,30000,30000,6000,5000,cs.map bn,25000⟩ (by simp only[cv];omega);have e:eS ⟨0,0,30000,30000,6000,5000,cs.map bn,25000⟩=Jg cs:=by unfold eS Jg;rw[bo]
 have v:ya ⟨0,0,30000,30000,6000,5000,cs.map bn,25000⟩=true:=by
  unfold ya Jh;simp only[cv];rw[Hu];refine⟨?_,cc.2 λc hc=>?_⟩
  .rw[decide_eq_true hl];decide
  .obtain⟨p,hp,rfl⟩:=cp.1 hc;obtain⟨hx,hy,ht⟩:=h p hp;have tz:H9 6000 5000= -11000:=by decide
   unfold clB UP H8 bn;simp only[tz,Hu,decide_eq_true_eq];omega
 rw[e,v]at g;exact g
end Eng
end
