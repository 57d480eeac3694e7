import Derived.Test.YtkaghlcopjaclaaGreatDoorPaD
import Derived.Test.YtkaghlcopjaclaaGreatDoorPaA
import Derived.Test.YtkaghlcopjaclaaGreatDoorPaC
import Derived.KernelRfl
open Bool renaming and_eq_true->B0, true_and->Dd, false_eq_true->F0, eq_false_or_eq_true->F2
open Eng renaming room->Hu
open Eng.A renaming ag->Hv, c->Hx
open Eng.C66 renaming fr->Hy, cy->HZ, cx->J3, cq->J4, tt->J5, lc->J7, lb->J8, la->J9
open Eng.D renaming sl->Lm, bool->Lr, int->Ls
open Eng.D.int renaming injEq->Lv
open Eng.D.sl renaming injEq->No
open Go.IntKind renaming wrap->Pl, i64->P1
open Int renaming toNat->Sz, ofNat->Ts, ofNat_eq_natCast->T1, toNat_natCast->U0, le_of_lt->U3, lt_or_eq_of_le->V1, natAbs_natCast->W0, lt_or_le->W1, le_refl->W2
open List renaming length->W3, take->W4, drop->aE, getElem?_eq_getElem->ba, take_succ_eq_append_getElem->bb, getElem_mem->bc, mem_singleton->bd, mem_cons->be, length_append->bh, length_cons->bk, pairwise_cons->bm, drop_eq_getElem_cons->bs, mem_append->bv, length_take->bw, length_drop->bx, take_length->b4, take_of_length_le->b5, drop_eq_nil_of_le->b6, flatMap_append->b7, all_eq_true->b8, set_append_right->b9, foldl_append->cb, append_assoc->cf, eq_nil_of_length_eq_zero->ch, range_succ->cr, length_nil->cv, mem_map->c0, mem_of_getElem?->c4, reverse_append->c7, filter_append->cH, mem_reverse->cL, getElem_map->dc, nil_append->dk, length_set->dn, length_map->dp, append_nil->dv, range->dy
open List.cons renaming injEq->dA
open Nat renaming le_refl->ea, zero_le->eb, one_lt_pow->ec, sub_self->eg, mul_le_mul->el, lt_or_ge->en, le_trans->er, pow_pos->et
open Option.some renaming inj->ew
set_option maxRecDepth 1000000
section
namespace Eng
open Go Go.Proofs Rl
theorem WM{p q:P5}(h:ZI p q):ZI q p:=⟨h.1.symm,h.2.symm⟩
theorem Zl(p q:P5):wU p q=wU q p:=by
 rw[Bool.eq_iff_iff,jd,jd];exact⟨WM,WM⟩
theorem Oz{p q:P5}(h:ZI p q):zW p q=0:=vu.2 h
theorem Db{c:Ci}{p q:P5}(h:ZI p q):upB c p=upB c q:=by unfold upB;rw[h.1,h.2]
theorem UX{c:Ci}{p q:P5}(h:ZI p q):qp c p q=0:=by
 unfold qp;rw[if_pos (Db h),h.1,sbs,zL];split<;>rfl
theorem Xe{c:Ci}{p q:P5}(f:P5)(h:ZI p q):qp c p f=qp c q f:=by
 unfold qp;rw[Db h,h.1]
theorem Dc{c:Ci}{f p q:P5}(h:ZI p q):vw c f p q=0:=by
 unfold vw;rw[Xe f h,if_pos rfl,UX h]
theorem O0{p q:P5}(h:ZI p q):ZI (yz p) (yz q):=⟨by rw[Wo,Wo,h.1],by rw[aM,aM,h.2]⟩
theorem WN{c:Cu}{p q:P5}(h:ZI p q):zZ c p q=0:=by
 unfold zZ;split
 .split
  .exact Dc (O0 h)
  .exact Dc h
 .rw[Oz h];split<;>rfl
theorem mF{c:Cu}{p q:P5}(h:zZ c p q<0):wU p q=false:=by
 cases he:wU p q with
 |false=>rfl
 |true=>rw[WN (jd.1 he)]at h;omega
def nbr:List P5->Prop
 |p::q::r=>wU p q=false/\nbr (q::r)
 |_=>True
theorem AU{p:P5}{l:List P5}(h:nbr (p::l)):nbr l:=by
 cases l with
 |nil=>trivial
 |cons q r=>exact h.2
theorem De(c:Cu)(l:List P5)(p:P5):(∃r,QX c l p=p::r)\/(∃q r s,l=q::r/\QX c l p=q::s):=by
 cases l with
 |nil=>exact .inl ⟨[],rfl⟩
 |cons q r=>
  unfold QX;split
  .exact .inr ⟨q,r,_,rfl,rfl⟩
  .split
   .exact .inr ⟨q,r,_,rfl,rfl⟩
   .exact .inl ⟨_,rfl⟩
theorem O1(c:Cu)(p:P5):∀{l:List P5},nbr l->nbr (QX c l p)
 |[],_=>trivial
 |q::r,h=>by
  unfold QX;split
  .rename_i ho;have h1:=O1 c p (AU h);rcases De c r p with⟨s,e⟩|⟨a,b,s,e1,e2⟩
   .rw[e]at h1 ⊢;exact⟨mF ho,h1⟩
   .rw[e2]at h1 ⊢;rw[e1]at h;exact⟨h.1,h1⟩
  .split
   .exact h
   .rename_i h2;exact⟨by rw[Zl];simpa using h2,h⟩
theorem Df(c:Cu)(l:List P5):nbr (yI c l):=by
 rw[<-ZO];have:∀k,k<=l.length->nbr (soO c l k):=by
  intro k
  induction k with
  |zero=>intro _;rw[Zj];trivial
  |succ k ih=>intro h;rw[Qq c (by omega)];exact O1 c _ (ih (by omega))
 exact this _ (ea _)
theorem Yl{c x:Cu}:∀{l:List P5},nbr l->x∈jx c l->∃p q,p∈l/\q∈l/\wU p q=false/\x={c with fr:=p,tt:=q}
 |[],_,h=>by simp[jx]at h
 |[_],_,h=>by simp[jx]at h
 |p::q::r,hn,h=>by
  simp only[jx,be]at h;rcases h with h|h
  .exact⟨p,q,by simp,by simp,hn.1,h⟩
  .obtain⟨a,b,h1,h2,h3⟩:=Yl hn.2 h;exact⟨a,b,by simp[h1],by simp[h2],h3⟩
theorem AV{c:Cu}(h:Vm c=true){p q:P5}(hp:Z0 c p=true)(hq:Z0 c q=true)(hne:wU p q=false):Vm {c with fr:=p,tt:=q}=true:=by
 unfold Vm at h ⊢;simp only[B0,Bool.not_eq_true']at h ⊢;exact⟨h.1,hp,hq,hne⟩
theorem Gd.ends{c:Cu}(h:Gd c){p q:P5}(gp:Gp p)(gq:Gp q)(hp:Z0 c p=true)(hq:Z0 c q=true)(hne:wU p q=false):Gd {c with fr:=p,tt:=q}:=
 ⟨⟨h.1.1,gp,gq⟩,AV h.2 hp hq hne⟩
theorem GK{c:Cu}{p:P5}(h:y5 c p=true):Z0 c p=true:=by
 unfold y5 at h;simp only[B0]at h;exact h.1
theorem UY{c x:Cu}{l:List P5}(hx:x∈jy c l):l.all (y5 c)=true/\∃p q,p∈c.fr::c.tt::l/\q∈c.fr::c.tt::l/\wU p q=false/\x={c with fr:=p,tt:=q}:=by
 unfold jy at hx;split at hx
 .rename_i a3;obtain⟨p,q,h1,h2,h3,h4⟩:=Yl (Df c _) hx;exact⟨a3,p,q,v7 h1,v7 h2,h3,h4⟩
 .simp at hx
theorem GL{c:Cu}(h:Gd c){l:List P5}(hl:∀p∈l,Gp p):∀x∈jy c l,Gd x:=by
 intro x hx;obtain⟨a4,p,q,hp,hq,hne,rfl⟩:=UY hx;have a3:∀p∈c.fr::c.tt::l,Gp p/\Z0 c p=true:=by
  intro p hp;simp only[be]at hp;rcases hp with rfl|rfl|hp
  .exact⟨h.1.2.1,h.sup.1⟩
  .exact⟨h.1.2.2,h.sup.2.1⟩
  .exact⟨hl p hp,GK (b8.1 a4 p hp)⟩
 exact h.ends (a3 p hp).1 (a3 q hq).1 (a3 p hp).2 (a3 q hq).2 hne
theorem UZ(c:Cu)(l:List P5):(jy c l).length<=l.length+1:=by
 unfold jy;split
 .rw[ZQ];have:=Zk c (c.fr::c.tt::l);simp only[bk]at this;omega
 .simp
theorem Gd.rev{c:Cu}(h:Gd c):Gd (LV c):=by
 refine⟨h.1.rev,?_⟩;obtain⟨h1,h2,h3⟩:=h.sup;have h4:=h.2;have hs:∀p,Z0 (LV c) p=Z0 c p:=λp=>rfl
 unfold Vm at h4 ⊢;rw[show wU (LV c).fr (LV c).tt=false by rw[Zl];exact h3,hs,hs,show(LV c).fr=c.tt from rfl,show(LV c).tt=c.fr from rfl,h1,h2];rw[h1,h2,h3]at h4;show((if c.arc=true then decide (0<c.ci.q)else !(c.arc&&!c.cw)&&decide (¬(c.ln.a=0/\c.ln.b=0)))&&_)=true;cases ha:c.arc with
 |true=>rw[ha]at h4;exact h4
 |false=>rw[ha]at h4;simp only[F0,if_false,B0]at h4;simp only[F0,if_false,Bool.false_and,Dd];rw[h4.1.2];rfl
theorem O2{c:Cu}(h:Gd c):Gd (qw c):=by
 unfold qw;split
 .exact h.rev
 .exact h
theorem O3:∀(l:List Cu) (p:Cu),(Hq l p).length=l.length+1
 |[],p=>rfl
 |q::r,p=>by
  unfold Hq;split
  .simp only[bk,O3 r p]
  .rfl
theorem O4{x:Cu}:∀{l:List Cu} {p:Cu},x∈Hq l p->x∈l\/x=p
 |[],p,h=>by simp[Hq]at h;exact .inr h
 |q::r,p,h=>by
  unfold Hq at h;split at h
  .rcases be.1 h with h|h
   .exact .inl (by simp[h])
   .rcases O4 h with h|h
    .exact .inl (by simp[h])
    .exact .inr h
  .rcases be.1 h with h|h
   .exact .inr h
   .exact .inl h
noncomputable def pcO (l:List Cu) (k:Nat):List Cu:=(l.take k).foldl Hq []
theorem Kc(l:List Cu):pcO l 0=[]:=by simp[pcO]
theorem GM{l:List Cu}{k:Nat}(h:k<l.length):pcO l (k+1)=Hq (pcO l k) l[k]:=by
 unfold pcO;rw[bb h,cb];rfl
theorem fA(l:List Cu):pcO l l.length=l.foldl Hq []:=by unfold pcO;rw[b4]
theorem WO(l:List Cu):∀k,k<=l.length->(pcO l k).length=k
 |0,_=>by rw[Kc];rfl
 |k+1,h=>by rw[GM (by omega),O3,WO l k (by omega)]
theorem GN(l:List Cu):∀k,k<=l.length->∀x∈pcO l k,x∈l
 |0,_,x,hx=>by rw[Kc]at hx;simp at hx
 |k+1,h,x,hx=>by
  rw[GM (by omega)]at hx;rcases O4 hx with hx|hx
  .exact GN l k (by omega) x hx
  .rw[hx];exact bc _
noncomputable def xi (c:Cu):List Cu:=if c.arc=true then jy c ((if Vn c (jG c.ci)=true then [jG c.ci]else [])++(if Vn c (xX c.ci)=true then [xX c.ci]else []))else [c]
theorem ZT(c:Cu):zg c=pcO ((xi c).map qw) ((xi c).map qw).length:=by rw[fA];rfl
theorem Dg{c:Cu}(h:Gd c):(∀x∈xi c,Gd x)/\(xi c).length<=3:=by
 unfold xi;split
 .rename_i ha;obtain⟨hc,hq⟩:=h.circ ha;obtain⟨⟨l1,l2⟩,⟨r1,r2⟩⟩:=Kb hc hq;refine⟨GL h (λp hp=>?_),?_⟩
  .rcases bv.1 hp with hp|hp
   .split at hp
    .rw[bd.1 hp];exact⟨l1,l2⟩
    .simp at hp
   .split at hp
    .rw[bd.1 hp];exact⟨r1,r2⟩
    .simp at hp
  .refine er (UZ _ _) ?_;rw[bh];split<;>split<;>simp
 .exact⟨λx hx=>by rw[bd.1 hx];exact h,by simp⟩
theorem Ym{c:Cu}(h:Gd c):(∀x∈zg c,Gd x)/\(zg c).length<=3:=by
 obtain⟨h1,h2⟩:=Dg h;rw[ZT];refine⟨λx hx=>?_,?_⟩
 .have:=GN _ _ (ea _) x hx;obtain⟨y,hy,rfl⟩:=c0.1 this;exact O2 (h1 y hy)
 .rw[WO _ _ (ea _),dp];exact h2
end Eng
end
section
namespace Eng
open Go Go.Proofs Rl
set_option maxRecDepth 100000
def inC (out:List Cu) (p:Cu) (j:Nat):Prop:=j<=out.length/\Hq out p=out.take j++Hq (out.drop j) p
theorem O5{out:List Cu}{p:Cu}{j:Nat}(h:inC out p j)(hj:j<out.length)(ho:Ae out[j] p<=0):inC out p (j+1):=by
 refine⟨hj,?_⟩;rw[h.2,bs hj,Hq,if_pos ho,bb hj,cf];rfl
theorem O6{out:List Cu}{p:Cu}{j:Nat}(h:inC out p j)(hj:j<out.length)(ho:¬Ae out[j] p<=0):Hq out p=out.take j++p::out.drop j:=by
 rw[h.2,bs hj,Hq,if_neg ho]
theorem Dh{out:List Cu}{p:Cu}{j:Nat}(h:inC out p j)(hj:out.length<=j):Hq out p=out.take j++p::out.drop j:=by
 rw[h.2,b6 hj];rfl
def pS (l:List Cu) (_ ds:List D):Prop:=∃k:Nat,k<=l.length/\ds=[.int .i64 (k:Int),.sl (kUs (pcO l k))]
def pcI1 (l:List Cu) (gs ds:List D):Prop:=∃j:Nat,ds=[.int .i64 (j:Int)]/\∀p,l[gK gs]? =some p->inC (pcO l (gK gs)) p j
def pcJ (l:List Cu) (gs ds:List D):Prop:=∃p,l[gK gs]? =some p/\ds=ck (kU p) []
def pc7 (c:Cu) (_ ds:List D):Prop:=ds=[.sl (kPs (if Vn c (jG c.ci)=true then [jG c.ci]else []))]
def pc9 (c:Cu) (_ ds:List D):Prop:=ds=[.sl (kPs ((if Vn c (jG c.ci)=true then [jG c.ci]else [])++(if Vn c (xX c.ci)=true then [xX c.ci]else [])))]
theorem O7{l:List Cu}{k:Nat}(h:k<l.length):(l.map qw)[k]? =some (qw l[k]):=by simp[h]
theorem Ta{c:Cu}(hc:Gd c):qa CC 160 [.ag (ck (kU c) [])] [.c (.sl (kUs (zg c)))]:=by
 have hv:=UW (qa CC) (pS ((xi c).map qw)) (jn 1000000) (pcI1 ((xi c).map qw)) (jn 1000000) (pc7 c) (pc9 c) (pcJ ((xi c).map qw)) (kU c) (· =[.c (.sl (kUs (zg c)))]);refine gOk Tryz.func160 hv ?_;clear hv;obtain⟨hG,hN⟩:=Dg hc;have hN2:((xi c).map qw).length=(xi c).length:=dp ..;have hT:∀x∈(xi c).map qw,Gd x:=λx hx=>by obtain⟨y,hy,rfl⟩:=c0.1 hx;exact O2 (hG y hy)
 rw[ZT]
 --the a8 loop,the insertion
 have a8:∀(k:Nat) (hk:k<((xi c).map qw).length) (j:Nat),inC (pcO ((xi c).map qw) k) ((xi c).map qw)[k] j->
  (∀hj:j<(pcO ((xi c).map qw) k).length,qa CC 157 [.ag (ck (kU (pcO ((xi c).map qw) k)[j]) []),.ag (ck (kU ((xi c).map qw)[k]) [])] [.c (.int .i64 (Ae (pcO ((xi c).map qw) k)[j] ((xi c).map qw)[k]))]):=λk hk j _ hj=>
  Zi (hT _ (GN _ k (by omega) _ (bc hj))) (hT _ (bc hk))
 have next:∀(k:Nat) (hk:k<((xi c).map qw).length) (a4:List Cu),Hq (pcO ((xi c).map qw) k) ((xi c).map qw)[k]=a4->
  pS ((xi c).map qw) [] [.int .i64 (Pl .i64 ((k:Int)+1)),.sl (kUs a4)]:=by
  intro k hk a4 ho;refine⟨k+1,hk,?_⟩;rw[wI,GM hk,ho];rfl
 have al:∀(k:Nat) (hk:k<((xi c).map qw).length) (j:Nat),j<=(pcO ((xi c).map qw) k).length->Hq (pcO ((xi c).map qw) k) ((xi c).map qw)[k]=(pcO ((xi c).map qw) k).take j++((xi c).map qw)[k]::(pcO ((xi c).map qw) k).drop j->
  ((0:Int)<=(j:Int)/\(j:Int)<=(Ts (W3 (kUs (pcO ((xi c).map qw) k)))))/\
    ((0:Int)<=(j:Int)/\(j:Int)<=(Ts (W3 (kUs (pcO ((xi c).map qw) k))))/\(Ts (W3 (kUs (pcO ((xi c).map qw) k))))<=(Ts (W3 (kUs (pcO ((xi c).map qw) k)))))/\
      (room ((1:Nat)+W3 (W4 (Sz (Ts (W3 (kUs (pcO ((xi c).map qw) k))))-Sz (j:Int)) (aE (Sz (j:Int)) (kUs (pcO ((xi c).map qw) k)))))/\
       lens (66:Nat) (W4 (Sz (Ts (W3 (kUs (pcO ((xi c).map qw) k))))-Sz (j:Int)) (aE (Sz (j:Int)) (kUs (pcO ((xi c).map qw) k)))))/\
       (room (W3 (W4 (Sz (j:Int)) (kUs (pcO ((xi c).map qw) k)))+W3 ((ck (kU ((xi c).map qw)[k]) [])::(([])++(W4 (Sz (Ts (W3 (kUs (pcO ((xi c).map qw) k))))-Sz (j:Int)) (aE (Sz (j:Int)) (kUs (pcO ((xi c).map qw) k)))))))/\
        lens (66:Nat) ((ck (kU ((xi c).map qw)[k]) [])::(([])++(W4 (Sz (Ts (W3 (kUs (pcO ((xi c).map qw) k))))-Sz (j:Int)) (aE (Sz (j:Int)) (kUs (pcO ((xi c).map qw) k)))))))/\
        pS ((xi c).map qw) [] [Ls P1 (Pl P1 ((k:Int)+(1:Int))),Lm (W4 (Sz (j:Int)) (kUs (pcO ((xi c).map qw) k))++(ck (kU ((xi c).map qw)[k]) [])::(([])++(W4 (Sz (Ts (W3 (kUs (pcO ((xi c).map qw) k))))-Sz (j:Int)) (aE (Sz (j:Int)) (kUs (pcO ((xi c).map qw) k))))))]/\
         jn 1000000 [Ls P1 (Pl P1 ((k:Int)+(1:Int))),Lm (W4 (Sz (j:Int)) (kUs (pcO ((xi c).map qw) k))++(ck (kU ((xi c).map qw)[k]) [])::(([])++(W4 (Sz (Ts (W3 (kUs (pcO ((xi c).map qw) k))))-Sz (j:Int)) (aE (Sz (j:Int)) (kUs (pcO ((xi c).map qw) k))))))]<
          jn 1000000 [Ls P1 (k:Int),Lm (kUs (pcO ((xi c).map qw) k))]:=by
  intro k hk j hj he;have hlen:=WO ((xi c).map qw) k (by omega);generalize hout:pcO ((xi c).map qw) k=a4 at *;have e0:Sz (Ts (W3 (kUs a4)))-Sz (j:Int)=a4.length-j:=by rw[qu];simp
  have e1:W4 (Sz (Ts (W3 (kUs a4)))-Sz (j:Int)) (aE (Sz (j:Int)) (kUs a4))=kUs (a4.drop j):=by rw[e0,U0,Ox,b5 (by rw[qu,bx];omega)]
  have ap:(0:Int)<=(j:Int)/\(j:Int)<=Ts (W3 (kUs a4)):=by rw[qu];simp only[T1];omega
  rw[e1,U0,Ow,dk];have e2:kUs (a4.take j)++ck (kU ((xi c).map qw)[k]) []::kUs (a4.drop j)=kUs (a4.take j++((xi c).map qw)[k]::a4.drop j):=by rw[wX];rfl
  rw[e2];refine⟨ap,⟨ap.1,ap.2,W2 _⟩,⟨?_,yl _⟩,⟨?_,?_⟩,next k hk _ (by rw[hout];exact he),qt⟩
  .unfold Hu;rw[qu,bx];omega
  .unfold Hu;rw[qu,bk,qu,bw,bx];omega
  .exact yl (((xi c).map qw)[k]::a4.drop j)
 have hR0:xi c=xi c:=rfl;rw[vz];cases ha:c.arc with
 |true=>
  refine brb (λ_=>?_) (λh=>by cases h);obtain⟨hC,hq⟩:=hc.circ ha;obtain⟨hl,hr⟩:=Kb hC hq;have ag:[J3 (kU c),HZ (kU c),J4 (kU c)]=[q4 c.ci.x,q4 c.ci.y,q4 c.ci.q]:=by unfold kU;rw[ha]
  simp only[dA,and_true]at ag;rw[ag.1,ag.2.1,ag.2.2];refine⟨_,_,Zh hC hq,⟨_,WE hc.1 hl,?_⟩,?_⟩
  .refine xG (λh=>⟨⟨by unfold Hu;omega,λe he=>by rw[bd.1 he];rfl⟩,?_⟩) (λh=>?_)
   .unfold pc7;rw[if_pos h];rfl
   .unfold pc7;rw[if_neg (by rw[h];simp)];rfl
  rintro es he;simp only[pc7,dA,No,and_true]at he;subst he;refine⟨⟨_,WE hc.1 hr,?_⟩,?_⟩
  .refine xG (λh=>⟨⟨?_,λe he=>by rw[bd.1 he];rfl⟩,?_⟩) (λh=>?_)
   .unfold Hu;rw[xf];split<;>simp
   .unfold pc9;rw[if_pos h,WH];rfl
   .have h':¬Vn c (xX c.ci)=true:=by rw[h];simp
    unfold pc9;rw[if_neg h',dv]
  rintro es he;simp only[pc9,dA,No,and_true]at he;subst he;have b1:∀p∈((if Vn c (jG c.ci)=true then [jG c.ci]else [])++(if Vn c (xX c.ci)=true then [xX c.ci]else [])),Gp p:=by
   intro p hp;rcases bv.1 hp with hp|hp
   .split at hp
    .rw[bd.1 hp];exact hl
    .simp at hp
   .split at hp
    .rw[bd.1 hp];exact hr
    .simp at hp
  obtain⟨e,b3⟩:=WK hc.1 b1 (by rw[bh];split<;>split<;>simp);have hR:jy c ((if Vn c (jG c.ci)=true then [jG c.ci]else [])++(if Vn c (xX c.ci)=true then [xX c.ci]else []))=xi c:=by unfold xi;rw[if_pos ha]
  rw[hR]at b3;refine⟨_,_,b3,?_⟩;refine⟨⟨0,eb _,by rw[Kc];rfl⟩,?_⟩;rintro _ _ ⟨k,hk,he⟩;simp only[dA,Lv,No,and_true,true_and]at he;obtain⟨rfl,rfl⟩:=he;refine brd (λh=>?_) (λh=>?_)
  .have a6:k<(xi c).length:=by rw[qu]at h;simp only[T1]at h;omega
   have a5:k<((xi c).map qw).length:=by omega
   have hx:=hG _ (bc a6);have a7:((xi c).map qw)[k]? =some (qw (xi c)[k]):=O7 a6;have an:((xi c).map qw)[k]=qw (xi c)[k]:=dc ..;have cc:=yQ hx.1.2.1 hx.1.2.2;rw[<-jH,<-kH]at cc;refine⟨xk a6,_,xh a6,⟨_,cc,?_⟩,?_⟩
   .refine brd (λh1=>⟨_,yk hx.cw,_,a7,?_⟩) (λh1=>⟨_,a7,?_⟩)
    .unfold qw;rw[if_pos (show 0<zW (xi c)[k].fr (xi c)[k].tt from h1)]
    .unfold qw;rw[if_neg (show ¬0<zW (xi c)[k].fr (xi c)[k].tt from h1)]
   .rintro x ⟨p,hp,b2⟩;have a9:((xi c).map qw)[k]? =some p:=hp;rw[ba a5]at a9;obtain rfl:=ew a9;rw[Da b2];refine⟨⟨0,rfl,λp hp=>⟨eb _,by simp⟩⟩,?_⟩;rintro _ ⟨j,he,hj⟩;simp only[dA,Lv,and_true,true_and]at he;subst he;have hj:inC (pcO ((xi c).map qw) k) ((xi c).map qw)[k] j:=hj _ (ba a5);have ad:=WO ((xi c).map qw) k hk;refine brd (λh1=>?_) (λh1=>?_)
    .have a3:j<(pcO ((xi c).map qw) k).length:=by rw[qu]at h1;simp only[T1]at h1;omega
     refine⟨jA a3,_,xh a3,_,a8 k a5 j hj a3,?_⟩;refine brd (λh2=>?_) (λh2=>?_)
     .refine⟨⟨j+1,by rw[wI];rfl,λp hp=>?_⟩,qt⟩;have e:p=((xi c).map qw)[k]:=by have:((xi c).map qw)[k]? =some p:=hp;rw[ba a5]at this;exact(ew this).symm
      rw[e];exact O5 hj a3 h2
     .exact al k a5 j hj.1 (O6 hj a3 h2)
    .have a3:(pcO ((xi c).map qw) k).length<=j:=by rw[qu]at h1;simp only[T1]at h1;omega
     exact al k a5 j hj.1 (Dh hj a3)
  .have a6:k=((xi c).map qw).length:=by rw[qu]at h;simp only[T1]at h;omega
   rw[a6]
 |false=>
  refine brb (λh=>by cases h) (λ_=>?_);have hR:xi c=[c]:=by unfold xi;rw[if_neg (by rw[ha];simp)]
  have hRk:[ck (kU c) []]=kUs (xi c):=by rw[hR];rfl
  rw[hRk];refine⟨⟨0,eb _,by rw[Kc];rfl⟩,?_⟩;rintro _ _ ⟨k,hk,he⟩;simp only[dA,Lv,No,and_true,true_and]at he;obtain⟨rfl,rfl⟩:=he;refine brd (λh=>?_) (λh=>?_)
  .have a6:k<(xi c).length:=by rw[hR];simp only[bk,cv];omega
   have a5:k<((xi c).map qw).length:=by omega
   have hx:=hG _ (bc a6);have a7:((xi c).map qw)[k]? =some (qw (xi c)[k]):=O7 a6;have an:((xi c).map qw)[k]=qw (xi c)[k]:=dc ..;have cc:=yQ hx.1.2.1 hx.1.2.2;rw[<-jH,<-kH]at cc;refine⟨⟨by omega,by omega⟩,_,xh a6,⟨_,cc,?_⟩,?_⟩
   .refine brd (λh1=>⟨_,yk hx.cw,_,a7,?_⟩) (λh1=>⟨_,a7,?_⟩)
    .unfold qw;rw[if_pos (show 0<zW (xi c)[k].fr (xi c)[k].tt from h1)]
    .unfold qw;rw[if_neg (show ¬0<zW (xi c)[k].fr (xi c)[k].tt from h1)]
   .rintro x ⟨p,hp,b2⟩;have a9:((xi c).map qw)[k]? =some p:=hp;rw[ba a5]at a9;obtain rfl:=ew a9;rw[Da b2];refine⟨⟨0,rfl,λp hp=>⟨eb _,by simp⟩⟩,?_⟩;rintro _ ⟨j,he,hj⟩;simp only[dA,Lv,and_true,true_and]at he;subst he;have hj:inC (pcO ((xi c).map qw) k) ((xi c).map qw)[k] j:=hj _ (ba a5);have ad:=WO ((xi c).map qw) k hk;refine brd (λh1=>?_) (λh1=>?_)
    .have a3:j<(pcO ((xi c).map qw) k).length:=by rw[qu]at h1;simp only[T1]at h1;omega
     refine⟨jA a3,_,xh a3,_,a8 k a5 j hj a3,?_⟩;refine brd (λh2=>?_) (λh2=>?_)
     .refine⟨⟨j+1,by rw[wI];rfl,λp hp=>?_⟩,qt⟩;have e:p=((xi c).map qw)[k]:=by have:((xi c).map qw)[k]? =some p:=hp;rw[ba a5]at this;exact(ew this).symm
      rw[e];exact O5 hj a3 h2
     .exact al k a5 j hj.1 (O6 hj a3 h2)
    .have a3:(pcO ((xi c).map qw) k).length<=j:=by rw[qu]at h1;simp only[T1]at h1;omega
     exact al k a5 j hj.1 (Dh hj a3)
  .have a6:k=((xi c).map qw).length:=by have e:(xi c).length=1:=(by rw[hR];rfl);omega
   rw[a6]
end Eng
end
section
open Go Go.Proofs Eng
namespace Eng
section
variable (Gv:Nat->List A->List A->Prop)(I0:List D->List D->Prop)(M0:List D->Nat)(I1:List D->List D->Prop)(M1:List D->Nat)(I2:List D->List D->Prop)(M2:List D->Nat)(I3:List D->List D->Prop)(M3:List D->Nat)(Q:List A->Prop)
theorem M7(l0:List (List D))(Q:List A->Prop):wpF CC Gv (lz ⟨[.slot 4 (.int .i64 0),.own 3 69 66],[],I0,M0⟩ ⟨[.slot 6 (.int .i64 0),.own 5 70 66],[],I1,M1⟩ ⟨[.slot 8 (.int .i64 0),.own 7 56 20],[.slot 6 (.int .i64 0)],I2,M2⟩) Tryz.f101 [.c (.sl l0)] Q=(I0 [] [dI (0:Int),Lm []]/\∀(i:Int) (es:List (List D)),I0 [] [dI i,Lm es]->bB (decide (i<(Ts l0.length))) (rO l0 i 66/\∃x,cU l0 i 0 66 (ck x [])/\∃e1,Gv 160 [aC x] [aL e1]/\(room (es.length+e1.length)/\lens 66 e1)/\I0 [] [dI (Pl .i64 (i+1)),Lm (es++e1)]/\M0 [dI (Pl .i64 (i+1)),Lm (es++e1)]<M0 [dI i,Lm es]) (I1 [] [dI (0:Int),Lm []]/\∀(i:Int) (e1:List (List D)),I1 [] [dI i,Lm e1]->bB (decide (i<(Ts es.length))) (I2 [dI i] [dI (0:Int),Lm []]/\∀(i_1:Int) (e2:List (List D)),I2 [dI i] [dI i_1,Lm e2]->bB (decide (i_1<(Ts es.length))) (bB (i_1 !=i) ((0<=i/\i<(Ts es.length))/\∃x,cU es i 0 66 (ck x [])/\(0<=i_1/\i_1<(Ts es.length))/\∃x1,cU es i_1 0 66 (ck x1 [])/\∃es b,Gv 161 [aC x,aC x1] [aL es,aB b]/\(room (e2.length+es.length)/\lens 20 es)/\I2 [dI i] [dI (Pl .i64 (i_1+1)),Lm (e2++es)]/\M2 [dI (Pl .i64 (i_1+1)),Lm (e2++es)]<M2 [dI i_1,Lm e2]) (I2 [dI i] [dI (Pl .i64 (i_1+1)),Lm e2]/\M2 [dI (Pl .i64 (i_1+1)),Lm e2]<M2 [dI i_1,Lm e2])) ((0<=i/\i<(Ts es.length))/\∃x,cU es i 0 66 (ck x [])/\∃es i_2,Gv 162 [aC x,aL e2] [aL es,aI i_2]/\(room (e1.length+es.length)/\lens 66 es)/\I1 [] [dI (Pl .i64 (i+1)),Lm (e1++es)]/\M1 [dI (Pl .i64 (i+1)),Lm (e1++es)]<M1 [dI i,Lm e1])) (Q [aL e1]))):=by kernel_rfl
end
end Eng
end
section
namespace Eng
open Go Go.Proofs Rl
set_option maxRecDepth 100000
theorem O8{c d:Cu}(hc:Gc c)(hd:Gc d):(∀p∈ja c d,Gp p)/\(ja c d).length<=4:=by
 have hL:=Oy hc hd;refine⟨λp hp=>hL.1 p (List.mem_filter.1 (v7 hp)).1,?_⟩;have h1:=Zk c ((XY c d).filter λp=>y5 c p&&y5 d p);have h2:=List.length_filter_le (λp=>y5 c p&&y5 d p) (XY c d);have h3:=hL.2;unfold ja;omega
noncomputable def Yn (all:List Cu) (c:Cu) (k:Nat):List P5:=match all[k]? with
 |some d=>ja c d
 |none=>[]
noncomputable def wy (all:List Cu) (c:Cu) (i n:Nat):List P5:=((dy n).filter (· ≠i)).flatMap (Yn all c)
theorem WP(all:List Cu)(c:Cu)(i:Nat):wy all c i 0=[]:=rfl
theorem Tb{all:List Cu}{c:Cu}{i n:Nat}(h:n≠i):wy all c i (n+1)=wy all c i n++Yn all c n:=by
 unfold wy;rw[cr,cH,b7];simp[h]
theorem Tc{all:List Cu}{c:Cu}{n:Nat}:wy all c n (n+1)=wy all c n n:=by
 unfold wy;rw[cr,cH,b7];simp
noncomputable def Zm (all:List Cu) (i:Nat):List Cu:=match all[i]? with
 |some c=>jy c (wy all c i all.length)
 |none=>[]
noncomputable def ym (all:List Cu) (n:Nat):List Cu:=(dy n).flatMap (Zm all)
theorem Jz(all:List Cu)(n:Nat):ym all (n+1)=ym all n++Zm all n:=by
 unfold ym;rw[cr,b7];simp
theorem WQ(l:List Cu):XZ l=ym (l.flatMap zg) (l.flatMap zg).length:=rfl
theorem Di{all:List Cu}(ha:∀x∈all,Gd x){c:Cu}(hc:Gd c)(k:Nat):(∀p∈Yn all c k,Gp p)/\(Yn all c k).length<=4:=by
 unfold Yn;split
 .rename_i d hd;exact O8 hc.1 (ha d (c4 hd)).1
 .simp
theorem Zn{all:List Cu}(ha:∀x∈all,Gd x){c:Cu}(hc:Gd c)(i:Nat):∀n,(∀p∈wy all c i n,Gp p)/\(wy all c i n).length<=4*n
 |0=>by rw[WP];simp
 |n+1=>by
  obtain⟨h1,h2⟩:=Zn ha hc i n;by_cases h:n=i
  .subst h;rw[Tc];exact⟨h1,by omega⟩
  .obtain⟨h3,h4⟩:=Di ha hc n;rw[Tb h];refine⟨λp hp=>?_,by rw[bh];omega⟩;rcases bv.1 hp with hp|hp
   .exact h1 p hp
   .exact h3 p hp
theorem Td{all:List Cu}(ha:∀x∈all,Gd x)(i:Nat):(∀x∈Zm all i,Gd x)/\(Zm all i).length<=4*all.length+1:=by
 unfold Zm;split
 .rename_i c hc;have hg:=ha c (c4 hc);obtain⟨h1,h2⟩:=Zn ha hg i all.length;refine⟨GL hg h1,?_⟩;have:=UZ c (wy all c i all.length);omega
 .simp
theorem ZU{all:List Cu}(ha:∀x∈all,Gd x):∀n,(∀x∈ym all n,Gd x)/\(ym all n).length<=n*(4*all.length+1)
 |0=>by simp[ym]
 |n+1=>by
  obtain⟨h1,h2⟩:=ZU ha n;obtain⟨h3,h4⟩:=Td ha n;rw[Jz];refine⟨λx hx=>?_,by rw[bh,Nat.succ_mul];omega⟩;rcases bv.1 hx with hx|hx
  .exact h1 x hx
  .exact h3 x hx
noncomputable def AW (l:List Cu) (k:Nat):List Cu:=(l.take k).flatMap zg
theorem Te{l:List Cu}{k:Nat}(h:k<l.length):AW l (k+1)=AW l k++zg l[k]:=by
 unfold AW;rw[bb h,b7];simp
theorem M8{l:List Cu}(hl:∀c∈l,Gd c):∀k,k<=l.length->(∀x∈AW l k,Gd x)/\(AW l k).length<=3*k
 |0,_=>by simp[AW]
 |k+1,h=>by
  obtain⟨h1,h2⟩:=M8 hl k (by omega);obtain⟨h3,h4⟩:=Ym (hl l[k] (bc (by omega)));rw[Te (by omega)];refine⟨λx hx=>?_,by rw[bh];omega⟩;rcases bv.1 hx with hx|hx
  .exact h1 x hx
  .exact h3 x hx
theorem O9(l:List Cu):AW l l.length=l.flatMap zg:=by unfold AW;rw[b4]
theorem Dj{l:List Cu}(hl:∀c∈l,Gd c)(hn:l.length<=400):(∀x∈XZ l,Gd x)/\(XZ l).length<=6000000:=by
 obtain⟨h1,h2⟩:=M8 hl l.length (ea _);rw[O9]at h1 h2;rw[WQ];obtain⟨h3,h4⟩:=ZU h1 (l.flatMap zg).length;refine⟨h3,er h4 ?_⟩;have h5:(l.flatMap zg).length<=1200:=by omega
 have h6:=el h5 (show 4*(l.flatMap zg).length+1<=4801 by omega);omega
def paI0 (l:List Cu) (_ ds:List D):Prop:=∃k:Nat,k<=l.length/\ds=[.int .i64 (k:Int),.sl (kUs (AW l k))]
def paI1 (all:List Cu) (_ ds:List D):Prop:=∃k:Nat,k<=all.length/\ds=[.int .i64 (k:Int),.sl (kUs (ym all k))]
def paI2 (all:List Cu) (gs ds:List D):Prop:=∃j:Nat,j<=all.length/\∃m,ds=[.int .i64 (j:Int),.sl (kPs m)]/\∀c,all[gK gs]? =some c->m=wy all c (gK gs) j
theorem M9{l:List Cu}(hl:∀c∈l,Gd c)(hn:l.length<=400):qa CC 101 [.c (.sl (kUs l))] [.c (.sl (kUs (XZ l)))]:=by
 have hv:=M7 (qa CC) (paI0 l) (jn 1000000) (paI1 (l.flatMap zg)) (jn 1000000) (paI2 (l.flatMap zg)) (jn 1000000) (kUs l) (· =[.c (.sl (kUs (XZ l)))]);refine gOk Tryz.func101 hv ?_;clear hv;refine⟨⟨0,eb _,rfl⟩,?_⟩;rintro _ _ ⟨k,hk,he⟩;simp only[dA,Lv,No,and_true,true_and]at he;obtain⟨rfl,rfl⟩:=he;obtain⟨g1,g2⟩:=M8 hl k hk;refine brd (λh=>?_) (λh=>?_)
 .have a3:k<l.length:=by rw[qu]at h;simp only[T1]at h;omega
  have hx:=hl _ (bc a3);have hp:=(Ym hx).2;refine⟨xk a3,_,xh a3,_,Ta hx,⟨?_,yl _⟩,⟨k+1,a3,?_⟩,qt⟩
  .unfold Hu;rw[qu,qu];omega
  .rw[wI,Te a3,wX];rfl
 have a3:k=l.length:=by rw[qu]at h;simp only[T1]at h;omega
 rw[a3,O9]at g1 g2 ⊢;rw[WQ];generalize l.flatMap zg=all at *;clear hk a3 h k;refine⟨⟨0,eb _,rfl⟩,?_⟩;rintro _ _ ⟨k,hk,he⟩;simp only[dA,Lv,No,and_true,true_and]at he;obtain⟨rfl,rfl⟩:=he;refine brd (λh=>?_) (λh=>?_)
 .have a3:k<all.length:=by rw[qu]at h;simp only[T1]at h;omega
  have a6:all[k]? =some all[k]:=ba a3;have hc:=g1 _ (bc a3);refine⟨⟨0,eb _,[],rfl,λc _=>by rw[WP]⟩,?_⟩;rintro _ _ ⟨j,hj,m,he,hm⟩;simp only[dA,Lv,No,and_true,true_and]at he;obtain⟨rfl,rfl⟩:=he;have hm:m=wy all all[k] k j:=hm _ a6;obtain⟨c1,c2⟩:=Zn g1 hc k j;rw[<-hm]at c1 c2;refine brd (λh1=>?_) (λh1=>?_)
  .have a4:j<all.length:=by rw[qu]at h1;simp only[T1]at h1;omega
   refine brb (λh2=>?_) (λh2=>?_)
   .have a7:j≠k:=by intro e;rw[e]at h2;simp at h2
    have hd:=g1 _ (bc a4);have ml:=(O8 hc.1 hd.1).2;refine⟨jA a3,_,xh a3,jA a4,_,xh a4,_,_,R2 hc.1 hd.1 hd.cw,⟨?_,Qp _⟩,⟨j+1,a4,m++ja all[k] all[j],?_,λc hc2=>?_⟩,qt⟩
    .unfold Hu;rw[xf,xf];omega
    .rw[wI,WH];rfl
    .have a5:all[k]? =some c:=hc2;rw[a6]at a5;obtain rfl:=ew a5;show m++ja all[k] all[j]=wy all all[k] k (j+1);rw[Tb a7,<-hm];unfold Yn;rw[ba a4]
   .have a7:j=k:=by
     have:¬((j:Int) !=(k:Int))=true:=by rw[h2];simp
     simp at this;omega
    subst a7;refine⟨⟨j+1,a4,m,by rw[wI];rfl,λc hc2=>?_⟩,qt⟩;have a5:all[j]? =some c:=hc2;rw[a6]at a5;obtain rfl:=ew a5;show m=wy all all[j] j (j+1);rw[Tc,hm]
  .have a4:j=all.length:=by rw[qu]at h1;simp only[T1]at h1;omega
   obtain⟨e,a8⟩:=WK hc.1 c1 (by omega);have hpa:jy all[k] m=Zm all k:=by unfold Zm;rw[a6,hm,a4]
   rw[hpa]at a8;obtain⟨_,p1⟩:=ZU g1 k;obtain⟨_,p2⟩:=Td g1 k;have p3:=el (show k<=1200 by omega) (show 4*all.length+1<=4801 by omega);refine⟨jA a3,_,xh a3,_,_,a8,⟨?_,yl _⟩,⟨k+1,a3,?_⟩,qt⟩
   .unfold Hu;rw[qu,qu];omega
   .rw[wI,Jz,wX];rfl
 .have a3:k=all.length:=by rw[qu]at h;simp only[T1]at h;omega
  rw[a3]
end Eng
end
section
open Go Go.Proofs Eng
namespace Eng
section
variable (Gv:Nat->List A->List A->Prop)(I0:List D->List D->Prop)(M0:List D->Nat)(I1:List D->List D->Prop)(M1:List D->Nat)(I2:List D->List D->Prop)(M2:List D->Nat)(I3:List D->List D->Prop)(M3:List D->Nat)(Q:List A->Prop)
theorem Dk(l0:List (List D))(Q:List A->Prop):wpF CC Gv (Vl ⟨[.slot 4 (.int .i64 0),.own 3 47 66],[],I0,M0⟩ ⟨[.slot 6 (.int .i64 0),.slot 5 (.int .i64 0)],[.slot 4 (.int .i64 0)],I1,M1⟩) Tryz.f100 [.c (.sl l0)] Q=(I0 [] [dI (0:Int),Lm []]/\∀(i:Int) (es:List (List D)),I0 [] [dI i,Lm es]->bB (decide (i<(Ts l0.length))) (I1 [dI i] [dI (0:Int),dI (-1:Int)]/\∀(i_1 i_2:Int),I1 [dI i] [dI i_1,dI i_2]->bB (decide (i_1<(Ts es.length))) ((0<=i_1/\i_1<(Ts es.length))/\∃x,cU es i_1 0 66 (ck x [])/\rO l0 i 66/\∃x1,cU l0 i 0 66 (ck x1 [])/\∃b,Gv 159 [aC x,aC x1] [aB b]/\br b (I1 [dI i] [dI (Pl .i64 (i_1+1)),dI i_1]/\M1 [dI (Pl .i64 (i_1+1)),dI i_1]<M1 [dI i_1,dI i_2]) (I1 [dI i] [dI (Pl .i64 (i_1+1)),dI i_2]/\M1 [dI (Pl .i64 (i_1+1)),dI i_2]<M1 [dI i_1,dI i_2])) (bB (decide (i_2<0)) (rO l0 i 66/\∃x,cU l0 i 0 66 (ck x [])/\(room (es.length+1)/\lens 66 [(ck x [])])/\I0 [] [dI (Pl .i64 (i+1)),Lm (es++[(ck x [])])]/\M0 [dI (Pl .i64 (i+1)),Lm (es++[(ck x [])])]<M0 [dI i,Lm es]) ((0<=i_2/\i_2<=(Ts es.length))/\(0<=Pl .i64 (i_2+1)/\Pl .i64 (i_2+1)<=(Ts es.length)/\(Ts es.length)<=(Ts es.length))/\(room (W3 (W4 (Sz i_2) es)+W3 (W4 (Sz (Ts es.length)-Sz (Pl .i64 (i_2+1))) (aE (Sz (Pl .i64 (i_2+1))) es)))/\lens 66 (W4 (Sz (Ts es.length)-Sz (Pl .i64 (i_2+1))) (aE (Sz (Pl .i64 (i_2+1))) es)))/\I0 [] [dI (Pl .i64 (i+1)),Lm (W4 (Sz i_2) es++W4 (Sz (Ts es.length)-Sz (Pl .i64 (i_2+1))) (aE (Sz (Pl .i64 (i_2+1))) es))]/\M0 [dI (Pl .i64 (i+1)),Lm (W4 (Sz i_2) es++W4 (Sz (Ts es.length)-Sz (Pl .i64 (i_2+1))) (aE (Sz (Pl .i64 (i_2+1))) es))]<M0 [dI i,Lm es]))) (Q [aL es])):=by kernel_rfl
end
end Eng
end
section
open Go Go.Proofs Eng
namespace Eng
section
variable (Gv:Nat->List A->List A->Prop)(I0:List D->List D->Prop)(M0:List D->Nat)(I1:List D->List D->Prop)(M1:List D->Nat)(I2:List D->List D->Prop)(M2:List D->Nat)(I3:List D->List D->Prop)(M3:List D->Nat)(Q:List A->Prop)
theorem Tf(l0:List (List D))(Q:List A->Prop):wpF CC Gv (Vl ⟨[.slot 4 (.int .i64 0),.own 3 50 66],[],I0,M0⟩ ⟨[.slot 5 (.int .i64 0),.own 3 9 66],[.slot 4 (.int .i64 0)],I1,M1⟩) Tryz.f98 [.c (.sl l0)] Q=((room (0+l0.length)/\lens 66 l0)/\I0 [] [dI (0:Int),Lm l0]/\∀(i:Int) (es:List (List D)),I0 [] [dI i,Lm es]->bB (decide (i<(Ts es.length))) (I1 [dI i] [dI i,Lm es]/\∀(i_1:Int) (e1:List (List D)),I1 [dI i] [dI i_1,Lm e1]->bB (decide (i_1>0)) ((0<=i_1/\i_1<(Ts e1.length))/\∃x,cU e1 i_1 0 66 (ck x [])/\(0<=Pl .i64 (i_1-1)/\Pl .i64 (i_1-1)<(Ts e1.length))/\∃x1,cut (nth [] e1 (Sz (Pl .i64 (i_1-1)))) 0 66 (ck x1 [])/\∃i_2,Gv 157 [aC x,aC x1] [aI i_2]/\bB (decide (i_2<0)) ((0<=Pl .i64 (i_1-1)/\Pl .i64 (i_1-1)<(Ts e1.length))/\∃x,cut (nth [] e1 (Sz (Pl .i64 (i_1-1)))) 0 66 (ck x [])/\(0<=i_1/\i_1<(Ts e1.length))/\∃x2,cU e1 i_1 0 66 (ck x2 [])/\(0<=i_1/\i_1<(Ts e1.length))/\66<=66/\(0<=Pl .i64 (i_1-1)/\Pl .i64 (i_1-1)<(Ts (W3 (upd e1 (Sz i_1) (zU (nth [] e1 (Sz i_1)) 0 (ck x []))))))/\66<=66/\I1 [dI i] [dI (Pl .i64 (i_1-1)),Lm (upd (upd e1 (Sz i_1) (zU (nth [] e1 (Sz i_1)) 0 (ck x []))) (Sz (Pl .i64 (i_1-1))) (zU (nth [] (upd e1 (Sz i_1) (zU (nth [] e1 (Sz i_1)) 0 (ck x []))) (Sz (Pl .i64 (i_1-1)))) 0 (ck x2 [])))]/\M1 [dI (Pl .i64 (i_1-1)),Lm (upd (upd e1 (Sz i_1) (zU (nth [] e1 (Sz i_1)) 0 (ck x []))) (Sz (Pl .i64 (i_1-1))) (zU (nth [] (upd e1 (Sz i_1) (zU (nth [] e1 (Sz i_1)) 0 (ck x []))) (Sz (Pl .i64 (i_1-1)))) 0 (ck x2 [])))]<M1 [dI i_1,Lm e1]) (I0 [] [dI (Pl .i64 (i+1)),Lm e1]/\M0 [dI (Pl .i64 (i+1)),Lm e1]<M0 [dI i,Lm es])) (I0 [] [dI (Pl .i64 (i+1)),Lm e1]/\M0 [dI (Pl .i64 (i+1)),Lm e1]<M0 [dI i,Lm es])) (Q [aL es])):=by kernel_rfl
end
end Eng
end
section
namespace Eng
open Go Go.Proofs Rl
set_option maxRecDepth 100000
theorem GO(f:Nat->Bool):∀n, -1<=ws f n/\ws f n<(n:Int)
 |0=>by simp[ws]
 |n+1=>by have:=GO f n;unfold ws;split<;>omega
theorem v8(f:Nat->Bool)(n:Nat):ws f (n+1)=if f n=true then(n:Int)else ws f n:=rfl
theorem Yo{f:Nat->Bool}:∀{n:Nat},0<=ws f n->f (ws f n).toNat=true
 |0,h=>by simp[ws]at h
 |n+1,h=>by
  rw[v8]at h ⊢;split
  .rename_i h1;simpa using h1
  .rename_i h1;rw[if_neg h1]at h;exact Yo h
theorem MA{out:List Cu}{c x:Cu}(h:x∈wV out c):x∈out\/x=c:=by
 unfold wV at h;split at h
 .rcases bv.1 h with h|h
  .exact .inl h
  .exact .inr (bd.1 h)
 .exact .inl (List.mem_of_mem_eraseIdx h)
theorem MB(out:List Cu)(c:Cu):(wV out c).length<=out.length+1:=by
 unfold wV;split
 .simp
 .have:=List.length_eraseIdx_le out (ws (ES out c) out.length).toNat;omega
noncomputable def odO (l:List Cu) (k:Nat):List Cu:=(l.take k).foldl wV []
theorem GP(l:List Cu):odO l 0=[]:=by simp[odO]
theorem GQ{l:List Cu}{k:Nat}(h:k<l.length):odO l (k+1)=wV (odO l k) l[k]:=by
 unfold odO;rw[bb h,cb];rfl
theorem MD(l:List Cu):odO l l.length=aK l:=by unfold odO aK;rw[b4]
theorem ME(l:List Cu):∀k,k<=l.length->(odO l k).length<=k
 |0,_=>by rw[GP];simp
 |k+1,h=>by rw[GQ (by omega)];have h1:=ME l k (by omega);have h2:=MB (odO l k) l[k];omega
theorem MF(l:List Cu):∀k,k<=l.length->∀x∈odO l k,x∈l
 |0,_,x,hx=>by rw[GP]at hx;simp at hx
 |k+1,h,x,hx=>by
  rw[GQ (by omega)]at hx;rcases MA hx with hx|hx
  .exact MF l k (by omega) x hx
  .rw[hx];exact bc _
theorem OA{l:List Cu}{x:Cu}(h:x∈aK l):x∈l:=by rw[<-MD]at h;exact MF l _ (ea _) x h
theorem AX(l:List Cu):(aK l).length<=l.length:=by rw[<-MD];exact ME l _ (ea _)
def odI0 (l:List Cu) (_ ds:List D):Prop:=∃k:Nat,k<=l.length/\ds=[.int .i64 (k:Int),.sl (kUs (odO l k))]
def odI1 (l:List Cu) (gs ds:List D):Prop:=∃j:Nat,j<=(odO l (gK gs)).length/\∃z,ds=[.int .i64 (j:Int),.int .i64 z]/\∀c,l[gK gs]? =some c->z=ws (ES (odO l (gK gs)) c) j
theorem Dl{l:List Cu}(hl:∀c∈l,Gd c)(hn:l.length<=6000000):qa CC 100 [.c (.sl (kUs l))] [.c (.sl (kUs (aK l)))]:=by
 have hv:=Dk (qa CC) (odI0 l) (jn 10000000) (odI1 l) (jn 10000000) (kUs l) (· =[.c (.sl (kUs (aK l)))]);refine gOk Tryz.func100 hv ?_;clear hv;refine⟨⟨0,eb _,by rw[GP];rfl⟩,?_⟩;rintro _ _ ⟨k,hk,he⟩;simp only[dA,Lv,No,and_true,true_and]at he;obtain⟨rfl,rfl⟩:=he;have hlen:=ME l k hk;have hgd:∀x∈odO l k,Gd x:=λx hx=>hl x (MF l k hk x hx)
 refine brd (λh=>?_) (λh=>?_)
 .have a3:k<l.length:=by rw[qu]at h;simp only[T1]at h;omega
  have a6:l[k]? =some l[k]:=ba a3;have hx:=hl _ (bc a3);have next:∀a7,wV (odO l k) l[k]=a7->odI0 l [] [.int .i64 (Pl .i64 ((k:Int)+1)),.sl (kUs a7)]:=by intro a7 ho;refine⟨k+1,a3,?_⟩;rw[wI,GQ a3,ho];rfl
  refine⟨⟨0,eb _, -1,rfl,λc _=>rfl⟩,?_⟩;rintro _ z ⟨j,hj,z',he,hz⟩;simp only[dA,Lv,and_true,true_and]at he;obtain⟨rfl,rfl⟩:=he;have hz:=hz _ a6;have hj:j<=(odO l k).length:=hj;have hz:z=ws (ES (odO l k) l[k]) j:=hz;refine brd (λh1=>?_) (λh1=>?_)
  .have a4:j<(odO l k).length:=by rw[qu]at h1;simp only[T1]at h1;omega
   have a8:ES (odO l k) l[k] j=eqC (odO l k)[j] l[k]:=by unfold ES;rw[ba a4]
   refine⟨jA a4,_,xh a4,xk a3,_,xh a3,_,Mx (hgd _ (bc a4)).1 hx.1,?_⟩;refine xG (λh2=>?_) (λh2=>?_)
   .refine⟨⟨j+1,a4,_,by rw[wI];rfl,λc hc=>?_⟩,qt⟩;have hc:l[k]? =some c:=hc;rw[a6]at hc;obtain rfl:=ew hc;show(j:Int)=ws (ES (odO l k) l[k]) (j+1);rw[v8,a8,if_pos h2]
   .refine⟨⟨j+1,a4,_,by rw[wI];rfl,λc hc=>?_⟩,qt⟩;have hc:l[k]? =some c:=hc;rw[a6]at hc;obtain rfl:=ew hc;show z=ws (ES (odO l k) l[k]) (j+1);rw[v8,a8,if_neg (by rw[h2];simp),hz]
  .have a4:j=(odO l k).length:=by rw[qu]at h1;simp only[T1]at h1;omega
   rw[a4]at hz;have hb:=GO (ES (odO l k) l[k]) (odO l k).length;rw[<-hz]at hb;refine brd (λh2=>?_) (λh2=>?_)
   .refine⟨xk a3,_,xh a3,⟨by unfold Hu;rw[qu];omega,λe he=>by rw[bd.1 he];rfl⟩,?_⟩;have e1:kUs (odO l k)++[ck (kU l[k]) []]=kUs (odO l k++[l[k]]):=by rw[wX];rfl
    rw[e1];exact⟨next _ (by unfold wV;rw[<-hz,if_pos h2]),qt⟩
   .obtain⟨n,rfl⟩:∃n:Nat,z=(n:Int):=⟨z.toNat,by omega⟩;have hnl:n<(odO l k).length:=by omega
    have w1:Pl .i64 ((n:Int)+1)=((n+1:Nat):Int):=by rw[wI];rfl
    have e1:W4 (Sz (n:Int)) (kUs (odO l k))++W4 (Sz (Ts (W3 (kUs (odO l k))))-Sz (((n+1:Nat):Int))) (aE (Sz (((n+1:Nat):Int))) (kUs (odO l k)))=kUs ((odO l k).eraseIdx n):=by
     have e2:W4 (Sz (Ts (W3 (kUs (odO l k))))-Sz (((n+1:Nat):Int))) (aE (Sz (((n+1:Nat):Int))) (kUs (odO l k)))=kUs ((odO l k).drop (n+1)):=by rw[U0,Ox,b5 (by rw[qu,qu,bx];simp only[T1,U0];omega)]
     rw[e2,U0,Ow,<-wX,List.eraseIdx_eq_take_drop_succ]
    have hle:(0:Int)<=(n:Int)/\(n:Int)<=Ts (W3 (kUs (odO l k))):=by rw[qu];simp only[T1];omega
    have a5:(0:Int)<=((n+1:Nat):Int)/\((n+1:Nat):Int)<=Ts (W3 (kUs (odO l k))):=by rw[qu];simp only[T1];omega
    rw[w1,e1];refine⟨hle,⟨a5.1,a5.2,W2 _⟩,⟨?_,WI (WJ (yl _))⟩,next _ (by unfold wV;rw[<-hz,if_neg h2,U0]),qt⟩;unfold Hu;simp only[bw,bx,qu,U0,T1];omega
 .have a3:k=l.length:=by rw[qu]at h;simp only[T1]at h;omega
  rw[a3,MD]
end Eng
end
section
namespace Eng
open Go Go.Proofs Rl
set_option maxRecDepth 100000
theorem Tg:∀(ds pre cs:List D),cs.length=ds.length->zU (pre++cs) pre.length ds=pre++ds
 |[],pre,cs,h=>by have:cs=[]:=ch h;subst this;rfl
 |d::ds,pre,[],h=>by simp at h
 |d::ds,pre,c::cs,h=>by
  have e:upd (pre++c::cs) pre.length d=(pre++[d])++cs:=by rw[xx,b9 _ _ (ea _),eg];simp
  have:=Tg ds (pre++[d]) cs (by simpa using h);rw[bh]at this;rw[zU,e];simp only[bk,cv,Nat.zero_add]at this;rw[this];simp
theorem Dm(a b:C66):zU (ck a []) 0 (ck b [])=ck b []:=Tg (ck b []) [] (ck a []) rfl
theorem Do{l:List Cu}{i:Nat}(h:i<l.length)(c:Cu):upd (kUs l) i (zU (nth [] (kUs l) i) 0 (ck (kU c) []))=kUs (l.set i c):=by
 rw[ZP h,Dm,xx];unfold kUs;rw[List.map_set]
theorem OB(c:Cu):∀v:List Cu,(TR c v).length=v.length+1
 |[]=>rfl
 |q::r=>by
  unfold TR;split
  .simp only[bk,OB c r]
  .rfl
theorem OC{c x:Cu}:∀{v:List Cu},x∈TR c v->x∈v\/x=c
 |[],h=>by simp[TR]at h;exact .inr h
 |q::r,h=>by
  unfold TR at h;split at h
  .rcases be.1 h with h|h
   .exact .inl (by simp[h])
   .rcases OC h with h|h
    .exact .inl (by simp[h])
    .exact .inr h
  .rcases be.1 h with h|h
   .exact .inr h
   .exact .inl h
noncomputable def srP (l:List Cu) (k:Nat):List Cu:=(U5 (l.take k)).reverse
theorem ZV{l:List Cu}{k:Nat}(h:k<l.length):U5 (l.take (k+1))=TR l[k] (U5 (l.take k)):=by
 unfold U5;rw[bb h,cb];rfl
theorem jB(l:List Cu):∀k,k<=l.length->(srP l k).length=k
 |0,_=>by simp[srP,U5]
 |k+1,h=>by have:=jB l k (by omega);unfold srP at *;rw[List.length_reverse]at *;rw[ZV (by omega),OB,this]
theorem MG(l:List Cu):∀k,k<=l.length->∀x∈srP l k,x∈l
 |0,_,x,hx=>by simp[srP,U5]at hx
 |k+1,h,x,hx=>by
  have ih:=MG l k (by omega);unfold srP at *;rw[cL,ZV (by omega)]at hx;rcases OC hx with hx|hx
  .exact ih x (cL.2 hx)
  .rw[hx];exact bc _
theorem Dp(l:List Cu):srP l l.length=ZJ l:=by unfold srP ZJ;rw[b4]
theorem MH{l:List Cu}{x:Cu}(h:x∈ZJ l):x∈l:=by rw[<-Dp]at h;exact MG l _ (ea _) x h
noncomputable def srE (l:List Cu) (c:Cu) (k j:Nat):List Cu:=(srP l k).take j++c::((srP l k).drop j++l.drop (k+1))
def srQ (l:List Cu) (c:Cu) (k j:Nat):Prop:=j<=k/\TR c (srP l k).reverse=((srP l k).drop j).reverse++TR c ((srP l k).take j).reverse
theorem Dq{l:List Cu}{k:Nat}(h:k<l.length):srE l l[k] k k=srP l k++l.drop k:=by
 unfold srE;rw[b5 (by rw[jB l k (by omega)];omega),b6 (by rw[jB l k (by omega)];omega),dk,<-bs h]
theorem MI{l:List Cu}{c:Cu}{k j:Nat}(h:k<l.length)(hj:j<=k):(srE l c k j).length=l.length:=by
 unfold srE;have:=jB l k (by omega);simp only[bh,bw,bk,bx,this];omega
theorem mG{l:List Cu}{c:Cu}{k j:Nat}(h:k<l.length)(hj:j<=k):(srE l c k j)[j]'(by rw[MI h hj];omega)=c:=by
 unfold srE;have:=jB l k (by omega);rw[List.getElem_append_right (by rw[bw];omega)];simp only[bw,this,Nat.min_eq_left hj,eg,List.getElem_cons_zero]
theorem Dr{l:List Cu}{c:Cu}{k j:Nat}(h:k<l.length)(hj:j+1<=k):(srE l c k (j+1))[j]'(by rw[MI h hj];omega)=(srP l k)[j]'(by rw[jB l k (by omega)];omega):=by
 unfold srE;have:=jB l k (by omega);rw[List.getElem_append_left (by rw[bw];omega),List.getElem_take]
theorem AY{l:List Cu}{c:Cu}{k j:Nat}(h:k<l.length)(hj:j+1<=k):((srE l c k (j+1)).set (j+1) ((srP l k)[j]'(by rw[jB l k (by omega)];omega))).set j c=srE l c k j:=by
 have hl:=jB l k (by omega);unfold srE;have a3:j<(srP l k).length:=by omega
 have e1:(srP l k).take (j+1)=(srP l k).take j++[(srP l k)[j]]:=bb a3;have e2:(srP l k).drop j=(srP l k)[j]::(srP l k).drop (j+1):=bs a3;have lt:((srP l k).take j).length=j:=by rw[bw];omega
 rw[e1,e2,cf];rw[b9 _ _ (by omega),lt,show j+1-j=1 by omega];rw[b9 _ _ (by omega),lt,eg];rfl
theorem Ds(l:List Cu)(c:Cu){k:Nat}(h:k<=l.length):srQ l c k k:=by
 refine⟨ea _,?_⟩;rw[b6 (by rw[jB l k h];omega),b5 (by rw[jB l k h];omega)];rfl
theorem AZ{l:List Cu}{c:Cu}{k j:Nat}(h:k<=l.length)(hq:srQ l c k (j+1))(hc:Ae c ((srP l k)[j]'(by rw[jB l k h];have:=hq.1;omega))<0):srQ l c k j:=by
 have hj:=hq.1;have a3:j<(srP l k).length:=by rw[jB l k h];omega
 refine⟨by omega,?_⟩;rw[hq.2,bb a3,c7,bs a3];show _++TR c ((srP l k)[j]::((srP l k).take j).reverse)=_;rw[TR,if_pos hc,List.reverse_cons,cf];rfl
theorem Dt{l:List Cu}{k j:Nat}(h:k<l.length)(hq:srQ l l[k] k j)(hc:j=0\/∃i,∃hi:i<(srP l k).length,j=i+1/\¬Ae l[k] (srP l k)[i]<0):srE l l[k] k j=srP l (k+1)++l.drop (k+1):=by
 have e:TR l[k] ((srP l k).take j).reverse=l[k]::((srP l k).take j).reverse:=by
  rcases hc with rfl|⟨i,hi,rfl,hn⟩
  .rfl
  .rw[bb hi,c7];show TR l[k] ((srP l k)[i]::_)=_;rw[TR,if_neg hn];rfl
 have e2:srP l (k+1)=(srP l k).take j++l[k]::(srP l k).drop j:=by
  have h1:srP l (k+1)=(TR l[k] (srP l k).reverse).reverse:=by unfold srP;rw[List.reverse_reverse,ZV h]
  rw[h1,hq.2,e];simp
 rw[e2];unfold srE;simp
def srI0 (l:List Cu) (_ ds:List D):Prop:=∃k:Nat,k<=l.length/\ds=[.int .i64 (k:Int),.sl (kUs (srP l k++l.drop k))]
def srI1 (l:List Cu) (gs ds:List D):Prop:=∃j:Nat,∃E,ds=[.int .i64 (j:Int),.sl (kUs E)]/\∀c,l[gK gs]? =some c->srQ l c (gK gs) j/\E=srE l c (gK gs) j
def upto (ds:List D):Nat:=(toI (nth .undef ds 0)).toNat
theorem Du(z:Int)(t:List D):upto (.int .i64 z::t)=z.toNat:=rfl
theorem Th{l:List Cu}(hl:∀c∈l,Gd c)(hn:l.length<=6000000):qa CC 98 [.c (.sl (kUs l))] [.c (.sl (kUs (ZJ l)))]:=by
 have hv:=Tf (qa CC) (srI0 l) (jn 10000000) (srI1 l) upto (kUs l) (· =[.c (.sl (kUs (ZJ l)))]);refine gOk Tryz.func98 hv ?_;clear hv;refine⟨⟨by unfold Hu;rw[qu];omega,yl _⟩,⟨0,eb _,by simp[srP,U5]⟩,?_⟩;rintro _ _ ⟨k,hk,he⟩;simp only[dA,Lv,No,and_true,true_and]at he;obtain⟨rfl,rfl⟩:=he;have hpl:=jB l k hk;have a6:(srP l k++l.drop k).length=l.length:=by rw[bh,bx,hpl];omega
 refine brd (λh=>?_) (λh=>?_)
 .have a3:k<l.length:=by rw[qu,a6]at h;simp only[T1]at h;omega
  have a5:l[k]? =some l[k]:=ba a3;have hx:=hl _ (bc a3);have next:srI0 l [] [.int .i64 (Pl .i64 ((k:Int)+1)),.sl (kUs (srP l (k+1)++l.drop (k+1)))]:=⟨k+1,a3,by rw[wI];rfl⟩
  refine⟨⟨k,_,rfl,λc hc=>?_⟩,?_⟩
  .have hc:l[k]? =some c:=hc;rw[a5]at hc;obtain rfl:=ew hc;exact⟨Ds l _ hk,(Dq a3).symm⟩
  rintro _ _ ⟨j,E,he,hE⟩;simp only[dA,Lv,No,and_true,true_and]at he;obtain⟨rfl,rfl⟩:=he;have hE:srQ l l[k] k j/\E=srE l l[k] k j:=hE _ a5;obtain⟨hq,rfl⟩:=hE;have a4:=hq.1;have hlen:=MI (c:=l[k]) a3 a4;refine brd (λh1=>?_) (λh1=>?_)
  .obtain⟨i,rfl⟩:∃i,j=i+1:=⟨j-1,by omega⟩;have w1:Pl .i64 (((i+1:Nat):Int)-1)=(i:Int):=by rw[wI];omega
   have h2:i+1<(srE l l[k] k (i+1)).length:=by omega
   have h3:i<(srE l l[k] k (i+1)).length:=by omega
   have a7:i<(srP l k).length:=by omega
   have c2:=xh h2;have c3:=xh h3;rw[mG a3 a4]at c2;rw[Dr a3 a4]at c3;have hP:=hl _ (MG l k hk _ (bc a7));rw[w1];refine⟨jA h2,_,c2,jA h3,_,c3,_,Zi hx hP,?_⟩;refine brd (λh4=>?_) (λh4=>?_)
   .have u1:upd (kUs (srE l l[k] k (i+1))) (Sz ((i+1:Nat):Int)) (zU (nth [] (kUs (srE l l[k] k (i+1))) (Sz ((i+1:Nat):Int))) 0 (ck (kU (srP l k)[i]) []))=kUs ((srE l l[k] k (i+1)).set (i+1) (srP l k)[i]):=Do h2 _;have u2:upd (kUs ((srE l l[k] k (i+1)).set (i+1) (srP l k)[i])) (Sz (i:Int)) (zU (nth [] (kUs ((srE l l[k] k (i+1)).set (i+1) (srP l k)[i])) (Sz (i:Int))) 0 (ck (kU l[k]) []))=kUs (srE l l[k] k i):=by rw[U0,Do (by rw[dn];omega),AY a3 a4]
    refine⟨jA h3,_,c3,jA h2,_,c2,jA h2,ea _,?_,ea _,?_⟩
    .rw[u1,qu,dn];simp only[T1];omega
    .rw[u1,u2];refine⟨⟨i,_,rfl,λc hc=>?_⟩,?_⟩
     .have hc:l[k]? =some c:=hc;rw[a5]at hc;obtain rfl:=ew hc;exact⟨AZ hk hq h4,rfl⟩
     .rw[Du,Du];omega
   .rw[Dt a3 hq (.inr ⟨i,a7,rfl,h4⟩)];exact⟨next,qt⟩
  .rw[Dt a3 hq (.inl (by omega))];exact⟨next,qt⟩
 .have a3:k=l.length:=by rw[qu,a6]at h;simp only[T1]at h;omega
  rw[a3,b6 (ea _),dv,Dp]
end Eng
end
section
namespace Eng
open Go Go.Proofs Rl
set_option maxRecDepth 100000
theorem mH(x:C66):cut (ck x []) 26 20 (pk (Hy x) []):=⟨rfl,by show 26+20<=66;omega⟩
theorem mI(x:C66):cut (ck x []) 46 20 (pk (J5 x) []):=⟨rfl,by show 46+20<=66;omega⟩
theorem MJ{l:List Cu}{k:Nat}(h:k<l.length):cut (nth [] (kUs l) (Sz (k:Int))) 26 20 (pk (kP l[k].fr) []):=by
 rw[U0,ZP h,<-jH];exact mH _
theorem Xf{l:List Cu}{k:Nat}(h:k<l.length):cut (nth [] (kUs l) (Sz (k:Int))) 46 20 (pk (kP l[k].tt) []):=by
 rw[U0,ZP h,<-kH];exact mI _
theorem MK(l:List Cu)(p:P5):∀j,NU l p j<=2*j
 |0=>by simp[NU]
 |j+1=>by
  have:=MK l p j;unfold NU;split
  .split<;>split<;>simp<;>omega
  .omega
theorem Ti{l:List Cu}(p:P5){j:Nat}(h:j<l.length):NU l p (j+1)=NU l p j+((if wU l[j].fr p=true then 1 else 0)+(if wU l[j].tt p=true then 1 else 0)):=by
 show NU l p j+_=_;rw[ba h]
theorem R3{n:Nat}(h:n<=100000000):Pl .i64 ((n:Int)+1)=((n+1:Nat):Int):=by rw[wI];rfl
noncomputable def iA (l:List Cu) (c:Cu):Bool:=decide (wD l c.fr%2=1)||decide (wD l c.tt%2=1)
theorem Ia(l:List Cu):Cb l=l.any (iA l):=rfl
def WR (c:Cu) (j:Nat):P5:=if j=0 then c.fr else c.tt
def opI0 (l:List Cu) (_ ds:List D):Prop:=∃k:Nat,k<=l.length/\ds=[.int .i64 (k:Int)]/\(l.take k).any (iA l)=false
def opI1 (l:List Cu) (gs ds:List D):Prop:=∃j:Nat,j<=2/\ds=[.int .i64 (j:Int)]/\∀c,l[gK gs]? =some c->∀i,i<j->¬wD l (WR c i)%2=1
def gK2 (gs:List D):Nat:=(toI (nth .undef gs 1)).toNat
def opI2 (l:List Cu) (gs ds:List D):Prop:=∃m:Nat,m<=l.length/\∃n:Nat,ds=[.int .i64 (m:Int),.int .i64 (n:Int)]/\∀c,l[gK gs]? =some c->n=NU l (WR c (gK2 gs)) m
theorem GR{α:Type}{f:α->Bool}{l:List α}{k:Nat}(h:(l.take k).any f=false)(hk:k<l.length)(hf:f l[k]=false):(l.take (k+1)).any f=false:=by
 rw[bb hk,List.any_append,h,Bool.false_or];simp[hf]
theorem R5{l:List Cu}(hl:∀c∈l,Gc c)(hn:l.length<=6000000):qa CC 97 [.c (.sl (kUs l))] [.c (.bool (Cb l))]:=by
 have hv:=Ry (qa CC) (opI0 l) (jn 10000000) (opI1 l) (jn 10) (opI2 l) (jn 10000000) (kUs l) (· =[.c (.bool (Cb l))]);refine gOk Tryz.func97 hv ?_;clear hv;rw[Ia];refine⟨⟨0,eb _,rfl,rfl⟩,?_⟩;rintro _ ⟨k,hk,he,a9⟩;simp only[dA,Lv,and_true,true_and]at he;subst he;refine brd (λh=>?_) (λh=>?_)
 .have a3:k<l.length:=by rw[qu]at h;simp only[T1]at h;omega
  have al:l[k]? =some l[k]:=ba a3;have hx:=hl _ (bc a3);refine⟨xk a3,_,MJ a3,xk a3,_,Xf a3,⟨0,by omega,rfl,λc _ i hi=>by omega⟩,?_⟩;have ag:[pk (kP l[k].fr) [],pk (kP l[k].tt) []]=kPs [l[k].fr,l[k].tt]:=rfl;rw[ag];rintro _ ⟨j,hj,he,a5⟩;simp only[dA,Lv,and_true,true_and]at he;subst he;have a5:∀i,i<j->¬wD l (WR l[k] i)%2=1:=a5 _ al;refine brd (λh1=>?_) (λh1=>?_)
  .have b1:j<[l[k].fr,l[k].tt].length:=by simp only[bk,cv];omega
   have ap:[l[k].fr,l[k].tt][j]=WR l[k] j:=by
    have:j=0\/j=1:=by omega
    rcases this with rfl|rfl<;>rfl
   have a8:Gp (WR l[k] j):=by
    unfold WR;split
    .exact hx.2.1
    .exact hx.2.2
   have a6:=zh b1;rw[ap]at a6;have an:(0:Int)<=(j:Int)/\(j:Int)<2:=by omega
   refine⟨⟨0,eb _,0,rfl,λc _=>rfl⟩,?_⟩;rintro _ _ ⟨m,hm,n,he,ad⟩;simp only[dA,Lv,and_true,true_and]at he;obtain⟨rfl,rfl⟩:=he;have ad:n=NU l (WR l[k] j) m:=ad _ al;have hnb:=MK l (WR l[k] j) m;rw[<-ad]at hnb;refine brd (λh2=>?_) (λh2=>?_)
   .have a4:m<l.length:=by rw[qu]at h2;simp only[T1]at h2;omega
    have b2:=hl _ (bc a4);have cs:=Ti (WR l[k] j) a4;rw[<-ad]at cs;have nx:∀z:Nat,z=NU l (WR l[k] j) (m+1)->opI2 l [.int .i64 (k:Int),.int .i64 (j:Int)] [.int .i64 (Pl .i64 ((m:Int)+1)),.int .i64 (z:Int)]:=by intro z hz;refine⟨m+1,a4,z,by rw[wI];rfl,λc hc=>?_⟩;have hc:l[k]? =some c:=hc;rw[al]at hc;obtain rfl:=ew hc;exact hz
    refine⟨xk a4,_,MJ a4,an,_,a6,_,v6 b2.2.1 a8,?_⟩;refine xG (λh3=>?_) (λh3=>?_)
    .refine⟨xk a4,_,Xf a4,an,_,a6,_,v6 b2.2.2 a8,?_⟩;rw[R3 (show n<=100000000 by omega),R3 (show n+1<=100000000 by omega)];refine xG (λh4=>?_) (λh4=>?_)
     .exact⟨nx _ (by rw[cs,if_pos h3,if_pos h4]),qt⟩
     .exact⟨nx _ (by rw[cs,if_pos h3,if_neg (by rw[h4];simp)]),qt⟩
    .refine⟨xk a4,_,Xf a4,an,_,a6,_,v6 b2.2.2 a8,?_⟩;rw[R3 (show n<=100000000 by omega)];refine xG (λh4=>?_) (λh4=>?_)
     .exact⟨nx _ (by rw[cs,if_neg (by rw[h3];simp),if_pos h4]),qt⟩
     .exact⟨nx _ (by rw[cs,if_neg (by rw[h3];simp),if_neg (by rw[h4];simp)];omega),qt⟩
   .have a4:m=l.length:=by rw[qu]at h2;simp only[T1]at h2;omega
    have a7:n=wD l (WR l[k] j):=by rw[ad,a4];rfl
    refine⟨by omega,?_⟩;have tm:Int.tmod (n:Int) 2=((n%2:Nat):Int):=rfl;rw[tm];refine brb (λh3=>?_) (λh3=>?_)
    .have h4:n%2=1:=by simp only[beq_iff_eq]at h3;omega
     have:l.any (iA l)=true:=by
      rw[List.any_eq_true];refine⟨l[k],bc a3,?_⟩;unfold iA;rw[a7]at h4;have:j=0\/j=1:=by omega
      rcases this with rfl|rfl
      .rw[decide_eq_true (show wD l l[k].fr%2=1 from h4)];rfl
      .rw[decide_eq_true (show wD l l[k].tt%2=1 from h4),Bool.or_true]
     rw[this]
    .have h4:¬n%2=1:=by simp only[beq_eq_false_iff_ne,ne_eq]at h3;omega
     refine⟨⟨j+1,by omega,by rw[wI];rfl,λc hc i hi=>?_⟩,qt⟩;have hc:l[k]? =some c:=hc;rw[al]at hc;obtain rfl:=ew hc;by_cases hij:i=j
     .rw[hij,<-a7];exact h4
     .exact a5 i (by omega)
  .have b1:j=2:=by omega
   subst b1;have o1:=a5 0 (by omega);have o2:=a5 1 (by omega);have hf:iA l l[k]=false:=by unfold iA;rw[decide_eq_false (show ¬wD l l[k].fr%2=1 from o1),decide_eq_false (show ¬wD l l[k].tt%2=1 from o2)];rfl
   exact⟨⟨k+1,a3,by rw[wI];rfl,GR a9 a3 hf⟩,qt⟩
 .have a3:k=l.length:=by rw[qu]at h;simp only[T1]at h;omega
  rw[a3,b4]at a9;rw[a9]
end Eng
end
section
open Go Go.Proofs Eng
namespace Eng
section
variable (Gv:Nat->List A->List A->Prop)(I0:List D->List D->Prop)(M0:List D->Nat)(I1:List D->List D->Prop)(M1:List D->Nat)(I2:List D->List D->Prop)(M2:List D->Nat)(I3:List D->List D->Prop)(M3:List D->Nat)(Q:List A->Prop)
theorem Dv(z0:Bool)(l0:List (List D))(Q:List A->Prop):wpF CC Gv (λ_=>⟨[.slot 3 (.int .i64 0)],[],I0,M0⟩) Tryz.f87 [.ag [.bool z0,.sl l0]] Q=(I0 [] [dI (0:Int)]/\∀(i:Int),I0 [] [dI i]->bB (decide (i<(Ts l0.length))) ((0<=i/\i<(Ts l0.length)/\W3 (nth [] l0 (Sz i))=1)/\∃i_1,cut (nth [] l0 (Sz i)) 0 1 [Ls .u32 i_1]/\bB (decide (i_1>=1000000000)) (Q [aB false]) (I0 [] [dI (Pl .i64 (i+1))]/\M0 [dI (Pl .i64 (i+1))]<M0 [dI i])) (∃es,Gv 115 [aL l0] [aL es]/\bB ((Ts es.length)==(Ts l0.length)) (bB (!z0) (Q [aB true]) (Q [aB (decide ((Ts l0.length)>0))])) (Q [aB false]))):=by kernel_rfl
end
end Eng
end
section
namespace Eng
open Go Go.Proofs Rl
set_option maxRecDepth 100000
theorem GS{l:List Nat}{k:Nat}(h:k<l.length):nth [] (raw l) k=[Ls .u32 (l[k]:Int)]:=by
 rw[qF];unfold raw;simp[h]
theorem WS{z:Int}(hz:Sm z):qa CC 87 [qM z] [.c (.bool true)]:=by
 have a4:=qe z.natAbs;have hv:=Dv (qa CC) (λ_ ds=>∃k:Nat,k<=(lim z.natAbs).length/\ds=[.int .i64 (k:Int)]) (jn 10000000) (decide (z<0)) (raw (lim z.natAbs)) (· =[.c (.bool true)]);rw[xn];refine gOk Tryz.func87 hv ?_;clear hv;have hlen:=hz.len;rw[Wz];refine⟨⟨0,eb _,rfl⟩,?_⟩;rintro _ ⟨k,hk,he⟩;simp only[dA,Lv,and_true,true_and]at he;subst he;refine brd (λh=>?_) (λh=>?_)
 .have a3:k<(lim z.natAbs).length:=by simp only[T1]at h;omega
  have h9:=a4.get a3;rw[U0,GS a3];refine⟨⟨by omega,by simp only[T1];omega,rfl⟩,_,⟨rfl,by simp⟩,brd (λh2=>?_) (λh2=>?_)⟩
  .omega
  .exact⟨⟨k+1,a3,by rw[wI];rfl⟩,qt⟩
 .have ht:=kE a4 (by omega);rw[qh]at ht;refine⟨_,ht,?_⟩;rw[Wz];refine brb (λ_=>?_) (λh2=>by simp at h2);refine brb (λ_=>rfl) (λh3=>?_);have hn:z<0:=by simpa using h3
  have:0<(lim z.natAbs).length:=qB.2 (by omega);rw[decide_eq_true (by simp only[T1];omega)]
theorem xl{x:Rat}{k:Nat}(hx:Hz k x)(hk:k<360000:=by omega):qa CC 38 [.ag (rk (q4 x) [])] [.c (.bool true)]:=by
 refine wpG Tryz.func38 ((Jy ..).mpr ?_);have hs:=hx.sr hk;have h1:=WS hs.1.sm;have h2:=WS hs.2.sm;have h3:=Ql (x.den:Int);have h4:=LN jT hs.1.sm hs.2.sm;have h5:=Gn;have hg:Nat.gcd x.num.natAbs (x.den:Int).natAbs=1:=by rw[W0];exact x.reduced
 have h6:=Ok (x:=1) (y:=1) (jj (n:=1) (ec (by omega) (by omega))) (jj (n:=1) (ec (by omega) (by omega)));have hd:=x.den_pos;have h7:sgn (x.den:Int)=1:=by unfold sgn;rw[if_neg (by omega),if_pos (by omega)]
 rw[hg]at h4;rw[h7]at h3;exact⟨_,h1,brb (λh=>by cases h) (λ_=>⟨_,h2,brb (λh=>by cases h) (λ_=>⟨_,h3,brb (λh=>by cases h) (λ_=>⟨_,_,h4,_,_,h5,_,h6,rfl⟩)⟩)⟩)⟩
theorem Yp{p:P5}(hp:Gp p):qa CC 152 [.ag (pk (kP p) [])] [.c (.bool true)]:=by
 refine wpG Tryz.func152 ((PZ ..).mpr ?_);obtain⟨⟨h1,h2,h3,h4,h5⟩,ho⟩:=hp;refine⟨_,xl h1,brb (λh=>by cases h) (λ_=>⟨_,xl h3,brb (λh=>by cases h) (λ_=>⟨_,xl h2,brb (λh=>by cases h) (λ_=>⟨_,xl h4,brb (λh=>by cases h) (λ_=>⟨_,xl h5,brb (λh=>by cases h) (λ_=>?_)⟩)⟩)⟩)⟩)⟩;have sq:(¬(p.u=0/\p.v=0))->∃x b,qa CC 218 [Hv (rk (P20.c (kP p)) [])] [Hv (rk x []),Hx (Lr b)]/\∃i,qa CC 36 [Hv (rk (P20.c (kP p)) [])] [Hx (Ls P1 i)]/\
  br (toB (Lr (decide (i>(0:Int))))) ([Hx (Lr !b)]=[.c (.bool true)]) ([Hx (Lr false)]=[.c (.bool true)]):=by
  intro a3;rcases ho with⟨a,b,_⟩|⟨_,hc,hn⟩
  .exact absurd ⟨a,b⟩ a3
  .refine⟨_,_,Xb h5 (Rat.le_of_lt hc) hn,_,z8 _,?_⟩;exact brd (λ_=>rfl) (λh=>absurd (Yd.2 hc) h)
 refine⟨_,z8 _,?_⟩;rw[Xp];refine brd (λhu=>⟨_,z8 _,?_⟩) (λhu=>sq (λk=>hu k.1));rw[Xp];refine brd (λhv=>⟨_,z8 _,?_⟩) (λhv=>sq (λk=>hv k.2));rw[Xp];have:p.c=0:=by
  rcases ho with⟨_,_,c⟩|⟨a3,_⟩
  .exact c
  .exact absurd ⟨hu,hv⟩ a3
 rw[decide_eq_true this]
theorem R6{l:Ln}(hl:HL l)(h:okLn l):qa CC 154 [.ag (kL l [])] [.c (.bool true)]:=by
 refine wpG Tryz.func154 ((Re ..).mpr ?_);refine⟨_,xl hl.1,xG (λ_=>⟨_,xl hl.2.1,xG (λ_=>⟨_,xl hl.2.2,xG (λ_=>⟨_,z8 _,?_⟩) (λh=>by cases h)⟩) (λh=>by cases h)⟩) (λh=>by cases h)⟩;rw[bne,Xp];refine brb (λ_=>rfl) (λh1=>⟨_,z8 _,?_⟩);have ha:l.a=0:=by simpa using h1
 rw[bne,Xp,decide_eq_false (λhb=>h ⟨ha,hb⟩)];rfl
theorem Tj{c:Ci}(hc:HC c)(h:0<c.q):qa CC 153 [.ag (kC c [])] [.c (.bool true)]:=by
 refine wpG Tryz.func153 ((UD ..).mpr ?_);refine⟨_,xl hc.1,xG (λ_=>⟨_,xl hc.2.1,xG (λ_=>⟨_,xl hc.2.2,xG (λ_=>⟨_,z8 _,?_⟩) (λh=>by cases h)⟩) (λh=>by cases h)⟩) (λh=>by cases h)⟩;rw[decide_eq_true (Yd.2 h)]
theorem ML{c:Cu}(hc:Gc c):qa CC 96 [.ag (ck (kU c) [])] [.c (.bool (Vm c))]:=by
 refine wpG Tryz.func96 ((Mk ..).mpr ?_);have v1:=Yp hc.2.1;have v2:=Yp hc.2.2;have s1:=yi hc.1 hc.2.1;have s2:=yi hc.1 hc.2.2;have e1:=v6 hc.2.1 hc.2.2;rw[<-jH]at v1;rw[<-kH]at v2;have a4:∀a7:Bool,a7=true->Vm c=(a7&&(Z0 c c.fr&&(Z0 c c.tt&&!wU c.fr c.tt)))->∃b,qa CC 155 [Hv (ck (kU c) []),Hv (pk (Hy (kU c)) [])] [Hx (Lr b)]/\
  br b (∃b,qa CC 155 [Hv (ck (kU c) []),Hv (pk (J5 (kU c)) [])] [Hx (Lr b)]/\br b (∃b,qa CC 156 [Hv (pk (Hy (kU c)) []),Hv (pk (J5 (kU c)) [])] [Hx (Lr b)]/\[Hx (Lr !b)]=[.c (.bool (Vm c))]) ([Hx (Lr false)]=[.c (.bool (Vm c))])) ([Hx (Lr false)]=[.c (.bool (Vm c))]):=by
  intro a7 hp he;rw[jH,kH,he,hp,Dd];refine⟨_,s1,xG (λh=>?_) (λh=>?_)⟩
  .rw[h,Dd];refine⟨_,s2,xG (λh=>?_) (λh=>?_)⟩
   .rw[h,Dd];exact⟨_,e1,rfl⟩
   .rw[h];rfl
  .rw[h];rfl
 refine⟨_,v1,brb (λh=>by cases h) (λ_=>⟨_,v2,brb (λh=>by cases h) (λ_=>?_)⟩)⟩;rw[vz,V3];rcases hc.1.2 with⟨ha,hC,hq⟩|⟨ha,hL,a8⟩
 .have t1:=a4 (decide (0<c.ci.q)) (decide_eq_true hq) (by unfold Vm;rw[if_pos ha]);have a5:J3 (kU c)=q4 c.ci.x/\HZ (kU c)=q4 c.ci.y/\J4 (kU c)=q4 c.ci.q:=by unfold kU;rw[ha];exact⟨rfl,rfl,rfl⟩
  rw[ha,a5.1,a5.2.1,a5.2.2];refine brb (λ_=>⟨_,Tj hC hq,brb (λh=>by cases h) (λ_=>brb (λh=>by cases h) (λ_=>t1))⟩) (λh=>by cases h)
 .have a6:J9 (kU c)=q4 c.ln.a/\J8 (kU c)=q4 c.ln.b/\J7 (kU c)=q4 c.ln.c:=by unfold kU;rw[ha];exact⟨rfl,rfl,rfl⟩
  have a3:Vm c=((!c.cw&&decide (¬(c.ln.a=0/\c.ln.b=0)))&&(Z0 c c.fr&&(Z0 c c.tt&&!wU c.fr c.tt))):=by unfold Vm;rw[if_neg (by rw[ha];simp)]
  rw[ha,a6.1,a6.2.1,a6.2.2];refine brb (λh=>by cases h) (λ_=>brb (λ_=>?_) (λh=>by cases h));refine brb (λh=>?_) (λh=>?_)
  .have h:c.cw=true:=h;rw[a3,h];rfl
  .have h:c.cw=false:=h;have t1:=a4 (!c.cw&&decide (¬(c.ln.a=0/\c.ln.b=0))) (by rw[h,decide_eq_true (show ¬(c.ln.a=0/\c.ln.b=0)from a8)];rfl) a3;exact⟨_,R6 hL a8,brb (λh=>by cases h) (λ_=>t1)⟩
end Eng
end
section
open Go Go.Proofs Eng
namespace Eng
section
variable (Gv:Nat->List A->List A->Prop)(I0:List D->List D->Prop)(M0:List D->Nat)(I1:List D->List D->Prop)(M1:List D->Nat)(I2:List D->List D->Prop)(M2:List D->Nat)(I3:List D->List D->Prop)(M3:List D->Nat)(Q:List A->Prop)
theorem Tk(r0:R4)(r1:R4)(r2:R4)(r3:R4)(Q:List A->Prop):wpF CC Gv (λ_=>⟨[.slot 15 (.int .i64 0)],[],I0,M0⟩) Tryz.f28 [.ag (rk r0 (rk r1 (rk r2 (rk r3 []))))] Q=(I0 [] [dI (0:Int)]/\∀(i:Int),I0 [] [dI i]->bB (decide (i<4)) ((0<=i/\i<4)/\∃x,cut (nth [] [(rk r0 []),(rk r1 []),(rk r2 []),(rk r3 [])] (Sz i)) 0 4 (rk x [])/\∃b,Gv 47 [aR x] [aB b]/\bB (!b) (Q [aB false]) (I0 [] [dI (Pl .i64 (i+1))]/\M0 [dI (Pl .i64 (i+1))]<M0 [dI i])) (∃i,Gv 65 [aR r0,aR r2] [aI i]/\bB (decide (i<0)) (∃i,Gv 65 [aR r1,aR r3] [aI i]/\Q [aB (decide (i<0))]) (Q [aB false]))):=by kernel_rfl
theorem J0(r0:R4)(r1:R4):wpF CC Gv an0 Tryz.f30 [.ag (rk r0 (rk r1 []))] Q=(∃b,Gv 47 [aR r0] [aB b]/\br b (∃b,Gv 47 [aR r1] [aB b]/\Q [aB b]) (Q [aB false])):=by kernel_rfl
theorem R7(r0:R4)(r1:R4)(r2:R4):wpF CC Gv an0 Tryz.f35 [.ag (rk r0 (rk r1 [])),.ag (rk r2 [])] Q=(∃x,Gv 80 [aR r0,aR r2] [aR x]/\∃x1,Gv 80 [aR r1,aR r2] [aR x1]/\∃x2,Gv 81 [aR r0,aR r2] [aR x2]/\∃x3,Gv 81 [aR r1,aR r2] [aR x3]/\Q [Hv (rk x (rk x1 (rk x2 (rk x3 []))))]):=by kernel_rfl
theorem MM(r0:R4)(r1:R4)(r2:R4):wpF CC Gv an0 Tryz.f66 [.ag (rk r0 []),.ag (rk r1 []),.ag (rk r2 [])] Q=(∃i,Gv 65 [aR r0,aR r1] [aI i]/\bB (decide (i<0)) (Q [aR r1]) (∃i,Gv 65 [aR r0,aR r2] [aI i]/\bB (decide (i>0)) (Q [aR r2]) (Q [aR r0]))):=by kernel_rfl
theorem Ib(r0:R4)(r1:R4)(r2:R4)(r3:R4):wpF CC Gv an0 Tryz.f67 [.ag (rk r0 (rk r1 [])),.ag (rk r2 (rk r3 []))] Q=(∃x,Gv 80 [aR r0,aR r2] [aR x]/\∃x1,Gv 68 [aR x] [aR x1]/\∃x,Gv 80 [aR r1,aR r3] [aR x]/\∃x2,Gv 68 [aR x] [aR x2]/\∃x,Gv 81 [aR x1,aR x2] [aR x]/\Q [aR x]):=by kernel_rfl
theorem R8(r0:R4):wpF CC Gv an0 Tryz.f68 [.ag (rk r0 [])] Q=(∃x,Gv 121 [aR r0,aR r0] [aR x]/\Q [aR x]):=by kernel_rfl
theorem fB(r0:R4)(r1:R4)(r2:R4)(r3:R4)(r4:R4)(r5:R4)(r6:R4):wpF CC Gv an0 Tryz.f29 [.ag (rk r0 (rk r1 (rk r2 (rk r3 [])))),.ag (rk r4 (rk r5 [])),.ag (rk r6 [])] Q=(∃b,Gv 28 [Hv (rk r0 (rk r1 (rk r2 (rk r3 []))))] [aB b]/\bB (!b) (Q [aB false]) (∃i,Gv 27 [aR r6] [aI i]/\bB (decide (i<0)) (Q [aB false]) (∃x,Gv 66 [aR r4,aR r0,aR r2] [aR x]/\∃x1,Gv 66 [aR r5,aR r1,aR r3] [aR x1]/\∃x2,Gv 67 [aV r4 r5,aV x x1] [aR x2]/\∃x,Gv 68 [aR r6] [aR x]/\∃i,Gv 65 [aR x2,aR x] [aI i]/\Q [aB (decide (i>0))]))):=by kernel_rfl
theorem Ic(r0:R4)(r1:R4)(r2:R4)(r3:R4)(r4:R4)(r5:R4)(r6:R4)(Q:List A->Prop):wpF CC Gv (Vl ⟨[.slot 25 (.int .i64 0)],[],I0,M0⟩ ⟨[.slot 35 (.int .i64 0)],[.slot 25 (.int .i64 0)],I1,M1⟩) Tryz.f33 [.ag (rk r0 (rk r1 (rk r2 (rk r3 [])))),.ag (rk r4 (rk r5 [])),.ag (rk r6 [])] Q=(∃b,Gv 28 [Hv (rk r0 (rk r1 (rk r2 (rk r3 []))))] [aB b]/\bB (!b) (Q [aB false]) (∃i,Gv 27 [aR r6] [aI i]/\bB (decide (i<0)) (Q [aB false]) (I0 [] [dI (0:Int)]/\∀(i:Int),I0 [] [dI i]->bB (decide (i<2)) ((0<=i/\i<2)/\∃x,cut (nth [] [(rk r0 []),(rk r2 [])] (Sz i)) 0 4 (rk x [])/\I1 [dI i] [dI (0:Int)]/\∀(i_1:Int),I1 [dI i] [dI i_1]->bB (decide (i_1<2)) ((0<=i_1/\i_1<2)/\∃x1,cut (nth [] [(rk r1 []),(rk r3 [])] (Sz i_1)) 0 4 (rk x1 [])/\∃x2,Gv 67 [aV r4 r5,aV x x1] [aR x2]/\∃x,Gv 68 [aR r6] [aR x]/\∃i_2,Gv 65 [aR x2,aR x] [aI i_2]/\bB (decide (i_2>=0)) (Q [aB false]) (I1 [dI i] [dI (Pl .i64 (i_1+1))]/\M1 [dI (Pl .i64 (i_1+1))]<M1 [dI i_1])) (I0 [] [dI (Pl .i64 (i+1))]/\M0 [dI (Pl .i64 (i+1))]<M0 [dI i])) (Q [aB true])))):=by kernel_rfl
theorem MN(r0:R4)(r1:R4)(r2:R4)(r3:R4):wpF CC Gv an0 Tryz.f142 [.ag (rk r0 (rk r1 (rk r2 (rk r3 []))))] Q=(∃b,Gv 38 [aR r0] [aB b]/\br b (∃b,Gv 38 [aR r1] [aB b]/\br b (∃b,Gv 38 [aR r2] [aB b]/\br b (∃b,Gv 38 [aR r3] [aB b]/\Q [aB b]) (Q [aB false])) (Q [aB false])) (Q [aB false])):=by kernel_rfl
theorem Dw(r0:R4)(r1:R4)(r2:R4)(r3:R4):wpF CC Gv an0 Tryz.f82 [.ag (rk r0 (rk r1 (rk r2 (rk r3 []))))] Q=(∃b,Gv 142 [Hv (rk r0 (rk r1 (rk r2 (rk r3 []))))] [aB b]/\br b (∃i,Gv 85 [aR r0,aR r2] [aI i]/\bB (decide (i<0)) (∃i,Gv 85 [aR r1,aR r3] [aI i]/\Q [aB (decide (i<0))]) (Q [aB false])) (Q [aB false])):=by kernel_rfl
theorem R9(r0:R4)(r1:R4):wpF CC Gv an0 Tryz.f83 [.ag (rk r0 []),.ag (rk r1 [])] Q=(∃x,Gv 55 [aR r0,aR r1] [aR x]/\∃x1,Gv 86 [aR x] [aR x1]/\Q [aR x1]):=by kernel_rfl
theorem Dx(r0:R4)(r1:R4)(r2:R4):wpF CC Gv an0 Tryz.f84 [.ag (rk r0 []),.ag (rk r1 []),.ag (rk r2 [])] Q=(∃i,Gv 85 [aR r0,aR r1] [aI i]/\bB (decide (i<0)) (Q [aR r1]) (∃i,Gv 85 [aR r0,aR r2] [aI i]/\bB (decide (i>0)) (Q [aR r2]) (Q [aR r0]))):=by kernel_rfl
theorem fC(r0:R4)(r1:R4):wpF CC Gv an0 Tryz.f89 [.ag (rk r0 []),.ag (rk r1 [])] Q=(∃i,Gv 85 [aR r0,aR r1] [aI i]/\bB (decide (i<0)) (Q [aR r1]) (Q [aR r0])):=by kernel_rfl
theorem RA(r0:R4):wpF CC Gv an0 Tryz.f86 [.ag (rk r0 [])] Q=(∃x,Gv 114 [aR r0,aR r0] [aR x]/\Q [aR x]):=by kernel_rfl
theorem fD(r0:R4)(r1:R4)(r2:R4)(r3:R4)(r4:R4)(r5:R4)(r6:R4):wpF CC Gv an0 Tryz.f37 [.ag (rk r0 (rk r1 (rk r2 (rk r3 [])))),.ag (rk r4 (rk r5 [])),.ag (rk r6 [])] Q=(∃b,Gv 82 [Hv (rk r0 (rk r1 (rk r2 (rk r3 []))))] [aB b]/\bB (!b) (Q [aB false]) (∃i,Gv 36 [aR r6] [aI i]/\bB (decide (i<0)) (Q [aB false]) (∃x,Gv 84 [aR r4,aR r0,aR r2] [aR x]/\∃x1,Gv 83 [aR x,aR r4] [aR x1]/\∃x,Gv 84 [aR r5,aR r1,aR r3] [aR x]/\∃x2,Gv 83 [aR x,aR r5] [aR x2]/\∃x,Gv 8 [aR x1,aR x2] [aR x]/\∃x3,Gv 86 [aR r6] [aR x3]/\∃i,Gv 85 [aR x,aR x3] [aI i]/\Q [aB (decide (i>0))]))):=by kernel_rfl
theorem Id(r0:R4)(r1:R4)(r2:R4)(r3:R4)(r4:R4)(r5:R4)(r6:R4):wpF CC Gv an0 Tryz.f39 [.ag (rk r0 (rk r1 (rk r2 (rk r3 [])))),.ag (rk r4 (rk r5 [])),.ag (rk r6 [])] Q=(∃b,Gv 82 [Hv (rk r0 (rk r1 (rk r2 (rk r3 []))))] [aB b]/\bB (!b) (Q [aB false]) (∃i,Gv 36 [aR r6] [aI i]/\bB (decide (i<0)) (Q [aB false]) (∃x,Gv 83 [aR r0,aR r4] [aR x]/\∃x1,Gv 83 [aR r2,aR r4] [aR x1]/\∃x2,Gv 89 [aR x,aR x1] [aR x2]/\∃x,Gv 83 [aR r1,aR r5] [aR x]/\∃x3,Gv 83 [aR r3,aR r5] [aR x3]/\∃x4,Gv 89 [aR x,aR x3] [aR x4]/\∃x,Gv 8 [aR x2,aR x4] [aR x]/\∃x5,Gv 86 [aR r6] [aR x5]/\∃i,Gv 85 [aR x,aR x5] [aI i]/\Q [aB (decide (i<0))]))):=by kernel_rfl
theorem RB(r0:R4)(r1:R4):wpF CC Gv an0 Tryz.f93 [.ag (rk r0 []),.ag (rk r1 [])] Q=(∃x,Gv 8 [aR r0,aR r1] [aR x]/\∃x1,Gv 14 [aI (1:Int),aI (2:Int)] [aR x1]/\∃x2,Gv 114 [aR x,aR x1] [aR x2]/\Q [aR x2]):=by kernel_rfl
theorem MO(r0:R4)(r1:R4)(r2:R4)(r3:R4):wpF CC Gv an0 Tryz.f54 [.ag (rk r0 (rk r1 (rk r2 (rk r3 []))))] Q=(∃b,Gv 82 [Hv (rk r0 (rk r1 (rk r2 (rk r3 []))))] [aB b]/\bB (!b) (Q [aL []]) (∃x,Gv 93 [aR r0,aR r2] [aR x]/\∃x1,Gv 93 [aR r1,aR r3] [aR x1]/\Q [aL [(rk r0 (rk r1 (rk x (rk x1 [])))),(rk x (rk r1 (rk r2 (rk x1 [])))),(rk r0 (rk x1 (rk x (rk r3 [])))),(rk x (rk x1 (rk r2 (rk r3 []))))]])):=by kernel_rfl
theorem RC(r0:R4)(r1:R4)(r2:R4):wpF CC Gv an0 Tryz.f22 [.ag (rk r0 (rk r1 [])),.ag (rk r2 [])] Q=(∃x,Gv 55 [aR r0,aR r2] [aR x]/\∃x1,Gv 55 [aR r1,aR r2] [aR x1]/\∃x2,Gv 8 [aR r0,aR r2] [aR x2]/\∃x3,Gv 8 [aR r1,aR r2] [aR x3]/\Q [Hv (rk x (rk x1 (rk x2 (rk x3 []))))]):=by kernel_rfl
theorem fF(r0:R4)(r1:R4)(r2:R4)(r3:R4)(r4:R4)(r5:R4):wpF CC Gv an0 Tryz.f94 [.ag (rk r0 (rk r1 (rk r2 (rk r3 [])))),.ag (rk r4 []),.ag (rk r5 [])] Q=(∃i,Gv 85 [aR r0,aR r4] [aI i]/\bB (decide (i<=0)) (∃i,Gv 85 [aR r4,aR r2] [aI i]/\bB (decide (i<=0)) (∃i,Gv 85 [aR r1,aR r5] [aI i]/\bB (decide (i<=0)) (∃i,Gv 85 [aR r5,aR r3] [aI i]/\Q [aB (decide (i<=0))]) (Q [aB false])) (Q [aB false])) (Q [aB false])):=by kernel_rfl
theorem fG(l0:List (List D))(r0:R4)(Q:List A->Prop):wpF CC Gv (λ_=>⟨[.slot 5 (.int .i64 0)],[],I0,M0⟩) Tryz.f92 [.c (.sl l0),.ag (rk r0 [])] Q=(I0 [] [dI (0:Int)]/\∀(i:Int),I0 [] [dI i]->bB (decide (i<(Ts l0.length))) ((0<=i/\i<(Ts l0.length)/\W3 (nth [] l0 (Sz i))=4)/\∃x,cut (nth [] l0 (Sz i)) 0 4 (rk x [])/\∃i_1,Gv 85 [aR x,aR r0] [aI i_1]/\bB (decide (i_1<0)) (I0 [] [dI (Pl .i64 (i+1))]/\M0 [dI (Pl .i64 (i+1))]<M0 [dI i]) (bB (decide (i<(Ts l0.length))) ((0<=i/\i<(Ts l0.length)/\W3 (nth [] l0 (Sz i))=4)/\∃x,cut (nth [] l0 (Sz i)) 0 4 (rk x [])/\∃i_2,Gv 85 [aR x,aR r0] [aI i_2]/\bB (i_2==0) (Q [aL l0]) (((0:Int)<=(0:Int)/\0<=i/\i<=(Ts l0.length)/\lens 4 l0)/\(room (0+W3 (aE 0 (W4 (Sz i) l0)))/\lens 4 (aE 0 (W4 (Sz i) l0)))/\(room (W3 ([]++aE 0 (W4 (Sz i) l0))+1)/\lens 4 [(rk r0 [])])/\(0<=i/\i<=(Ts l0.length)/\(Ts l0.length)<=(Ts l0.length)/\lens 4 l0)/\(room (W3 ([]++aE 0 (W4 (Sz i) l0)++[(rk r0 [])])+W3 (aE (Sz i) (W4 (Sz (Ts l0.length)) l0)))/\lens 4 (aE (Sz i) (W4 (Sz (Ts l0.length)) l0)))/\Q [aL ([]++aE 0 (W4 (Sz i) l0)++[(rk r0 [])]++aE (Sz i) (W4 (Sz (Ts l0.length)) l0))])) (((0:Int)<=(0:Int)/\0<=i/\i<=(Ts l0.length)/\lens 4 l0)/\(room (0+W3 (aE 0 (W4 (Sz i) l0)))/\lens 4 (aE 0 (W4 (Sz i) l0)))/\(room (W3 ([]++aE 0 (W4 (Sz i) l0))+1)/\lens 4 [(rk r0 [])])/\(0<=i/\i<=(Ts l0.length)/\(Ts l0.length)<=(Ts l0.length)/\lens 4 l0)/\(room (W3 ([]++aE 0 (W4 (Sz i) l0)++[(rk r0 [])])+W3 (aE (Sz i) (W4 (Sz (Ts l0.length)) l0)))/\lens 4 (aE (Sz i) (W4 (Sz (Ts l0.length)) l0)))/\Q [aL ([]++aE 0 (W4 (Sz i) l0)++[(rk r0 [])]++aE (Sz i) (W4 (Sz (Ts l0.length)) l0))]))) (bB (decide (i<(Ts l0.length))) ((0<=i/\i<(Ts l0.length)/\W3 (nth [] l0 (Sz i))=4)/\∃x,cut (nth [] l0 (Sz i)) 0 4 (rk x [])/\∃i_1,Gv 85 [aR x,aR r0] [aI i_1]/\bB (i_1==0) (Q [aL l0]) (((0:Int)<=(0:Int)/\0<=i/\i<=(Ts l0.length)/\lens 4 l0)/\(room (0+W3 (aE 0 (W4 (Sz i) l0)))/\lens 4 (aE 0 (W4 (Sz i) l0)))/\(room (W3 ([]++aE 0 (W4 (Sz i) l0))+1)/\lens 4 [(rk r0 [])])/\(0<=i/\i<=(Ts l0.length)/\(Ts l0.length)<=(Ts l0.length)/\lens 4 l0)/\(room (W3 ([]++aE 0 (W4 (Sz i) l0)++[(rk r0 [])])+W3 (aE (Sz i) (W4 (Sz (Ts l0.length)) l0)))/\lens 4 (aE (Sz i) (W4 (Sz (Ts l0.length)) l0)))/\Q [aL ([]++aE 0 (W4 (Sz i) l0)++[(rk r0 [])]++aE (Sz i) (W4 (Sz (Ts l0.length)) l0))])) (((0:Int)<=(0:Int)/\0<=i/\i<=(Ts l0.length)/\lens 4 l0)/\(room (0+W3 (aE 0 (W4 (Sz i) l0)))/\lens 4 (aE 0 (W4 (Sz i) l0)))/\(room (W3 ([]++aE 0 (W4 (Sz i) l0))+1)/\lens 4 [(rk r0 [])])/\(0<=i/\i<=(Ts l0.length)/\(Ts l0.length)<=(Ts l0.length)/\lens 4 l0)/\(room (W3 ([]++aE 0 (W4 (Sz i) l0)++[(rk r0 [])])+W3 (aE (Sz i) (W4 (Sz (Ts l0.length)) l0)))/\lens 4 (aE (Sz i) (W4 (Sz (Ts l0.length)) l0)))/\Q [aL ([]++aE 0 (W4 (Sz i) l0)++[(rk r0 [])]++aE (Sz i) (W4 (Sz (Ts l0.length)) l0))]))):=by kernel_rfl
end
end Eng
end
section
open Go Go.Proofs Eng
namespace Eng
section
variable (Gv:Nat->List A->List A->Prop)(I0:List D->List D->Prop)(M0:List D->Nat)(I1:List D->List D->Prop)(M1:List D->Nat)(I2:List D->List D->Prop)(M2:List D->Nat)(I3:List D->List D->Prop)(M3:List D->Nat)(Q:List A->Prop)
theorem Dy(z0:Bool)(l0:List (List D))(Q:List A->Prop):wpF CC Gv (λ_=>⟨[.slot 9 (.int .i64 0)],[],I0,M0⟩) Tryz.f105 [.ag [.bool z0,.sl l0]] Q=(I0 [] [dI (0:Int)]/\∀(i:Int),I0 [] [dI i]->bB (decide (i<(Ts l0.length))) ((0<=i/\i<(Ts l0.length)/\W3 (nth [] l0 (Sz i))=1)/\∃i_1,cut (nth [] l0 (Sz i)) 0 1 [Ls .u32 i_1]/\bB (decide (i_1>=1000000000)) (Q [aB false]) (I0 [] [dI (Pl .i64 (i+1))]/\M0 [dI (Pl .i64 (i+1))]<M0 [dI i])) (bB (decide ((Ts l0.length)>0)) ((0<=Pl .i64 ((Ts l0.length)-1)/\Pl .i64 ((Ts l0.length)-1)<(Ts l0.length)/\W3 (nth [] l0 (Sz (Pl .i64 ((Ts l0.length)-1))))=1)/\∃i,cut (nth [] l0 (Sz (Pl .i64 ((Ts l0.length)-1)))) 0 1 [Ls .u32 i]/\Q [aB (i !=0)]) (Q [aB (!z0)]))):=by kernel_rfl
theorem Tl(r0:R4):wpF CC Gv an0 Tryz.f47 [.ag (rk r0 [])] Q=(∃b,Gv 105 [aZ (R4.b r0) (R4.l r0)] [aB b]/\bB (!b) (Q [aB false]) (∃b,Gv 105 [aZ (R4.c r0) (R4.m r0)] [aB b]/\bB (!b) (Q [aB false]) (∃i,Gv 64 [aZ (R4.c r0) (R4.m r0)] [aI i]/\bB (decide (i<=0)) (Q [aB false]) (∃b es,Gv 107 [aZ (R4.b r0) (R4.l r0),aZ (R4.c r0) (R4.m r0)] [aZ b es]/\∃b1 e1,Gv 108 [] [aZ b1 e1]/\∃i,Gv 106 [aZ b es,aZ b1 e1] [aI i]/\Q [aB (i==0)])))):=by kernel_rfl
end
end Eng
end
section
namespace Eng
open Go Go.Proofs Rl
set_option maxRecDepth 100000
structure Bx where
 x0:Rat
 y0:Rat
 x1:Rat
 y1:Rat
def kB (b:Bx) (t:List D):List D:=rk (q4 b.x0) (rk (q4 b.y0) (rk (q4 b.x1) (rk (q4 b.y1) t)))
def HB (k:Nat) (b:Bx):Prop:=Hz k b.x0/\Hz k b.y0/\Hz k b.x1/\Hz k b.y1
def Bx.ok (b:Bx):Bool:=decide (b.x0<b.x1)&&decide (b.y0<b.y1)
def clR (x lo hi:Rat):Rat:=if x<lo then lo else if hi<x then hi else x
def mxR (x y:Rat):Rat:=if x<y then y else x
def sqd (x y:Rat):Rat:=(x-y)*(x-y)
def frV (v w:Vc):Rat:=sqd v.x w.x+sqd v.y w.y
def bG (b:Bx) (v:Vc) (r:Rat):Bool:=b.ok&&(!decide (r<0)&&decide (r*r<frV v ⟨clR v.x b.x0 b.x1,clR v.y b.y0 b.y1⟩))
def jC (b:Bx) (v:Vc) (r:Rat):Bool:=b.ok&&(!decide (r<0)&&decide (mxR (sqd b.x0 v.x) (sqd b.x1 v.x)+mxR (sqd b.y0 v.y) (sqd b.y1 v.y)<r*r))
def arB (v:Vc) (r:Rat):Bx:=⟨v.x-r,v.y-r,v.x+r,v.y+r⟩
theorem srl{x y:Rat}:sr (x-y)<0↔x<y:=by rw[kv];grind
theorem srg{x y:Rat}:sr (x-y)>0↔y<x:=by rw[gt_iff_lt,Yd];grind
theorem srz{x y:Rat}:(sr (x-y)==0)=decide (x=y):=by rw[Xp,decide_eq_decide];grind
theorem dl(x y:Rat):decide (sr (x-y)<0)=decide (x<y):=decide_eq_decide.2 srl
theorem dg(x y:Rat):decide (sr (x-y)>0)=decide (y<x):=decide_eq_decide.2 srg
theorem WT{z:Int}(hz:Sm z):qa CC 105 [qM z] [.c (.bool true)]:=by
 have hll:=qe z.natAbs;have hv:=Dy (qa CC) (λ_ ds=>∃k:Nat,k<=(lim z.natAbs).length/\ds=[.int .i64 (k:Int)]) (jn 10000000) (decide (z<0)) (raw (lim z.natAbs)) (· =[.c (.bool true)]);rw[xn];refine gOk Tryz.func105 hv ?_;clear hv;have hlen:=hz.len;rw[Wz];refine⟨⟨0,eb _,rfl⟩,?_⟩;rintro _ ⟨k,hk,he⟩;simp only[dA,Lv,and_true,true_and]at he;subst he;refine brd (λh=>?_) (λh=>brd (λh2=>?_) λh2=>?_)
 .have a3:k<(lim z.natAbs).length:=by simp only[T1]at h;omega
  have h9:=hll.get a3;rw[U0,GS a3];refine⟨⟨by omega,by simp only[T1];omega,rfl⟩,_,⟨rfl,by simp⟩,brd (λh2=>?_) (λh2=>?_)⟩
  .omega
  .exact⟨⟨k+1,a3,by rw[wI];rfl⟩,qt⟩
 .simp only[T1]at h2 ⊢;obtain⟨m,hm⟩:∃m,(lim z.natAbs).length=m+1:=⟨(lim z.natAbs).length-1,by omega⟩;rw[hm,show((m+1:Nat):Int)-1=(m:Int)by omega,xF,U0,GS (by omega)];refine⟨⟨by omega,by omega,rfl⟩,_,⟨rfl,by simp⟩,?_⟩;have hl:=jX z.natAbs;rcases hl with hl|hl
  .rw[hl]at hm;simp at hm
  .rw[List.getLast?_eq_getElem?,hm,Nat.add_sub_cancel,ba (by omega)]at hl;have:(((lim z.natAbs)[m]'(by omega):Nat):Int)≠0:=λe=>hl (by rw[show(lim z.natAbs)[m]'(by omega)=0 by omega])
   rw[show((((lim z.natAbs)[m]'(by omega):Nat):Int) !=0)=true by simpa using this]
 .have hn:lim z.natAbs=[]:=ch (by simp only[T1]at h2;omega);rw[vX]at hn;rw[decide_eq_false (by omega)];rfl
theorem Dz{x:Rat}{k:Nat}(hx:Hz k x)(hk:k<360000:=by omega):qa CC 47 [.ag (rk (q4 x) [])] [.c (.bool true)]:=by
 refine wpG Tryz.func47 ((Tl ..).mpr ?_);have hs:=hx.sr hk;have h3:=up (JM (x.den:Int));have h4:=LH JB hs.1.sm hs.2.sm;have hg:Nat.gcd x.num.natAbs (x.den:Int).natAbs=1:=by rw[W0];exact x.reduced
 have o:Sm 1:=jj (n:=1) (ec (by omega) (by omega));have h6:=up (yb (x:=1) (y:=1) o o);have hd:=x.den_pos;have h7:sgn (x.den:Int)=1:=by unfold sgn;rw[if_neg (by omega),if_pos (by omega)]
 rw[hg]at h4;rw[h7]at h3;exact⟨_,WT hs.1.sm,brb (λh=>by cases h) λ_=>⟨_,WT hs.2.sm,brb (λh=>by cases h) λ_=>⟨_,h3,brd (λh=>by omega) λ_=>⟨_,_,h4,_,_,JN,_,h6,rfl⟩⟩⟩⟩
def z4:R4:=⟨false,[],false,[]⟩
theorem enc0:qM 0= .ag [.bool false,.sl []]:=by
 rw[xn];have:lim (0:Int).natAbs=[]:=vX.2 rfl;rw[this];rfl
theorem D0:qa CC 47 [.ag (rk z4 [])] [.c (.bool false)]:=by
 refine wpG Tryz.func47 ((Tl ..).mpr ?_);have h1:=WT (z:=0) (by unfold Sm;exact et (by omega));have h2:=up (JM 0);rw[enc0]at h1 h2;exact⟨_,h1,brb (λh=>by cases h) λ_=>⟨_,h1,brb (λh=>by cases h) λ_=>⟨_,h2,brd (λ_=>rfl) λh=>absurd (by decide) h⟩⟩⟩
theorem D1:qa CC 38 [.ag (rk z4 [])] [.c (.bool false)]:=by
 refine wpG Tryz.func38 ((Jy ..).mpr ?_);have h1:=WS (z:=0) (by unfold Sm;exact et (by omega));have h2:=Ql 0;rw[enc0]at h1 h2;exact⟨_,h1,brb (λh=>by cases h) λ_=>⟨_,h1,brb (λh=>by cases h) λ_=>⟨_,h2,brb (λ_=>rfl) λh=>by cases h⟩⟩⟩
end Eng
end
section
namespace Eng
open Go Go.Proofs Rl
set_option maxRecDepth 100000
theorem Hz.cl{k:Nat}{x lo hi:Rat}(hx:Hz k x)(hl:Hz k lo)(hh:Hz k hi):Hz k (clR x lo hi):=by
 unfold clR;split
 .exact hl
 .split
  .exact hh
  .exact hx
theorem Hz.mx{k:Nat}{x y:Rat}(hx:Hz k x)(hy:Hz k y):Hz k (mxR x y):=by
 unfold mxR;split
 .exact hy
 .exact hx
theorem Hz.sqd{x y:Rat}(hx:Hz 20 x)(hy:Hz 20 y):Hz 82 (sqd x y):=(hx.sub hy (l:=41)).mul (hx.sub hy (l:=41))
theorem HVf{v w:Vc}(hv:HV v)(hw:HV w):Hz 165 (frV v w):=(hv.1.sqd hw.1).add (hv.2.sqd hw.2)
theorem Kd(x y:Rat):sqd x y=sqd y x:=by unfold sqd;grind
theorem cut4{b:Bx}{k:Nat}(h:k<4):∃x:Rat,(HB 50 b->Hz 50 x)/\cut (nth [] [rk (q4 b.x0) [],rk (q4 b.y0) [],rk (q4 b.x1) [],rk (q4 b.y1) []] (Sz (k:Int))) 0 4 (rk (q4 x) []):=by
 have h:k=0\/k=1\/k=2\/k=3:=by omega
 rcases h with rfl|rfl|rfl|rfl
 .exact⟨b.x0,λh=>h.1,rfl,by simp[nth,rk]⟩
 .exact⟨b.y0,λh=>h.2.1,rfl,by simp[nth,rk]⟩
 .exact⟨b.x1,λh=>h.2.2.1,rfl,by simp[nth,rk]⟩
 .exact⟨b.y1,λh=>h.2.2.2,rfl,by simp[nth,rk]⟩
theorem vC{b:Bx}(hb:HB 50 b):qa CC 28 [.ag (kB b [])] [.c (.bool b.ok)]:=by
 have hv:=Tk (qa CC) (λ_ ds=>∃k:Nat,k<=4/\ds=[.int .i64 (k:Int)]) (λds=>(4-toI (nth .undef ds 0)).toNat) (q4 b.x0) (q4 b.y0) (q4 b.x1) (q4 b.y1) (· =[.c (.bool b.ok)]);refine gOk Tryz.func28 hv ?_;clear hv;refine⟨⟨0,by omega,rfl⟩,?_⟩;rintro i ⟨k,hk,he⟩;simp only[dA,Lv,true_and,and_true]at he;subst he;refine brd (λh=>?_) (λh=>?_)
 .obtain⟨x,h1,h2⟩:=cut4 (b:=b) (k:=k) (by omega);have hw:Pl .i64 ((k:Int)+1)=((k+1:Nat):Int):=by rw[xF];omega
  rw[hw];exact⟨⟨by omega,by omega⟩,_,h2,_,Dz (h1 hb),brb (λh=>by simp at h) λ_=>⟨⟨k+1,by omega,rfl⟩,by simp only[nth,toI];omega⟩⟩
 .refine⟨_,Rd hb.1 hb.2.2.1,brb (λh=>⟨_,Rd hb.2.1 hb.2.2.2,?_⟩) λh=>?_⟩<;>rw[dl]at h<;>unfold Bx.ok<;>rw[h]
  .rw[dl];rfl
  .rfl
theorem D2{v:Vc}(h1:Hz 50 v.x)(h2:Hz 50 v.y):qa CC 30 [.ag (kV v)] [.c (.bool true)]:=by
 refine wpG Tryz.func30 ((J0 ..).mpr ?_);exact⟨_,Dz h1,_,Dz h2,rfl⟩
theorem Tm{v:R4}:qa CC 30 [.ag (rk z4 (rk v []))] [.c (.bool false)]:=by
 refine wpG Tryz.func30 ((J0 ..).mpr ?_);exact⟨_,D0,rfl⟩
theorem fH{v:Vc}{r:Rat}(hv:HV v)(hr:Hz 20 r):qa CC 35 [.ag (kV v),.ag (rk (q4 r) [])] [.ag (kB (arB v r) [])]:=by
 refine wpG Tryz.func35 ((R7 ..).mpr ?_);exact⟨_,EU hv.1 hr,_,EU hv.2 hr,_,mr hv.1 hr,_,mr hv.2 hr,rfl⟩
theorem OD{x lo hi:Rat}(hx:Hz 20 x)(hl:Hz 20 lo)(hh:Hz 20 hi):qa CC 66 [.ag (rk (q4 x) []),.ag (rk (q4 lo) []),.ag (rk (q4 hi) [])] [.ag (rk (q4 (clR x lo hi)) [])]:=by
 refine wpG Tryz.func66 ((MM ..).mpr ?_);refine⟨_,Rd hx hl,brd (λh=>?_) λh=>⟨_,Rd hx hh,brd (λh'=>?_) λh'=>?_⟩⟩<;>rw[srl]at h<;>unfold clR
 .rw[if_pos h]
 all_goals rw[srg]at h'
 .rw[if_neg h,if_pos h']
 .rw[if_neg h,if_neg h']
theorem cSq{x:Rat}{k:Nat}(hx:Hz k x)(h:k<360000:=by omega):qa CC 68 [.ag (rk (q4 x) [])] [.ag (rk (q4 (x*x)) [])]:=by
 refine wpG Tryz.func68 ((R8 ..).mpr ?_);exact⟨_,TT hx hx,rfl⟩
theorem mJ{v w:Vc}(hv:HV v)(hw:HV w):qa CC 67 [.ag (kV v),.ag (kV w)] [.ag (rk (q4 (frV v w)) [])]:=by
 refine wpG Tryz.func67 ((Ib ..).mpr ?_);exact⟨_,EU hv.1 hw.1,_,cSq (hv.1.sub hw.1 (l:=41)),_,EU hv.2 hw.2,_,cSq (hv.2.sub hw.2 (l:=41)),_,mr (hv.1.sqd hw.1) (hv.2.sqd hw.2),rfl⟩
theorem HB.m{b:Bx}(h:HB 20 b):HB 50 b:=⟨h.1.mono (by omega),h.2.1.mono (by omega),h.2.2.1.mono (by omega),h.2.2.2.mono (by omega)⟩
theorem cFar{b:Bx}{v:Vc}{r:Rat}(hb:HB 20 b)(hv:HV v)(hr:Hz 20 r):qa CC 29 [.ag (kB b []),.ag (kV v),.ag (rk (q4 r) [])] [.c (.bool (bG b v r))]:=by
 have hw:HV ⟨clR v.x b.x0 b.x1,clR v.y b.y0 b.y1⟩:=⟨hv.1.cl hb.1 hb.2.2.1,hv.2.cl hb.2.1 hb.2.2.2⟩;refine wpG Tryz.func29 ((fB ..).mpr ?_);refine⟨_,vC hb.m,brb (λh=>?_) λh=>⟨_,kq r,brd (λh'=>?_) λh'=>⟨_,OD hv.1 hb.1 hb.2.2.1,_,OD hv.2 hb.2.1 hb.2.2.2,_,mJ hv hw,_,cSq hr,_,Rd (HVf hv hw) (hr.mul hr (l:=40)),?_⟩⟩⟩<;>
  unfold bG
 .rw[show b.ok=false by simpa using h];rfl
 all_goals rw[show b.ok=true by simpa using h]
 .rw[kv]at h';rw[decide_eq_true h'];rfl
 .rw[kv]at h';rw[decide_eq_false h',dg];rfl
def cx (a b:Rat) (i:Nat):Rat:=if i=0 then a else b
theorem mK{k:Nat}{a b:Rat}(ha:Hz k a)(hb:Hz k b)(i:Nat):Hz k (cx a b i):=by
 unfold cx;split
 .exact ha
 .exact hb
theorem bH{a b:Rat}{i:Nat}(hi:i<2):cut (nth [] [rk (q4 a) [],rk (q4 b) []] (Sz (i:Int))) 0 4 (rk (q4 (cx a b i)) []):=by
 have:i=0\/i=1:=by omega
 rcases this with rfl|rfl
 .exact⟨rfl,by simp[nth,rk]⟩
 .exact⟨rfl,by simp[nth,rk]⟩
theorem OE{b:Bx}{v:Vc}{r:Rat}(hb:b.ok=true)(h:¬r<0):jC b v r=true↔∀i,i<2->∀j,j<2->frV v ⟨cx b.x0 b.x1 i,cx b.y0 b.y1 j⟩<r*r:=by
 unfold jC;rw[hb,decide_eq_false h,Bool.not_false,Dd,Dd,decide_eq_true_eq];have e:∀i j,frV v ⟨cx b.x0 b.x1 i,cx b.y0 b.y1 j⟩=sqd (cx b.x0 b.x1 i) v.x+sqd (cx b.y0 b.y1 j) v.y:=λi j=>by unfold frV;rw[Kd v.x,Kd v.y]
 have k:(∀i,i<2->∀j,j<2->frV v ⟨cx b.x0 b.x1 i,cx b.y0 b.y1 j⟩<r*r)↔
  (sqd b.x0 v.x+sqd b.y0 v.y<r*r/\sqd b.x0 v.x+sqd b.y1 v.y<r*r)/\(sqd b.x1 v.x+sqd b.y0 v.y<r*r/\sqd b.x1 v.x+sqd b.y1 v.y<r*r):=by
  constructor
  .intro h;have a:=h 0 (by omega) 0 (by omega);have b':=h 0 (by omega) 1 (by omega);have c:=h 1 (by omega) 0 (by omega);have d:=h 1 (by omega) 1 (by omega);rw[e]at a b' c d;exact⟨⟨a,b'⟩,c,d⟩
  .rintro⟨⟨a,b'⟩,c,d⟩ i hi j hj;rw[e];have hi:i=0\/i=1:=by omega
   have hj:j=0\/j=1:=by omega
   rcases hi with rfl|rfl<;>rcases hj with rfl|rfl<;>assumption
 rw[k];generalize sqd b.x0 v.x=a;generalize sqd b.x1 v.x=e1;generalize sqd b.y0 v.y=c;generalize sqd b.y1 v.y=d;generalize r*r=s;unfold mxR;split<;>split<;>grind
theorem pT{b:Bx}{v:Vc}{r:Rat}(hb:HB 20 b)(hv:HV v)(hr:Hz 20 r):qa CC 33 [.ag (kB b []),.ag (kV v),.ag (rk (q4 r) [])] [.c (.bool (jC b v r))]:=by
 have hw:∀i j,HV ⟨cx b.x0 b.x1 i,cx b.y0 b.y1 j⟩:=λi j=>⟨mK hb.1 hb.2.2.1 i,mK hb.2.1 hb.2.2.2 j⟩
 have hq:=Ic (qa CC)
  (λ_ ds=>∃i:Nat,i<=2/\ds=[.int .i64 (i:Int)]/\∀i',i'<i->∀j,j<2->frV v ⟨cx b.x0 b.x1 i',cx b.y0 b.y1 j⟩<r*r) (λds=>(2-toI (nth .undef ds 0)).toNat)
  (λgs ds=>∃i j:Nat,j<=2/\gs=[.int .i64 (i:Int)]/\ds=[.int .i64 (j:Int)]/\∀j',j'<j->frV v ⟨cx b.x0 b.x1 i,cx b.y0 b.y1 j'⟩<r*r) (λds=>(2-toI (nth .undef ds 0)).toNat)
  (q4 b.x0) (q4 b.y0) (q4 b.x1) (q4 b.y1) (q4 v.x) (q4 v.y) (q4 r) (· =[.c (.bool (jC b v r))])
 refine gOk Tryz.func33 hq ?_;clear hq;refine⟨_,vC hb.m,brb (λh=>?_) λh=>⟨_,kq r,brd (λh'=>?_) λh'=>⟨⟨0,by omega,rfl,by omega⟩,?_⟩⟩⟩
 .unfold jC;rw[show b.ok=false by simpa using h];rfl
 all_goals rw[kv]at h'
 all_goals have ho:b.ok=true:=by simpa using h
 .unfold jC;rw[ho,decide_eq_true h'];rfl
 rintro n ⟨i,hi,he,hT⟩;simp only[dA,Lv,true_and,and_true]at he;subst he;refine brd (λh1=>?_) (λh1=>?_)
 .have a3:i<2:=by omega
  have hwi:Pl .i64 ((i:Int)+1)=((i+1:Nat):Int):=by rw[xF];omega
  rw[hwi];refine⟨⟨by omega,by omega⟩,_,bH a3,⟨i,0,by omega,rfl,rfl,by omega⟩,?_⟩;rintro n1 ⟨i',j,hj,hg,he,a6⟩;simp only[dA,Lv,true_and,and_true]at hg he;have hii:i'=i:=by omega
  subst hii he;refine brd (λh2=>?_) (λh2=>?_)
  .have a4:j<2:=by omega
   have hwj:Pl .i64 ((j:Int)+1)=((j+1:Nat):Int):=by rw[xF];omega
   rw[hwj];refine⟨⟨by omega,by omega⟩,_,bH a4,_,mJ hv (hw i' j),_,cSq hr,_,Rd (HVf hv (hw i' j)) (hr.mul hr (l:=40)),brd (λh6=>?_) (λh6=>⟨⟨i',j+1,by omega,rfl,rfl,λj' hj'=>?_⟩,by simp only[nth,toI];omega⟩)⟩
   .have:jC b v r=false:=by rw[<-Bool.not_eq_true,OE ho h'];intro a5;have:=srl.2 (a5 i' a3 j a4);omega
    rw[this]
   .rcases en j' j with h7|h7
    .exact a6 j' h7
    .have:j'=j:=by omega
     subst this;exact srl.1 (by omega)
  .have a4:j=2:=by omega
   subst a4;refine⟨⟨i'+1,by omega,rfl,λi'' hi''=>?_⟩,by simp only[nth,toI];omega⟩;rcases en i'' i' with h7|h7
   .exact hT i'' h7
   .have:i''=i':=by omega
    subst this;exact a6
 .have a3:i=2:=by omega
  subst a3;rw[(OE ho h').2 hT]
end Eng
end
section
namespace Eng
open Rl
theorem yS{x y:Rl}:sg (x-y)<0↔x<y:=by
 rw[<-NR];rcases zf (x-y)with⟨h,e⟩|⟨h,e⟩|⟨h,e⟩<;>rw[e]
 .exact⟨λk=>by omega,λk=>absurd k (yf h)⟩
 .exact⟨λk=>by omega,λk=>by rw[h]at k;exact absurd k (ku _)⟩
 .exact⟨λ_=>h,λ_=>by omega⟩
theorem Xg{x y:Rl}:0<sg (x-y)↔y<x:=by
 rw[<-Uy];rcases zf (x-y)with⟨h,e⟩|⟨h,e⟩|⟨h,e⟩<;>rw[e]
 .exact⟨λ_=>h,λ_=>by omega⟩
 .exact⟨λk=>by omega,λk=>by rw[h]at k;exact absurd k (ku _)⟩
 .exact⟨λk=>by omega,λk=>absurd k (yf h)⟩
theorem RD{x y:Rl}:sg (x-y)=0↔x=y:=by
 rw[qY];exact⟨jv,λh=>by rw[h,sbs]⟩
theorem Tn{x y:Rl}(h:x<y):sg (x-y)= -1:=by
 have:=yS.2 h;rcases zf (x-y)with⟨_,e⟩|⟨_,e⟩|⟨_,e⟩<;>omega
theorem Yq{x y:Rl}(h:y<x):sg (x-y)=1:=by
 have:=Xg.2 h;rcases zf (x-y)with⟨_,e⟩|⟨_,e⟩|⟨_,e⟩<;>omega
theorem ZW(x y:Rl):sg (y-x)= -sg (x-y):=by
 rcases XV x y with h|h|h
 .rw[Tn h,Yq h];rfl
 .rw[h,sbs,zL];rfl
 .rw[Yq h,Tn h]
theorem pU(z:Rl){x y:Rl}:x-z<y-z↔x<y:=aG (-z)
theorem mL{z x y:Rl}(h:x-z=y-z):x=y:=by
 have e:∀x:Rl,x=(x-z)+z:=λx=>by obtain⟨x,rfl⟩:=x.rep;obtain⟨z,rfl⟩:=z.rep;exact xz λn=>by simp only[xZ,zK];grind
 rw[e x,e y,h]
theorem lt_or_ge(x y:Rl):x<y\/y<=x:=by
 rcases XV x y with h|h|h
 .exact .inl h
 .exact .inr (h▸ji)
 .exact .inr (le_of_lt h)
theorem mM(x y:Rl):y*y-x*x=(y-x)*(y+x):=by
 obtain⟨x,rfl⟩:=x.rep;obtain⟨y,rfl⟩:=y.rep;exact xz λn=>by simp only[xZ,zK,ke];grind
theorem OF{x y x' y':Rl}(h:x*x+y*y=x'*x'+y'*y')(hy:y=0)(hx:0<x):x'<=x:=by
 rw[<-Rl.not_lt];intro a3;have h1:0<x'*x'-x*x:=by rw[mM];exact mul_pos (Uy.2 a3) (LU (lt_trans hx a3) hx)
 have h2:x'*x'-x*x= -(y'*y'):=by rw[hy,ml0,ad0]at h;rw[h];generalize x'*x'=a;generalize y'*y'=b;obtain⟨a,rfl⟩:=a.rep;obtain⟨b,rfl⟩:=b.rep;exact xz λn=>by simp only[xZ,zK];grind
 rw[h2,xB]at h1;exact pE y' h1
theorem To{x y y':Rl}(h:x*x+y*y=x*x+y'*y'):y*y=y'*y':=by
 generalize x*x=a at h;have e:∀b:Rl,b=(a+b)-a:=λb=>by obtain⟨a,rfl⟩:=a.rep;obtain⟨b,rfl⟩:=b.rep;exact xz λn=>by simp only[xZ,zK];grind
 rw[e (y*y),e (y'*y'),h]
theorem GT{y:Rl}(h:y*y=0):y=0:=by rcases mul_eq_zero h with h|h<;>exact h
theorem fI{y y':Rl}(h:y*y=y'*y')(hs:(0<=y/\0<=y')\/(y<=0/\y'<=0)):y=y':=by
 rcases hs with⟨h1,h2⟩|⟨h1,h2⟩
 .exact NT h1 h2 h
 .have e:∀z:Rl, -z* -z=z*z:=λz=>by rw[PR,Uz,Vz]
  have n1:0<= -y:=by rw[<-Rl.not_lt];intro k;exact h1 (jS.1 k)
  have n2:0<= -y':=by rw[<-Rl.not_lt];intro k;exact h2 (jS.1 k)
  have:=NT n1 n2 (by rw[e,e,h]);rw[<-Vz y,this,Vz]
noncomputable def cX (c:Ci) (p:P5):Rl:=px p-ofR c.x
noncomputable def cY (c:Ci) (p:P5):Rl:=py p-ofR c.y
def onC (c:Ci) (p:P5):Prop:=cX c p*cX c p+cY c p*cY c p=ofR c.q
theorem WU{c:Ci}{p:P5}:sg (civ c p)=0↔onC c p:=by
 rw[qY];exact⟨jv,λh=>by unfold civ;rw[show(px p-ofR c.x)*(px p-ofR c.x)+(py p-ofR c.y)*(py p-ofR c.y)=ofR c.q from h,sbs]⟩
theorem mN{c:Ci}{p q:P5}:cX c p<cX c q↔px p<px q:=pU _
theorem mO{c:Ci}{p q:P5}(h:cY c p=cY c q):py p=py q:=mL h
theorem ZX{c:Ci}{p:P5}:upB c p=true↔0<cY c p\/(cY c p=0/\0<cX c p):=by
 unfold upB cY cX;rw[Bool.or_eq_true,B0,decide_eq_true_eq,decide_eq_true_eq,beq_iff_eq,Xg,Xg,RD,Uy,Uy];constructor
 .rintro(h|⟨h1,h2⟩)
  .exact .inl h
  .exact .inr ⟨by rw[h1,sbs],h2⟩
 .rintro(h|⟨h1,h2⟩)
  .exact .inl h
  .exact .inr ⟨jv h1,h2⟩
theorem Tp{c:Ci}{p:P5}(h:upB c p=false):cY c p<=0/\(cY c p=0->cX c p<=0):=by
 have h1:¬(0<cY c p\/(cY c p=0/\0<cX c p)):=λk=>by rw[ZX.2 k]at h;cases h
 exact⟨λk=>h1 (.inl k),λe k=>h1 (.inr ⟨e,k⟩)⟩
theorem ZY{c:Ci}{p:P5}(h:upB c p=true):0<=cY c p:=by
 rcases ZX.1 h with h|h
 .exact le_of_lt h
 .rw[h.1];exact ji
theorem GU{c:Ci}{p q:P5}(hp:onC c p)(hq:onC c q)(hx:px p=px q)(hs:(0<=cY c p/\0<=cY c q)\/(cY c p<=0/\cY c q<=0)):ZI p q:=by
 refine⟨hx,mO (fI ?_ hs)⟩;have e:cX c p=cX c q:=by unfold cX;rw[hx]
 unfold onC at hp hq;rw[e]at hp;exact To (hp.trans hq.symm)
theorem ZZ{c:Ci}{p q:P5}(hp:onC c p)(hq:onC c q)(h:qp c p q=0):ZI p q:=by
 unfold qp at h;split at h
 .rename_i hu;have hx:px p=px q:=by
   split at h
   .exact RD.1 (by omega)
   .exact RD.1 h
  refine GU hp hq hx ?_;cases hb:upB c p with
  |true=>rw[hb]at hu;exact .inl ⟨ZY hb,ZY hu.symm⟩
  |false=>rw[hb]at hu;exact .inr ⟨(Tp hb).1,(Tp hu.symm).1⟩
 .split at h<;>omega
theorem Yr(c:Ci)(p q:P5):qp c q p= -qp c p q:=by
 unfold qp;by_cases h:upB c p=upB c q
 .rw[if_pos h,if_pos h.symm,<-h,ZW];split<;>omega
 .rw[if_neg h,if_neg (λk=>h k.symm)];cases h1:upB c p<;>cases h2:upB c q<;>rw[h1,h2]at h<;>simp at h ⊢
theorem Zo{c:Ci}{p q r:P5}(h1:qp c p q<=0)(h2:qp c q r<0):qp c p r<0:=by
 unfold qp at *;cases hp:upB c p<;>cases hq:upB c q<;>cases hr:upB c r<;>simp only[hp,hq,hr,F0,Bool.true_eq_false,if_true,if_false]at h1 h2 ⊢
 .rw[yS]at h2 ⊢;have h3:¬px q<px p:=λk=>by have:=Xg.2 k;omega
  exact lt_of_le_of_lt h3 h2
 all_goals first|omega|skip
 .have h3:px r<px q:=Xg.1 (by omega);have h4:¬px p<px q:=λk=>by have:=yS.2 k;omega
  have:=Xg.2 (lt_of_lt_of_le h3 h4);omega
end Eng
end
section
namespace Eng
open Rl
def low (c:Ci) (p:P5):Prop:=onC c p/\cY c p<=0
def upp (c:Ci) (p:P5):Prop:=onC c p/\0<=cY c p
theorem OG{c:Ci}{p q:P5}(h:ZI p q):upB c p=upB c q:=by unfold upB;rw[h.1,h.2]
def atR (c:Ci) (p:P5):Prop:=onC c p/\cY c p=0/\0<cX c p
def atL (c:Ci) (p:P5):Prop:=onC c p/\cY c p=0/\cX c p<0
theorem Ja{c:Ci}{r q:P5}(hr:atR c r)(hq:onC c q):px q<=px r:=by
 have:=OF (hr.1.trans hq.symm) hr.2.1 hr.2.2;intro k;exact this (mN.2 k)
theorem Jb{c:Ci}{l q:P5}(hl:atL c l)(hq:onC c q):px l<=px q:=by
 have e:∀z:Rl, -z* -z=z*z:=λz=>by rw[PR,Uz,Vz]
 have h1:(-cX c l)*(-cX c l)+cY c l*cY c l=(-cX c q)*(-cX c q)+cY c q*cY c q:=by rw[e,e];exact hl.1.trans hq.symm
 have:=OF h1 hl.2.1 (xB.2 hl.2.2);intro k;exact this (BU.2 (mN.2 k))
theorem bI{c:Ci}{p:P5}(h:atR c p):upB c p=true:=ZX.2 (.inr h.2)
theorem bJ{c:Ci}{p:P5}(h:atL c p):upB c p=false:=by
 cases hb:upB c p with
 |false=>rfl
 |true=>
  rcases ZX.1 hb with k|k
  .rw[h.2.1]at k;exact absurd k (ku _)
  .exact absurd k.2 (yf h.2.2)
theorem Ys{c:Ci}{p:P5}(h:low c p)(hu:upB c p=true):atR c p:=by
 rcases ZX.1 hu with k|k
 .exact absurd k h.2
 .exact⟨h.1,k⟩
theorem RE{c:Ci}(hq:0<c.q){p:P5}(h:upp c p)(hu:upB c p=false):atL c p:=by
 obtain⟨h1,h2⟩:=Tp hu;have hy:cY c p=0:=xA h1 h.2;refine⟨h.1,hy,jZ (h2 hy) λe=>?_⟩;have h3:=h.1;unfold onC at h3;rw[hy,e,ml0,ad0]at h3;have:ofR c.q=ofR 0:=h3.symm;rw[yG]at this
 grind
theorem bK{c:Ci}{r q:P5}(hr:atR c r)(hq:onC c q)(hu:upB c q=false):px q<px r:=by
 refine jZ (Ja hr hq) λe=>?_
 have hy:cY c q=0:=by
  have h1:cX c q=cX c r:=by unfold cX;rw[e]
  have h2:=hr.1.trans hq.symm;rw[h1]at h2;have:=To h2;rw[hr.2.1,ml0]at this;exact GT this.symm
 have hs:=GU hq hr.1 e (.inl ⟨by rw[hy];exact ji,by rw[hr.2.1];exact ji⟩);rw[OG hs,bI hr]at hu;cases hu
theorem D3{c:Ci}{l q:P5}(hl:atL c l)(hq:onC c q)(hu:upB c q=true):px l<px q:=by
 refine jZ (Jb hl hq) λe=>?_
 have hy:cY c q=0:=by
  have h1:cX c q=cX c l:=by unfold cX;rw[e]
  have h2:=hl.1.trans hq.symm;rw[h1]at h2;have:=To h2;rw[hl.2.1,ml0]at this;exact GT this.symm
 have hs:=GU hq hl.1 e.symm (.inl ⟨by rw[hy];exact ji,by rw[hl.2.1];exact ji⟩);rw[OG hs,bJ hl]at hu;cases hu
theorem vD{c:Ci}{p q:P5}(hp:low c p)(hq:low c q):qp c p q=sg (px p-px q):=by
 unfold qp;cases h1:upB c p<;>cases h2:upB c q
 .simp
 .rw[if_neg (by simp),if_pos rfl,Tn (bK (Ys hq h2) hp.1 h1)]
 .rw[if_neg (by simp),if_neg (by simp),Yq (bK (Ys hp h1) hq.1 h2)]
 .have r1:=Ys hp h1;have r2:=Ys hq h2;have e:px p=px q:=xA (Ja r2 r1.1) (Ja r1 r2.1);rw[if_pos rfl,if_pos rfl,e,sbs,zL];rfl
theorem MP{c:Ci}{f p q:P5}(hf:low c f)(hp:low c p)(hq:low c q)(h1:px f<=px p)(h2:px f<=px q):vw c f p q=sg (px p-px q):=by
 have e:∀x,low c x->px f<=px x->decide (qp c x f<0)=false:=λx hx k=>by rw[vD hx hf];exact decide_eq_false λh=>k (yS.1 h)
 unfold vw;rw[e p hp h1,e q hq h2,if_pos rfl,vD hp hq]
theorem D4{c:Ci}(h0:0<c.q){f p q:P5}(_:upp c f)(hfu:upB c f=true)(hp:upp c p)(hq:upp c q)(h1:px p<=px f)(h2:px q<=px f):vw c f p q=sg (px q-px p):=by
 have e:∀x,upp c x->px x<=px f->decide (qp c x f<0)=!upB c x:=λx hx k=>by
  unfold qp;rw[hfu];cases hb:upB c x with
  |true=>
   rw[if_pos rfl,if_pos rfl];refine decide_eq_false λh=>?_
   exact k (Xg.1 (by omega))
  |false=>rw[if_neg (by simp),if_pos rfl];rfl
 have e2:qp c q f<0↔upB c q=false:=by
  have:=e q hq h2;cases hb:upB c q with
  |true=>rw[hb]at this;simpa using this
  |false=>rw[hb]at this;simpa using this
 unfold vw;rw[e p hp h1,e q hq h2];cases hbp:upB c p<;>cases hbq:upB c q
 .have l1:=RE h0 hp hbp;have l2:=RE h0 hq hbq;have e:px p=px q:=xA (Jb l1 l2.1) (Jb l2 l1.1);rw[if_pos rfl];unfold qp;rw[hbp,hbq,if_pos rfl,if_neg (by simp),e]
 .rw[if_neg (by simp),if_neg (by rw[e2,hbq];simp),Yq (D3 (RE h0 hp hbp) hq.1 hbq)]
 .rw[if_neg (by simp),if_pos (e2.2 hbq),Tn (D3 (RE h0 hq hbq) hp.1 hbp)]
 .rw[if_pos rfl];unfold qp;rw[hbp,hbq,if_pos rfl,if_pos rfl,<-ZW]
theorem fJ{c:Ci}(h0:0<c.q){f t:P5}(hf:upp c f)(ht:onC c t)(h:px t<px f):upB c f=true:=by
 cases hb:upB c f with
 |true=>rfl
 |false=>exact absurd h (Jb (RE h0 hf hb) ht)
theorem bL{c:Ci}{f t p:P5}(hf:low c f)(ht:low c t)(hlt:px f<px t)(hp:onC c p)(h:vw c f p t<=0):low c p/\px f<=px p:=by
 have hfu:upB c f=false:=by
  cases hb:upB c f with
  |false=>rfl
  |true=>exact absurd hlt (Ja (Ys hf hb) ht.1)
 have hv:decide (qp c t f<0)=false:=by rw[vD ht hf,Yq hlt];rfl
 unfold vw at h;rw[hv]at h;cases hu:decide (qp c p f<0)with
 |true=>rw[hu,if_neg (by simp),if_neg (by simpa using hv)]at h;omega
 |false=>
  rw[hu,if_pos rfl]at h;have hl:low c p:=by
   refine⟨hp,λhy=>?_⟩;have hpu:upB c p=true:=ZX.2 (.inl hy);unfold qp at h;rw[hpu]at h;cases hb:upB c t with
   |false=>rw[hb,if_neg (by simp),if_neg (by simp)]at h;omega
   |true=>
    rw[hb,if_pos rfl,if_pos rfl]at h;have hR:=Ys ht hb;have h1:px p<=px t:=Ja hR hp;have h2:px t<=px p:=λk=>by have:=yS.2 k;omega
    have e:px p=px t:=xA h1 h2;have h3:cX c p=cX c t:=by unfold cX;rw[e]
    have h4:=hR.1.trans hp.symm;rw[h3]at h4;have:=To h4;rw[hR.2.1,ml0]at this;rw[GT this.symm]at hy;exact ku _ hy
  refine⟨hl,λk=>?_⟩;rw[vD hl hf]at hu;rw[yS.2 k|>decide_eq_true]at hu;cases hu
theorem mP{c:Ci}(h0:0<c.q){f t p:P5}(hf:upp c f)(ht:upp c t)(hlt:px t<px f)(hp:onC c p)(h:vw c f p t<=0):upp c p/\px p<=px f:=by
 have a3:=fJ h0 hf ht.1 hlt;have a4:∀x,upB c x=false->decide (qp c x f<0)=true:=λx hx=>by unfold qp;rw[hx,a3,if_neg (by simp),if_pos rfl];rfl
 have hh1:∀x,upB c x=true->px f<px x->decide (qp c x f<0)=true:=λx hx k=>by unfold qp;rw[hx,a3,if_pos rfl,if_pos rfl];exact decide_eq_true (by have:=Xg.2 k;omega)
 have a5:∀x,upB c x=true->px x<px f->decide (qp c x f<0)=false:=λx hx k=>by unfold qp;rw[hx,a3,if_pos rfl,if_pos rfl];exact decide_eq_false (by have:=yS.2 k;omega)
 unfold vw at h;cases hpu:upB c p with
 |true=>
  refine⟨⟨hp,ZY hpu⟩,λk=>?_⟩;have hu:decide (qp c p f<0)=true:=hh1 p hpu k;rw[hu]at h;cases htu:upB c t with
  |true=>have hv:decide (qp c t f<0)=false:=a5 t htu hlt;rw[hv,if_neg (by simp),if_neg (by simpa using hv)]at h;omega
  |false=>rw[a4 t htu,if_pos rfl]at h;unfold qp at h;rw[hpu,htu,if_neg (by simp),if_neg (by simp)]at h;omega
 |false=>
  rw[a4 p hpu]at h;cases htu:upB c t with
  |true=>have hv:decide (qp c t f<0)=false:=a5 t htu hlt;rw[hv,if_neg (by simp),if_neg (by simpa using hv)]at h;omega
  |false=>
   have hL:=RE h0 ht htu;rw[a4 t htu,if_pos rfl]at h;unfold qp at h;rw[hpu,htu,if_pos rfl,if_neg (by simp)]at h;have h1:px p<=px t:=λk=>by have:=Xg.2 k;omega
   have e:px p=px t:=xA h1 (Jb hL hp);have h3:cX c p=cX c t:=by unfold cX;rw[e]
   have h4:=hL.1.trans hp.symm;rw[h3]at h4;have:=To h4;rw[hL.2.1,ml0]at this;have hy:=GT this.symm;exact⟨⟨hp,by rw[hy];exact ji⟩,by rw[e];exact le_of_lt hlt⟩
theorem OH{c:Ci}{f p q l r:P5}(hp:onC c p)(hq:onC c q)(hl:atL c l)(hr:atR c r)(h:vw c f p q<0)(nl:¬(vw c f p l<0/\vw c f l q<0))(nr:¬(vw c f p r<0/\vw c f r q<0)):
 (low c p/\low c q/\px p<px q)\/(upp c p/\upp c q/\px q<px p):=by
 have a3:∀x y,decide (qp c x f<0)=decide (qp c y f<0)->vw c f x y=qp c x y:=λx y e=>by unfold vw;rw[if_pos e]
 have a5:∀x y,decide (qp c x f<0)=false->decide (qp c y f<0)=true->vw c f x y<0:=λx y e1 e2=>by unfold vw;rw[e1,e2,if_neg (by simp),if_pos (by simpa using e2)];omega
 have lu:=bJ hl;have ru:=bI hr;have pr:upB c p=false->qp c p r<0:=λhb=>by unfold qp;rw[hb,ru,if_neg (by simp),if_pos rfl];omega
 have lq:qp c l q<=0:=by
  unfold qp;rw[lu];cases hb:upB c q with
  |true=>rw[if_neg (by simp),if_pos rfl];omega
  |false=>
   rw[if_pos rfl,if_neg (by simp)];have:=Jb hl hq;rcases W1 0 (sg (px l-px q))with k|k
   .exact absurd (Xg.1 k) this
   .exact k
 --the two on a6 side of the beginning
 have a6:decide (qp c p f<0)=decide (qp c q f<0)->(low c p/\low c q/\px p<px q)\/(upp c p/\upp c q/\px q<px p):=by
  intro hs;rw[a3 p q hs]at h;cases hpu:upB c p with
  |true=>
   cases hqu:upB c q with
   |true=>unfold qp at h;rw[hpu,hqu,if_pos rfl,if_pos rfl]at h;exact .inr ⟨⟨hp,ZY hpu⟩,⟨hq,ZY hqu⟩,Xg.1 (by omega)⟩
   |false=>unfold qp at h;rw[hpu,hqu,if_neg (by simp),if_neg (by simp)]at h;omega
  |false=>
   have lp:low c p:=⟨hp,(Tp hpu).1⟩;cases hqu:upB c q with
   |false=>have lq:low c q:=⟨hq,(Tp hqu).1⟩;rw[vD lp lq]at h;exact .inl ⟨lp,lq,yS.1 h⟩
   |true=>
    have rq:qp c r q<=0:=by
     unfold qp;rw[ru,hqu,if_pos rfl,if_pos rfl];have:=Ja hr hq;rcases W1 (sg (px r-px q)) 0 with k|k
     .exact absurd (yS.1 k) this
     .omega
    rcases V1 rq with rq|rq
    .exfalso;have a4:=pr hpu;have a8:decide (qp c r f<0)=decide (qp c p f<0):=by
      cases hF:decide (qp c p f<0)with
      |true=>
       rw[hF]at hs;have h1:qp c q f<0:=by simpa using hs.symm
       exact decide_eq_true (Zo (U3 rq) h1)
      |false=>
       have h1:¬qp c p f<0:=by simpa using hF
       exact decide_eq_false λk=>h1 (Zo (U3 a4) k)
     exact nr ⟨by rw[a3 p r a8.symm];exact a4,by rw[a3 r q (a8.trans hs)];exact rq⟩
    .have hsm:=ZZ hr.1 hq rq;have lq:low c q:=⟨hq,by
      have:cY c q=0:=by unfold cY;rw[<-hsm.2];exact hr.2.1
      rw[this];exact ji⟩
     rw[vD lp lq]at h;exact .inl ⟨lp,lq,yS.1 h⟩
 cases hF:decide (qp c p f<0)<;>cases hG:decide (qp c q f<0)
 .exact a6 (hF.trans hG.symm)
 ·--the way passes the beginning of the order
  have qf:qp c q f<0:=by simpa using hG
  have pf:¬qp c p f<0:=by simpa using hF
  have a9:ZI l q:=by
   rcases V1 lq with k|k
   .exfalso;have a7:decide (qp c l f<0)=true:=decide_eq_true (Zo (U3 k) qf);exact nl ⟨a5 p l hF a7,by rw[a3 l q (a7.trans hG.symm)];exact k⟩
   .exact ZZ hl.1 hq k
  have hqy:cY c q=0:=by unfold cY;rw[<-a9.2];exact hl.2.1
  cases hpu:upB c p with
  |false=>
   exfalso;have a4:=pr hpu;cases hR:decide (qp c r f<0)with
   |false=>exact nr ⟨by rw[a3 p r (hF.trans hR.symm)];exact a4,a5 r q hR hG⟩
   |true=>exact pf (Zo (U3 a4) (by simpa using hR))
  |true=>exact .inr ⟨⟨hp,ZY hpu⟩,⟨hq,by rw[hqy];exact ji⟩,by rw[<-a9.1];exact D3 hl hp hpu⟩
 .exfalso;have hv:¬qp c q f<0:=by simpa using hG
  unfold vw at h;rw[hF,hG,if_neg (by simp),if_neg hv]at h;omega
 .exact a6 (hF.trans hG.symm)
end Eng
end
section
namespace Eng
open Go Go.Proofs Rl
set_option maxRecDepth 100000
theorem vF(p q:P5):zW q p= -zW p q:=by
 unfold zW;rw[ZW (px p) (px q),ZW (py p) (py q)];by_cases h:sg (px p-px q)=0
 .rw[if_pos h,if_pos (by omega)]
 .rw[if_neg h,if_neg (by omega)]
theorem D5{p q:P5}:zW p q<0↔px p<px q\/(px p=px q/\py p<py q):=by
 unfold zW;by_cases h:sg (px p-px q)=0
 .rw[if_pos h,yS];have e:=RD.1 h;constructor
  .exact λk=> .inr ⟨e,k⟩
  .rintro(k|⟨_,k⟩)
   .rw[e]at k;exact absurd k (ku _)
   .exact k
 .rw[if_neg h,yS];constructor
  .exact λk=> .inl k
  .rintro(k|⟨k,_⟩)
   .exact k
   .rw[RD]at h;exact absurd k h
theorem MQ{p q r:P5}(h1:zW p q<0)(h2:zW q r<0):zW p r<0:=by
 rw[D5]at *;rcases h1 with h1|⟨h1,k1⟩<;>rcases h2 with h2|⟨h2,k2⟩
 .exact .inl (lt_trans h1 h2)
 .exact .inl (h2▸h1)
 .exact .inl (h1▸h2)
 .exact .inr ⟨h1.trans h2,lt_trans k1 k2⟩
theorem OI(c:Ci)(f p q:P5):vw c f q p= -vw c f p q:=by
 unfold vw;by_cases h:decide (qp c p f<0)=decide (qp c q f<0)
 .rw[if_pos h,if_pos h.symm,Yr]
 .rw[if_neg h,if_neg (λk=>h k.symm)];cases h1:decide (qp c p f<0)<;>cases h2:decide (qp c q f<0)<;>rw[h1,h2]at h<;>simp at h h1 h2 ⊢ <;>simp[h1,h2]
theorem bM{c:Ci}{f p q r:P5}(h1:vw c f p q<0)(h2:vw c f q r<0):vw c f p r<0:=by
 unfold vw at *;cases hp:decide (qp c p f<0)<;>cases hq:decide (qp c q f<0)<;>cases hr:decide (qp c r f<0)<;>rw[hp,hq]at h1<;>rw[hq,hr]at h2<;>
  simp only[decide_eq_true_eq,decide_eq_false_iff_not]at hp hq hr<;>simp only[hq,hr,if_true,if_false,reduceCtorEq]at h1 h2 ⊢
 all_goals first|omega|exact Zo (U3 h1) h2|simp
theorem OJ{c:Ci}{f p q:P5}(hp:onC c p)(hq:onC c q)(h:vw c f p q=0):ZI p q:=by
 unfold vw at h;split at h
 .exact ZZ hp hq h
 .split at h<;>omega
theorem GV(c:Ci)(f p:P5):vw c f f p<=0:=by
 have hf:decide (qp c f f<0)=false:=decide_eq_false (by rw[UX ⟨rfl,rfl⟩];omega);unfold vw;rw[hf];cases hp:decide (qp c p f<0)with
 |true=>rw[if_neg (by simp),if_pos (by simpa using hp)];omega
 |false=>
  rw[if_pos rfl,Yr];have:¬qp c p f<0:=by simpa using hp
  omega
def So (c:Ci):Ci:=⟨-c.x,c.y,c.q⟩
theorem fK(c:Ci)(p:P5):cX (So c) (yz p)= -cX c p:=by
 unfold cX So;rw[Wo,wl];generalize px p=a;generalize ofR c.x=b;obtain⟨a,rfl⟩:=a.rep;obtain⟨b,rfl⟩:=b.rep;exact xz λn=>by simp only[xZ,zK];grind
theorem pV(c:Ci)(p:P5):cY (So c) (yz p)=cY c p:=rfl
theorem QF{c:Ci}{p:P5}:onC (So c) (yz p)↔onC c p:=by
 unfold onC;rw[fK,pV,PR,Uz,Vz];rfl
theorem fL{p q:P5}(h:ZI (yz p) (yz q)):ZI p q:=by
 refine⟨?_,h.2⟩;have:=h.1;rw[Wo,Wo]at this;rw[<-Vz (px p),this,Vz]
def onS (c:Cu) (p:P5):Prop:=Z0 c p=true
theorem jD{c:Cu}(ha:c.arc=true){p:P5}:onS c p↔onC c.ci p:=by
 unfold onS Z0;rw[if_pos ha,beq_iff_eq,WU]
theorem Qr(c:Cu)(p q:P5):zZ c q p= -zZ c p q:=by
 unfold zZ;split
 .split
  .exact OI _ _ _ _
  .exact OI _ _ _ _
 .split
  .rw[vF p q]
  .exact vF p q
theorem bN{c:Cu}{p q r:P5}(h1:zZ c p q<0)(h2:zZ c q r<0):zZ c p r<0:=by
 unfold zZ at *;split
 .rename_i ha;rw[if_pos ha]at h1 h2;split
  .rename_i hw;rw[if_pos hw]at h1 h2;exact bM h1 h2
  .rename_i hw;rw[if_neg hw]at h1 h2;exact bM h1 h2
 .rename_i ha;rw[if_neg ha]at h1 h2;split
  .rename_i hw;rw[if_pos hw]at h1 h2;have k1:zW q p<0:=by rw[vF p q];omega
   have k2:zW r q<0:=by rw[vF q r];omega
   have:=MQ k2 k1;rw[vF p r]at this;omega
  .rename_i hw;rw[if_neg hw]at h1 h2;exact MQ h1 h2
theorem OK{c:Cu}{p q:P5}(hp:onS c p)(hq:onS c q)(h:zZ c p q=0):ZI p q:=by
 unfold zZ at h;split at h
 .rename_i ha;rw[jD ha]at hp hq;split at h
  .exact fL (OJ (QF.2 hp) (QF.2 hq) h)
  .exact OJ hp hq h
 .split at h
  .exact vu.1 (by omega)
  .exact vu.1 h
theorem yT{c:Cu}{p q:P5}(h:ZI p q)(r:P5):zZ c p r=zZ c q r/\zZ c r p=zZ c r q:=by
 have a:zZ c p r=zZ c q r:=by
  have cg:∀(ci:Ci) (f x y z:P5),ZI x y->vw ci f x z=vw ci f y z:=by intro ci f x y z hs;unfold vw;rw[Xe f hs,Xe z hs]
  unfold zZ;split
  .split
   .exact cg _ _ _ _ _ (O0 h)
   .exact cg _ _ _ _ _ h
  .have:zW p r=zW q r:=by unfold zW;rw[h.1,h.2]
   rw[this]
 refine⟨a,?_⟩;rw[Qr,a,<-Qr]
theorem MR{c:Cu}(ha:c.arc=true)(p:P5):zZ c c.fr p<=0:=by
 unfold zZ;rw[if_pos ha];split
 .exact GV _ _ _
 .exact GV _ _ _
def srt (c:Cu) (l:List P5):Prop:=l.Pairwise λa b=>zZ c a b<0
theorem OL{c:Cu}{p:P5}(hp:onS c p):∀{l:List P5},(∀x∈l,onS c x)->srt c l->srt c (QX c l p)
 |[],_,_=>by simp[QX,srt]
 |q::r,hl,h=>by
  unfold srt at h;rw[bm]at h;unfold QX;split
  .rename_i ho;refine bm.2 ⟨λx hx=>?_,OL hp (λx hx=>hl x (by simp[hx])) h.2⟩;rcases GH c hx with hx|hx
   .exact h.1 x hx
   .rw[hx];exact ho
  .split
   .exact bm.2 h
   .rename_i ho he;have hpq:zZ c p q<0:=by
     rcases Int.lt_trichotomy (zZ c p q) 0 with k|k|k
     .exact k
     .exfalso;apply he;rw[Zl];exact jd.2 (OK hp (hl q (by simp)) k)
     .exfalso;apply ho;rw[Qr];omega
    refine bm.2 ⟨λx hx=>?_,bm.2 h⟩;rcases be.1 hx with rfl|hx
    .exact hpq
    .exact bN hpq (h.1 x hx)
theorem D6{c:Cu}{l:List P5}(hl:∀x∈l,onS c x):srt c (yI c l):=by
 rw[<-ZO];have:∀k,k<=l.length->srt c (soO c l k):=by
  intro k
  induction k with
  |zero=>intro _;rw[Zj];exact List.Pairwise.nil
  |succ k ih=>intro h;rw[Qq c (by omega)];exact OL (hl _ (bc _)) (λx hx=>hl x (GI c l k (by omega) x hx)) (ih (by omega))
 exact this _ (ea _)
theorem Ke{c:Cu}{p:P5}:∀{l:List P5} {x:P5},(x∈l\/x=p)->∃y∈QX c l p,ZI x y
 |[],x,h=>by
  rcases h with h|h
  .simp at h
  .exact⟨p,by simp[QX],by rw[h];exact⟨rfl,rfl⟩⟩
 |q::r,x,h=>by
  unfold QX;split
  .rcases h with h|h
   .rcases be.1 h with rfl|h
    .exact⟨_,List.mem_cons_self ..,rfl,rfl⟩
    .obtain⟨y,h1,h2⟩:=Ke (c:=c) (p:=p) (l:=r) (.inl h);exact⟨y,by simp[h1],h2⟩
   .obtain⟨y,h1,h2⟩:=Ke (c:=c) (p:=p) (l:=r) (.inr h);exact⟨y,by simp[h1],h2⟩
  .split
   .rename_i he;rcases h with h|h
    .exact⟨x,h,rfl,rfl⟩
    .exact⟨q,by simp,by rw[h];exact WM (jd.1 he)⟩
   .rcases h with h|h
    .exact⟨x,by simp[be.1 h],rfl,rfl⟩
    .exact⟨p,by simp,by rw[h];exact⟨rfl,rfl⟩⟩
theorem D7{c:Cu}{l:List P5}{x:P5}(hx:x∈l):∃y∈yI c l,ZI x y:=by
 rw[<-ZO];have:∀k,k<=l.length->∀x∈l.take k,∃y∈soO c l k,ZI x y:=by
  intro k
  induction k with
  |zero=>intro _ x hx;simp at hx
  |succ k ih=>
   intro h x hx;rw[Qq c (by omega)];rw[bb (by omega)]at hx;rcases bv.1 hx with hx|hx
   .obtain⟨y,h1,h2⟩:=ih (by omega) x hx;obtain⟨z,h3,h4⟩:=Ke (c:=c) (p:=l[k]) (l:=soO c l k) (x:=y) (.inl h1);exact⟨z,h3,h2.1.trans h4.1,h2.2.trans h4.2⟩
   .exact Ke (.inr (bd.1 hx))
 exact this _ (ea _) x (by rw[b4];exact hx)
theorem Yt{c x:Cu}:∀{l:List P5},srt c l->x∈jx c l->∃p q,p∈l/\q∈l/\zZ c p q<0/\(∀y∈l,¬(zZ c p y<0/\zZ c y q<0))/\x={c with fr:=p,tt:=q}
 |[],_,h=>by simp[jx]at h
 |[_],_,h=>by simp[jx]at h
 |p::q::r,hs,h=>by
  unfold srt at hs;rw[bm]at hs;have hs2:=hs.2;rw[bm]at hs2;simp only[jx,be]at h;rcases h with h|h
  .refine⟨p,q,by simp,by simp,hs.1 q (by simp),λy hy=>?_,h⟩;rintro⟨h1,h2⟩;simp only[be]at hy;rcases hy with rfl|rfl|hy
   .rw[WN ⟨rfl,rfl⟩]at h1;omega
   .rw[WN ⟨rfl,rfl⟩]at h2;omega
   .have:=hs2.1 y hy;rw[Qr]at this;omega
  .obtain⟨a,b,h1,h2,h3,h4,h5⟩:=Yt hs.2 h;refine⟨a,b,by simp[h1],by simp[h2],h3,λy hy=>?_,h5⟩;rcases be.1 hy with rfl|hy
   .rintro⟨k1,_⟩;have:=hs.1 a h1;rw[Qr]at this;omega
   .exact h4 y hy
theorem Tq{c x:Cu}{l:List P5}(hf:onS c c.fr)(ht:onS c c.tt)(hx:x∈jy c l):∃p q,(p∈c.fr::c.tt::l)/\(q∈c.fr::c.tt::l)/\zZ c p q<0/\(∀y∈c.fr::c.tt::l,¬(zZ c p y<0/\zZ c y q<0))/\x={c with fr:=p,tt:=q}/\l.all (y5 c)=true:=by
 obtain⟨a3,_⟩:=UY hx;have hon:∀y∈c.fr::c.tt::l,onS c y:=by
  intro y hy;simp only[be]at hy;rcases hy with rfl|rfl|hy
  .exact hf
  .exact ht
  .exact GK (b8.1 a3 y hy)
 unfold jy at hx;rw[if_pos a3]at hx;obtain⟨p,q,h1,h2,h3,h4,h5⟩:=Yt (D6 hon) hx;refine⟨p,q,v7 h1,v7 h2,h3,λy hy hk=>?_,h5,a3⟩;obtain⟨z,z1,z2⟩:=D7 (c:=c) hy;obtain⟨e1,e2⟩:=yT (c:=c) z2 q;obtain⟨e3,e4⟩:=yT (c:=c) z2 p;exact h4 z z1 ⟨by rw[<-e4];exact hk.1,by rw[<-e1];exact hk.2⟩
end Eng
end
section
namespace Eng
open Go Go.Proofs Rl
set_option maxRecDepth 100000
def Mo (c:Cu):Prop:=Gd c/\zW c.fr c.tt<0/\(c.arc=true->px c.fr<px c.tt/\(c.cw=true->upp c.ci c.fr/\upp c.ci c.tt)/\(c.cw=false->low c.ci c.fr/\low c.ci c.tt))
theorem mQ(x u y v c:Rat):px (zr x u y v c)=ofR x+ofR u*jw c:=by
 unfold zr;cases hs:sqQ c with
 |none=>rfl
 |some s=>show px (atV _)=_;rw[Ai,Gy hs,ze,qL]
theorem mR(x u y v c:Rat):py (zr x u y v c)=ofR y+ofR v*jw c:=by
 unfold zr;cases hs:sqQ c with
 |none=>rfl
 |some s=>show py (atV _)=_;rw[Aj,Gy hs,ze,qL]
theorem add_sub_cancel'(a b:Rl):a+b-a=b:=by
 obtain⟨a,rfl⟩:=a.rep;obtain⟨b,rfl⟩:=b.rep;exact xz λn=>by simp only[xZ,zK];grind
theorem OM{c:Ci}(h:0<c.q):atL c (jG c)/\atR c (xX c):=by
 have s2:=wo (Rat.le_of_lt h);have sp:=NS h;have m1:ofR (-1)= -1:=by rw[wl];rfl
 have x1:cX c (jG c)= -jw c.q:=by unfold cX jG;rw[mQ,add_sub_cancel',m1,PR,mlc,ml1]
 have x2:cX c (xX c)=jw c.q:=by unfold cX xX;rw[mQ,add_sub_cancel',ej,mlc,ml1]
 have y1:cY c (jG c)=0:=by unfold cY jG;rw[mR,xS,zml,ad0,sbs]
 have y2:cY c (xX c)=0:=by unfold cY xX;rw[mR,xS,zml,ad0,sbs]
 refine⟨⟨?_,y1,by rw[x1];exact jS.2 sp⟩,⟨?_,y2,by rw[x2];exact sp⟩⟩
 .unfold onC;rw[x1,y1,ml0,ad0,PR,Uz,Vz,s2]
 .unfold onC;rw[x2,y2,ml0,ad0,s2]
theorem fM{c:Ci}{p:P5}(h:atL c p):atR (So c) (yz p):=by
 refine⟨QF.2 h.1,h.2.1,?_⟩;rw[fK];exact xB.2 h.2.2
theorem fN{c:Ci}{p:P5}(h:atR c p):atL (So c) (yz p):=by
 refine⟨QF.2 h.1,h.2.1,?_⟩;rw[fK];exact jS.2 h.2.2
theorem D8{c:Ci}{p:P5}:low (So c) (yz p)↔low c p:=by unfold low;rw[QF];rfl
theorem xY{c:Ci}{p:P5}:upp (So c) (yz p)↔upp c p:=by unfold upp;rw[QF];rfl
theorem jE{p q:P5}:px (yz p)<px (yz q)↔px q<px p:=by rw[Wo,Wo];exact BU
theorem ON{p q:P5}(h:px p<px q):zW p q= -1:=by
 unfold zW;rw[Tn h,if_neg (by omega)]
theorem fO{p q:P5}(h:px q<px p):zW p q=1:=by
 unfold zW;rw[Yq h,if_neg (by omega)]
theorem OO{p q:P5}(h:px p<px q):wU p q=false:=by
 cases he:wU p q with
 |false=>rfl
 |true=>have:=(jd.1 he).1;rw[this]at h;exact absurd h (ku _)
theorem fP{c:Cu}(h:Gd c)(ha:c.arc=true){p q:P5}(gp:Gp p)(gq:Gp q)(hp:onS c p)(hq:onS c q)(ho:zZ c p q<0)(nl:¬(zZ c p (jG c.ci)<0/\zZ c (jG c.ci) q<0))(nr:¬(zZ c p (xX c.ci)<0/\zZ c (xX c.ci) q<0)):Mo (qw {c with fr:=p,tt:=q}):=by
 obtain⟨hL,hR⟩:=OM (h.circ ha).2;have cp:=(jD ha).1 hp;have cq:=(jD ha).1 hq
 --the piece as it is,or turned
 have a3:px p<px q->(c.cw=true->upp c.ci p/\upp c.ci q)->(c.cw=false->low c.ci p/\low c.ci q)->Mo (qw {c with fr:=p,tt:=q}):=by
  intro hx hu hl;have hc:=ON hx;have e:qw {c with fr:=p,tt:=q}={c with fr:=p,tt:=q}:=by unfold qw;rw[if_neg (show ¬0<zW p q by omega)]
  rw[e];exact⟨h.ends gp gq hp hq (OO hx),by show zW p q<0;omega,λ_=>⟨hx,hu,hl⟩⟩
 have a4:px q<px p->(c.cw=false->upp c.ci p/\upp c.ci q)->(c.cw=true->low c.ci p/\low c.ci q)->Mo (qw {c with fr:=p,tt:=q}):=by
  intro hx hu hl;have hc:=fO hx;have e:qw {c with fr:=p,tt:=q}=LV {c with fr:=p,tt:=q}:=by unfold qw;rw[if_pos (show 0<zW p q by omega)]
  rw[e];have g:Gd {c with fr:=p,tt:=q}:=h.ends gp gq hp hq (by rw[Zl];exact OO hx);refine⟨g.rev,by show zW q p<0;rw[ON hx];omega,λ_=>⟨hx,λhw=>?_,λhw=>?_⟩⟩
  .have hw:(c.arc&&!c.cw)=true:=hw;rw[ha]at hw;have:=hu (by simpa using hw);exact⟨this.2,this.1⟩
  .have hw:(c.arc&&!c.cw)=false:=hw;rw[ha]at hw;have:=hl (by simpa using hw);exact⟨this.2,this.1⟩
 unfold zZ at ho nl nr;rw[if_pos ha]at ho;rw[if_pos ha,if_pos ha]at nl nr;cases hw:c.cw with
 |false=>
  rw[hw]at ho nl nr a3 a4;rw[if_neg (by simp)]at ho;rw[if_neg (by simp),if_neg (by simp)]at nl nr;rcases OH cp cq hL hR ho nl nr with⟨a,b,x⟩|⟨a,b,x⟩
  .exact a3 x (λk=>by cases k) (λ_=>⟨a,b⟩)
  .exact a4 x (λ_=>⟨a,b⟩) (λk=>by cases k)
 |true=>
  rw[hw]at ho nl nr a3 a4;rw[if_pos rfl]at ho;rw[if_pos rfl,if_pos rfl]at nl nr;rcases OH (QF.2 cp) (QF.2 cq) (fN hR) (fM hL) ho nr nl with⟨a,b,x⟩|⟨a,b,x⟩
  .exact a4 (jE.1 x) (λk=>by cases k) (λ_=>⟨D8.1 a,D8.1 b⟩)
  .exact a3 (jE.1 x) (λ_=>⟨xY.1 a,xY.1 b⟩) (λk=>by cases k)
theorem mS{c:Cu}{y:P5}(h:Vn c y=false)(hy:onS c y)(ht:onS c c.tt)(ha:c.arc=true){p q:P5}(hs:onS c q)(hq:zZ c q c.tt<=0):¬(zZ c p y<0/\zZ c y q<0):=by
 rintro⟨h1,h2⟩;have a4:zZ c y c.tt<0:=by
  rcases V1 hq with hq|hq
  .exact bN h2 hq
  .rw[<-(yT (OK hs ht hq) y).2];exact h2
 have a3:=MR ha y;have hon:y5 c y=true:=by unfold y5;rw[show Z0 c y=true from hy,decide_eq_true a3,decide_eq_true (U3 a4)];rfl
 have n1:wU c.fr y=false:=by
  cases he:wU c.fr y with
  |false=>rfl
  |true=>exfalso;rw[<-(yT (jd.1 he) p).2]at h1;have:=MR ha p;rw[Qr]at this;omega
 have n2:wU c.tt y=false:=by
  cases he:wU c.tt y with
  |false=>rfl
  |true=>exfalso;rw[<-(yT (jd.1 he) c.tt).1,WN ⟨rfl,rfl⟩]at a4;omega
 unfold Vn at h;rw[hon,n1,n2]at h;cases h
theorem fQ{c:Cu}(h:Gd c):∀x∈xi c,Mo (qw x):=by
 intro x hx;unfold xi at hx;split at hx
 .rename_i ha;obtain⟨hC,hq⟩:=h.circ ha;obtain⟨l1,l2⟩:=Kb hC hq;obtain⟨a1,a2⟩:=OM hq;have sL:=(jD ha).2 a1.1;have sR:=(jD ha).2 a2.1;obtain⟨s1,s2,_⟩:=h.sup;obtain⟨p,q,m1,m2,ho,nb,e,a5⟩:=Tq s1 s2 hx;have a3:∀y∈c.fr::c.tt::((if Vn c (jG c.ci)=true then [jG c.ci]else [])++(if Vn c (xX c.ci)=true then [xX c.ci]else [])),Gp y/\onS c y/\zZ c y c.tt<=0:=by
   intro y hy;simp only[be]at hy;rcases hy with rfl|rfl|hy
   .exact⟨h.1.2.1,s1,MR ha _⟩
   .exact⟨h.1.2.2,s2,by rw[WN ⟨rfl,rfl⟩];omega⟩
   .have a4:=b8.1 a5 y hy;refine⟨?_,GK a4,?_⟩
    .rcases bv.1 hy with hy|hy
     .split at hy
      .rw[bd.1 hy];exact l1
      .simp at hy
     .split at hy
      .rw[bd.1 hy];exact l2
      .simp at hy
    .unfold y5 at a4;simp only[B0,decide_eq_true_eq]at a4;exact a4.2.2
  have a6:∀y,onS c y->(Vn c y=true->y∈c.fr::c.tt::((if Vn c (jG c.ci)=true then [jG c.ci]else [])++(if Vn c (xX c.ci)=true then [xX c.ci]else [])))->¬(zZ c p y<0/\zZ c y q<0):=by
   intro y hy hm;cases hi:Vn c y with
   |true=>exact nb y (hm hi)
   |false=>exact mS hi hy s2 ha (a3 q m2).2.1 (a3 q m2).2.2
  rw[e];refine fP h ha (a3 p m1).1 (a3 q m2).1 (a3 p m1).2.1 (a3 q m2).2.1 ho (a6 _ sL λhi=>?_) (a6 _ sR λhi=>?_)
  .rw[if_pos hi];simp
  .rw[if_pos hi];simp
 .rename_i ha;have ha:c.arc=false:=by simpa using ha
  rw[bd.1 hx];obtain⟨_,_,a7⟩:=h.sup;have hz:zW c.fr c.tt≠0:=λk=>by rw[jd.2 (vu.1 k)]at a7;cases a7
  unfold qw;split
  .rename_i k;exact⟨h.rev,by show zW c.tt c.fr<0;rw[vF c.fr c.tt];omega,λk=>by rw[show(LV c).arc=c.arc from rfl,ha]at k;cases k⟩
  .exact⟨h,by omega,λk=>by rw[ha]at k;cases k⟩
theorem RF{c:Cu}(h:Gd c):∀x∈zg c,Mo x:=by
 intro x hx;rw[ZT]at hx;obtain⟨y,hy,rfl⟩:=c0.1 (GN _ _ (ea _) x hx);exact fQ h y hy
theorem Ie{c:Cu}(h:Mo c){l:List P5}(hl:∀p∈l,Gp p):∀x∈jy c l,Mo x:=by
 intro x hx;obtain⟨hg,hlt,a6⟩:=h;obtain⟨s1,s2,_⟩:=hg.sup;have a7:=GL hg hl x hx;obtain⟨p,q,m1,m2,ho,_,e,a5⟩:=Tq s1 s2 hx;subst e;have a9:∀y∈c.fr::c.tt::l,c.arc=true->onC c.ci y/\(y=c.fr\/y=c.tt\/zZ c y c.tt<=0):=by
  intro y hy ha;simp only[be]at hy;rcases hy with rfl|rfl|hy
  .exact⟨(jD ha).1 s1,.inl rfl⟩
  .exact⟨(jD ha).1 s2,.inr (.inl rfl)⟩
  .have a4:=b8.1 a5 y hy;refine⟨(jD ha).1 (GK a4),.inr (.inr ?_)⟩;unfold y5 at a4;simp only[B0,decide_eq_true_eq]at a4;exact a4.2.2
 rcases F2 c.arc with ha|ha
 .obtain⟨hx,hu,hlo⟩:=a6 ha;rcases F2 c.cw with hw|hw
  .obtain⟨f1,t1⟩:=hu hw;have h0:0<(So c.ci).q:=(hg.circ ha).2;have a8:px (yz c.tt)<px (yz c.fr):=jE.2 hx;have a3:∀y∈c.fr::c.tt::l,upp c.ci y/\px (yz y)<=px (yz c.fr):=by
    intro y hy;obtain⟨hc,k|k|k⟩:=a9 y hy ha
    .rw[k];exact⟨f1,ji⟩
    .rw[k];exact⟨t1,le_of_lt a8⟩
    .unfold zZ at k;rw[if_pos ha,if_pos hw]at k;obtain⟨z1,z2⟩:=mP h0 (xY.2 f1) (xY.2 t1) a8 (QF.2 hc) k;exact⟨xY.1 z1,z2⟩
   obtain⟨p1,p2⟩:=a3 p m1;obtain⟨q1,q2⟩:=a3 q m2;have hfu:=fJ h0 (xY.2 f1) (xY.2 t1).1 a8;unfold zZ at ho;rw[if_pos ha,if_pos hw]at ho;have e:=D4 h0 (xY.2 f1) hfu (xY.2 p1) (xY.2 q1) p2 q2;have ho:vw (So c.ci) (yz c.fr) (yz p) (yz q)<0:=ho;rw[e,yS,jE]at ho;refine⟨a7,by show zW p q<0;rw[ON ho];omega,λ_=>⟨ho,λ_=>⟨p1,q1⟩,λk=>?_⟩⟩;have k:c.cw=false:=k;rw[hw]at k;cases k
  .obtain⟨f1,t1⟩:=hlo hw;have a3:∀y∈c.fr::c.tt::l,low c.ci y/\px c.fr<=px y:=by
    intro y hy;obtain⟨hc,k|k|k⟩:=a9 y hy ha
    .rw[k];exact⟨f1,ji⟩
    .rw[k];exact⟨t1,le_of_lt hx⟩
    .unfold zZ at k;rw[if_pos ha,if_neg (by rw[hw];simp)]at k;exact bL f1 t1 hx hc k
   obtain⟨p1,p2⟩:=a3 p m1;obtain⟨q1,q2⟩:=a3 q m2;unfold zZ at ho;rw[if_pos ha,if_neg (by rw[hw];simp),MP f1 p1 q1 p2 q2,yS]at ho;refine⟨a7,by show zW p q<0;rw[ON ho];omega,λ_=>⟨ho,λk=>?_,λ_=>⟨p1,q1⟩⟩⟩;have k:c.cw=true:=k;rw[hw]at k;cases k
 .refine⟨a7,?_,λk=>?_⟩
  .unfold zZ at ho;rw[if_neg (by rw[ha];simp),if_neg (by omega)]at ho;exact ho
  .have k:c.arc=true:=k;rw[ha]at k;cases k
theorem fT{c d:Ci}(h:lT c d=true):c=d:=by
 unfold lT at h;simp only[B0,decide_eq_true_eq]at h;obtain⟨x,y,q⟩:=c;obtain⟨x',y',q'⟩:=d;obtain⟨rfl,rfl,rfl⟩:=h;rfl
theorem fU{l m:Ln}(hm:okLn m)(h:iu l m=true){p:P5}(hp:lnv m p=0):lnv l p=0:=by
 unfold iu at h;simp only[B0,decide_eq_true_eq]at h;obtain⟨h1,h2,h3⟩:=h;have id:∀(k:Rat) (n:Rat),k*l.a=n*m.a->k*l.b=n*m.b->k*l.c=n*m.c->ofR k*lnv l p=ofR n*lnv m p:=by
  intro k n e1 e2 e3;have f1:ofR k*ofR l.a=ofR n*ofR m.a:=by rw[<-qL,<-qL,e1]
  have f2:ofR k*ofR l.b=ofR n*ofR m.b:=by rw[<-qL,<-qL,e2]
  have f3:ofR k*ofR l.c=ofR n*ofR m.c:=by rw[<-qL,<-qL,e3]
  have d:∀(k a b c x y:Rl),k*(a*x+b*y-c)=k*a*x+k*b*y-k*c:=by intro k a b c x y;obtain⟨k,rfl⟩:=k.rep;obtain⟨a,rfl⟩:=a.rep;obtain⟨b,rfl⟩:=b.rep;obtain⟨c,rfl⟩:=c.rep;obtain⟨x,rfl⟩:=x.rep;obtain⟨y,rfl⟩:=y.rep;exact xz λn=>by simp only[xZ,zK,ke];grind
  unfold lnv;rw[d,d,f1,f2,f3]
 have a3:∀k n:Rat,k≠0->ofR k*lnv l p=ofR n*lnv m p->lnv l p=0:=by intro k n hk e;rw[hp,ml0]at e;exact(mul_eq_zero e).resolve_left λz=>hk (yG.1 z)
 by_cases ha:m.a=0
 .have hb:m.b≠0:=λz=>hm ⟨ha,z⟩
  exact a3 m.b l.b hb (id _ _ (by grind) (by grind) (by grind))
 .exact a3 m.a l.a ha (id _ _ (by grind) (by grind) (by grind))
theorem fV{c d:Cu}(hc:Mo c)(hd:Mo d)(hs:jI c d=true)(hw:c.cw=d.cw)(he:wU d.fr c.tt=true):Mo {c with tt:=d.tt}:=by
 have a7:=jd.1 he;have a3:c.arc=d.arc:=by
  unfold jI at hs;split at hs
  .assumption
  .cases hs
 have a4:zW c.fr d.tt<0:=by
  have e:zW c.tt d.tt=zW d.fr d.tt:=by unfold zW;rw[a7.1,a7.2]
  exact MQ hc.2.1 (by rw[e];exact hd.2.1)
 have hne:wU c.fr d.tt=false:=by
  cases h:wU c.fr d.tt with
  |false=>rfl
  |true=>rw[Oz (jd.1 h)]at a4;omega
 have a6:c.arc=true->c.ci=d.ci:=by intro ha;unfold jI at hs;rw[if_pos a3,if_pos ha]at hs;exact fT hs
 have hon:onS c d.tt:=by
  have a5:onS d d.tt:=hd.1.sup.2.1;cases ha:c.arc with
  |true=>rw[jD ha,a6 ha];exact(jD (a3▸ha)).1 a5
  |false=>
   have a8:d.arc=false:=a3▸ha;have hl:iu c.ln d.ln=true:=by unfold jI at hs;rw[if_pos a3,if_neg (by rw[ha];simp)]at hs;exact hs
   unfold onS Z0 at a5 ⊢;rw[if_neg (by rw[a8];simp),beq_iff_eq,qY]at a5;rw[if_neg (by rw[ha];simp),beq_iff_eq,qY];exact fU (hd.1.line a8).2 hl a5
 refine⟨hc.1.ends hc.1.1.2.1 hd.1.1.2.2 hc.1.sup.1 hon hne,a4,λha=>?_⟩;have ha:c.arc=true:=ha;obtain⟨x1,u1,l1⟩:=hc.2.2 ha;obtain⟨x2,u2,l2⟩:=hd.2.2 (a3▸ha);refine⟨lt_trans x1 (by rw[<-a7.1];exact x2),λk=>?_,λk=>?_⟩
 .have k:c.cw=true:=k;exact⟨(u1 k).1,by show upp c.ci d.tt;rw[a6 ha];exact(u2 (hw▸k)).2⟩
 .have k:c.cw=false:=k;exact⟨(l1 k).1,by show low c.ci d.tt;rw[a6 ha];exact(l2 (hw▸k)).2⟩
end Eng
end
section
open Go Go.Proofs Eng
namespace Eng
section
variable (Gv:Nat->List A->List A->Prop)(I0:List D->List D->Prop)(M0:List D->Nat)(I1:List D->List D->Prop)(M1:List D->Nat)(I2:List D->List D->Prop)(M2:List D->Nat)(I3:List D->List D->Prop)(M3:List D->Nat)(Q:List A->Prop)
theorem Tt(l0:List (List D))(Q:List A->Prop):wpF CC Gv (lz ⟨[.slot 3 (.int .i64 0)],[],I0,M0⟩ ⟨[.slot 7 (.int .i64 0),.slot 5 (.int .i64 0),.slot 6 (.int .i64 0)],[.slot 3 (.int .i64 0)],I1,M1⟩ ⟨[.slot 10 (.int .i64 0),.own 9 17 66],[.slot 3 (.int .i64 0)],I2,M2⟩) Tryz.f99 [.c (.sl l0)] Q=(I0 [] [dI (0:Int)]/\∀(i:Int),I0 [] [dI i]->bB (decide (i<(Ts l0.length))) (rO l0 i 66/\∃x,cU l0 i 46 20 (pk x [])/\I1 [dI i] [dI (0:Int),dI (0:Int),dI (-1:Int)]/\∀(i_1 i_2 i_3:Int),I1 [dI i] [dI i_1,dI i_2,dI i_3]->bB (decide (i_1<(Ts l0.length))) (rO l0 i_1 66/\∃x1,cU l0 i_1 26 20 (pk x1 [])/\∃b,Gv 156 [aP x1,aP x] [aB b]/\br b (rO l0 i_1 66/\∃x2,cU l0 i_1 46 20 (pk x2 [])/\∃b,Gv 156 [aP x2,aP x] [aB b]/\br b (I1 [dI i] [dI (Pl .i64 (i_1+1)),dI (Pl .i64 (Pl .i64 (i_2+1)+1)),dI i_1]/\M1 [dI (Pl .i64 (i_1+1)),dI (Pl .i64 (Pl .i64 (i_2+1)+1)),dI i_1]<M1 [dI i_1,dI i_2,dI i_3]) (I1 [dI i] [dI (Pl .i64 (i_1+1)),dI (Pl .i64 (i_2+1)),dI i_1]/\M1 [dI (Pl .i64 (i_1+1)),dI (Pl .i64 (i_2+1)),dI i_1]<M1 [dI i_1,dI i_2,dI i_3])) (rO l0 i_1 66/\∃x2,cU l0 i_1 46 20 (pk x2 [])/\∃b,Gv 156 [aP x2,aP x] [aB b]/\br b (I1 [dI i] [dI (Pl .i64 (i_1+1)),dI (Pl .i64 (i_2+1)),dI i_3]/\M1 [dI (Pl .i64 (i_1+1)),dI (Pl .i64 (i_2+1)),dI i_3]<M1 [dI i_1,dI i_2,dI i_3]) (I1 [dI i] [dI (Pl .i64 (i_1+1)),dI i_2,dI i_3]/\M1 [dI (Pl .i64 (i_1+1)),dI i_2,dI i_3]<M1 [dI i_1,dI i_2,dI i_3]))) (bB (i_2==2) (bB (decide (i_3>=0)) (rO l0 i 66/\∃x,cU l0 i 0 66 (ck x [])/\rO l0 i_3 66/\∃x1,cU l0 i_3 0 66 (ck x1 [])/\∃b,Gv 158 [aC x,aC x1] [aB b]/\br b (rO l0 i 66/\∃b,cU l0 i 25 1 [Lr b]/\rO l0 i_3 66/\∃b1,cU l0 i_3 25 1 [Lr b1]/\bB (b==b1) (rO l0 i 66/\∃x,cU l0 i 0 66 (ck x [])/\rO l0 i_3 66/\∃x2,cU l0 i_3 46 20 (pk x2 [])/\I2 [dI i] [dI (0:Int),Lm []]/\∀(i_4:Int) (es:List (List D)),I2 [dI i] [dI i_4,Lm es]->bB (decide (i_4<(Ts l0.length))) (bB (i_4 !=i) (bB (i_4 !=i_3) (rO l0 i_4 66/\∃x,cU l0 i_4 0 66 (ck x [])/\(room (es.length+1)/\lens 66 [(ck x [])])/\I2 [dI i] [dI (Pl .i64 (i_4+1)),Lm (es++[(ck x [])])]/\M2 [dI (Pl .i64 (i_4+1)),Lm (es++[(ck x [])])]<M2 [dI i_4,Lm es]) (I2 [dI i] [dI (Pl .i64 (i_4+1)),Lm es]/\M2 [dI (Pl .i64 (i_4+1)),Lm es]<M2 [dI i_4,Lm es])) (I2 [dI i] [dI (Pl .i64 (i_4+1)),Lm es]/\M2 [dI (Pl .i64 (i_4+1)),Lm es]<M2 [dI i_4,Lm es])) ((room (es.length+1)/\lens 66 [(Lr (C66.arc x)::(rk (J9 x) (rk (J8 x) (rk (J7 x) (rk (J3 x) (rk (HZ x) (rk (J4 x) (Lr (C66.cw x)::(pk (Hy x) (pk x2 []))))))))))])/\∃e1,Gv 99 [aL (es++[(Lr (C66.arc x)::(rk (J9 x) (rk (J8 x) (rk (J7 x) (rk (J3 x) (rk (HZ x) (rk (J4 x) (Lr (C66.cw x)::(pk (Hy x) (pk x2 []))))))))))])] [aL e1]/\Q [aL e1])) (I0 [] [dI (Pl .i64 (i+1))]/\M0 [dI (Pl .i64 (i+1))]<M0 [dI i])) (I0 [] [dI (Pl .i64 (i+1))]/\M0 [dI (Pl .i64 (i+1))]<M0 [dI i])) (I0 [] [dI (Pl .i64 (i+1))]/\M0 [dI (Pl .i64 (i+1))]<M0 [dI i])) (I0 [] [dI (Pl .i64 (i+1))]/\M0 [dI (Pl .i64 (i+1))]<M0 [dI i]))) (Q [aL l0])):=by kernel_rfl
end
end Eng
end
