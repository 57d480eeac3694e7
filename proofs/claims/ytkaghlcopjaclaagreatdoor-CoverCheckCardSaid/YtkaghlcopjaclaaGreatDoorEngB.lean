import Derived.Test.YtkaghlcopjaclaaGreatDoorEngA
import Derived.Laws.IdiomStrings
import Derived.Deep.DeepAppendWide
open Array renaming toList_append->B0, ext'->Dd, range->F2, getElem?_append_left->Gv, toList_extract->Hu, empty_append->Hv
open Bool renaming and_eq_true->Hx, or_eq_false_iff->Hy, not_eq_true'->HZ
open Classical renaming choose_spec->I0, choose->I1
open Eng.CD renaming int->I2, slice_inv->I3
open Eng.Obj.arr renaming injEq->J3
open Go renaming sizeOf->J4
open Go.Builtin renaming zeroCells->J5, append_->J7, len_->J8, lenOf->J9
open Go.Call renaming operands->Lm
open Go.Instr renaming sliceBounds->Lr, sliceAt->Ls, slice->Lv, indexAt->M0, fill->M1, sureAddr->M2, buildSlice->M3, fieldAt->No, field->Pl
open Go.Op renaming operands->P1
open Go.Program renaming bytesOf->Sz, built->Ts
open Go.Result renaming andThen_ok->T1
open List renaming mem_map->U0, length_append->U3, mem_singleton->V1, mem_of_mem_take->W0, mem_append_right->W1, replicate->W2, mem_append->W3, mem_of_mem_drop->W4, mem_cons->aE, mem_cons_of_mem->cH, length_take->cL, eq_of_mem_replicate->dA, eq_nil_of_length_eq_zero->eg, flatten_append->el, mem_cons_self->en, mem_flatMap->er, take_append_drop->et, length_replicate->ew, map_congr_left->ey, getElem?_map->ez, length_drop->eH, getElem_mem->fg, getElem_map->fl, length_nil->fw, append_nil->fx, exists_cons_of_ne_nil->fR, extract_eq_take_drop->fS, length_pos_iff->ga, getElem?_range->gb, range->gd, getElem_range->gm, getElem?_take->gn, flatten_cons->gp, length_cons->gq, all_eq_true->gr, nil_append->gz, map_nil->hA
open Nat renaming mul_le_mul_right->hD, eq_of_beq_eq_true->hG, zero_add->hK, le_refl->hM, add_mul->hP, lt_or_ge->hQ, add_sub_cancel_left->hR, mul_comm->hS, min_eq_left->hT, div_lt_of_lt_mul->hU, zero_mul->hV, add_zero->hW, div_add_mod->hX, beq->hY, le_trans->ia, mul_le_mul_left->ib, mod_lt->ic, lt_of_lt_of_le->im, eq_zero_or_pos->ix
open Ne renaming symm->iy
open Option renaming map_eq_some_iff->iz, map_none->j0
open Option.some renaming injEq->j1
open Prod.mk renaming injEq->j2
section
namespace Eng
open Go Go.RowKit
section
variable {C:Cx}{B:Bd}{F0:Nat->Prop}{w0:World}{F:Nat->Prop}{loc:Where}{st:St}{a:Act}{w:World}
variable {dst:Option Nat}{ty:TypeId}{pos:String}{after:Array Edge}{g:Option (Nat×Bool)}
theorem Li{x:Operand}(h:Conc C B F0 w0 F loc st a w):RS C B F0 w0 st a w ⟨dst,.nilCheck x,ty,pos,after,g⟩ (xr C ⟨dst,.nilCheck x,ty,pos,after,g⟩ (ev st) st.objs):=by
 simp only[xr];have hx:=xg h x;split
 .rename_i k off hv;rw[hv]at hx;split
  .rename_i a3 hk;obtain⟨b,c,_,hp⟩:=hx.1 _ hk rfl;refine qT h hx.1 hx.2 ?_;simp[execOp,hp]
  .trivial
 .trivial
theorem Lj{op:BinOp}{t:TypeId}{x y:Operand}{p q:Bool}{u v:Value}(hp:CD w F (.ifc p) u)(hq:CD w F (.ifc q) v)(hxy:Q3 x=true\/Q3 y=true):(eqGuard op t x y u v).run C.P w= .ok () w:=by
 cases hp with
 |nilI=>cases hq with
  |nilI=>
   rcases hxy with hxy|hxy
   .cases x<;>simp[Q3]at hxy;cases op<;>rfl
   .cases y<;>simp[Q3]at hxy;cases op<;>cases x<;>rfl
  |someI=>cases op<;>rfl
 |someI=>cases hq<;>cases op<;>rfl
theorem Ft{op:BinOp}{t t2:TypeId}{x y:Operand}(h:Conc C B F0 w0 F loc st a w):RS C B F0 w0 st a w ⟨dst,.binOp op t x y t2,ty,pos,after,g⟩ (xr C ⟨dst,.binOp op t x y t2,ty,pos,after,g⟩ (ev st) st.objs):=by
 simp only[xr];have hx:=(xg h x).1;have hy:=(xg h y).1;have hvs:=cN (P:=C.P) (op:=op) (t:=t) (xo:=x) (yo:=y) hx hy;by_cases hr0:cA C.P op t x y (ev st x) (ev st y)= .fail
 .rw[hr0];trivial
 have hg:(eqGuard op t x y (a.eval x) (a.eval y)).run C.P w= .ok () w:=by
  generalize hu:ev st x=u at *;generalize hv:ev st y=v at *;unfold cA at hr0;split at hr0
  .rename_i ms hms;split at hr0
   .rename_i p q;split at hr0
    .rename_i hc;have hxy:Q3 x=true\/Q3 y=true:=by
      cases hx0:Q3 x<;>cases hy0:Q3 y<;>simp[hx0,hy0]at hc ⊢
     exact Lj hx hy hxy
    .exact absurd rfl hr0
   grind
  .split at hr0
   .have a4:CD w F _ _:=hx;refine V9 a4.one λe=>?_
    rw[e]at a4;cases a4
   .exact absurd rfl hr0
  .by_cases a3:∃fs,C.P.underlying t=some (.struct fs)
   .obtain⟨fs,a3⟩:=a3;unfold eqV at hr0;rw[a3]at hr0;exact P6 a3 hx hy hr0
   have hg:(a.eval x).oneCell'=true/\a.eval x≠ .nilIface:=by
    have h0:∃d,u= .c d/\((∃k n,d= .int k n)\/(∃b,d= .bool b)\/∃s,d= .str s):=by
     unfold eqV at hr0;split at hr0
     .split at hr0
      .exact⟨_,rfl,.inr (.inl ⟨_,rfl⟩)⟩
      .exact absurd rfl hr0
     .rename_i fs hfs;exact absurd ⟨fs,hfs⟩ a3
     .unfold hZ at hr0;split at hr0
      .exact⟨_,rfl,.inl ⟨_,_,rfl⟩⟩
      .exact⟨_,rfl,.inr (.inr ⟨_,rfl⟩)⟩
      .exact absurd rfl hr0
    obtain⟨d,h1,h2⟩:=h0;rw[h1]at hx;rcases h2 with⟨k,n,rfl⟩|⟨b,rfl⟩|⟨s,rfl⟩
    .rw[vM hx];exact⟨rfl,by simp⟩
    .rw[YH hx];exact⟨rfl,by simp⟩
    .rw[Z2 hx];exact⟨rfl,by simp⟩
   exact V9 hg.1 hg.2
 refine Xv h hvs (λv hv=>?_);simp[execOp,hg,hv]
theorem po{x y:Operand}{ts:Array TypeId}(h:Conc C B F0 w0 F loc st a w):RS C B F0 w0 st a w ⟨dst,.call ⟨.builtin .max, #[x,y],ts⟩,ty,pos,after,g⟩ (mxV true (ev st x) (ev st y)):=by
 refine Xv h (cO (P:=C.P) (ts:=ts) (ty:=ty) (xg h x).1 (xg h y).1) (λv hv=>?_);simp[execOp,resolve,invoke,builtin,hv]
theorem pp{x y:Operand}{ts:Array TypeId}(h:Conc C B F0 w0 F loc st a w):RS C B F0 w0 st a w ⟨dst,.call ⟨.builtin .min, #[x,y],ts⟩,ty,pos,after,g⟩ (mxV false (ev st x) (ev st y)):=by
 refine Xv h (cP (P:=C.P) (ts:=ts) (ty:=ty) (xg h x).1 (xg h y).1) (λv hv=>?_);simp[execOp,resolve,invoke,builtin,hv]
theorem cW{op:UnOp}{t:TypeId}{x:Operand}(h:Conc C B F0 w0 F loc st a w):RS C B F0 w0 st a w ⟨dst,.unOp op t x,ty,pos,after,g⟩ (xr C ⟨dst,.unOp op t x,ty,pos,after,g⟩ (ev st) st.objs):=by
 refine Xv h (iS (P:=C.P) (op:=op) (xg h x).1) (λv hv=>?_);simp[execOp,hv]
theorem Vt(l:List UInt8):(Xr l).flatten=l.map λc=>D.int .u8 c.toNat:=by
 induction l with
 |nil=>rfl
 |cons c l ih=>simp only[Xr,List.map_cons,gp]at ih ⊢;grind
theorem P8{s t:TypeId}{x:Operand}{l:List UInt8}(h:Conc C B F0 w0 F loc st a w)(hb:S9 C.P s t=true)(hx:ev st x= .c (.str l)):
 Does C B F0 w0 ⟨dst,.convert s t x,ty,pos,after,g⟩ a w (st.put dst (.c (.sl (Xr l))) []):=by
 obtain⟨e,hs,hd,he⟩:∃e,C.P.underlying s=some .string/\C.P.underlying t=some (.slice e)/\C.P.underlying e=some (.int .u8):=by
  unfold S9 at hb;split at hb
  .rename_i e h1 h2;split at hb
   .rename_i h3;exact⟨e,h1,h2,h3⟩
   .simp at hb
  .simp at hb
 have a7:=(xg h x).1;rw[hx]at a7;have a7:=Z2 a7;have a3:=run_bytes_of_string (P:=C.P) w s t e ⟨⟨l⟩⟩ hs hd he;have hsz:(⟨⟨l⟩⟩:ByteArray).size=l.length:=rfl;rw[hsz]at a3;generalize hcap:grownCap w l.length 0 e=cap at a3;generalize hob:Go.Obj.cells (bytesRow ⟨⟨l⟩⟩ cap) e ((bytesRow ⟨⟨l⟩⟩ cap).size,(bytesRow ⟨⟨l⟩⟩ cap).size+1)=ob at a3;have ad:(w.drew.alloc ob).heap.size=w.heap.size+1:=World.size_alloc ..;have a4:∀b,b<w.heap.size->(w.drew.alloc ob).heap[b]? =w.heap[b]? :=λb hb=>Below.heap_alloc w.drew ob b hb
 refine⟨.value (.slice (some ⟨w.heap.size,0,none⟩) l.length cap),_,w.drew.alloc ob,by simp[execOp,a7,a3],.inl rfl,λb=>F b\/b=w.heap.size,loc,?_⟩;refine h.step (up:=[]) (λb h=> .inl h) (λb hb=>a4 b (h.bound b hb)) (Le.refl _ _) ((BelowX.drew h.below).alloc h.hB _) (by have:=h.hB;omega) (λk=>?_) h.inj (λk b c hl=>⟨(h.fresh k b c hl).1,by have:=h.fresh k b c hl;omega⟩) (λb hb=>?_) (λb hb=>?_) ?_ trivial
 .refine CO.le (λb h=> .inl h) (λb hb=>a4 b (h.bound b hb)) (Le.refl _ _) rfl rfl (λb c hl=>?_) (h.objs k);have hf:=(h.fresh _ _ _ hl).2;exact⟨a4 b hf,λhn a6=>by rcases a6 with a6|a6;exact hn a6;omega⟩
 .rcases hb with hb|hb
  .have:=h.bound b hb;omega
  .omega
 .rcases hb with hb|hb
  .exact h.fsub b hb
  .have:=h.hB;exact .inr (.inl (by omega))
 .show CD _ _ (.sl (Xr l)) _;have a9:(Xr l).length=l.length:=by simp[Xr]
  have hfl:=Vt l;have a8:Row (w.drew.alloc ob) (λb=>F b\/b=w.heap.size) (Xr l) w.heap.size 0 1:=by
   refine⟨λe he=>?_,.inr rfl,λj hj=>?_⟩
   .simp only[Xr,U0]at he;obtain⟨c,_,rfl⟩:=he;rfl
   .rw[a9,Nat.mul_one]at hj;refine⟨.int .u8 (l[j]).toNat,?_,?_⟩
    .have a5:(w.drew.alloc ob).heap[w.heap.size]? =some ob:=by show(w.heap.push ob)[w.heap.size]? =_;simp
     rw[<-hob]at a5 ⊢;unfold World.cell?;rw[a5];simp only[hK];unfold bytesRow;rw[Gv (by simpa using hj)];simp[hj]
    .rw[hfl,qm _ (by simpa using hj)];simp only[fl];exact .int _ _
  have:=a8.CD (c:=cap) (by
   rw[a9,<-hcap];exact grownCap_ge w l.length 0 e)
  grind
theorem P9{s t:TypeId}{x:Operand}(h:Conc C B F0 w0 F loc st a w):RS C B F0 w0 st a w ⟨dst,.convert s t x,ty,pos,after,g⟩ (xr C ⟨dst,.convert s t x,ty,pos,after,g⟩ (ev st) st.objs):=by
 simp only[xr];split
 .rename_i hb;split
  .rename_i str hx;exact λ_=>P8 h hb hx
  .trivial
 .split
  .rename_i ds hs;refine Xv h (Fp (P:=C.P) (src:=s) (dst:=t) hs (xg h x).1) (λv hv=>?_);simp[execOp,hv]
  .trivial
theorem VC{P:Program}{t f off:Nat}{ft:TypeId}(h:Kq P t f=some (off,ft)):∃fs fd,P.underlying t=some (.struct fs)/\fs[f]? =some fd/\fd.offset=off/\fd.type=ft:=by
 unfold Kq at h
 grind
theorem kx{P:Program}{t:TypeId}(h:P.cellsOf t≠0):∃i,P.info? t=some i/\i.size=P.cellsOf t:=by
 unfold Program.cellsOf at h ⊢;cases hi:P.info? t with
 |none=>grind
 |some i=>grind
theorem vO{P:Program}{t f off b o:Nat}{ft:TypeId}(h:Kq P t f=some (off,ft))(h0:P.cellsOf ft≠0)(w:World):
 (No t (.pointer (some ⟨b,o,none⟩)) f).run P w= .ok (.pointer (some ⟨b,o+off,none⟩)) w:=by
 obtain⟨fs,fd,hu,hf,rfl,rfl⟩:=VC h;obtain⟨i,hi,hs⟩:=kx h0;have hsz:i.size≠0:=by grind
 simp[No,qN hu,hf,M2,fieldPlace,J4,typeInfo,hi,hsz,zp]
theorem HG{t:TypeId}{x:Operand}{f:Nat}(h:Conc C B F0 w0 F loc st a w):RS C B F0 w0 st a w ⟨dst,.fieldAddr t x f,ty,pos,after,g⟩ (xr C ⟨dst,.fieldAddr t x f,ty,pos,after,g⟩ (ev st) st.objs):=by
 simp only[xr];have hx:=xg h x;split
 .rename_i a5 ft hf;split
  .trivial
  .rename_i h0;have h0:C.P.cellsOf ft≠0:=by simpa using h0
   split
   .rename_i k o hv;rw[hv]at hx;split
    .rename_i a6 hk;obtain⟨b,c,hl,hp⟩:=hx.1 _ hk rfl;refine qT h (x:= .pointer (some ⟨b,o+a5,none⟩)) (λcells' hc _=>⟨b,c,hl,rfl⟩) hx.2 ?_;simp[execOp,hp,vO hf h0]
    .trivial
   .rename_i k i o hv;rw[hv]at hx;split
    .rename_i s es fz hk;obtain⟨b,c,hl,hi,hp⟩:=hx.1 s es fz hk;refine qT h (x:= .pointer (some ⟨b,i*s+o+a5,none⟩)) (λs' es' fz' hc=>?_) hx.2 ?_
     .grind
     .simp[execOp,hp,vO hf h0]
    .trivial
   .rename_i es i o hv;rw[hv]at hx;obtain⟨b,p,a3,hp,hi,a4⟩:=hx.1;refine qT h (x:= .pointer (some ⟨b,p+i*a3+o+a5,none⟩)) ⟨b,p,a3,by grind,hi,a4⟩ trivial ?_;simp[execOp,hp,vO hf h0]
   .trivial
 .trivial
theorem Fu{t:TypeId}{x:Operand}{f:Nat}(h:Conc C B F0 w0 F loc st a w):RS C B F0 w0 st a w ⟨dst,.field t x f,ty,pos,after,g⟩ (xr C ⟨dst,.field t x f,ty,pos,after,g⟩ (ev st) st.objs):=by
 simp only[xr];have hx:=xg h x;split
 .rename_i off ft cs hf hv;rw[hv]at hx;obtain⟨vs,a7,a4⟩:=hx.1;have hl:cs.length=vs.size:=by simpa using a4.length
  split
  .rename_i z hz;obtain⟨fs,fd,hu,a5,ho,ht⟩:=VC hf;subst ho ht;have h1:=Z1 hz w;have h2:=xc hz w;split
   .rename_i a6;have a6:fd.offset+z.length<=cs.length:=by simpa using a6
    split
    .rename_i ha;rw[ha]at h1;refine qT h (x:= .agg (vs.extract fd.offset (fd.offset+z.length))) ⟨_,rfl,?_⟩ trivial ?_
     .have:(vs.extract fd.offset (fd.offset+z.length)).toList=TO (λj=>nth undef vs.toList j) fd.offset z.length:=by
       rw[<-jK];apply List.ext_getElem?;intro j;simp only[Hu,fS,hR,ez];by_cases hj:j<z.length
       .have hsz:fd.offset+j<vs.size:=by omega
        simp[hj,qF,hsz]
       .simp[hj];omega
      rw[this,VA];exact K4 _ _ λj hj=>a4.nth .undef undef _ _ _ (by omega)
     .simp[execOp,Pl,qN hu,a5,part,a7,asAgg,h1,h2]
    .rename_i ha;rw[ha]at h1;split
     .rename_i a3;have a3:0<z.length:=by simpa using a3
      have hlt:fd.offset<vs.size:=by omega
      refine qT h (x:=nth undef vs.toList fd.offset) (show CD w F _ _ from a4.nth .undef undef _ _ fd.offset (by omega)) trivial ?_;simp[execOp,Pl,qN hu,a5,part,a7,asAgg,h1,hlt,qF]
     .trivial
   .trivial
  .trivial
 .trivial
theorem PA{x:Operand}{i:Nat}(h:Conc C B F0 w0 F loc st a w):RS C B F0 w0 st a w ⟨dst,.extract x i,ty,pos,after,g⟩ (xr C ⟨dst,.extract x i,ty,pos,after,g⟩ (ev st) st.objs):=by
 simp only[xr];have hx:=xg h x;split
 .rename_i as hv;rw[hv]at hx;obtain⟨vs,hxe,a5⟩:=hx.1;have hl:as.length=vs.size:=by simpa using a5.length
  split
  .rename_i a4;have a4:i<as.length:=by simpa using a4
   have h1:=a5.nth (A.c .undef) undef as vs.toList i a4;have a3:(execOp a.eval ⟨dst,.extract x i,ty,pos,after,g⟩).run C.P w= .ok (.value (nth undef vs.toList i)) w:=by simp[execOp,Instr.extract,hxe,qF,show i<vs.size by omega]
   split
   .rename_i d hd;rw[hd]at h1;exact qT h h1 trivial a3
   .rename_i cs hd;rw[hd]at h1;exact qT h h1 trivial a3
  .trivial
 .trivial
theorem Fv{t:TypeId}{x i:Operand}(h:Conc C B F0 w0 F loc st a w):RS C B F0 w0 st a w ⟨dst,.index t x i,ty,pos,after,g⟩ (xr C ⟨dst,.index t x i,ty,pos,after,g⟩ (ev st) st.objs):=by
 simp only[xr];have hx:=(xg h x).1;have hi:=(xg h i).1;split
 .rename_i s k n hu hvx hvi;rw[hvx]at hx;rw[hvi]at hi;rintro⟨h0,h1⟩;refine xb h (x:= .int .u8 ((nth 0 s n.toNat).toNat:Int)) ?_ (I2 _ _) trivial;have hs:=Z2 hx;have hn:=vM hi;have a3:n.toNat<s.length:=by omega
  have hg:(⟨⟨s⟩⟩:ByteArray)[n.toNat]? =some (nth 0 s n.toNat):=by rw[qm _ a3];have:n.toNat<(⟨⟨s⟩⟩:ByteArray).size:=a3;rw[getElem?_pos (⟨⟨s⟩⟩:ByteArray) n.toNat this];rfl
  simp[execOp,Instr.index,hs,hn,asIntOf,qN hu,h0,hg]
 .trivial
theorem HH{t:TypeId}{x i:Operand}(h:Conc C B F0 w0 F loc st a w):RS C B F0 w0 st a w ⟨dst,.indexAddr t x i,ty,pos,after,g⟩ (xr C ⟨dst,.indexAddr t x i,ty,pos,after,g⟩ (ev st) st.objs):=by
 simp only[xr,Qa];have hx:=(xg h x);have hi:=(xg h i).1;split
 .rename_i k n hvi;rw[hvi]at hi;have hn:=vM hi;split
  .rename_i e hu;have ag:∀s,C.P.cellsOf e=s->s≠0->(J4 e).run C.P w= .ok s w:=λs hs h0=>by obtain⟨b1,h1,h2⟩:=kx (P:=C.P) (t:=e) (by rw[hs];exact h0);simp[J4,typeInfo,h1,h2,hs]
   split
   .rename_i es a4;rw[a4]at hx;split
    .rename_i ap;have ap:0<C.P.cellsOf e:=by simpa using ap
     rintro⟨h0,h1,h2⟩;obtain⟨ad,c,a7,_,a3⟩:=I3 hx.1;rcases a3 with rfl|⟨b,o,a5,rfl,a3⟩
     .simp at h1;omega
     have a8:n.toNat<es.length:=by omega
     have a9:a5=C.P.cellsOf e:=by rw[<-h2,qm _ a8];exact(a3.hs _ (fg a8)).symm
     subst a9;refine xb h (x:= .pointer (some ⟨b,o+n.toNat*C.P.cellsOf e,none⟩)) ?_ ⟨b,o,_,by simp,a8,a3⟩ trivial;simp[execOp,M0,a7,hn,asIntOf,qN hu,h0,h1,ag _ rfl (by omega),zp]
    .trivial
   .rename_i k' a4;rw[a4]at hx;split
    .rename_i s es fz hk;split
     .rename_i hs;have hs:s=C.P.cellsOf e:=by simpa using hs
      rintro⟨h0,h1⟩;have a6:=h.objs k';rw[hk]at a6;obtain⟨_,hs0,_,a6⟩:=a6;rcases hx.1 s es fz hk with⟨b,c,hl,a7⟩|⟨_,rfl,_⟩
      .have a8:n.toNat<es.length:=by omega
       refine xb h (x:= .pointer (some ⟨b,n.toNat*s,none⟩)) ?_ (λs' es' fz' hc=>?_) hx.2
       .simp[execOp,M0,a7,hn,asIntOf,qN hu,h0,h1,ag _ hs.symm (by omega),zp]
       .rw[hk]at hc;simp only[J3]at hc;obtain⟨rfl,rfl,rfl⟩:=hc;exact⟨b,c,hl,a8,by simp⟩
      .simp at h1;omega
     .trivial
    .trivial
   .rename_i k' o l a4;rw[a4]at hx;split
    .rename_i s es fz hk;split
     .rename_i hs;have hs:s=C.P.cellsOf e:=by simpa using hs
      rintro⟨h0,h1⟩;have a6:=h.objs k';rw[hk]at a6;obtain⟨_,hs0,_,a6⟩:=a6;obtain⟨b,c,hl,hol,a7⟩:=(hx.1 s es fz hk).resolve_right (by rintro(⟨_,_,_,_,h4,_⟩|⟨_,_,_,h4,_⟩)<;>omega);refine xb h (x:= .pointer (some ⟨b,o*s+n.toNat*s,none⟩)) ?_ (λs' es' fz' hc=>?_) hx.2
      .simp[execOp,M0,a7,hn,asIntOf,qN hu,h0,h1,ag _ hs.symm (by omega),zp]
      .rw[hk]at hc;simp only[J3]at hc;obtain⟨rfl,rfl,rfl⟩:=hc;exact⟨b,c,hl,by omega,by rw[hP];simp⟩
     .trivial
    .trivial
   .trivial
  .rename_i len e hu;split
   .rename_i k' al a4;rw[a4]at hx;split
    .rename_i an hk;split
     .rename_i m;split
      .rename_i hm;simp only[Hx,decide_eq_true_eq]at hm;obtain⟨b,c,hl,a7⟩:=hx.1 _ hk rfl;obtain⟨b1,h1,h2⟩:=kx (P:=C.P) (t:=e) (by omega);refine qT h (x:= .pointer (some ⟨b,al+m*C.P.cellsOf e,none⟩)) (λcells' hc _=>⟨b,c,hl,rfl⟩) hx.2 ?_;simp[execOp,M0,a7,hn,asIntOf,qN hu,hm.1,M2,J4,typeInfo,h1,h2,zp]
      .trivial
     .trivial
    .trivial
   .rename_i es j al a4;rw[a4]at hx;split
    .rename_i m;split
     .rename_i hm;simp only[Hx,decide_eq_true_eq]at hm;obtain⟨b,p,a5,hp,hi2,a3⟩:=hx.1;obtain⟨b1,h1,h2⟩:=kx (P:=C.P) (t:=e) (by omega);refine qT h (x:= .pointer (some ⟨b,p+j*a5+al+m*C.P.cellsOf e,none⟩)) ⟨b,p,a5,by rw[Nat.add_assoc],hi2,a3⟩ trivial ?_;simp[execOp,M0,hp,hn,asIntOf,qN hu,hm.1,M2,J4,typeInfo,h1,h2,zp]
     .trivial
    .trivial
   .trivial
  .trivial
 .trivial
end
end Eng
end
section
namespace Eng
open Go Go.RowKit
section
variable {C:Cx}{B:Bd}{F0:Nat->Prop}{w0:World}{F:Nat->Prop}{loc:Where}{st:St}{a:Act}{w:World}
variable {dst:Option Nat}{ty:TypeId}{pos:String}{after:Array Edge}{g:Option (Nat×Bool)}
theorem CO.heap{objs:List Obj}{w':World}{k:Nat}{o:Obj}(hh:w'.heap=w.heap)(h:CO loc objs w F k o):CO loc objs w' F k o:=
 CO.le (λ_ h=>h) (λ_ _=>by rw[hh]) (Le.refl _ _) rfl rfl (λ_ _ _=>⟨by rw[hh],λh=>h⟩) h
theorem Conc.drew(h:Conc C B F0 w0 F loc st a w):Conc C B F0 w0 F loc st a w.drew:=
 ⟨h.prog,h.below.drew,h.hB,h.defers,All2.mono (R:=CV loc st.objs w F) (λ_ _ hv=>CV.mem (w:=w) (w':=w.drew) (λ_ h=>h) (λ_ _=>rfl) hv) h.tmps,h.refs,λk=>CO.heap (w:=w) (w':=w.drew) rfl (h.objs k),h.inj,h.fresh,h.bound,h.fsub,h.fsup,h.inv.mono (λ_ h=>h) λ_ _=>rfl⟩
def Xx (loc:Where) (k:Nat):Where:=⟨loc.P,λj=>if j=k then none else loc j,loc.ty⟩
theorem cZ{objs:List Obj}{k:Nat}(hk:nth .none objs k≠ .none):Le objs (upd objs k .dead) loc (Xx loc k):=by
 have a3:k<objs.length:=by
  grind [hQ,qG]
 refine⟨rfl,λ_ _=>rfl,λj hj=>?_,λj o' hj hc hbx=>?_,λj s' es' fz' hj hc=>?_⟩
 .grind [qc,qb]
 .by_cases hkj:k=j
  .subst hkj;rw[qc _ _ _ a3]at hc;rw[<-hc]at hbx;simp[kl]at hbx
  .rw[qb _ _ _ hkj]at hc;exact⟨by grind,by simp[Xx,iy hkj]⟩
 .by_cases hkj:k=j
  .subst hkj;rw[qc _ _ _ a3]at hc;grind
  .rw[qb _ _ _ hkj]at hc;exact⟨⟨_,_,hc,rfl⟩,by simp[Xx,iy hkj]⟩
theorem Conc.killO{k:Nat}(h:Conc C B F0 w0 F loc st a w)(hk:nth .none st.objs k≠ .none)(dt:List Nat):
 Conc C B F0 w0 F (Xx loc k) ⟨st.tmps,upd st.objs k .dead,dt⟩ a w:=by
 have hlt:k<st.objs.length:=by
  grind [hQ,qG]
 have a3:Le st.objs (upd st.objs k .dead) loc (Xx loc k):=cZ hk;have:=h.step (dst:=none) (v:= .any) (x:=undef) (up:=[(k,.dead)]) (loc':=Xx loc k) (F':=F) (λ_ h=>h) (λ_ _=>rfl) a3 h.below h.hB (λj=>?_) ?_ ?_ h.bound h.fsub trivial trivial
 .exact this.redirty
 .show CO _ (upd st.objs k .dead) _ _ _ (nth .none (upd st.objs k .dead) j);by_cases hkj:k=j
  .subst hkj;rw[qc _ _ _ hlt];simp[CO,Xx]
  .rw[qb _ _ _ hkj];exact CO.le (λ_ h=>h) (λ_ _=>rfl) a3 (by simp[Xx,iy hkj]) rfl (λb c hb=>⟨rfl,λh=>h⟩) (h.objs j)
 .intro j j' b c c' h1 h2;simp only[Xx]at h1 h2;split at h1
  .grind
  .split at h2
   .grind
   .exact h.inj _ _ _ _ _ h1 h2
 .intro j b c h1;simp only[Xx]at h1;split at h1
  .grind
  .exact h.fresh _ _ _ h1
theorem Conc.kill{k s:Nat}{es:List (List D)}{fz:Bool}(h:Conc C B F0 w0 F loc st a w)(hk:nth .none st.objs k= .arr s es fz)(dt:List Nat):
 Conc C B F0 w0 F (Xx loc k) ⟨st.tmps,upd st.objs k .dead,dt⟩ a w:=h.killO (by grind) dt
theorem Conc.adopt{d b cap tt:Nat}{ob:Obj}{v:V}{x:Value}{cs:Array Value}{t:TypeId}(h:Conc C B F0 w0 F loc st a w)(hd:qD st.objs d=true)(hb:Own B b/\b<w.heap.size)(hnF:¬F b)(hno:∀k c,loc k≠some (b,c))(hob:CO (at_ loc d (b,cap) tt) (upd st.objs d ob) (setBlk w b (.cells cs t (0,0))) F d ob)(hv:CV (at_ loc d (b,cap) tt) (upd st.objs d ob) (setBlk w b (.cells cs t (0,0))) F v x)(hr:Ref (upd st.objs d ob) v):
 Conc C B F0 w0 F (at_ loc d (b,cap) tt) (st.put dst v [(d,ob)]) (a.put dst x) (setBlk w b (.cells cs t (0,0))):=by
 obtain⟨a3,hlt⟩:=qR hd;have hw:∀b',F b'->(setBlk w b (.cells cs t (0,0))).heap[b']? =w.heap[b']? :=λb' hb'=>zl (λe=>hnF (e▸hb'))
 have a4:Le st.objs (upd st.objs d ob) loc (at_ loc d (b,cap) tt):=by
  refine⟨rfl,λk hk=>by
   have:k≠d:=λe=>by subst e;exact absurd a3 hk
   simp[at_,this],λk hk=>?_,λk o' hk hc hbx=>?_,λk s es' fz' hk hc=>?_⟩
  .by_cases hkd:d=k
   .subst hkd;exact absurd a3 hk
   .rw[qb _ _ _ hkd];exact hk
  .by_cases hkd:d=k
   .subst hkd;exact absurd a3 hk
   .rw[qb _ _ _ hkd]at hc;exact⟨by rw[hc];exact hbx,by simp[at_,iy hkd]⟩
  .by_cases hkd:d=k
   .subst hkd;exact absurd a3 hk
   .rw[qb _ _ _ hkd]at hc;exact⟨⟨_,_,hc,rfl⟩,by simp[at_,iy hkd]⟩
 refine h.step (up:=[(d,ob)]) (λ_ h=>h) hw a4 (BelowX.setBlk h.below hb.1) (by rw[zH];exact h.hB) (λk=>?_) ?_ ?_ (λb' hb'=>by rw[zH];exact h.bound b' hb') h.fsub hv hr
 .show CO _ (upd st.objs d ob) _ _ _ (nth .none (upd st.objs d ob) k);by_cases hk:d=k
  .subst hk;rw[qc _ _ _ hlt];exact hob
  .rw[qb _ _ _ hk];refine CO.le (λ_ h=>h) hw a4 (by simp[at_,iy hk]) (by simp[at_,iy hk]) (λb' c hb'=>⟨zl (λe=>?_),λh=>h⟩) (h.objs k)
   grind
 .intro k k' b' c c' h1 h2;simp only[at_]at h1 h2;split at h1<;>split at h2
  .rw[‹k=d›,‹k'=d›]
  .grind
  .simp only[j1,j2]at h2;rw[<-h2.1]at h1;exact absurd h1 (hno _ _)
  .exact h.inj _ _ _ _ _ h1 h2
 .intro k b' c h1;simp only[at_]at h1;rw[zH];split at h1
  .simp only[j1,j2]at h1;obtain⟨rfl,_⟩:=h1;exact hb
  .exact h.fresh _ _ _ h1
theorem iU{x:Operand}{ts:Array TypeId}(h:Conc C B F0 w0 F loc st a w):RS C B F0 w0 st a w ⟨dst,.call ⟨.builtin .len, #[x],ts⟩,ty,pos,after,g⟩ (iO C.P st.objs ts (ev st x)):=by
 unfold iO;have hx:=(xg h x).1;split
 .rename_i t hts;have a4:∀n:Int,(J8 ts ty #[a.eval x]).run C.P w= .ok (.int .i64 n) w->(execOp a.eval ⟨dst,.call ⟨.builtin .len, #[x],ts⟩,ty,pos,after,g⟩).run C.P w= .ok (.value (.int .i64 n)) w:=λn hn=>by simp[execOp,resolve,invoke,builtin,hn]
  have a6:ts[0]? =some t:=by
   have:ts= #[t]:=by apply Dd;simpa using hts
   rw[this];rfl
  split
  .rename_i hu;split
   .rename_i s hv;rw[hv]at hx;refine qT h (I2 _ _) trivial (a4 _ ?_);simp[J8,a6,qN hu,Z2 hx,goInt];rfl
   .trivial
  .rename_i e hu;have a5:∀ad n c,a.eval x= .slice ad n c->(J8 ts ty #[a.eval x]).run C.P w= .ok (.int .i64 n) w:=λad n c a3=>by simp[J8,a6,qN hu,a3,goInt]
   split
   .rename_i es hv;rw[hv]at hx;obtain⟨ad,c,a3,_⟩:=I3 hx;exact qT h (I2 _ _) trivial (a4 _ (a5 _ _ _ a3))
   .rename_i hv;rw[hv]at hx;exact qT h (I2 _ _) trivial (a4 _ (a5 none 0 0 hx))
   .rename_i k hv;rw[hv]at hx;split
    .rename_i s es fz hk;rcases hx s es fz hk with⟨b,c,_,a3⟩|⟨_,rfl,a3⟩
     .exact qT h (I2 _ _) trivial (a4 _ (a5 _ _ _ a3))
     .exact qT h (I2 _ _) trivial (a4 _ (a5 _ _ _ a3))
    .trivial
   .rename_i k o l hv;rw[hv]at hx;split
    .rename_i s es fz hk;rcases hx s es fz hk with⟨b,c,_,_,a3⟩|⟨_,_,_,_,rfl,a3⟩|⟨_,_,_,rfl,_,_,a3⟩
     .exact qT h (I2 _ _) trivial (a4 _ (a5 _ _ _ a3))
     .exact qT h (I2 _ _) trivial (a4 _ (a5 _ _ _ a3))
     .exact qT h (I2 _ _) trivial (a4 _ (a5 _ _ _ a3))
    .trivial
   .trivial
  .trivial
 .trivial
theorem jV{d:Int}{x:Option Operand}{n:Int}(h:Conc C B F0 w0 F loc st a w)(hb:ve d (jo (ev st) x)=some n):(x=none/\n=d)\/∃y k,x=some y/\a.eval y= .int k n:=by
 cases x with
 |none=>
  simp only[jo,ve,j1]at hb
  grind
 |some y=>
  simp only[jo]at hb;have hy:=(xg h y).1;generalize ev st y=v at hb hy;unfold ve at hb;split at hb
  .grind
  .rename_i k m a3;simp only[j1]at a3 hb;subst a3 hb;exact .inr ⟨y,k,rfl,vM hy⟩
  grind
theorem jL{P:Program}{sl:Bool}{len cap:Nat}{lo hi:Option Operand}{l r:Int}(hl:(lo=none/\l=0)\/∃y k,lo=some y/\a.eval y= .int k l)(hr:(hi=none/\r=len)\/∃y k,hi=some y/\a.eval y= .int k r)(h0:0<=l)(h1:l<=r)(h2:r<=len)(h3:len<=cap):(Lr sl len cap (lo.map a.eval) (hi.map a.eval) none).run P w= .ok (l.toNat,r.toNat,cap) w:=by
 have a3:0<=r:=by omega
 have a4:r<=(cap:Int):=by omega
 have hlr:l<=(r.toNat:Int):=by omega
 rcases hl with⟨rfl,rfl⟩|⟨y,k,rfl,hy⟩<;>rcases hr with⟨rfl,rfl⟩|⟨y',k',rfl,a5⟩
 .simp[Lr]
 .simp[Lr,a5,run_sliceBound _ _ _ _ _ a3 a4]
 .have:l<=(len:Int):=h1;simp[Lr,hy,run_sliceBound _ _ _ _ _ h0 this]
 .simp[Lr,hy,a5,run_sliceBound _ _ _ _ _ a3 a4,run_sliceBound _ _ _ _ _ h0 hlr]
theorem Lk{P:Program}{sl:Bool}{len cap:Nat}{lo hi mx:Option Operand}{l r m:Int}(hl:(lo=none/\l=0)\/∃y k,lo=some y/\a.eval y= .int k l)(hr:∃y k,hi=some y/\a.eval y= .int k r)(hm:∃y k,mx=some y/\a.eval y= .int k m)(h0:0<=l)(h1:l<=r)(h2:r<=m)(h3:m<=cap):(Lr sl len cap (lo.map a.eval) (hi.map a.eval) (mx.map a.eval)).run P w= .ok (l.toNat,r.toNat,m.toNat) w:=by
 have a4:0<=m:=by omega
 have a5:0<=r:=by omega
 have a6:r<=(m.toNat:Int):=by omega
 have hlr:l<=(r.toNat:Int):=by omega
 obtain⟨y',k',rfl,a7⟩:=hr;obtain⟨y'',k'',rfl,a3⟩:=hm;rcases hl with⟨rfl,rfl⟩|⟨y,k,rfl,hy⟩
 .simp[Lr,a7,a3,run_sliceBound _ _ _ _ _ a4 h3,run_sliceBound _ _ _ _ _ a5 a6]
 .simp[Lr,hy,a7,a3,run_sliceBound _ _ _ _ _ a4 h3,run_sliceBound _ _ _ _ _ a5 a6,run_sliceBound _ _ _ _ _ h0 hlr]
theorem Row.part{es:List (List D)}{b o size l r:Nat}(h:Row w F es b o size)(h1:l<=r)(h2:r<=es.length):Row w F ((es.take r).drop l) b (o+l*size) size:=by
 refine⟨λe he=>h.hs e (W0 (W4 he)),h.hF,λj hj=>?_⟩;have a3:((es.take r).drop l).length=r-l:=by simp;omega
 rw[a3]at hj;obtain⟨q,hq⟩:∃q,q=j/size:=⟨_,rfl⟩;have hs0:0<size:=by
  rcases ix size with h0|h0
  .subst h0;omega
  .exact h0
 have hqr:q<r-l:=by rw[hq];exact hU (by rw[hS];exact hj)
 have hjq:j=q*size+j%size:=by rw[hq,hS];exact(hX j size).symm
 have a4:=ic j hs0;obtain⟨v,q1,q2⟩:=h.hc ((l+q)*size+j%size) (HD (by omega) a4);refine⟨v,by rw[<-q1];congr 2;rw[hP];omega,?_⟩;rw[xd h.hs _ _ (by omega) a4]at q2;rw[hjq,xd (λe he=>h.hs e (W0 (W4 he))) _ _ (by omega) a4]
 grind [qF]
theorem Fw{es:List (List D)}{x:Value}{z:List Value}{e:TypeId}{l r m:Nat}(hx:CD w F (.sl es) x)(_hz:ka C.P e=some z)(hlens:lens z.length es)(h1:l<=r)(h2:r<=es.length)(h3:r<=m):
 ∃ad c,x= .slice ad es.length c/\es.length<=c/\(m<=c->CD w F (.sl ((es.take r).drop l)) (.slice (if m=l then ad else ad.map (·.add (l*z.length))) (r-l) (m-l))):=by
 obtain⟨ad,c,hxe,hlc,a3⟩:=hx.slice_inv;refine⟨ad,c,hxe,hlc,λ_=>?_⟩;have a4:((es.take r).drop l).length=r-l:=by simp;omega
 rcases Nat.eq_or_lt_of_le h1 with rfl|hlt
 .have:(es.take l).drop l=[]:=eg (by grind);rw[this,Nat.sub_self];exact .nil _ _
 .rcases a3 with rfl|⟨b,o,a5,rfl,a3⟩
  .grind
  .have hne:es≠[]:=by grind
   obtain⟨e0,es0,rfl⟩:=fR hne;have hsz:a5=z.length:=by rw[<-hlens e0 (by simp)];exact(a3.hs e0 (by simp)).symm
   subst hsz;rw[if_neg (by omega)];have:=(a3.part h1 h2).CD (c:=m-l) (by rw[a4];omega);rw[a4]at this
   simpa [zp]using this
theorem SL{t:TypeId}{x:Operand}{lo hi mx:Option Operand}(h:Conc C B F0 w0 F loc st a w):RS C B F0 w0 st a w ⟨dst,.slice t x lo hi mx,ty,pos,after,g⟩ (H1 C.P t st.objs (ev st x) (jo (ev st) lo) (jo (ev st) hi) (jo (ev st) mx)):=by
 simp only[H1];have hx:=(xg h x).1;split
 .rename_i hu;split
  .rename_i s hv;rw[hv]at hx;have hs:=Z2 hx;split
   .rename_i l r hl hr;have a8:=jV h hl;have a5:=jV h hr;split
    .rename_i hm;have a7:mx=none:=by cases mx with|none=>rfl|some y=>simp[jo]at hm
     subst a7;rintro⟨h0,h1,h2⟩;have hb:=jL (P:=C.P) (w:=w) (sl:=false) (len:=s.length) (cap:=s.length) a8 a5 h0 h1 h2 (hM _);refine xb h (x:= .string ⟨⟨(s.take r.toNat).drop l.toNat⟩⟩) ?_ (CD.str _) trivial;have hsz:(⟨⟨s⟩⟩:ByteArray).size=s.length:=rfl;have ag:(⟨⟨s⟩⟩:ByteArray).extract l.toNat r.toNat=⟨⟨(s.take r.toNat).drop l.toNat⟩⟩:=by apply ByteArray.ext;apply Dd;simp only[ByteArray.data_extract,Hu,fS];rw[List.drop_take]
     simp[execOp,Ls,qN hu,Lv,hs,hsz,hb,ag]
    .trivial
   .trivial
  .trivial
 .rename_i e hu;split
  .rename_i z es us hz hel;obtain⟨hfz,hcd⟩:=Fl h hel hx;have b2:∀(l r m:Int) (c0:∀(F':Nat->Prop) ad c,CD w F' (.sl es) (a.eval x)->a.eval x= .slice ad es.length c->es.length<=c->∃mm:Nat,mm<=c/\r.toNat<=mm/\(Lr true es.length c (lo.map a.eval) (hi.map a.eval) (mx.map a.eval)).run C.P w= .ok (l.toNat,r.toNat,mm) w),
    0<=l->l<=r->r<=es.length->lens z.length es->Does C B F0 w0 ⟨dst,.slice t x lo hi mx,ty,pos,after,g⟩ a w (st.put dst (.c (.sl ((es.take r.toNat).drop l.toNat))) us):=by
    intro l r m c0 h0 h1 h2 a6;obtain⟨F',hc',hF',hb'⟩:=h.freezes hfz st.dirty;have a3:=hcd F' hF' hb';obtain⟨ad,c,ap,a9,_⟩:=a3.slice_inv;obtain⟨mm,hm1,hm2,an⟩:=c0 F' ad c a3 ap a9;obtain⟨ad',c',a4,_,al⟩:=Fw (C:=C) (l:=l.toNat) (r:=r.toNat) (m:=mm) a3 hz a6 (by omega) (by omega) hm2;rw[ap]at a4;simp only[Value.slice.injEq]at a4;obtain⟨rfl,_,rfl⟩:=a4;refine⟨_,_,w,?_,.inl rfl,F',loc,(hc'.pure (dst:=dst) (v:= .c (.sl ((es.take r.toNat).drop l.toNat))) (al hm1) trivial).redirty⟩;have h3:=xc hz w;simp[execOp,Ls,qN hu,Lv,ap,an,h3]
   split
   .rename_i l r hl hr;have a8:=jV h hl;have a5:=jV h hr;split
    .rename_i hm;have a7:mx=none:=by cases mx with|none=>rfl|some y=>simp[jo]at hm
     subst a7;rintro⟨h0,h1,h2,h3⟩;exact b2 l r 0 (λF' ad c _ _ a9=>⟨c,hM _,by omega,jL (P:=C.P) a8 a5 h0 h1 h2 a9⟩) h0 h1 h2 h3
    .rename_i mv hm;split
     .rename_i m _ b1 hh;rw[<-hm]at b1;rcases jV h b1 with⟨a7,_⟩|hm'
      .subst a7;simp[jo]at hm
      rcases a5 with⟨hhi,_⟩|a5
      .subst hhi;simp[jo]at hh
      .rintro⟨h0,h1,h2,h3,h4⟩;exact b2 l r m (λF' ad c _ _ a9=>⟨m.toNat,by omega,by omega,Lk (P:=C.P) a8 a5 hm' h0 h1 h2 (by omega)⟩) h0 h1 (by omega) h4
     .trivial
   .trivial
  .trivial
 .trivial
theorem SM{t:TypeId}{x:Operand}{lo hi mx:Option Operand}(h:Conc C B F0 w0 F loc st a w):RS C B F0 w0 st a w ⟨dst,.slice t x lo hi mx,ty,pos,after,g⟩ (H2 C.P t st.objs (ev st x) (jo (ev st) lo) (jo (ev st) hi) (jo (ev st) mx)):=by
 unfold H2;split
 .exact SL h
 .rename_i a3;have hv:ev st x= .nilS:=by
   cases hq:ev st x<;>rw[hq]at a3<;>simp[pg]at a3 ⊢
  split
  .rename_i e hu hm;split
   .rename_i z l r hz hl hr;have hmx:mx=none:=by cases mx with|none=>rfl|some y=>simp[jo]at hm
    subst hmx;rintro⟨h0,h1,h2⟩;have hx:=(xg h x).1;rw[hv]at hx;have hx:a.eval x= .slice none 0 0:=hx;have hl':=jV h hl;have hr':=jV h hr;have hb:=jL (P:=C.P) (w:=w) (sl:=true) (len:=0) (cap:=0) hl' hr' h0 h1 h2 (hM _);refine xb h (x:= .slice none 0 0) ?_ rfl trivial;have h3:=xc hz w;have e1:l.toNat=0:=by omega
    have e2:r.toNat=0:=by omega
    rw[e2]at hb;simp[execOp,Ls,qN hu,Lv,hx,hb,h3]
   .trivial
  .trivial
theorem da{t:TypeId}{x:Operand}{lo hi mx:Option Operand}(h:Conc C B F0 w0 F loc st a w):RS C B F0 w0 st a w ⟨dst,.slice t x lo hi mx,ty,pos,after,g⟩ (TX C.P t st.objs (ev st x) (jo (ev st) lo) (jo (ev st) hi) (jo (ev st) mx)):=by
 unfold TX;have hx:=xg h x;split
 .rename_i e hu;split
  .rename_i z k hz hv;rw[hv]at hx;split
   .rename_i s es fz hk;split
    .rename_i ap a9;have ap:lo=none:=by cases lo with|none=>rfl|some y=>simp[jo]at ap
     have a9:mx=none:=by cases mx with|none=>rfl|some y=>simp[jo]at a9
     subst ap a9;split
     .rename_i r hs hr;have hs:s=z.length:=hG hs;have ad:=jV h hr;have a7:(0<=r/\r<=es.length)->True->Does C B F0 w0 ⟨dst,.slice t x none hi none,ty,pos,after,g⟩ a w (st.put dst (.sub k 0 r.toNat) []):=by
       rintro⟨h0,h2⟩ _;have a5:=h.objs k;rw[hk]at a5;rcases hx.1 s es fz hk with⟨b,c,a4,a6⟩|⟨a4,rfl,a6⟩
       .obtain⟨_,_,_,a5⟩:=a5;rcases a5 with⟨h5,_⟩|⟨b',c',cs,t',h5,_,_,_,an,_⟩
        .rw[h5]at a4;simp at a4
        rw[h5]at a4;simp only[j1,j2]at a4;obtain⟨rfl,rfl⟩:=a4;have a3:=jL (P:=C.P) (w:=w) (sl:=true) (len:=es.length) (cap:=c') (lo:=none) (l:=0) (.inl ⟨rfl,rfl⟩) ad (by omega) (by omega) h2 an.1;simp only[j0]at a3;have ag:=xc hz w;refine xb h (x:= .slice (some ⟨b',0,none⟩) r.toNat c') ?_ (λs' es' fz' hc=>?_) hx.2
        .by_cases hne:c'=0
         .rw[hne]at a6 a3 ⊢;simp[execOp,Ls,qN hu,Lv,a6,a3,ag]
         .simp[execOp,Ls,qN hu,Lv,a6,a3,ag,hne,zp]
        .rw[hk]at hc;simp only[J3]at hc;obtain⟨rfl,rfl,rfl⟩:=hc;exact .inl ⟨b',c',h5,by omega,by simp⟩
       .have al:r.toNat=0:=by simp at h2;omega
        have a3:=jL (P:=C.P) (w:=w) (sl:=true) (len:=0) (cap:=0) (lo:=none) (l:=0) (.inl ⟨rfl,rfl⟩) ad (by omega) (by omega) (by simpa using h2) (hM _);simp only[j0]at a3;have ag:=xc hz w;refine xb h (x:= .slice none 0 0) ?_ (λs' es' fz' hc=>?_) hx.2
        .rw[al]at a3;simp[execOp,Ls,qN hu,Lv,a6,a3,ag]
        .rw[hk]at hc;simp only[J3]at hc;obtain⟨rfl,rfl,rfl⟩:=hc;exact .inr (.inl ⟨by have:=a5.2.1;omega,a4,rfl,rfl,al,rfl⟩)
      exact λhc=>a7 hc trivial
     .trivial
    split
    .rename_i l r hs hl hr hm;have hs:s=z.length:=hG hs;have a9:mx=none:=by cases mx with|none=>rfl|some y=>simp[jo]at hm
     subst a9;have b1:=jV h hl;have ad:=jV h hr;have a7:(0<=l/\l<=r/\r<=es.length)->True->Does C B F0 w0 ⟨dst,.slice t x lo hi none,ty,pos,after,g⟩ a w (st.put dst (.sub k l.toNat (r.toNat-l.toNat)) []):=by
      rintro⟨h0,h1,h2⟩ _;have a5:=h.objs k;rw[hk]at a5;rcases hx.1 s es fz hk with⟨b,c,a4,a6⟩|⟨a4,rfl,a6⟩
      .obtain⟨_,hs0,_,a5⟩:=a5;rcases a5 with⟨h5,_⟩|⟨b',c',cs,t',h5,_,_,_,an,_⟩
       .rw[h5]at a4;simp at a4
       rw[h5]at a4;simp only[j1,j2]at a4;obtain⟨rfl,rfl⟩:=a4;have a3:=jL (P:=C.P) (w:=w) (sl:=true) (len:=es.length) (cap:=c') b1 ad h0 (by omega) h2 an.1;have h3:=xc hz w;by_cases hne:c'=l.toNat
       .have b2:r.toNat-l.toNat=0:=by omega
        refine xb h (x:= .slice (some ⟨b',0,none⟩) (r.toNat-l.toNat) (c'-l.toNat)) ?_ (λs' es' fz' hc=>?_) hx.2
        .rw[hne]at a6 a3 ⊢;simp[execOp,Ls,qN hu,Lv,a6,a3,h3]
        .rw[hk]at hc;simp only[J3]at hc;obtain⟨rfl,rfl,rfl⟩:=hc;rcases ix l.toNat with a8|a8
         .exact .inl ⟨b',c',h5,by omega,by rw[a8,hV]⟩
         .exact .inr (.inr ⟨by omega,a8,by omega,b2,_,_,by rw[b2]⟩)
       .refine xb h (x:= .slice (some ⟨b',l.toNat*s,none⟩) (r.toNat-l.toNat) (c'-l.toNat)) ?_ (λs' es' fz' hc=>?_) hx.2
        .simp[execOp,Ls,qN hu,Lv,a6,a3,h3,hs,hne,zp]
        .rw[hk]at hc;simp only[J3]at hc;obtain⟨rfl,rfl,rfl⟩:=hc;exact .inl ⟨b',c',h5,by omega,rfl⟩
      .have al:r.toNat=0:=by simp at h2;omega
       have a8:l.toNat=0:=by omega
       have a3:=jL (P:=C.P) (w:=w) (sl:=true) (len:=0) (cap:=0) b1 ad h0 (by omega) (by simpa using h2) (hM _);have h3:=xc hz w;refine xb h (x:= .slice none 0 0) ?_ (λs' es' fz' hc=>?_) hx.2
       .rw[al,a8]at a3;simp[execOp,Ls,qN hu,Lv,a6,a3,h3]
       .rw[hk]at hc;simp only[J3]at hc;obtain⟨rfl,rfl,rfl⟩:=hc;exact .inr (.inl ⟨by have:=a5.2.1;omega,a4,rfl,a8,by omega,rfl⟩)
     exact λhc=>a7 hc trivial
    .trivial
   .trivial
  .trivial
 .trivial
theorem Fx{t:TypeId}{x:Operand}{lo hi mx:Option Operand}(h:Conc C B F0 w0 F loc st a w):RS C B F0 w0 st a w ⟨dst,.slice t x lo hi mx,ty,pos,after,g⟩ (xr C ⟨dst,.slice t x lo hi mx,ty,pos,after,g⟩ (ev st) st.objs):=by
 simp only[xr];split
 .exact SM h
 .exact da h
end
end Eng
end
section
namespace Eng
open Go Go.RowKit
section
variable {C:Cx}{B:Bd}{F0:Nat->Prop}{w0:World}{F:Nat->Prop}{loc:Where}{st:St}{a:Act}{w:World}
variable {dst:Option Nat}{ty:TypeId}{pos:String}{after:Array Edge}{g:Option (Nat×Bool)}
theorem K5{off:Nat}:∀(l:List Value) (k:Nat) (cells:Array Value),(l.zipIdx k).foldl (λcs (x:Value×Nat)=>cs.setIfInBounds (off+x.2) x.1) cells=(qK cells.toList (off+k) l).toArray
 |[],_,cells=>by simp[qK]
 |v::l,k,cells=>by rw[List.zipIdx_cons,List.foldl_cons,K5 l (k+1)];simp only[qK,Array.toList_setIfInBounds,<-xx];rw[show off+(k+1)=off+k+1 by omega]
theorem HI{v:Value}{off:Nat}{cells:Array Value}:v.cells.zipIdx.foldl (λcs (x:Value×Nat)=>cs.setIfInBounds (off+x.2) x.1) cells=(qK cells.toList off v.cells.toList).toArray:=by
 have:=K5 (off:=off) v.cells.toList 0 cells;rw[hW]at this;rw[<-this,<-Array.foldl_toList,Array.toList_zipIdx]
theorem YJ:∀{ps:List (Nat×Operand)} {qs:List (Nat×List D)} {us:List (Nat×Obj)} (_:Conc C B F0 w0 F loc st a w) (_:zS st.objs (ev st) ps=some (qs,us)),
 Frz st.objs us/\∀F':Nat->Prop,(∀b,F b->F' b)->(∀p∈us,∀b c,loc p.1=some (b,c)->F' b)->All2 (λq (p:Nat×Value)=>q.1=p.1/\All2 (CD w F') q.2 p.2.cells.toList) qs (ps.map λx=>(x.1,a.eval x.2))
 |[],qs,us,h,hp=>by simp only[zS,j1,j2]at hp;obtain⟨rfl,rfl⟩:=hp;exact⟨Frz.nil _,λ_ _ _=>trivial⟩
 |(i,x)::ps,qs,us,h,hp=>by
  simp only[zS]at hp;split at hp
  .rename_i ds u qs' us' h1 h2;simp only[j1,j2]at hp;obtain⟨rfl,rfl⟩:=hp;obtain⟨q1,q2⟩:=P0 h h1 (xg h x).1;obtain⟨r1,r2⟩:=YJ h h2;exact⟨q1.append r1,λF' hF hb=>⟨⟨rfl,q2 F' hF λp hp=>hb p (by simp[hp])⟩,r2 F' hF λp hp=>hb p (by simp[hp])⟩⟩
  .simp at hp
theorem K6{F':Nat->Prop}{pl:List (Nat×Nat)}{place:Nat->Option (Nat×Nat)}(hpl:∀i p,pl[i]? =some p->place i=some p):
 ∀(qs:List (Nat×List D)) (ps:List (Nat×Value)) (cs cs':List D) (vs:Array Value),All2 (λq (p:Nat×Value)=>q.1=p.1/\All2 (CD w F') q.2 p.2.cells.toList) qs ps->H3 pl qs cs=some cs'->All2 (CD w F') cs vs.toList->
  ∃vs':Array Value,M1 place vs ps=some vs'/\All2 (CD w F') cs' vs'.toList
 |[],[],cs,cs',vs,_,hb,hv=>by simp only[H3,j1]at hb;subst hb;exact⟨vs,rfl,hv⟩
 |(i,ds)::qs,(i',x)::ps,cs,cs',vs,hq,hb,hv=>by
  obtain⟨⟨rfl,h1⟩,h2⟩:=hq;simp only[H3]at hb;split at hb
  .rename_i off size hf;split at hb
   .rename_i hc;simp only[Hx,decide_eq_true_eq]at hc;have hlen:=h1.length;have hvl:cs.length=vs.size:=by simpa using hv.length
    simp at hlen;obtain⟨vs',q1,q2⟩:=K6 hpl qs ps _ cs' (qK vs.toList off x.cells.toList).toArray h2 hb (by
     rw[YI];exact All2.upds _ _ _ _ _ h1 hv)
    refine⟨vs',?_,q2⟩;simp only[M1,hpl _ _ hf];rw[if_neg (by simp;omega)];have:=HI (v:=x) (off:=off) (cells:=vs);rw[this];exact q1
   .simp at hb
  .simp at hb
 |[],_::_,_,_,_,hq,_,_=>hq.elim
 |_::_,[],_,_,_,hq,_,_=>hq.elim
theorem K7{F':Nat->Prop}:∀{z:List Value},(∀x∈z,x.oneCell'=true)->All2 (CD w F') (z.map zD) z
 |[],_=>trivial
 |x::z,h=>⟨Ky _ _ x (h x (by simp)),K7 λy hy=>h y (by simp[hy])⟩
theorem Fy{t:TypeId}{parts:Array (Nat×Operand)}(h:Conc C B F0 w0 F loc st a w):RS C B F0 w0 st a w ⟨dst,.build t parts,ty,pos,after,g⟩ (xr C ⟨dst,.build t parts,ty,pos,after,g⟩ (ev st) st.objs):=by
 simp only[xr];split
 .rename_i z pl hz a4;split
  .rename_i qs us hp;split
   .rename_i cs hb;obtain⟨inf,zv,hi,ad,hzc,hsz,a8,_⟩:=zO hz;obtain⟨hfz,a6⟩:=YJ h hp;obtain⟨F',hc',hF',hb'⟩:=h.freezes hfz st.dirty;have hq:=a6 F' hF' hb';have a9:All2 (CD w F') (z.map zD) zv.cells.toList:=by rw[hzc];exact K7 a8
    have a5:∃a3:Array Value,C.P.built t ((parts.map λ(i,x)=>(i,a.eval x)).toList)=some a3/\All2 (CD w F') cs a3.toList:=by
     have a7:(parts.map λ(i,x)=>(i,a.eval x)).toList=parts.toList.map λx=>(x.1,a.eval x.2):=by simp
     rw[a7];unfold Nj at a4;split at a4
     .rename_i fs hu;obtain⟨a3,q1,q2⟩:=K6 (w:=w) (F':=F') (pl:=pl) (place:=(pl.toArray[·]?)) (λi p hp=>by simpa using hp) qs _ _ cs zv.cells hq hb a9;exact⟨a3,by simp only[Ts,hi,hu,ad,a4];exact q1,q2⟩
     .rename_i n e hu;split at a4
      .rename_i ie hie;simp only[j1]at a4;subst a4;obtain⟨a3,q1,q2⟩:=K6 (w:=w) (F':=F') (place:=λk=>some (k*ie.size,ie.size)) (λi p hp=>by
        simp only[ez,iz]at hp;obtain⟨k,hk,rfl⟩:=hp;have:k=i:=by
         have:=gb (n:=n) (i:=i);rcases hQ i n with h1|h1
         .simp[h1]at hk;exact hk.symm
         .simp[h1]at hk
        subst this;rfl) qs _ _ cs zv.cells hq hb a9
       exact⟨a3,by simp only[Ts,hi,hu,ad,hie];exact q1,q2⟩
      .simp at a4
     .simp at a4
    obtain⟨a3,q1,q2⟩:=a5;refine⟨_,_,w,?_,.inl rfl,F',loc,(hc'.pure (dst:=dst) (v:= .ag cs) (x:= .agg a3) ⟨a3,rfl,q2⟩ trivial).redirty⟩;have hr:=run_build (P:=C.P) w t (parts.map λ(i,x)=>(i,a.eval x)) a3 q1;simp only[execOp,Sem.run_bind,hr,T1];rfl
   .trivial
  .trivial
 .trivial
end
end Eng
end
section
namespace Eng
open Go Go.RowKit
section
variable {C:Cx}{B:Bd}{F0:Nat->Prop}{w0:World}{F:Nat->Prop}{loc:Where}{st:St}{a:Act}{w:World}
variable {dst:Option Nat}{ty:TypeId}{pos:String}{after:Array Edge}{g:Option (Nat×Bool)}
theorem jM{α β:Type}{R:α->β->Prop}(d:α)(e:β):∀{as:List α} {bs:List β},as.length=bs.length->(∀i,i<as.length->R (nth d as i) (nth e bs i))->All2 R as bs
 |[],[],_,_=>trivial
 |a::as,b::bs,hl,h=>⟨h 0 (by simp),jM d e (by grind) λi hi=>h (i+1) (by grind)⟩
 |[],_::_,hl,_=>by grind
 |_::_,[],hl,_=>by grind
theorem VD{α:Type}:∀(ds l p:List α),l.length=ds.length->qK (p++l) p.length ds=p++ds
 |[],l,p,h=>by have:l=[]:=eg h;subst this;simp[qK]
 |d::ds,[],p,h=>by grind
 |d::ds,x::l,p,h=>by
  simp only[qK];have h1:upd (p++x::l) p.length d=(p++[d])++l:=by rw[xx];simp
  have:=VD ds l (p++[d]) (by grind)
  grind
theorem qk{size:Nat}:∀{es:List (List D)},(∀e∈es,e.length=size)->es.flatten.length=es.length*size
 |[],_=>by simp
 |e::es,h=>by rw[gp,U3,h e (by simp),qk λe he=>h e (by grind),gq,Nat.succ_mul];omega
theorem VE{F':Nat->Prop}{size:Nat}:
 ∀(qs:List (Nat×List D)) (ps:List (Nat×Value)) (es es':List (List D)) (vs:Array Value),All2 (λq (p:Nat×Value)=>q.1=p.1/\All2 (CD w F') q.2 p.2.cells.toList) qs ps->Kr size qs es=some es'->
  (∀e∈es,e.length=size)->All2 (CD w F') es.flatten vs.toList->
  ∃vs':Array Value,M1 (λi=>some (i*size,size)) vs ps=some vs'/\All2 (CD w F') es'.flatten vs'.toList/\(∀e∈es',e.length=size)/\es'.length=es.length
 |[],[],es,es',vs,_,hb,hs,hv=>by simp only[Kr,j1]at hb;subst hb;exact⟨vs,rfl,hv,hs,rfl⟩
 |(i,ds)::qs,(i',x)::ps,es,es',vs,hq,hb,hs,hv=>by
  obtain⟨⟨rfl,h1⟩,h2⟩:=hq;simp only[Kr]at hb;split at hb
  .rename_i hc;simp only[Hx,decide_eq_true_eq]at hc;obtain⟨hc1,hc2⟩:=hc;have hlen:=h1.length;simp at hlen;have hvl:=hv.length;rw[qk hs]at hvl;simp at hvl;have hfl:=QN es hs i 0 ds hc2 (by omega);have hfull:qK (nth [] es i) 0 ds=ds:=by
    have:=VD ds (nth [] es i) [] (by rw[qm _ hc2,hs _ (fg hc2),hc1])
    simpa using this
   rw[hfull,hW]at hfl;obtain⟨vs',q1,q2,q3,q4⟩:=VE (F':=F') (size:=size) qs ps (upd es i ds) es' (qK vs.toList (i*size) x.cells.toList).toArray h2 hb (by
    intro e he;rcases zV he with he|rfl
    .exact hs e he
    .exact hc1) (by rw[hfl];exact All2.upds _ _ _ _ _ h1 hv)
   refine⟨vs',?_,q2,q3,by rw[q4,qi]⟩;have hle:=HD (s:=size) (m:=size-1) hc2;simp only[M1];rw[if_neg (by
    grind)]
   grind [HI]
  grind
 |[],_::_,_,_,_,hq,_,_,_=>hq.elim
 |_::_,[],_,_,_,hq,_,_,_=>hq.elim
theorem YK{F':Nat->Prop}{z:Array Value}{n:Nat}(h0:0<z.size)(hone:∀x∈z.toList,x.oneCell'=true):
 All2 (CD w F') (W2 n (z.toList.map zD)).flatten ((F2 (n*z.size)).map (z[· %z.size]!)).toList:=by
 have hs:∀e∈W2 n (z.toList.map zD),e.length=z.size:=λe he=>by grind
 refine jM .undef undef ?_ λj hj=>?_
 .simp
 .rw[qk hs]at hj;have hm:=ic j h0
  grind [hU,hS,hX,qm,xd,Ky]
theorem YL{d s:Nat}{es:List (List D)}{cs:Array Value}{e:TypeId}{cap:Nat}(h:Conc C B F0 w0 F loc st a w)(hd:qD st.objs d=true)(hroom:roomS s es.length)(hs0:0<s)(hs:∀x∈es,x.length=s)(hcap:es.length<=cap/\cap<=9223372036854775807)(hsz:cs.size=cap*s)(hcs:∀j,j<es.length*s->∃v,cs[j]? =some v/\CD w F (nth .undef es.flatten j) v)(hty:C.P.cellsOf e=s):
 Conc C B F0 w0 F (at_ loc d (w.heap.size,cap) e) (st.put dst (.arr d) [(d,.arr s es false)]) (a.put dst (.slice (some ⟨w.heap.size,0,none⟩) es.length cap)) (w.alloc (.cells cs e)):=by
 obtain⟨_,a3⟩:=qR hd;refine h.new hd ⟨hroom,hs0,hs,.inr ⟨w.heap.size,cap,cs,e,by simp[at_],?_,by show(w.heap.push _)[w.heap.size]? =_;simp,hsz,hcap,λj hj=>?_,(by show loc.P.cellsOf e=s;rw[h.prog];grind),by simp[at_]⟩⟩ ?_ ?_
 .intro hF;have:=h.bound _ hF;omega
 .obtain⟨v,h1,h2⟩:=hcs j hj;exact⟨v,h1,h2.mono (λ_ h=>h) λb hb=>Below.heap_alloc _ _ _ (h.bound b hb)⟩
 .intro s' es' fz' hc;rw[qc _ _ _ a3]at hc;obtain⟨rfl,rfl,rfl⟩:=hc;exact .inl ⟨w.heap.size,cap,by simp[at_],rfl⟩
 .show nth .none (upd st.objs d (.arr s es false)) d≠ .none;rw[qc _ _ _ a3];simp
theorem Xy{P:Program}{t e:TypeId}(h:TW P t=some e):P.underlying t=some (.slice e):=by
 unfold TW at h
 grind
theorem kc{d:Nat}:∀{us:List (Nat×Obj)} {objs:List Obj},Frz objs us->qD objs d=true->qD (upds objs us) d=true
 |[],_,_,h=>h
 |(k,o)::us,objs,hf,h=>by
  obtain⟨s,es,fz,h1,h2⟩:=hf (k,o) (by simp);subst h2;refine kc (us:=us) (objs:=upd objs k (.arr s es true)) (Frz.step h1 λp hp=>hf p (by grind)) ?_;obtain⟨q1,q2⟩:=qR h;unfold qD
  grind [qb,qm]
theorem zI:∀(us us':List (Nat×Obj)) (objs:List Obj),upds objs (us++us')=upds (upds objs us) us'
 |[],_,_=>rfl
 |(k,o)::us,us',objs=>zI us us' (upd objs k o)
theorem YM{t:TypeId}{len:Nat}{parts:Array (Nat×Operand)}(h:Conc C B F0 w0 F loc st a w):RS C B F0 w0 st a w ⟨dst,.buildSlice t len parts,ty,pos,after,g⟩ (xr C ⟨dst,.buildSlice t len parts,ty,pos,after,g⟩ (ev st) st.objs):=by
 simp only[xr];split
 .rename_i d;split
  .rename_i e hd he;split
   .rename_i z qs us hz hp;split
    .rename_i es hb;split
     .rename_i hc;simp only[Hx,decide_eq_true_eq]at hc;obtain⟨hc1,al⟩:=hc;obtain⟨inf,zv,hi,hzv,b3,hsz,an,_⟩:=zO hz;obtain⟨b4,ag⟩:=YJ h hp;obtain⟨F',hc',hF',hb'⟩:=h.freezes b4 st.dirty;have hq:=ag F' hF' hb';have b5:zv.cells.size=z.length:=by rw[<-b3];simp
      have a4:=YK (w:=w) (F':=F') (z:=zv.cells) (n:=len) (by omega) (by rw[b3];exact an);rw[b3,b5]at a4;obtain⟨a7,q1,q2,q3,q4⟩:=VE (F':=F') (size:=z.length) qs _ (W2 len (z.map zD)) es _ hq hb (λe he=>by rw[dA he];simp) a4;rw[ew]at q4;have a9:(parts.map λ(i,x)=>(i,a.eval x)).toList=parts.toList.map λx=>(x.1,a.eval x.2):=by simp
      have a6:¬(len*z.length>2^24):=by omega
      have ad:=xc hz w;have a3:M1 (λi=>some (i*z.length,z.length)) ((F2 (len*z.length)).map (zv.cells[· %zv.cells.size]!)) ((parts.map λ(i,x)=>(i,a.eval x)).toList)=some a7:=by rw[a9,b5];exact q1
      have b1:(execOp a.eval ⟨some d,.buildSlice t len parts,ty,pos,after,g⟩).run C.P w= .ok (.value (.slice (some ⟨w.heap.size,0,none⟩) es.length es.length)) (w.alloc (.cells a7 e)):=by
       rw[q4];by_cases h0:len*z.length=0
       .have hr0:((F2 (len*z.length)).map (zv.cells[· %zv.cells.size]!))= #[]:=by rw[h0];simp
        rw[hr0]at a3;have hl0:len=0:=by
         rcases Nat.mul_eq_zero.1 h0 with h1|h1
         .exact h1
         .omega
        subst hl0;have a5:M1 (λi=>some (i*z.length,z.length)) #[] (parts.toList.map λx=>(x.1,a.eval x.2))=some a7:=by rw[a9]at a3;exact a3
        simp[execOp,M3,qN (Xy he),ad,Array.range_zero',a5,newRow]
       .simp only[execOp,M3,Sem.run_bind,qN (Xy he),T1,ad,if_neg a6,if_neg h0];have hzr:(zeroValue e).run C.P w= .ok zv w:=by simp[zeroValue,typeInfo,hi,hzv]
        simp only[Sem.run_bind,hzr,T1,Sem.run_pure,a3];simp[newRow]
      have b2:=q2.length;rw[qk q3]at b2;simp at b2;have a8:=YL (dst:=some d) (st:=⟨st.tmps,upds st.objs us,st.dirty⟩) (d:=d) (s:=z.length) (es:=es) (cs:=a7) (e:=e) (cap:=es.length) hc' (kc (objs:=st.objs) b4 hd) (by refine .inl ?_;rw[q4];have:len*1<=len*z.length:=ib _ al;omega) al q3 ⟨hM _,by rw[q4];have:len*1<=len*z.length:=ib _ al;omega⟩ b2.symm (λj hj=>by
       refine⟨nth undef a7.toList j,?_,q2.nth .undef undef _ _ j (by rw[qk q3];exact hj)⟩;rw[qm _ (by simp;omega)];simp[show j<a7.size by omega])
      refine⟨_,_,_,b1,.inl rfl,F',at_ loc d (w.heap.size,es.length) e,?_⟩;have ap:(⟨st.tmps,upds st.objs us,st.dirty⟩:St).put (some d) (.arr d) [(d,.arr z.length es false)]=⟨(st.put (some d) (.arr d) (us++[(d,.arr z.length es false)])).tmps,(st.put (some d) (.arr d) (us++[(d,.arr z.length es false)])).objs,d::st.dirty⟩:=by simp only[St.put,zI];rfl
      rw[ap]at a8;exact(a8 (QI hz)).redirty
     .trivial
    .trivial
   .trivial
  .trivial
 .trivial
theorem HJ{t:TypeId}{x y:Operand}(h:Conc C B F0 w0 F loc st a w):RS C B F0 w0 st a w ⟨dst,.makeSlice t x y,ty,pos,after,g⟩ (xr C ⟨dst,.makeSlice t x y,ty,pos,after,g⟩ (ev st) st.objs):=by
 simp only[xr];have hx:=(xg h x).1;have hy:=(xg h y).1;split
 .rename_i d;split
  .rename_i e hd he;split
   .rename_i z l c hz hvx hvy;rw[hvx]at hx;rw[hvy]at hy;split
    .rename_i hc;simp only[Hx,decide_eq_true_eq]at hc;obtain⟨hc1,al⟩:=hc;rintro⟨h0,h1,h2⟩;obtain⟨a4,zv,hi,hzv,ag,an,a8,_⟩:=zO hz;unfold room at h2;have hby:C.P.bytesOf e=a4.bytes:=by simp[Sz,hi]
     have hmul:(a4.bytes:Int)*c<=4096*1073741824:=by
      have h3:(a4.bytes:Int)<=4096:=by omega
      have h4:c<=1073741824:=by omega
      exact Int.mul_le_mul h3 h4 (by omega) (by omega)
     have hr:=run_make (P:=C.P) w t e a4 zv (Xy he) hi hzv .i64 .i64 l c h0 h1 (by omega) (by omega);have a9:(execOp a.eval ⟨some d,.makeSlice t x y,ty,pos,after,g⟩).run C.P w= .ok (.value (.slice (some ⟨w.heap.size,0,none⟩) l.toNat c.toNat)) (w.alloc (.cells (madeCells zv.cells (c.toNat*a4.size)) e)):=by simp[execOp,vM hx,vM hy,hr]
     have hzs:zv.cells.size=z.length:=by rw[<-ag];simp
     have a3:=YK (w:=w) (F':=F) (z:=zv.cells) (n:=c.toNat) (by omega) (by rw[ag];exact a8);rw[ag]at a3;have a6:(W2 l.toNat (z.map zD)).length=l.toNat:=by simp
     have ad:∀n,∀e∈W2 n (z.map zD),e.length=z.length:=λn e he=>by rw[dA he];simp
     have a5:=YL (dst:=some d) (d:=d) (s:=z.length) (es:=W2 l.toNat (z.map zD)) (cs:=madeCells zv.cells (c.toNat*a4.size)) (e:=e) (cap:=c.toNat) h hd (by refine .inl ?_;rw[a6];omega) al (ad _) (by rw[a6];omega)
      (by rw[size_madeCells,an]) (λj hj=>by
       rw[a6]at hj;have a7:j<c.toNat*z.length:=im hj (hD _ (by omega));have h5:=a3.nth .undef undef _ _ j (by rw[qk (ad _),ew];exact a7);refine⟨nth undef ((F2 (c.toNat*zv.cells.size)).map (zv.cells[· %zv.cells.size]!)).toList j,?_,?_⟩
       .unfold madeCells;rw[an,hzs,qm _ (by simpa using a7)];simp[a7]
       .have hm:=ic j al;have hjq:j=j/z.length*z.length+j%z.length:=by rw[hS];exact(hX j z.length).symm
        have hq1:j/z.length<l.toNat:=hU (by rw[hS];exact hj);have hq2:j/z.length<c.toNat:=by omega
        have hE:∀n,j/z.length<n->nth .undef (W2 n (z.map zD)).flatten j=nth .undef (z.map zD) (j%z.length):=λn hn=>by
         have hE1:nth [] (W2 n (z.map zD)) (j/z.length)=z.map zD:=by rw[qm _ (by simpa using hn)];simp
         conv=>lhs;rw[hjq]
         rw[xd (ad _) _ _ (by simpa using hn) hm,hE1]
        have:nth .undef (W2 l.toNat (z.map zD)).flatten j=nth .undef (W2 c.toNat (z.map zD)).flatten j:=by rw[hE _ hq1,hE _ hq2]
        rw[this];exact h5)
     rw[a6]at a5;exact⟨_,_,_,a9,.inl rfl,F,_,a5 (QI hz)⟩
    .trivial
   .trivial
  .trivial
 .trivial
end
end Eng
end
section
namespace Eng
open Go Go.RowKit
section
variable {C:Cx}{B:Bd}{F0:Nat->Prop}{w0:World}{F:Nat->Prop}{loc:Where}{st:St}{a:Act}{w:World}
variable {dst:Option Nat}{ty:TypeId}{pos:String}{after:Array Edge}{g:Option (Nat×Bool)}
theorem Nq{d s:Nat}(h:Conc C B F0 w0 F loc st a w)(hd:qD st.objs d=true)(hs0:0<s):
 Conc C B F0 w0 F loc (st.put dst (.arr d) [(d,.arr s [] false)]) (a.put dst (.slice none 0 0)) w:=by
 obtain⟨a4,a5⟩:=qR hd;have a3:loc d=none:=by have:=h.objs d;rw[a4]at this;exact this
 have a6:Le st.objs (upd st.objs d (.arr s [] false)) loc loc:=by
  refine⟨rfl,λ_ _=>rfl,λk hk=>?_,λk o' hk hc hbx=>?_,λk s' es' fz' hk hc=>?_⟩
  .grind [qb]
  .grind [qb]
  grind [qb]
 refine h.step (up:=[(d,.arr s [] false)]) (loc':=loc) (λ_ h=>h) (λ_ _=>rfl) a6 h.below h.hB (λk=>?_) h.inj h.fresh h.bound h.fsub ?_ ?_
 .show CO _ (upd st.objs d (.arr s [] false)) _ _ _ (nth .none (upd st.objs d (.arr s [] false)) k);by_cases hk:d=k
  .subst hk;rw[qc _ _ _ a5];exact⟨by simp[roomS],hs0,by simp,.inl ⟨a3,rfl⟩⟩
  .rw[qb _ _ _ hk];exact CO.le (λ_ h=>h) (λ_ _=>rfl) a6 rfl rfl (λb c hb=>⟨rfl,λh=>h⟩) (h.objs k)
 .intro s' es' fz' hc;rw[show upds st.objs [(d,.arr s [] false)]=upd st.objs d (.arr s [] false)from rfl,qc _ _ _ a5]at hc
  grind
 .show nth .none (upd st.objs d (.arr s [] false)) d≠ .none;rw[qc _ _ _ a5];simp
theorem iV{v:V}{x:Value}{ys:List (List D)}{us:List (Nat×Obj)}(h:Conc C B F0 w0 F loc st a w)(hc:QH st.objs v=some (ys,us))(hv:CV loc st.objs w F v x):
 ∃ad c,x= .slice ad ys.length c/\(ys=[]\/∃b o size,ad=some ⟨b,o,none⟩/\(∀e∈ys,e.length=size)/\∀j,j<ys.length*size->∃u,w.cell? ⟨b,o+j,none⟩=some u/\CD w F (nth .undef ys.flatten j) u):=by
 unfold QH at hc;split at hc
 .simp only[j1,j2]at hc;obtain⟨rfl,rfl⟩:=hc;obtain⟨ad,c,h1,_,h2⟩:=I3 (hv:CD w F _ _);refine⟨ad,c,h1,?_⟩;rcases h2 with h2|⟨b,o,size,h2,h3⟩
  .exact .inl h2
  .exact .inr ⟨b,o,size,h2,h3.hs,h3.hc⟩
 .simp only[j1,j2]at hc;obtain⟨rfl,rfl⟩:=hc;exact⟨none,0,hv,.inl rfl⟩
 .rename_i k;split at hc
  .rename_i s es' fz hk;simp only[j1,j2]at hc;obtain⟨rfl,rfl⟩:=hc;have h0:=h.objs k;rw[hk]at h0;obtain⟨_,_,hs,h4⟩:=h0;rcases hv s es' fz hk with⟨b,c,q1,rfl⟩|⟨q1,rfl,rfl⟩
   .rcases h4 with⟨h4,rfl⟩|⟨b',c',cs,t,h4,h5,h6,h7,h8,h9⟩
    .exact⟨_,c,rfl,.inl rfl⟩
    .rw[h4]at q1;simp only[j1,j2]at q1;obtain⟨rfl,rfl⟩:=q1;refine⟨_,c',rfl,.inr ⟨b',0,s,rfl,hs,λj hj=>?_⟩⟩;obtain⟨u,r1,r2⟩:=h9.1 j hj;exact⟨u,by rw[xW h6,hK];exact r1,r2⟩
   grind
  grind
 grind
theorem Nr{es:List (List D)}{s o l j:Nat}(hs:∀e∈es,e.length=s)(hol:o+l<=es.length)(hj:j<l*s):nth .undef ((es.drop o).take l).flatten j=nth .undef es.flatten (o*s+j):=by
 have e1:es.flatten=(es.take o).flatten++(((es.drop o).take l).flatten++((es.drop o).drop l).flatten):=by
  grind [el,et]
 have l1:(es.take o).flatten.length=o*s:=by
  grind [qk,W0,cL,hT]
 have l2:((es.drop o).take l).flatten.length=l*s:=by
  grind [qk,W4,W0,cL,eH,hT]
 grind [qF,hR]
theorem db{v:V}{x:Value}{ys:List (List D)}(h:Conc C B F0 w0 F loc st a w)(hc:Q1 st.objs v=some ys)(hv:CV loc st.objs w F v x):
 ∃ad c,x= .slice ad ys.length c/\(ys=[]\/∃b o size,ad=some ⟨b,o,none⟩/\(∀e∈ys,e.length=size)/\∀j,j<ys.length*size->∃u,w.cell? ⟨b,o+j,none⟩=some u/\CD w F (nth .undef ys.flatten j) u):=by
 have a4:∀us,QH st.objs v=some (ys,us)->_:=λus hh=>iV h hh hv
 unfold Q1 at hc;split at hc
 .rename_i k o l;clear a4;split at hc
  .rename_i s a3 fz hk;simp only[j1]at hc;subst hc;have h0:=h.objs k;rw[hk]at h0;obtain⟨_,_,hs,h4⟩:=h0;rcases hv s a3 fz hk with⟨b,c,q1,q2,rfl⟩|⟨_,q1,rfl,rfl,rfl,rfl⟩|⟨_,q1,q2,rfl,ad,c,rfl⟩
   .rcases h4 with⟨h4,rfl⟩|⟨b',c',cs,t,h4,h5,h6,h7,h8,h9⟩
    .rw[h4]at q1;simp at q1
    .rw[h4]at q1;simp only[j1,j2]at q1;obtain⟨rfl,rfl⟩:=q1;have hl:((a3.drop o).take l).length=l:=by rw[cL,eH];omega
     refine⟨some ⟨b',o*s,none⟩,c'-o,by rw[hl],.inr ⟨b',o*s,s,rfl,λe he=>hs e (W4 (W0 he)),λj hj=>?_⟩⟩;rw[hl]at hj;have hj2:o*s+j<a3.length*s:=by have:=hD s q2;rw[hP]at this;omega
     obtain⟨u,r1,r2⟩:=h9.1 _ hj2;rw[Nr hs q2 hj];exact⟨u,by rw[xW h6];exact r1,r2⟩
   .exact⟨none,0,by simp,.inl (by simp)⟩
   grind
  grind
 .split at hc
  .rename_i es us hh;simp only[j1]at hc;subst hc;exact a4 us hh
  .simp at hc
theorem kn{P:Program}{t e ty:TypeId}{z:List Value}(ht:P.underlying t=some (.slice e))(hz:ka P e=some z)(base:Option Addr)(sLen sCap:Nat)(hle:sLen<=sCap)(ad:Option Addr)(c:Nat)(w:World):
 (J7 #[t,t] ty #[.slice base sLen sCap,.slice ad 0 c]).run P w= .ok (.slice base sLen sCap) w:=by
 have h2:=xc hz w;have h3:∀x:Addr,(loadCells x 0).run P w= .ok #[] w:=λx=>rfl
 cases base<;>cases ad<;>simp[J7,qN ht,h2,J9,Builtin.firstCells,hle,storeCells,h3]
theorem Vu{P:Program}{t e ty t':TypeId}{inf:TypeInfo}(ht:P.underlying t=some (.slice e))(hi:P.info? e=some inf){b sLen sCap:Nat}{cur:Array Value}(hg:w.heap[b]? =some (.cells cur t' (0,0)))(ad:Addr)(m c:Nat)(news:List Value)(hl:news.length=m*inf.size)(hnews:∀j u,news[j]? =some u->w.cell? (ad.add j)=some u)(h1:∀u∈news,u.oneCell'=true)(hroom:sLen+m<=sCap)(hfit:sLen*inf.size+news.length<=cur.size):
 (J7 #[t,t] ty #[.slice (some ⟨b,0,none⟩) sLen sCap,.slice (some ad) m c]).run P w=
  .ok (.slice (some ⟨b,0,none⟩) (sLen+m) sCap) (setBlk w b (.cells (qK cur.toList (sLen*inf.size) news).toArray t' (0,0))):=by
 have hf:=run_firstCells_some (P:=P) w inf.size m ad m c news hl hnews;have hst:=xN (P:=P) (o:=sLen*inf.size) news 0 w cur hg (by omega) h1;simp[J7,qN ht,J4,typeInfo,hi,J9,hroom,hf,zp,hst]
theorem SN{x y:Operand}{ts:Array TypeId}(h:Conc C B F0 w0 F loc st a w):RS C B F0 w0 st a w ⟨dst,.call ⟨.builtin .append, #[x,y],ts⟩,ty,pos,after,g⟩ (Ks C dst st.objs ts (ev st x) (ev st y)):=by
 unfold Ks;have hx:=(xg h x).1;have hy:=(xg h y).1;split
 .trivial
 rename_i d;split
 .trivial
 rename_i hd;split
 .rename_i t t2 hts;split
  .rename_i e he dk;have dk:t2=t:=by simpa using dk
   subst dk;have dn:ts= #[t2,t2]:=by apply Dd;simpa using hts
   subst dn;have hu:=Xy he;split
   .rename_i ys z hel hz
    .split
     .rename_i hc;simp only[Hx,decide_eq_true_eq]at hc;obtain⟨hc1,ci⟩:=hc;obtain⟨an,zv,hi,dp,hzc,cd,hone,_⟩:=zO hz;have hzs:zv.cells.size=z.length:=by rw[<-hzc];simp
      have hby:C.P.bytesOf e=an.bytes:=by simp[Sz,hi]
      obtain⟨ad,c,hye,ch⟩:=db h hel hy;have b5:∀v w',(J7 #[t2,t2] ty #[a.eval x,.slice ad ys.length c]).run C.P w= .ok v w'->(execOp a.eval ⟨some d,.call ⟨.builtin .append, #[x,y], #[t2,t2]⟩,ty,pos,after,g⟩).run C.P w= .ok (.value v) w':=λv w' hr=>by rw[<-hye]at hr;simp[execOp,resolve,invoke,builtin,hr]
      --the cells that are appended
      have b3:lens z.length ys->ys≠[]->∃b o,ad=some ⟨b,o,none⟩/\∃a3:List Value,a3.length=ys.length*an.size/\(∀j u,a3[j]? =some u->w.cell? ((⟨b,o,none⟩:Addr).add j)=some u)/\All2 (CD w F) ys.flatten a3:=by
       intro hl ag;rcases ch with hys|⟨b,o,dt,had,hs,bh⟩
       .exact absurd hys ag
       .obtain⟨y0,bm,rfl⟩:=fR ag;have cb:dt=z.length:=by rw[<-hl y0 (by simp),hs y0 (by simp)]
        subst cb;refine⟨b,o,had,?_⟩;have e0:∀j,∃u,j<(y0::bm).length*z.length->w.cell? ⟨b,o+j,none⟩=some u/\CD w F (nth .undef (y0::bm).flatten j) u:=λj=>by
         by_cases hj:j<(y0::bm).length*z.length
         .obtain⟨u,hu⟩:=bh j hj;exact⟨u,λ_=>hu⟩
         .exact⟨undef,λhh=>absurd hh hj⟩
        let f:Nat->Value:=λj=>I1 (e0 j)
        have hf:∀j,j<(y0::bm).length*z.length->w.cell? ⟨b,o+j,none⟩=some (f j)/\CD w F (nth .undef (y0::bm).flatten j) (f j):=λj hj=>I0 (e0 j) hj
        refine⟨(gd ((y0::bm).length*z.length)).map f,by simp[cd],λj u hj=>?_,?_⟩
        .rw[zp];simp only[ez,iz]at hj;obtain⟨k,hk,rfl⟩:=hj;rcases hQ j ((y0::bm).length*z.length)with h1|h1
         .rw[gb h1]at hk;simp only[j1]at hk;subst hk;exact(hf _ h1).1
         .rw[List.getElem?_eq_none (by simpa using h1)]at hk;simp at hk
        .refine jM .undef undef (by rw[qk hl];simp) λj hj=>?_
         rw[qk hl]at hj;rw[qm undef (by simpa using hj)];simp only[fl,gm];exact(hf j hj).2
      --a new array out of all that there is
      have b1:∀(bl:Where) (cp:St) (es:List (List D)) (al a3:List Value) (be:Nat),Conc C B F0 w0 F bl cp a w->qD cp.objs d=true->roomS z.length (es.length+ys.length)->(∀q∈es,q.length=z.length)->(∀q∈ys,q.length=z.length)->
       All2 (CD w F) es.flatten al->All2 (CD w F) ys.flatten a3->
       Conc C B F0 w0 F (at_ bl d (w.heap.size,grownCap w (es.length+ys.length) be e) e) (cp.put (some d) (.arr d) [(d,.arr z.length (es++ys) false)]) (a.put (some d) (.slice (some ⟨w.heap.size,0,none⟩) (es.length+ys.length) (grownCap w (es.length+ys.length) be e)))
        (w.drew.alloc (.cells (al.toArray++a3.toArray++J5 zv.cells (grownCap w (es.length+ys.length) be e-(es.length+ys.length))) e)):=by
       intro bl cp es al a3 be hC c1 a4 cw cy ho hn;have hge:=grownCap_ge w (es.length+ys.length) be e;have e3:=ho.length;have e4:=hn.length;rw[qk cw]at e3;rw[qk cy]at e4;have dc:∀q∈es++ys,q.length=z.length:=λq hq=>by rcases W3.1 hq with hq|hq;exact cw q hq;exact cy q hq
       have:=YL (dst:=some d) (d:=d) (s:=z.length) (es:=es++ys) (cs:=al.toArray++a3.toArray++J5 zv.cells (grownCap w (es.length+ys.length) be e-(es.length+ys.length))) (e:=e) (cap:=grownCap w (es.length+ys.length) be e) hC.drew c1 (by rw[U3];exact a4) ci dc (by rw[U3];exact⟨hge,ia (grownCap_le_maxLen w _ be e (by simp only[maxLen];have:=a4.max;omega)) (by simp[maxLen])⟩)
        (by
         simp only[Array.size_append,List.size_toArray,size_zeroCells,hzs,<-e3,<-e4,<-hP];congr 1;omega)
        (λj hj=>by
         rw[U3,hP]at hj;have cq:=All2.append ho hn;have:=cq.nth .undef undef _ _ j (by rw[U3,qk cw,qk cy];exact hj);refine⟨nth undef (al++a3) j,?_,?_⟩
         .rw[qm _ (by rw[U3];omega)];rw[Gv (by simp;omega)];simp[show j<al.length+a3.length by omega]
         .rw[el];exact this.mono (λ_ h=>h) λ_ _=>rfl)
       rw[U3]at this;exact this (QI hz)
      have bd:∀n,Pw (hY (C.P.bytesOf e) 56&&hY z.length 4) n->roomS z.length n/\(n+n/4+192)*an.bytes<=281474976710656:=λn hn=>by
       cases hb:(hY (C.P.bytesOf e) 56&&hY z.length 4)with
       |false=>rw[hb]at hn;have hn:n<=1073741824:=hn;have:(n+n/4+192)*an.bytes<=1342177472*4096:=Nat.mul_le_mul (by omega) (by omega);exact⟨.inl hn,by omega⟩
       |true=>
        rw[hb]at hn;have hn:n<=4000000000000:=hn;rw[Hx]at hb;have h56:=hG hb.1;have h4:=hG hb.2;have hib:an.bytes=56:=by rw[<-h56];simp[Sz,hi]
        refine⟨.inr ⟨h4,hn⟩,?_⟩;rw[hib];omega
      have bw:∀(k n:Nat) (es E:List (List D)),nth .none st.objs k= .arr z.length es false->E=es.take n->¬k=d->
       ((∃b cap,loc k=some (b,cap)/\n<=es.length/\a.eval x= .slice (some ⟨b,0,none⟩) n cap)\/(loc k=none/\E=[]/\a.eval x= .slice none 0 0))->
       Pw (hY (C.P.bytesOf e) 56&&hY z.length 4) (E.length+ys.length)->lens z.length ys->Does C B F0 w0 ⟨some d,.call ⟨.builtin .append, #[x,y], #[t2,t2]⟩,ty,pos,after,g⟩ a w (st.put (some d) (.arr d) [(k,.dead),(d,.arr z.length (E++ys) false)]):=by
       intro k n es E hk hE c2 c0 a7 a5;obtain⟨a4,c7⟩:=bd _ a7;have a8:=h.kill hk (k::st.dirty);have a6:qD (upd st.objs k .dead) d=true:=by obtain⟨q1,q2⟩:=qR hd;unfold qD;rw[qb _ _ _ c2,qm _ q2];rw[qm _ q2]at q1;rw[q1]
       have b7:∀o',(⟨st.tmps,upd st.objs k .dead,k::st.dirty⟩:St).put (some d) (.arr d) [(d,o')]=⟨(st.put (some d) (.arr d) [(k,.dead),(d,o')]).tmps,(st.put (some d) (.arr d) [(k,.dead),(d,o')]).objs,d::k::st.dirty⟩:=λo'=>rfl
       have cl:=h.objs k;rw[hk]at cl;obtain⟨cv,_,eb,cl⟩:=cl;have hs:∀e∈E,e.length=z.length:=λe he=>by rw[hE]at he;exact eb e (W0 he)
       have b4:=a4.max;rcases c0 with⟨b,cap,hl,ea,a9⟩|⟨hl,hE0,a9⟩
       .rcases cl with⟨bt,_⟩|⟨b',cap',cs,t',bt,c3,bg,b6,hlc,dy⟩
        .rw[hl]at bt;simp at bt
        rw[hl]at bt;simp only[j1,j2]at bt;obtain⟨rfl,rfl⟩:=bt;have c3:¬F b:=c3;have dv:E.length=n:=by rw[hE,cL];omega
        have cr:∀j,j<E.length*z.length->∃v,cs[j]? =some v/\CD w F (nth .undef E.flatten j) v:=λj hj=>by rw[dv]at hj;have hj2:j<es.length*z.length:=im hj (hD _ ea);obtain⟨v,r1,r2⟩:=dy.1 j hj2;refine⟨v,r1,?_⟩;have:=Nr (o:=0) eb (by omega) hj;rw[List.drop_zero,hV,hK]at this;rw[hE,this];exact r2
        have ct:E.length<=cap:=by omega
        rw[<-dv]at a9;rw[a9]at b5;have hf:=h.fresh _ _ _ hl;have hno:∀j c',Xx loc k j≠some (b,c'):=by
         intro j c' hj;simp only[Xx]at hj;split at hj
         .simp at hj
         .rename_i hjk;exact hjk (h.inj _ _ _ _ _ hj hl)
        --the array stands where it stood,with ec bx
        have bc:∀(ap:List (List D)) (bs:Array Value),roomS z.length ap.length->(∀q∈ap,q.length=z.length)->bs.size=cap*z.length->ap.length<=cap->(∀j,j<ap.length*z.length->∃v,bs[j]? =some v/\CD w F (nth .undef ap.flatten j) v)->
         Conc C B F0 w0 F (at_ (Xx loc k) d (b,cap) t') (st.put (some d) (.arr d) [(k,.dead),(d,.arr z.length ap false)]) (a.put (some d) (.slice (some ⟨b,0,none⟩) ap.length cap)) (setBlk w b (.cells bs t' (0,0))):=by
         intro ap bs r1 r2 r3 r4 r5;have e6:d<(upd st.objs k .dead).length:=(qR a6).2;have:=a8.adopt (tt:=t') (dst:=some d) (d:=d) (b:=b) (cap:=cap) (ob:= .arr z.length ap false) (v:= .arr d) (x:= .slice (some ⟨b,0,none⟩) ap.length cap) (cs:=bs) (t:=t') a6 hf c3 hno
          ⟨r1,ci,r2,.inr ⟨b,cap,bs,t',by simp[at_],c3,zk hf.2,r3,⟨r4,hlc.2⟩,λj hj=>by
           obtain⟨v,p1,p2⟩:=r5 j hj;exact⟨v,p1,p2.mono (λ_ h=>h) λb' hb'=>zl (λe=>c3 (e▸hb'))⟩,dy.2.1,by simp[at_]⟩⟩
          (λs' es'' fz' hc=>by
           rw[qc _ _ _ e6]at hc;simp only[J3]at hc;obtain⟨rfl,rfl,rfl⟩:=hc;exact .inl ⟨b,cap,by simp[at_],rfl⟩)
          (by show nth .none (upd (upd st.objs k .dead) d (.arr z.length ap false)) d≠ .none;rw[qc _ _ _ e6];simp)
         rw[b7]at this;exact this.redirty
        by_cases ag:ys=[]
        .subst ag;have:=bc E cs (a4.le (by omega)) hs b6 ct cr;rw[QL bg]at this;rw[fx];exact⟨_,_,w,b5 _ _ (kn hu hz _ _ _ ct ad c w),.inl rfl,F,_,this⟩
        .obtain⟨b2,o2,rfl,a3,b9,bv,ba⟩:=b3 a5 ag;have hn1':a3.length=ys.length*z.length:=by rw[<-cd];exact b9
         have bb:All2 (CD w F) E.flatten (cs.toList.take (E.length*z.length)):=by
          have hle:E.length*z.length<=cs.size:=by rw[b6];exact hD _ ct
          refine jM .undef undef (by rw[qk hs];simp;omega) λj hj=>?_
          rw[qk hs]at hj;obtain⟨v,p1,p2⟩:=cr j hj;have:nth undef (cs.toList.take (E.length*z.length)) j=v:=by rw[qF,gn,if_pos hj];simp[p1]
          rw[this];exact p2
         have c4:∀u∈a3,u.oneCell'=true:=by
          have:∀(ds:List D) (vs:List Value),All2 (CD w F) ds vs->∀v∈vs,v.oneCell'=true:=by
           intro ds
           induction ds with
           |nil=>intro vs cf v hv;cases vs with|nil=>simp at hv|cons _ _=>exact cf.elim
           |cons d ds ih=>
            intro vs cf v hv;cases vs with
            |nil=>exact cf.elim
            |cons y vs=>
             rcases aE.1 hv with rfl|hv
             .exact cf.1.one
             .exact ih vs cf.2 v hv
          exact this _ _ ba
         by_cases hfit:E.length+ys.length<=cap
         .have b8:E.length*an.size+a3.length<=cs.size:=by rw[b9,b6,cd,<-hP];exact hD _ hfit
          have hr:=Vu (P:=C.P) (ty:=ty) hu hi bg ⟨b2,o2,none⟩ ys.length c a3 b9 bv c4 hfit b8;have dc:∀q∈E++ys,q.length=z.length:=λq hq=>by rcases W3.1 hq with hq|hq;exact hs q hq;exact a5 q hq
          have:=bc (E++ys) (qK cs.toList (E.length*an.size) a3).toArray (by rw[U3];exact a4) dc (by simp[qS,b6]) (by rw[U3];exact hfit) (λj hj=>by
           rw[U3,hP]at hj;rw[el];have hl3:=ba.length;rw[qk a5]at hl3;have dd:(qK cs.toList (E.length*an.size) a3).length=cs.size:=by simp[qS]
           rw[cd]at b8 dd ⊢;refine⟨nth undef (qK cs.toList (E.length*z.length) a3) j,?_,?_⟩
           .rw[qm _ (by omega)];simp[show j<(qK cs.toList (E.length*z.length) a3).length by omega]
           .rcases hQ j (E.length*z.length)with h6|h6
            .rw[xM _ _ _ _ _ h6];obtain⟨v,p1,p2⟩:=cr j h6;have e1:nth undef cs.toList j=v:=by rw[qF];simp[p1]
             have e2:nth .undef (E.flatten++ys.flatten) j=nth .undef E.flatten j:=by rw[qF,qF,List.getElem?_append_left (by rw[qk hs];exact h6)]
             rw[e1,e2];exact p2
            .obtain⟨i,rfl⟩:∃i,j=E.length*z.length+i:=⟨j-E.length*z.length,by omega⟩;rw[zG _ _ _ _ _ (by omega) (by simp;omega)];have e2:nth .undef (E.flatten++ys.flatten) (E.length*z.length+i)=nth .undef ys.flatten i:=by rw[qF,qF,List.getElem?_append_right (by rw[qk hs];omega),qk hs,hR]
             rw[e2];exact ba.nth .undef undef _ _ i (by rw[qk a5];omega))
          rw[U3]at this;exact⟨_,_,_,b5 _ _ hr,.inl rfl,F,_,this⟩
         .have ho1:(cs.toList.take (E.length*z.length)).length=E.length*an.size:=by have:=bb.length;rw[qk hs]at this;rw[cd];exact this.symm
          have hr:=run_append_grow (P:=C.P) w t2 ty e an zv hu hi dp ⟨b,0,none⟩ E.length cap (cs.toList.take (E.length*z.length)) ho1 (λj v hj=>by
           rw[zp,xW bg,hK];rw[gn]at hj;split at hj
           .simpa using hj
           .simp at hj) ⟨b2,o2,none⟩ ys.length c a3 b9 bv (by omega) (by omega) (growslice_fits_wide (by omega) c7)
          have:=b1 _ _ E _ a3 cap a8 a6 a4 hs a5 bb ba;rw[b7]at this;exact⟨_,_,_,b5 _ _ hr,.inl rfl,F,_,this.redirty⟩
       .rw[a9]at b5;subst hE0;by_cases ag:ys=[]
        .subst ag;have:=Nq (dst:=some d) a8 a6 ci;rw[b7]at this;exact⟨_,_,w,b5 _ _ (kn hu hz none 0 0 (hM _) ad c w),.inl rfl,F,_,this.redirty⟩
        .obtain⟨b,o,rfl,a3,b9,bv,ba⟩:=b3 a5 ag;have bk:0<ys.length:=ga.2 ag;simp only[fw,hK]at b4 c7;have hr:=run_append_nil (P:=C.P) w t2 ty e an zv hu hi dp ⟨b,o,none⟩ ys.length c a3 b9 bv bk (by omega) (ia (hD _ (by omega)) c7);have:=b1 _ _ [] [] a3 0 a8 a6 a4 (by simp) a5 trivial ba;simp only[fw,hK,gz,Hv]at this;rw[b7]at this;exact⟨_,_,_,b5 _ _ hr,.inl rfl,F,_,this.redirty⟩
      split
      .rename_i cg;rw[cg]at hx;have a9:a.eval x= .slice none 0 0:=hx;rw[a9]at b5;rintro⟨a7,a5⟩;obtain⟨a4,c7⟩:=bd _ a7;have b4:=a4.max;by_cases ag:ys=[]
       .subst ag;exact⟨_,_,w,b5 _ _ (kn hu hz none 0 0 (hM _) ad c w),.inl rfl,F,loc,Nq h hd ci⟩
       .obtain⟨b,o,rfl,a3,b9,bv,ba⟩:=b3 a5 ag;have bk:0<ys.length:=ga.2 ag;have hr:=run_append_nil (P:=C.P) w t2 ty e an zv hu hi dp ⟨b,o,none⟩ ys.length c a3 b9 bv bk (by omega) (ia (hD _ (by omega)) c7);have:=b1 loc st [] [] a3 0 h hd (by simpa using a4) (by simp) a5 trivial ba;simp only[fw,hK,gz,Hv]at this;exact⟨_,_,_,b5 _ _ hr,.inl rfl,F,_,this⟩
      .rename_i k cg;rw[cg]at hx;split
       .rename_i s es hk;split
        .rename_i cc;simp only[Hx,decide_eq_true_eq,HZ,decide_eq_false_iff_not]at cc;obtain⟨rfl,c2⟩:=cc;rintro⟨a4,a5⟩;refine bw k es.length es es hk (by simp) c2 ?_ a4 a5;rcases hx _ es false hk with⟨b,cap,hl,a9⟩|⟨hl,h0,a9⟩
         .exact .inl ⟨b,cap,hl,hM _,a9⟩
         .exact .inr ⟨hl,h0,a9⟩
        .trivial
       .trivial
      .rename_i k o n cg;rw[cg]at hx;split
       .rename_i s es ho hk;obtain rfl:=hG ho;split
        .rename_i cc;simp only[Hx,decide_eq_true_eq,HZ,decide_eq_false_iff_not]at cc;obtain⟨rfl,c2⟩:=cc;rintro⟨a4,a5⟩;refine bw k n es (es.take n) hk rfl c2 ?_ a4 a5;rcases hx _ es false hk with⟨b,cap,hl,ea,a9⟩|⟨_,hl,h0,_,_,a9⟩|⟨_,h0,_⟩
         .exact .inl ⟨b,cap,hl,by omega,by rw[a9,hV,Nat.sub_zero]⟩
         .exact .inr ⟨hl,by rw[h0];simp,a9⟩
         .omega
        .trivial
       .trivial
      .trivial
     .trivial
   .trivial
  .trivial
 .trivial
theorem Qe{α β:Type}{R:α->β->Prop}:∀{as:List α} {bs:List β},All2 R as bs->∀b∈bs,∃a,R a b
 |[],[],_,b,hb=>by grind
 |a::as,c::bs,h,b,hb=>by
  rcases aE.1 hb with rfl|hb
  .exact⟨a,h.1⟩
  .exact Qe h.2 b hb
 |[],_::_,h,_,_=>h.elim
 |_::_,[],h,_,_=>h.elim
theorem Fz{x:Operand}{ts:Array TypeId}(h:Conc C B F0 w0 F loc st a w):RS C B F0 w0 st a w ⟨dst,.call ⟨.builtin .clear, #[x],ts⟩,ty,pos,after,g⟩ (Kt C st.objs ts (ev st x)):=by
 unfold Kt;have hx:=(xg h x).1;split
 .rename_i t hts;have ag:ts= #[t]:=by apply Dd;simpa using hts
  subst ag;split
  .rename_i e he;split
   .rename_i z k o l hz hv;rw[hv]at hx;split
    .rename_i s es hk;split
     .rename_i hsz;obtain rfl:=hG hsz;intro hl0;obtain⟨b,c,hl,hol,hxe⟩:=(hx _ es false hk).resolve_right (by rintro(⟨_,_,_,_,h4,_⟩|⟨_,_,_,h4,_⟩)<;>omega);have a7:=h.objs k;rw[hk]at a7;obtain⟨ap,hs0,hs,a7⟩:=a7;rcases a7 with⟨a5,_⟩|⟨b',c',cs,t',a5,hnF,a6,a8,hlc,hcs⟩
      .rw[hl]at a5;simp at a5
      rw[hl]at a5;simp only[j1,j2]at a5;obtain⟨rfl,rfl⟩:=a5;have hf:=h.fresh _ _ _ hl;obtain⟨inf,zv,hi,hzv,al,hszz,ad,_⟩:=zO hz;have hzs:zv.cells.size=z.length:=by rw[<-al];simp
      have a3:=YK (w:=w) (F':=F) (z:=zv.cells) (n:=l) (by omega) (by rw[al];exact ad);rw[al]at a3;have hin:(o+l)*z.length<=es.length*z.length:=hD _ hol;have hinc:es.length*z.length<=c*z.length:=hD _ hlc.1;have hml:=a3.length;have an:=qk (es:=W2 l (z.map zD)) (size:=z.length) (λe he=>by rw[dA he];simp);rw[ew]at an;have hadd:(o+l)*z.length=o*z.length+l*z.length:=hP ..;have a9:(J5 zv.cells l).toList.length=l*z.length:=by simp[J5,hzs]
      have b1:=xN (P:=C.P) (b:=b) (o:=o*z.length) (J5 zv.cells l).toList 0 w cs a6 (by rw[a9,a8];omega) (λv hv=>?_)
      .refine⟨_,.tuple #[],setBlk w b (.cells (qK cs.toList (o*z.length) (J5 zv.cells l).toList).toArray t' (0,0)),?_,.inl rfl,?_⟩
       .have hzr:∀w,(zeroValue e).run C.P w= .ok zv w:=λw=>by simp[zeroValue,typeInfo,hi,hzv]
        have hll:∃m,l=m+1:=⟨l-1,by omega⟩;obtain⟨m,rfl⟩:=hll;rw[hW]at b1;simp[execOp,resolve,invoke,builtin,Builtin.clear_,hxe,qN (Xy he),hzr,b1]
       .have h5:=Vs (.tuple #[]) (dst:=dst) (k:=k) (p:=o*z.length) (es':=es.take o++(W2 l (z.map zD)++es.drop (o+l))) h hk hl a6 a3 (by simp;omega) (λe' a4=>?_) ?_ (by omega)
        .exact⟨F,loc,h5⟩
        .rcases W3.1 a4 with a4|a4
         .exact hs _ (W0 a4)
         .rcases W3.1 a4 with a4|a4
          .rw[dA a4];simp
          .exact hs _ (W4 a4)
        .have e1:es=es.take o++((es.drop o).take l++es.drop (o+l)):=by rw[<-List.drop_drop,et,et]
         conv=>rhs;rw[e1]
         simp only[el];have hta:(es.take o).flatten.length=o*z.length:=by rw[qk (λe he=>hs e (W0 he)),cL,hT (by omega)]
         rw[<-hta,HF];rw[an,qk (size:=z.length) (λe he=>hs e (W4 (W0 he))),cL,eH,hT (by omega)]
      .obtain⟨d,hd⟩:=Qe a3 v hv;exact hd.one
     .trivial
    .trivial
   .trivial
  .trivial
 .trivial
end
end Eng
end
section
namespace Eng
open Go Go.RowKit
section
variable {C:Cx}{B:Bd}{F0:Nat->Prop}{w0:World}{F:Nat->Prop}{loc:Where}{st:St}{a:Act}{w:World}
variable {dst:Option Nat}{ty:TypeId}{pos:String}{after:Array Edge}{g:Option (Nat×Bool)}
theorem Ll{w w':World}{F F':Nat->Prop}{d:D}{v:Value}(h:CD w F d v)(hf:K1 d=true):CD w' F' d v:=by
 cases h<;>first|(simp[K1]at hf;done)|(constructor;done)|(constructor;grind)
theorem YN{w w':World}{F F':Nat->Prop}{d:A}{v:Value}(h:CA w F d v)(hf:Vr d=true):CA w' F' d v:=by
 cases d with
 |c d=>exact Ll h hf
 |ag cs=>obtain⟨vs,rfl,h⟩:=h;exact⟨vs,rfl,h.mono_mem λd hd v hv=>Ll hv (gr.1 hf d hd)⟩
theorem SO{w w':World}{F F':Nat->Prop}{rs:List A}{v:Value}(h:Pz w F rs v)(hf:∀r∈rs,Vr r=true):Pz w' F' rs v:=by
 unfold Pz at h ⊢;split
 .rename_i r;exact YN h (hf r (by simp))
 .split at h
  .grind
  .obtain⟨vs,rfl,h⟩:=h;exact⟨vs,rfl,h.mono_mem λr hr v hv=>YN hv (hf r hr)⟩
theorem Ns{objs:List Obj}{rs:List A}{v:Value}(h:Pz w F rs v):CV loc objs w F (Ht rs) v/\Ref objs (Ht rs):=by
 unfold Ht;split
 .exact⟨h,trivial⟩
 .exact⟨h,trivial⟩
 .rename_i h1 h2;unfold Pz at h;split at h
  .rename_i r;cases r with
   |c d=>grind
   |ag cs=>grind
  .exact⟨h,trivial⟩
theorem Conc.behind{v:V}{x:Value}{w':World}(h:Conc C B F0 w0 F loc st a w)(hb:Below w.heap.size w w')(hv:CV loc st.objs w' (λb=>F b\/(w.heap.size<=b/\b<w'.heap.size)) v x)(hr:Ref st.objs v):
 Conc C B F0 w0 (λb=>F b\/(w.heap.size<=b/\b<w'.heap.size)) loc (st.put dst v []) (a.put dst x) w':=by
 have hw:∀b,F b->w'.heap[b]? =w.heap[b]? :=λb hF=>hb.block b (h.bound b hF)
 have hsz:=hb.size;refine h.step (up:=[]) (λb hF=> .inl hF) hw (Le.refl _ _) (h.below.trans (.of hb h.hB)) (by have:=h.hB;omega) (λk=>?_) h.inj (λk b c hl=>?_) ?_ ?_ hv hr
 .refine CO.le (λb hF=> .inl hF) hw (Le.refl _ _) rfl rfl (λb c hl=>?_) (h.objs k);have hf:=(h.fresh _ _ _ hl).2;exact⟨hb.block b hf,λhn hor=>by grind⟩
 .have:=h.fresh _ _ _ hl;grind
 .intro b hF;rcases hF with hF|hF
  .have:=h.bound b hF;omega
  grind
 .intro b hF;rcases hF with hF|hF
  .exact h.fsub b hF
  .have:=h.hB;exact .inr (.inl (by omega))
theorem vP(h:Conc C B F0 w0 F loc st a w):∀(xs:List Operand),All2 (CV loc st.objs w F) (xs.map (ev st)) (xs.map a.eval)
 |[]=>trivial
 |x::xs=>⟨(xg h x).1,vP h xs⟩
theorem Nt{f:Nat}{o:Oper}{vs:List V}{xs:List Value}(h:Conc C B F0 w0 F loc st a w)(hvs:All2 (CV loc st.objs w F) vs xs)(hrun:∀fn,C.P.funcs[f]? =some fn->fn.body≠none->fn.name≠ "runtime.NumGoroutine" ->(execOp a.eval o).run C.P w= .ok (.enter f xs.toArray) w):RS C B F0 w0 st a w o (vI C st.objs f vs):=by
 unfold vI;split
 .trivial
 .rename_i fn hfn;split
  .trivial
  .rename_i ad;simp only[Hx,HZ]at ad;obtain⟨a4,a7⟩:=ad;have hrun:=hrun fn hfn (by intro hb;simp[hb]at a4) (by simpa using a7);split
   .rename_i as us sh hto hsh;obtain⟨hfz,a8⟩:=QJ h hto hvs;obtain⟨F',a9,hF',hb'⟩:=h.freezes hfz st.dirty;have a3:=a8 F' hF' hb';have ag:∀(up:List (Nat×Obj)) (rs:List A),qa C f as rs->(∀v w',Below w.heap.size w w'->Pz w' (λb=>F' b\/(w.heap.size<=b/\b<w'.heap.size)) rs v->St.has C B F0 w0 (st.put o.dst (Ht rs) up) (a.put o.dst v) w')->
     ∀(next:Act->World->Prop) (Q:Exit->Act->World->Prop),(∀a' w',St.has C B F0 w0 (st.put o.dst (Ht rs) up) a' w'->next a' w')->Oper.wp C.P o a w next Q:=by
     intro up rs hg hres next Q hn
     unfold Oper.wp;rw[hrun,Oper.upon_enter];refine(hg w F' xs a9.bound a9.inv a3).mono λe w' he=>?_
     grind
    split
    .intro rs hg _ next Q hn
     refine ag us rs hg (λv w' hbel hr=>?_) next Q hn
     have a5:=Ns (loc:=loc) (objs:=upds st.objs us) hr;exact⟨_,loc,(a9.behind (dst:=o.dst) hbel a5.1 a5.2).redirty⟩
    .rename_i hns;intro rs hg a6 next Q hn
     refine ag [] rs hg (λv w' hbel hr=>?_) next Q hn
     have hr':Pz w' (λb=>F b\/(w.heap.size<=b/\b<w'.heap.size)) rs v:=SO hr (a6 hns);have a5:=Ns (loc:=loc) (objs:=st.objs) hr';exact⟨_,loc,h.behind (dst:=o.dst) hbel a5.1 a5.2⟩
   .trivial
theorem Lo{f:Nat}{cal:Operand}{args:Array Operand}{ts:Array TypeId}(h:Conc C B F0 w0 F loc st a w)(hcal:a.eval cal= .func (.func f) #[] #[]):RS C B F0 w0 st a w ⟨dst,.call ⟨.value cal,args,ts⟩,ty,pos,after,g⟩ (vI C st.objs f (args.toList.map (ev st))):=by
 refine Nt h (vP h args.toList) λfn hfn hb2 hne=>?_
 have a3:(args.toList.map a.eval).toArray=args.map a.eval:=by grind
 rw[a3];simp[execOp,resolve,hcal,Deferred.ofValue,invoke,callFunc,hfn,hne,hb2]
theorem VF{R:D->Value->Prop}:∀(ps:List D) (vs:Nat->Value) (i:Nat),(∀j,j<ps.length->R (nth .undef ps j) (vs (i+j)))->All2 R ps ((List.range' i ps.length).map vs)
 |[],_,_,_=>trivial
 |p::ps,vs,i,h=>by
  refine⟨by have:=h 0 (by simp);simpa [nth]using this,VF ps vs (i+1) λj hj=>?_⟩;have:=h (j+1) (by grind);rw[show i+1+j=i+(j+1)by omega]
  simpa [nth]using this
theorem HK:∀{ps:List D} {xs:List Value},All2 (CD w F) ps xs->All2 (CV loc st.objs w F) (ps.map V.c) xs
 |[],[],_=>trivial
 |_::_,_::_,h=>⟨h.1,HK h.2⟩
 |[],_::_,h=>h.elim
 |_::_,[],h=>h.elim
theorem HM{α β:Type}{R:α->β->Prop}:∀{as as':List α} {bs bs':List β},All2 R as bs->All2 R as' bs'->All2 R (as++as') (bs++bs')
 |[],_,[],_,_,h'=>h'
 |_::_,_,_::_,_,h,h'=>⟨h.1,HM h.2 h'⟩
 |[],_,_::_,_,h,_=>h.elim
 |_::_,_,[],_,h,_=>h.elim
theorem iW{f:Nat}{ps:List D}{cal:Operand}{args:Array Operand}{ts:Array TypeId}(h:Conc C B F0 w0 F loc st a w)(hcal:CD w F (.clo f ps) (a.eval cal)):
 RS C B F0 w0 st a w ⟨dst,.call ⟨.value cal,args,ts⟩,ty,pos,after,g⟩ (vI C st.objs f (args.toList.map (ev st)++ps.map V.c)):=by
 generalize hc:a.eval cal=y at hcal;cases hcal with
 |clo f ps vs hd=>
  have h2:All2 (CD w F) ps ((gd ps.length).map vs):=by simp_all[List.range_eq_range',VF,hK]
  refine Nt h (HM (vP h args.toList) (HK h2)) λfn hfn hb2 hne=>?_
  simp[execOp,resolve,hc,Deferred.ofValue,invoke,callFunc,hfn,hne,hb2]
theorem Lp(h:Conc C B F0 w0 F loc st a w):∀{vs:List V} {xs:List Value} {ps:List D} {us:List (Nat×Obj)},TY st.objs vs=some (ps,us)->All2 (CV loc st.objs w F) vs xs->
 (∀p∈us,p.2= .dead/\(∃v∈vs,p.1∈qn v)/\∃cells,nth .none st.objs p.1= .box cells)/\∀F':Nat->Prop,(∀b,F b->F' b)->(∀p∈us,∀b c,loc p.1=some (b,c)->F' b)->All2 (CD w F') ps xs
 |[],[],ps,us,hc,_=>by simp only[TY,j1,j2]at hc;obtain⟨rfl,rfl⟩:=hc;exact⟨λp hp=>by simp at hp,λ_ _ _=>trivial⟩
 |v::vs,x::xs,ps,us,hc,hv=>by
  unfold TY at hc;split at hc
  .rename_i k;split at hc
   .rename_i cells hk;split at hc
    .rename_i ds ps' us' hds hr;simp only[j1,j2]at hc;obtain⟨rfl,rfl⟩:=hc;obtain⟨h1,h2⟩:=Lp h hr hv.2;refine⟨λp hp=>?_,λF' hF hb=>⟨?_,h2 F' hF λp hp=>hb p (by simp[hp])⟩⟩
     .rcases aE.1 hp with rfl|hp
      .exact⟨rfl,⟨_,en ..,by simp[qn]⟩,_,hk⟩
      .obtain⟨q1,⟨u,q2,q3⟩,q4⟩:=h1 p hp;exact⟨q1,⟨u,cH _ q2,q3⟩,q4⟩
     .obtain⟨b,c,hl,hx⟩:=hv.1 _ hk rfl;have hco:=h.objs k;rw[hk]at hco;obtain⟨b',c',cs,t',hl',hnF,hblk,hall,hrefs⟩:=hco;rw[hl]at hl';simp only[j1,j2]at hl';obtain⟨rfl,rfl⟩:=hl';have hcd:All2 (CD w F) ds cs.toList:=za (loc:=loc) (objs:=st.objs) hds (hall.mono λ_ _ h=>h.1);have hlen:=hcd.length;rw[hx];refine CD.ptr ds b 0 (λj=>nth undef cs.toList j) (hb _ (en ..) _ _ hl) (λj hj=>?_) (λj hj=>?_)
      .rw[hK,xW hblk,qm _ (by omega)];simp at hlen;simp[show j<cs.size by omega]
      .exact(hcd.nth .undef undef _ _ j hj).mono hF λ_ _=>rfl
    grind
   grind
  .rename_i ds;split at hc
   .rename_i ps' us' hr;simp only[j1,j2]at hc;obtain⟨rfl,rfl⟩:=hc;obtain⟨h1,h2⟩:=Lp h hr hv.2;obtain⟨b,o,size,hx,_,hrow⟩:=hv.1;have hsz:ds.length=size:=hrow.hs ds (by simp);have hcell:∀j,j<ds.length->∃v,w.cell? ⟨b,o+j,none⟩=some v/\CD w F (nth .undef ds j) v:=λj hj=>by
     have:=hrow.hc j (by simp only[List.length_singleton,Nat.one_mul];omega)
     simpa using this
    open Classical in
    have hptr:CD w F (.ptr ds) x:=by
     rw[hx];simp only[hV,hW];refine CD.ptr ds b o (λj=>if h:j<ds.length then I1 (hcell j h)else undef) hrow.hF (λj hj=>?_) (λj hj=>?_)
     .rw[dif_pos hj];exact(I0 (hcell j hj)).1
     .rw[dif_pos hj];exact(I0 (hcell j hj)).2
    refine⟨λp hp=>?_,λF' hF hb=>⟨CD.mono hptr hF λ_ _=>rfl,h2 F' hF hb⟩⟩;obtain⟨q1,⟨u,q2,q3⟩,q4⟩:=h1 p hp;exact⟨q1,⟨u,cH _ q2,q3⟩,q4⟩
   .simp at hc
  grind
 |[],_::_,_,_,_,h=>h.elim
 |_::_,[],_,_,_,h=>h.elim
theorem vQ:∀(us:List (Nat×Obj)) (objs:List Obj) (k:Nat),(∀p∈us,p.2= .dead/\p.1<objs.length)->nth .none (upds objs us) k=if(∃p∈us,p.1=k)then .dead else nth .none objs k
 |[],objs,k,_=>by simp[upds]
 |(j,o)::us,objs,k,h=>by
  obtain⟨h1,h2⟩:=h (j,o) (by simp);subst h1;simp only[upds];rw[vQ us _ k λp hp=>⟨(h p (by grind)).1,by rw[qi];grind⟩];by_cases hk:∃p∈us,p.1=k
  .simp_all
  .rw[if_neg hk];by_cases hj:j=k
   .subst hj;rw[qc _ _ _ h2,if_pos ⟨(j,.dead),by simp,rfl⟩]
   .rw[qb _ _ _ hj,if_neg]
    grind
theorem Conc.capture{us:List (Nat×Obj)}{v:V}{x:Value}(h:Conc C B F0 w0 F loc st a w)(hu:∀p∈us,p.2= .dead/\∃cells,nth .none st.objs p.1= .box cells)(hv:CD w (λb=>F b\/∃p∈us,∃c,loc p.1=some (b,c)) (match v with| .c d=>d|_=> .undef) x)(hvc:∃d,v= .c d):St.has C B F0 w0 (st.put dst v us) (a.put dst x) w:=by
 have hlt:∀p∈us,p.2= .dead/\p.1<st.objs.length:=λp hp=>by
  obtain⟨h1,cells,h2⟩:=hu p hp;refine⟨h1,?_⟩;rcases hQ p.1 st.objs.length with h3|h3
  .exact h3
  .rw[qG _ h3]at h2;simp at h2
 have hn:=λk=>vQ us st.objs k hlt
 open Classical in
 let loc':Where:=⟨loc.P,λk=>if(∃p∈us,p.1=k)then none else loc k,loc.ty⟩
 have a5:Le st.objs (upds st.objs us) loc loc':=by
  refine⟨rfl,λ_ _=>rfl,λj hj=>?_,λj o' hj hc hbx=>?_,λj s' es' fz' hj hc=>?_⟩
  .rw[hn];split
   .simp
   .exact hj
  .rw[hn]at hc;split at hc
   .rw[<-hc]at hbx;simp[kl]at hbx
   .rename_i e;exact⟨by rw[hc];exact hbx,by simp only[loc'];rw[if_neg e]⟩
  .rw[hn]at hc;split at hc
   .simp at hc
   .rename_i e;exact⟨⟨_,_,hc,rfl⟩,by simp only[loc'];rw[if_neg e]⟩
 have a3:∀k b c,loc' k=some (b,c)->loc k=some (b,c)/\¬∃p∈us,p.1=k:=λk b c hl=>by
  simp only[loc']at hl;split at hl
  .simp at hl
  .rename_i e;exact⟨hl,e⟩
 refine⟨λb=>F b\/∃p∈us,∃c,loc p.1=some (b,c),loc',h.step (λb hb=> .inl hb) (λ_ _=>rfl) a5 h.below h.hB (λk=>?_) ?_ ?_ ?_ ?_ ?_ ?_⟩
 .rw[hn];by_cases hk:∃p∈us,p.1=k
  .rw[if_pos hk];show loc' k=none;simp only[loc'];rw[if_pos hk]
  .rw[if_neg hk];refine CO.le (λb hb=> .inl hb) (λ_ _=>rfl) a5 (by simp only[loc'];rw[if_neg hk]) rfl (λb c hl=>⟨rfl,λhnF a4=>?_⟩) (h.objs k);rcases a4 with a4|⟨p,hp,c',a4⟩
   .exact hnF a4
   .exact hk ⟨p,hp,h.inj _ _ _ _ _ a4 hl⟩
 .intro k k' b c c' h1 h2;exact h.inj _ _ _ _ _ (a3 _ _ _ h1).1 (a3 _ _ _ h2).1
 .intro k b c h1;exact h.fresh _ _ _ (a3 _ _ _ h1).1
 .intro b hb;rcases hb with hb|⟨p,hp,c,hb⟩
  .exact h.bound b hb
  .exact(h.fresh _ _ _ hb).2
 .intro b hb;rcases hb with hb|⟨p,hp,c,hb⟩
  .exact h.fsub b hb
  .exact .inr (h.fresh _ _ _ hb).1
 .obtain⟨d,rfl⟩:=hvc;exact hv
 .obtain⟨d,rfl⟩:=hvc;trivial
theorem Lt{fn:Fn}{first captured:Array Operand}(h:Conc C B F0 w0 F loc st a w):RS C B F0 w0 st a w ⟨dst,.makeFunc fn first captured,ty,pos,after,g⟩ (xr C ⟨dst,.makeFunc fn first captured,ty,pos,after,g⟩ (ev st) st.objs):=by
 simp only[xr];split
 .rename_i f hf;have a3:first= #[]:=by apply Dd;simpa using hf
  subst a3;split
  .rename_i ps us a4;obtain⟨h1,h2⟩:=Lp h a4 (vP h captured.toList);have h3:=h2 (λb=>F b\/∃p∈us,∃c,loc p.1=some (b,c)) (λb hb=> .inl hb) (λp hp b c hl=> .inr ⟨p,hp,c,hl⟩);refine⟨_,.func (.func f) #[] (captured.map a.eval),w,by simp[execOp,Instr.makeFunc],.inl rfl,?_⟩;refine h.capture (λp hp=>⟨(h1 p hp).1,(h1 p hp).2.2⟩) ?_ (by cases ps<;>exact⟨_,rfl⟩);have hl:=h3.length;cases ps with
   |nil=>
    have:captured.map a.eval= #[]:=by
     apply Dd;have:captured.toList.length=0:=by simpa using hl.symm
     simp[eg this]
    rw[this];exact CD.fn f
   |cons p ps=>
    have e:captured.map a.eval=((gd (p::ps).length).map λj=>nth undef (captured.toList.map a.eval) j).toArray:=by
     apply Dd;rw[Array.toList_map];apply List.ext_getElem
     .simp at hl ⊢;omega
     simp_all[fl,gm,qm]
    rw[e];exact CD.clo f (p::ps) _ λj hj=>h3.nth .undef undef _ _ j hj
  .trivial
 .trivial
def RSW (C:Cx) (B:Bd) (F0:Nat->Prop) (w0:World) (st:St) (a:Act) (w:World) (o:Oper):R->Prop
 | .fail=>True
 | .ok v up=>∀(next:Act->World->Prop) (Q:Exit->Act->World->Prop),(∀a' w',St.has C B F0 w0 (st.put o.dst v up) a' w'->next a' w')->o.wp C.P a w next Q
 | .cond (dc:=_) c v up=>c->∀(next:Act->World->Prop) (Q:Exit->Act->World->Prop),(∀a' w',St.has C B F0 w0 (st.put o.dst v up) a' w'->next a' w')->o.wp C.P a w next Q
 | .look z row off ag=>∀ds,cut row off z.length ds->∀(next:Act->World->Prop) (Q:Exit->Act->World->Prop),(∀a' w',St.has C B F0 w0 (st.put o.dst (match ag with|true=> .ag ds|false=> .c (nth .undef ds 0)) []) a' w'->next a' w')->o.wp C.P a w next Q
 | .call f as sh up=>∀rs,qa C f as rs->(zN sh=false->∀r∈rs,Vr r=true)->∀(next:Act->World->Prop) (Q:Exit->Act->World->Prop),
  (∀a' w',St.has C B F0 w0 (st.put o.dst (Ht rs) up) a' w'->next a' w')->o.wp C.P a w next Q
theorem rsw{o:Oper}{r:R}(h:RS C B F0 w0 st a w o r):RSW C B F0 w0 st a w o r:=by
 cases r with
 |fail=>trivial
 |ok v up=>exact λnext Q hn=>Does.wp h hn
 |cond c v up=>exact λhc next Q hn=>Does.wp (h hc) hn
 |look z row off ag=>exact λds hc next Q hn=>Does.wp (h ds hc) hn
 |call f as sh up=>exact h
def qZ:Obj->List V
 | .box cells=>cells
 | .bld _ q=>[q]
 |_=>[]
def VOk (ob:List Obj) (up:List (Nat×Obj)) (v:V):Prop:=∀k∈qn v,nth .none ob k≠ .none\/(qD ob k=true/\∃x,(k,x)∈up)
def ij (wd:Bool) (dst:Option Nat) (k:Nat):Prop:=dst=some k\/(wd=true/\∃d,dst=some d/\k=d+1)
def pq (wd:Bool) (dst:Option Nat) (keys:List Nat) (ob:List Obj):R->Prop
 | .fail=>True
 | .ok v up| .cond (dc:=_) _ v up=>(∀p∈up,((ij wd dst p.1/\qD ob p.1=true)\/(p.1∈keys/\nth .none ob p.1≠ .none))/\p.2≠ .none/\∀u∈qZ p.2,VOk ob up u)/\VOk ob up v
 | .look .. =>False
 | .call .. =>False
class EffOk (C:Cx):Prop where
 rs:∀{f:Nat} {e:Option Nat->List V->List Obj->R},C.eff f=some e->∀{B:Bd} {F0:Nat->Prop} {w0:World} {F:Nat->Prop} {loc:Where} {st:St} {a:Act} {w:World} {dst:Option Nat} {args:Array Operand} {ts:Array TypeId} {ty:TypeId} {pos:String} {after:Array Edge} {g:Option (Nat×Bool)},
  Conc C B F0 w0 F loc st a w->RSW C B F0 w0 st a w ⟨dst,.call ⟨.value (.func f),args,ts⟩,ty,pos,after,g⟩ (e dst (args.toList.map (ev st)) st.objs)
 ag:∀{f:Nat} {e:Option Nat->List V->List Obj->R},C.eff f=some e->∀(dst:Option Nat) (vs:List V) (ob ob':List Obj),(∀k∈yy ob (vs.flatMap qn),nth .none ob k=nth .none ob' k)->(∀d,ij (C.wd f) dst d->qD ob d=qD ob' d)->e dst vs ob=e dst vs ob'
 good:∀{f:Nat} {e:Option Nat->List V->List Obj->R},C.eff f=some e->∀(dst:Option Nat) (vs:List V) (ob:List Obj),(∀v∈vs,∀k∈qn v,nth .none ob k≠ .none)->(∀k,∀u∈qZ (nth .none ob k),∀j∈qn u,nth .none ob j≠ .none)->pq (C.wd f) dst (yy ob (vs.flatMap qn)) ob (e dst vs ob)
theorem pt[EffOk C]{o:Oper}(h:Conc C B F0 w0 F loc st a w):RSW C B F0 w0 st a w o (xr C o (ev st) st.objs):=by
 obtain⟨dst,op,ty,pos,a6,g⟩:=o;cases op with
 |move x=>exact rsw (cQ h)
 |assign x=>exact rsw (SI h)
 |pick c x y=>exact rsw (cT h)
 |alloc t=>exact rsw (Fr h)
 |box t x=>exact rsw (iT h)
 |build t parts=>exact rsw (Fy h)
 |buildSlice t len parts=>exact rsw (YM h)
 |load t x=>exact rsw (cV h)
 |store t p x=>exact rsw (Fs h)
 |nilCheck x=>exact rsw (Li h)
 |binOp op t x y t2=>exact rsw (Ft h)
 |unOp op t x=>exact rsw (cW h)
 |convert s t x=>exact rsw (P9 h)
 |makeSlice t x y=>exact rsw (HJ h)
 |slice t x lo hi mx=>exact rsw (Fx h)
 |fieldAddr t x f=>exact rsw (HG h)
 |field t x f=>exact rsw (Fu h)
 |indexAddr t x i=>exact rsw (HH h)
 |index t x i=>exact rsw (Fv h)
 |extract x i=>exact rsw (PA h)
 |makeFunc fn first captured=>exact rsw (Lt h)
 |call c=>
  obtain⟨a5,a3,ts⟩:=c;simp only[xr];split
  .split
   .rename_i e he;exact EffOk.rs he h
   .exact rsw (Lo h rfl)
  .split
   .rename_i t _ f hx;have a4:=(xg h (.tmp t)).1;rw[hx]at a4;split
    .trivial
    refine rsw (Lo h ((λ(y:Value) (hy:CD w F (.fn f) y)=>(by cases hy;rfl:y= .func (.func f) #[] #[])) _ a4))
   .rename_i t _ f ps hx;have a4:=(xg h (.tmp t)).1;rw[hx]at a4;split
    .trivial
    exact rsw (iW h a4)
   .trivial
  .split
   .rename_i x hx;have:a3= #[x]:=by apply Dd;simpa using hx
    subst this;exact rsw (iU h)
   .trivial
  .split
   .rename_i x y hx;have:a3= #[x,y]:=by apply Dd;simpa using hx
    subst this;exact rsw (SN h)
   .trivial
  .split
   .rename_i x hx;have:a3= #[x]:=by apply Dd;simpa using hx
    subst this;exact rsw (Fz h)
   .trivial
  .split
   .rename_i x y hx;have:a3= #[x,y]:=by apply Dd;simpa using hx
    subst this;exact rsw (po h)
   .trivial
  .split
   .rename_i x y hx;have:a3= #[x,y]:=by apply Dd;simpa using hx
    subst this;exact rsw (pp h)
   .trivial
  .trivial
 |_=>trivial
theorem SP{z r:List Value}(h:Fa z=some r):∃b o n c b' o' n' c',z= .bool b:: .slice o n c:: .bool b':: .slice o' n' c'::r:=by
 unfold Fa at h
 grind
theorem Nu{z r:List Value}(h:Fa z=some r):kX z=true/\z.length=r.length+4:=by
 obtain⟨b,o,n,c,b',o',n',c',rfl⟩:=SP h;simp[kX,od]
theorem Xz:∀{k:Nat} {z r:List Value},yA k z=some r->z.length=r.length+4*k/\(0<k->kX z=true)
 |0,z,r,h=>by simp only[yA,j1]at h;grind
 |k+1,z,r,h=>by
  simp only[yA]at h;split at h
  .rename_i q hq;have h1:=Nu hq;have h2:=Xz h
   grind
  grind
theorem SQ{z r:List Value}(h:Px z=some r):z.length=r.length+66/\kX z=true:=by
 unfold Px at h;split at h
 .split at h
  .rename_i b' q' hq;have h1:=Xz hq;have h2:=Xz h;simp only[gq]at h1 ⊢;exact⟨by omega,by simp[kX,h1.2]⟩
  grind
 grind
theorem R4.len(x:R4)(t:List D):(rk x t).length=t.length+4:=rfl
theorem P20.len(x:P20)(t:List D):(pk x t).length=t.length+20:=rfl
theorem C66.len(x:C66)(t:List D):(ck x t).length=t.length+66:=rfl
theorem X0:∀{g:Bool} {n:Nat} {z:List Value} {K:List D->Prop},exG g n z K->∃ds,K ds/\(kX z=false->∀d∈ds,K1 d=true)/\ds.length=z.length
 |_,0,_,_,h=>h.elim
 |_,_+1,[],K,h=>⟨[],h,λ_ d hd=>absurd hd (by simp),rfl⟩
 |g,n+1,z::r,K,h=>by
  simp only[exG]at h;split at h
  .rename_i q hq;obtain⟨x,h⟩:=h;obtain⟨ds,h1,_,h3⟩:=X0 h;have h4:=SQ hq;exact⟨_,h1,λhz=>(by rw[h4.2]at hz;simp at hz),by rw[C66.len,h3,h4.1]⟩
  split at h
  .rename_i q hq;obtain⟨x,h⟩:=h;obtain⟨ds,h1,_,h3⟩:=X0 h;have h4:=Xz hq;exact⟨_,h1,λhz=>(by rw[h4.2 (by omega)]at hz;simp at hz),by rw[P20.len,h3,h4.1]⟩
  split at h
  .rename_i q hq;obtain⟨x,h⟩:=h;obtain⟨ds,h1,_,h3⟩:=X0 h
   grind [Nu,R4.len]
  have key:∀(d:D),(exG g n r λds=>K (d::ds))->(od z=false->K1 d=true)->∃ds,K ds/\(kX (z::r)=false->∀d∈ds,K1 d=true)/\ds.length=(z::r).length:=by
   intro d hd a3;obtain⟨ds,h1,h2,h3⟩:=X0 hd;refine⟨d::ds,h1,λhz e he=>?_,by simp[h3]⟩;simp only[kX,Hy]at hz
   grind
  cases z<;>obtain⟨x,h⟩:=h<;>refine key _ h ?_<;>simp[K1,od]
theorem yC{z:List Value}{K:List D->Prop}(h:YG z K):∃ds,K ds/\(kX z=false->∀d∈ds,K1 d=true)/\ds.length=z.length:=X0 h
theorem Z3:∀{sh:List (Bool×List Value)} {K:List A->Prop},Fb sh K->∃rs,K rs/\(zN sh=false->∀r∈rs,Vr r=true)
 |[],K,h=>⟨[],h,λ_ d hd=>absurd hd (by simp)⟩
 |(true,z)::r,K,h=>by
  obtain⟨ds,h1,h2,h5⟩:=yC h;obtain⟨rs,h3,h4⟩:=Z3 h1;refine⟨_,h3,λhs=>?_⟩;cases z with
  |nil=>simp[zN]at hs
  |cons z0 z=>
   simp only[zN,Hy]at hs;intro q hq;rcases aE.1 hq with rfl|hq
   .exact gr.2 (h2 hs.1)
   grind
 |(false,z)::r,K,h=>by
  obtain⟨ds,h1,h2,h5⟩:=yC h;obtain⟨rs,h3,h4⟩:=Z3 h1;refine⟨_,h3,λhs=>?_⟩;cases z with
  |nil=>simp[zN]at hs
  |cons z0 z=>
   simp only[zN,Hy]at hs;intro q hq;rcases aE.1 hq with rfl|hq
   .cases ds with
    |nil=>grind
    |cons d ds=>exact h2 hs.1 d (by simp)
   grind
end
end Eng
end
section
namespace Eng
open Go Go.RowKit
theorem K8{ρ:Operand->V}:∀(l:List Operand),La ρ l=l.flatMap λx=>qn (ρ x)
 |[]=>rfl
 |x::r=>by simp only[La,List.flatMap_cons];rw[K8 r]
theorem X1{ob:List Obj}{k:Nat}:∀{l:List Nat},k∈H4 ob l↔∃j∈l,k=j\/∃T q,nth .none ob j= .bld T q/\k∈qn q
 |[]=>by simp[H4]
 |j::r=>by
  simp only[H4,W3];rw[X1]
  grind
theorem Z5{k:Nat}:∀{l:List V},k∈H5 l↔∃q∈l,k∈qn q
 |[]=>by simp[H5]
 |v::r=>by
  simp only[H5,W3];rw[Z5]
  grind
theorem qE{ob:List Obj}{k:Nat}:∀{l:List Nat},k∈yy ob l↔∃j∈l,k=j\/∃q,q∈qZ (nth .none ob j)/\k∈qn q
 |[]=>by simp[yy]
 |j::r=>by
  simp only[yy,W3];rw[qE];constructor
  .rintro(h|⟨i,h1,h2⟩)
   .split at h
    .rename_i T q hq;rcases aE.1 h with rfl|h
     .exact⟨k,by simp,.inl rfl⟩
     .exact⟨j,by simp,.inr ⟨q,by rw[hq];simp[qZ],h⟩⟩
    .rename_i cs hq;rcases aE.1 h with rfl|h
     .exact⟨k,by simp,.inl rfl⟩
     .obtain⟨q,h1,h2⟩:=Z5.1 h;exact⟨j,by simp,.inr ⟨q,by rw[hq];simpa [qZ]using h1,h2⟩⟩
    grind
   grind
  .rintro⟨i,h1,h2⟩;rcases aE.1 h1 with rfl|h1
   .refine .inl ?_;rcases h2 with rfl|⟨q,hq,h2⟩
    .split<;>simp
    .cases hi:nth .none ob i with
     |bld T q'=>rw[hi]at hq;simp only[qZ,V1]at hq;subst hq;simp[h2]
     |box cs=>rw[hi]at hq;simp only[qZ]at hq;exact cH _ (Z5.2 ⟨q,hq,h2⟩)
     |none=>rw[hi]at hq;simp[qZ]at hq
     |dead=>rw[hi]at hq;simp[qZ]at hq
     |arr _ _ _=>rw[hi]at hq;simp[qZ]at hq
   grind
theorem JH{C:Cx}{o:Oper}{d:Nat}(h:o.dst=some d):d∈SA C o:=by
 unfold SA
 grind
theorem HN{C:Cx}{dst:Option Nat}{f:Nat}{args:Array Operand}{ts:Array TypeId}{ty:TypeId}{pos:String}{after:Array Edge}{g:Option (Nat×Bool)}{k:Nat}:k∈SA C ⟨dst,.call ⟨.value (.func f),args,ts⟩,ty,pos,after,g⟩↔ij (C.wd f) dst k:=by
 unfold SA ij
 grind
theorem QO{o:Oper}{ρ:Operand->V}{ob:List Obj}{x:Operand}{k:Nat}(hx:x∈o.op.operands.toList)(hk:k∈qn (ρ x)):k∈opk o ρ ob:=by
 unfold opk
 grind [qE,K8,X1]
def Ag (c:Nat) (x y:Obj):Prop:=x=y\/(c<=1/\∃s es fz fz',x= .arr s es fz/\y= .arr s es fz')
theorem Ag.symm{c:Nat}{x y:Obj}(h:Ag c x y):Ag c y x:=by
 rcases h with h|⟨h,s,es,fz,fz',h1,h2⟩
 .exact .inl h.symm
 .exact .inr ⟨h,s,es,fz',fz,h2,h1⟩
section
variable {C:Cx}{ob ob':List Obj}
theorem PB{c:Nat}{v:V}(h:∀k∈qn v,Ag c (nth .none ob k) (nth .none ob' k)):cellsOf ob v=cellsOf ob' v:=by
 cases v<;>try rfl
 .rename_i k;rcases h k (by simp[qn])with h|⟨_,s,es,fz,fz',h1,h2⟩
  .simp only[cellsOf,h]
  .simp only[cellsOf,h1,h2]
theorem iX{c:Nat}{v:V}(h:∀k∈qn v,Ag c (nth .none ob k) (nth .none ob' k)):toA ob v=toA ob' v:=by
 cases v<;>try rfl
 .rename_i k;rcases h k (by simp[qn])with h|⟨_,s,es,fz,fz',h1,h2⟩
  .simp only[toA,h]
  .simp only[toA,h1,h2]
theorem Nv{c:Nat}{v:V}(h:∀k∈qn v,Ag c (nth .none ob k) (nth .none ob' k)):QH ob v=QH ob' v:=by
 cases v with
 |c d=>cases d<;>rfl
 |arr k=>?_
 |_=>rfl
 rcases h k (by simp[qn])with h|⟨_,s,es,fz,fz',h1,h2⟩
 .simp only[QH,h]
 .simp only[QH,h1,h2]
theorem SR{c:Nat}{v:V}(h:∀k∈qn v,Ag c (nth .none ob k) (nth .none ob' k)):Q1 ob v=Q1 ob' v:=by
 have he:=Nv h;cases v with
 |sub k o l=>?_
 |_=>simp only[Q1,he]
 rcases h k (by simp[qn])with h|⟨_,s,es,fz,fz',h1,h2⟩
 .simp only[Q1,h]
 .simp only[Q1,h1,h2]
theorem wa{c:Nat}:∀{vs:List V},(∀v∈vs,∀k∈qn v,Ag c (nth .none ob k) (nth .none ob' k))->yx ob vs=yx ob' vs
 |[],_=>rfl
 |v::vs,h=>by simp only[yx];rw[iX (h v (by simp)),wa λu hu=>h u (by grind)]
theorem K9{c:Nat}{ρ:Operand->V}:∀{ps:List (Nat×Operand)},(∀p∈ps,∀k∈qn (ρ p.2),Ag c (nth .none ob k) (nth .none ob' k))->zS ob ρ ps=zS ob' ρ ps
 |[],_=>rfl
 |(i,x)::ps,h=>by simp only[zS];rw[PB (h (i,x) (by simp)),K9 λu hu=>h u (by grind)]
theorem HO{ob:List Obj}{ts:Array TypeId}{v:V}(h:∀k o l,v≠ .sub k o l):Kt C ob ts v= .fail:=by
 unfold Kt
 grind
theorem SS:∀{vs:List V},(∀v∈vs,∀k∈qn v,Ag 2 (nth .none ob k) (nth .none ob' k))->TY ob vs=TY ob' vs
 |[],_=>rfl
 |v::vs,h=>by
  have ih:=SS (vs:=vs) λu hu=>h u (by grind)
  cases v with
  |box k off=>
   cases off with
   |zero=>
    rcases h _ (en ..) k (by simp[qn])with h1|⟨h1,_⟩
    .simp only[TY,h1,ih]
    .omega
   |succ n=>rfl
  |eref es i off=>
   unfold TY
   grind
  |_=>rfl
theorem de[EffOk C]{o:Oper}{ρ:Operand->V}(hk:cls C o=0\/∀k∈opk o ρ ob,Ag (cls C o) (nth .none ob k) (nth .none ob' k))(hd1:∀d,d∈SA C o->qD ob d=qD ob' d):xr C o ρ ob=xr C o ρ ob':=by
 have hd:∀d,o.dst=some d->qD ob d=qD ob' d:=λd h=>hd1 d (JH h)
 obtain⟨a7,op,ty,pos,a5,g⟩:=o;have a4:∀{c:Nat} (x:Operand),x∈op.operands.toList->(c=0\/∀k∈opk ⟨a7,op,ty,pos,a5,g⟩ ρ ob,Ag c (nth .none ob k) (nth .none ob' k))->c≠0->∀k∈qn (ρ x),Ag c (nth .none ob k) (nth .none ob' k):=by
  intro c x hx h hc k hkx;rcases h with h|h
  .exact absurd h hc
  .exact h k (QO hx hkx)
 cases op with
 |move x=>rfl
 |assign x=>rfl
 |pick c x y=>rfl
 |binOp op t x y t2=>rfl
 |unOp op t x=>rfl
 |convert s t x=>rfl
 |field t x f=>rfl
 |index t x i=>rfl
 |extract x i=>rfl
 |alloc t=>
  cases a7 with
  |none=>rfl
  |some d=>simp only[xr];rw[hd d rfl]
 |box t x=>
  cases a7 with
  |none=>rfl
  |some d=>simp only[xr];rw[hd d rfl]
 |makeSlice t x y=>
  cases a7 with
  |none=>rfl
  |some d=>simp only[xr];rw[hd d rfl]
 |build t parts=>
  have h1:zS ob ρ parts.toList=zS ob' ρ parts.toList:=K9 λp hp=>a4 (c:=1) p.2 (by simp only[P1];exact U0.2 ⟨p,hp,rfl⟩) hk (by simp)
  simp only[xr,h1]
 |buildSlice t len parts=>
  have h1:zS ob ρ parts.toList=zS ob' ρ parts.toList:=K9 λp hp=>a4 (c:=1) p.2 (by simp only[P1];exact U0.2 ⟨p,hp,rfl⟩) hk (by simp)
  cases a7 with
  |none=>rfl
  |some d=>simp only[xr,h1];rw[hd d rfl]
 |load t x=>
  have h1:=a4 (c:=1) x (by simp[P1]) hk (by simp);simp only[xr,Fe];cases hx:ρ x<;>try rfl
  .rename_i k a8;rw[hx]at h1;rcases h1 k (by simp[qn])with h|⟨_,s,es,fz,a6,h1,h2⟩
   .simp only[h]
   .simp only[h1,h2]
  .rename_i k i a8;rw[hx]at h1;rcases h1 k (by simp[qn])with h|⟨_,s,es,fz,a6,h1,h2⟩
   .simp only[h]
   .simp only[h1,h2]
 |nilCheck x=>
  have h1:=a4 (c:=1) x (by simp[P1]) hk (by simp);simp only[xr];cases hx:ρ x<;>try rfl
  rename_i k a8;rw[hx]at h1;rcases h1 k (by simp[qn])with h|⟨_,s,es,fz,a6,h1,h2⟩
  .simp only[h]
  .simp only[h1,h2]
 |fieldAddr t x f=>
  have h1:=a4 (c:=1) x (by simp[P1]) hk (by simp);simp only[xr];cases hx:ρ x<;>try rfl
  .rename_i k a8;rw[hx]at h1;rcases h1 k (by simp[qn])with h|⟨_,s,es,fz,a6,h1,h2⟩
   .simp only[h]
   .simp only[h1,h2]
  .rename_i k i a8;rw[hx]at h1;rcases h1 k (by simp[qn])with h|⟨_,s,es,fz,a6,h1,h2⟩
   .simp only[h]
   .simp only[h1,h2]
 |indexAddr t x i=>
  have h1:=a4 (c:=1) x (by simp[P1]) hk (by simp);simp only[xr,Qa];cases hx:ρ x with
  |c d=>cases d<;>rfl
  |box k a8=>?_
  |arr k=>?_
  |sub k o l=>?_
  |_=>rfl
  .rw[hx]at h1;rcases h1 k (by simp[qn])with h|⟨_,s,es,fz,a6,h1,h2⟩
   .simp only[h]
   .simp only[h1,h2]
  .rw[hx]at h1;rcases h1 k (by simp[qn])with h|⟨_,s,es,fz,a6,h1,h2⟩
   .simp only[h]
   .simp only[h1,h2]
  .rw[hx]at h1;rcases h1 k (by simp[qn])with h|⟨_,s,es,fz,a6,h1,h2⟩
   .simp only[h]
   .simp only[h1,h2]
 |slice t x lo hi mx=>
  have h1:QH ob (ρ x)=QH ob' (ρ x):=Nv (a4 (c:=1) x (by simp[P1]) hk (by simp));have h2:=a4 (c:=1) x (by simp[P1]) hk (by simp);have h3:∀lo hi mx,TX C.P t ob (ρ x) lo hi mx=TX C.P t ob' (ρ x) lo hi mx:=by
   intro lo hi mx;unfold TX;cases C.P.underlying t with
   |none=>rfl
   |some d=>cases d with
    |slice e=>
     dsimp only
     cases ka C.P e with
     |none=>rfl
     |some z=>cases hx:ρ x with
      |arr k=>
       rw[hx]at h2
       dsimp only
       rcases h2 k (by simp[qn])with h|⟨_,s,es,fz,a6,h1,h2⟩
       .simp only[h]
       .simp only[h1,h2]
      |_=>rfl
    |_=>rfl
  simp only[xr,H2,H1,h1,h3]
 |store t p x=>
  have h1:=a4 (c:=2) p (by simp[P1]) hk (by simp);have h2:=a4 (c:=2) x (by simp[P1]) hk (by simp);have e1:∀k,k∈qn (ρ p)->nth .none ob k=nth .none ob' k:=λk hkk=>by
   rcases h1 k hkk with h|⟨h,_⟩
   .exact h
   .omega
  have e2:∀k,k∈qn (ρ x)->nth .none ob k=nth .none ob' k:=λk hkk=>by
   rcases h2 k hkk with h|⟨h,_⟩
   .exact h
   .omega
  simp only[xr,Nk];cases hp:ρ p<;>try rfl
  .rename_i k a8;rw[hp]at e1
   dsimp only
   rw[e1 k (by simp[qn])];cases hx:ρ x<;>try rfl
   rename_i j;rw[hx]at e2
   dsimp only
   rw[e2 j (by simp[qn])]
  .rename_i k i a8;rw[hp]at e1
   dsimp only
   rw[e1 k (by simp[qn])]
 |makeFunc fn first captured=>
  simp only[xr];split
  .have h1:TY ob (captured.toList.map ρ)=TY ob' (captured.toList.map ρ):=SS λv hv=>by obtain⟨x,hx,rfl⟩:=U0.1 hv;exact a4 (c:=2) x (by simp[P1];exact .inr (by simpa using hx)) hk (by simp)
   rw[h1]
  .rfl
 |call c=>
  obtain⟨a9,a3,ts⟩:=c;simp only[xr];split
  .rename_i f;cases he:C.eff f with
   |none=>
    have ad:cls C ⟨a7,.call ⟨.value (.func f),a3,ts⟩,ty,pos,a5,g⟩=1:=by simp[cls,he]
    rw[ad]at hk;have h1:yx ob (a3.toList.map ρ)=yx ob' (a3.toList.map ρ):=wa λv hv=>by obtain⟨x,hx,rfl⟩:=U0.1 hv;exact a4 (c:=1) x (by simp[P1,Lm];exact .inr (by simpa using hx)) hk (by simp)
    simp only[vI,h1]
   |some e=>
    have ad:cls C ⟨a7,.call ⟨.value (.func f),a3,ts⟩,ty,pos,a5,g⟩=2:=by simp[cls,he]
    rw[ad]at hk;refine EffOk.ag he _ _ _ _ (λk hkk=>?_) (λd hd'=>hd1 d (HN.2 hd'));rcases hk with h|h
    .simp at h
    .have hin:k∈opk ⟨a7,.call ⟨.value (.func f),a3,ts⟩,ty,pos,a5,g⟩ ρ ob:=by show k∈yy ob _;rw[qE]at hkk ⊢;obtain⟨j,h1,h2⟩:=hkk;refine⟨j,?_,h2⟩;rw[K8];obtain⟨v,hv,hj⟩:=er.1 h1;obtain⟨x,hx,rfl⟩:=U0.1 hv;exact er.2 ⟨x,by simp only[P1,Lm,B0];exact W1 _ hx,hj⟩
     rcases h k hin with h|⟨h,_⟩
     .exact h
     .omega
  .rename_i t;have h1:yx ob (a3.toList.map ρ)=yx ob' (a3.toList.map ρ):=wa λv hv=>by obtain⟨x,hx,rfl⟩:=U0.1 hv;exact a4 (c:=1) x (by simp[P1,Lm];exact .inr (by simpa using hx)) hk (by simp)
   split
   .split
    .rfl
    .simp only[vI,h1]
   .rename_i f ps _;have h2:yx ob (a3.toList.map ρ++ps.map V.c)=yx ob' (a3.toList.map ρ++ps.map V.c):=wa (c:=1) λv hv=>by
     rcases W3.1 hv with hv|hv
     .obtain⟨x,hx,rfl⟩:=U0.1 hv;exact a4 (c:=1) x (by simp[P1,Lm];exact .inr (by simpa using hx)) hk (by simp)
     .obtain⟨d,_,rfl⟩:=U0.1 hv;intro k hk;simp[qn]at hk
    split
    .rfl
    .simp only[vI,h2]
   .rfl
  .split
   .rename_i x hx;have:a3= #[x]:=by apply Dd;simpa using hx
    subst this;have h1:=a4 (c:=1) x (by simp[P1,Lm]) hk (by simp);simp only[iO];cases hx:ρ x with
    |c d=>cases d<;>rfl
    |arr k=>?_
    |sub k o l=>?_
    |_=>rfl
    .rw[hx]at h1;rcases h1 k (by simp[qn])with h|⟨_,s,es,fz,a6,h1,h2⟩
     .simp only[h]
     .simp only[h1,h2]
    .rw[hx]at h1;rcases h1 k (by simp[qn])with h|⟨_,s,es,fz,a6,h1,h2⟩
     .simp only[h]
     .simp only[h1,h2]
   .rfl
  .split
   .rename_i x y hx;have:a3= #[x,y]:=by apply Dd;simpa using hx
    subst this;have h1:=a4 (c:=2) x (by simp[P1,Lm]) hk (by simp);have h2:Q1 ob (ρ y)=Q1 ob' (ρ y):=SR (a4 (c:=2) y (by simp[P1,Lm]) hk (by simp));cases a7 with
    |none=>rfl
    |some d=>
     simp only[Ks,h2];rw[hd d rfl];cases hx:ρ x<;>try rfl
     all_goals
      rw[hx]at h1;rcases h1 _ (by simp[qn];rfl)with h|⟨h,_⟩
      .dsimp only
       rw[h]
      .omega
   .rfl
  .split
   .rename_i x hx;have:a3= #[x]:=by apply Dd;simpa using hx
    subst this;have h1:=a4 (c:=2) x (by simp[P1,Lm]) hk (by simp);by_cases hs:∃k o l,ρ x= .sub k o l
    .obtain⟨k,o,l,hx⟩:=hs;rw[hx]at h1 ⊢;rcases h1 k (by simp[qn])with h|⟨h,_⟩
     .unfold Kt;split
      .split
       .split
        .rename_i hv;simp only[V.sub.injEq]at hv;obtain⟨rfl,rfl,rfl⟩:=hv;rw[h]
        .rfl
       .rfl
      .rfl
     .omega
    .have al:∀k o l,ρ x≠ .sub k o l:=λk o l e=>hs ⟨k,o,l,e⟩
     rw[HO al,HO al]
   .rfl
  .rfl
  .rfl
  .rfl
 |_=>rfl
end
end Eng
end
section
namespace Eng
open Go Go.RowKit
section
variable {C:Cx}{ob:List Obj}
theorem yD{ρ ρ':Operand->V}:∀{ps:List (Nat×Operand)},(∀p∈ps,ρ p.2=ρ' p.2)->zS ob ρ ps=zS ob ρ' ps
 |[],_=>rfl
 |(i,x)::ps,h=>by simp only[zS];rw[h (i,x) (by simp),yD λu hu=>h u (by grind)]
theorem PC{o:Oper}{ρ ρ':Operand->V}(h:∀x∈o.op.operands.toList,ρ x=ρ' x):xr C o ρ ob=xr C o ρ' ob:=by
 obtain⟨dst,op,ty,pos,a6,g⟩:=o;cases op with
 |alloc t=>rfl
 |move x|assign x|unOp op t x|convert s t x|field t x f|extract x i|box t x|load t x|nilCheck x|fieldAddr t x f=>simp only[xr];rw[h x (by simp[P1])]
 |pick c x y=>simp only[xr];rw[h c (by simp[P1]),h x (by simp[P1]),h y (by simp[P1])]
 |binOp op t x y t2=>simp only[xr];rw[h x (by simp[P1]),h y (by simp[P1])]
 |index t x y=>simp only[xr];rw[h x (by simp[P1]),h y (by simp[P1])]
 |indexAddr t x y=>simp only[xr];rw[h x (by simp[P1]),h y (by simp[P1])]
 |makeSlice t x y=>simp only[xr];rw[h x (by simp[P1]),h y (by simp[P1])]
 |store t x y=>simp only[xr];rw[h x (by simp[P1]),h y (by simp[P1])]
 |slice t x lo hi mx=>
  have ho:∀z:Option Operand,(∀x,z=some x->ρ x=ρ' x)->jo ρ z=jo ρ' z:=λz hz=>by
   cases z with
   |none=>rfl
   |some x=>simp only[jo];rw[hz x rfl]
  simp only[xr];rw[h x (by simp[P1]),ho lo (λy hy=>h y (by subst hy;simp[P1])),ho hi (λy hy=>h y (by subst hy;simp[P1])),ho mx (λy hy=>h y (by subst hy;simp[P1]))]
 |build t parts=>
  have h1:zS ob ρ parts.toList=zS ob ρ' parts.toList:=yD λp hp=>h p.2 (by simp only[P1];exact U0.2 ⟨p,hp,rfl⟩)
  simp only[xr,h1]
 |buildSlice t len parts=>
  have h1:zS ob ρ parts.toList=zS ob ρ' parts.toList:=yD λp hp=>h p.2 (by simp only[P1];exact U0.2 ⟨p,hp,rfl⟩)
  simp only[xr,h1]
 |makeFunc fn first captured=>
  have hc:captured.toList.map ρ=captured.toList.map ρ':=ey λx hx=>h x (by simp only[P1,B0];exact W1 _ hx)
  simp only[xr];rw[hc]
 |call c=>
  obtain⟨a5,a4,ts⟩:=c;have a3:∀x∈a4.toList,ρ x=ρ' x:=λx hx=>h x (by
   simp only[P1,Lm,B0];exact W1 _ hx)
  simp only[xr];split
  .rw[ey a3]
  .rename_i t;rw[ey a3,h (.tmp t) (by simp[P1,Lm])]
  .split
   .rename_i x hx;rw[a3 x (by rw[hx];simp)]
   .rfl
  .split
   .rename_i x y hx;rw[a3 x (by rw[hx];simp),a3 y (by rw[hx];simp)]
   .rfl
  .split
   .rename_i x hx;rw[a3 x (by rw[hx];simp)]
   .rfl
  .split
   .rename_i x y hx;rw[a3 x (by rw[hx];simp),a3 y (by rw[hx];simp)]
   .rfl
  .split
   .rename_i x y hx;rw[a3 x (by rw[hx];simp),a3 y (by rw[hx];simp)]
   .rfl
  .rfl
 |_=>rfl
def UOk (C:Cx) (o:Oper) (ρ:Operand->V) (ob:List Obj) (up:List (Nat×Obj)) (p:Nat×Obj):Prop:=
 ((p.1∈SA C o/\qD ob p.1=true)\/(p.1∈opk o ρ ob/\cls C o≠0/\nth .none ob p.1≠ .none/\(cls C o<=1->∃s es fz,nth .none ob p.1= .arr s es fz/\p.2= .arr s es true)))/\
 p.2≠ .none/\∀u∈qZ p.2,VOk ob up u
def GoodR (C:Cx) (o:Oper) (ρ:Operand->V) (ob:List Obj):R->Prop
 | .fail=>True
 | .ok v up=>(∀p∈up,UOk C o ρ ob up p)/\VOk ob up v
 | .cond (dc:=_) _ v up=>(∀p∈up,UOk C o ρ ob up p)/\VOk ob up v
 | .look .. =>True
 | .call _ _ _ up=>∀p∈up,UOk C o ρ ob up p
theorem VG(v:Value):qn (Q0 v)=[]:=by
 unfold Q0;split<;>try rfl
 split<;>rfl
def FzOk (vs:List V) (ob:List Obj) (us:List (Nat×Obj)):Prop:=∀p∈us,(∃v∈vs,p.1∈qn v)/\∃s es fz,nth .none ob p.1= .arr s es fz/\p.2= .arr s es true
theorem PD{v:V}{ds:List D}{us:List (Nat×Obj)}(h:cellsOf ob v=some (ds,us)):FzOk [v] ob us:=by
 unfold cellsOf at h;split at h<;>try (obtain⟨_,rfl⟩:=h;exact λ_ hp=>absurd hp (by simp))
 .split at h
  .rename_i k _ s es fz hk;obtain⟨_,rfl⟩:=h;intro p hp;simp only[V1]at hp;subst hp;exact⟨⟨.arr k,by simp,by simp[qn]⟩,_,_,_,hk,rfl⟩
  grind
 grind
theorem iY{v:V}{d:A}{us:List (Nat×Obj)}(h:toA ob v=some (d,us)):FzOk [v] ob us:=by
 unfold toA at h;split at h<;>try (obtain⟨_,rfl⟩:=h;exact λ_ hp=>absurd hp (by simp))
 .split at h
  .rename_i k _ s es fz hk;obtain⟨_,rfl⟩:=h;intro p hp;simp only[V1]at hp;subst hp;exact⟨⟨.arr k,by simp,by simp[qn]⟩,_,_,_,hk,rfl⟩
  grind
 grind
theorem F1{v:V}{d:List (List D)}{us:List (Nat×Obj)}(h:QH ob v=some (d,us)):FzOk [v] ob us:=by
 unfold QH at h;split at h<;>try (obtain⟨_,rfl⟩:=h;exact λ_ hp=>absurd hp (by simp))
 .split at h
  .rename_i k _ s es fz hk;obtain⟨_,rfl⟩:=h;intro p hp;simp only[V1]at hp;subst hp;exact⟨⟨.arr k,by simp,by simp[qn]⟩,_,_,_,hk,rfl⟩
  grind
 grind
theorem FzOk.mono{vs vs':List V}{us:List (Nat×Obj)}(h:FzOk vs ob us)(hs:∀v∈vs,v∈vs'):FzOk vs' ob us:=λp hp=>by
 obtain⟨⟨v,h1,h2⟩,h3⟩:=h p hp
 grind
theorem FzOk.append{vs:List V}{us us':List (Nat×Obj)}(h:FzOk vs ob us)(h':FzOk vs ob us'):FzOk vs ob (us++us'):=λp hp=>by
 rcases W3.1 hp with hp|hp
 .exact h p hp
 .exact h' p hp
theorem vR:∀{vs:List V} {ds:List A} {us:List (Nat×Obj)},yx ob vs=some (ds,us)->FzOk vs ob us
 |[],ds,us,h=>by obtain⟨_,rfl⟩:=h;exact λ_ hp=>absurd hp (by simp)
 |v::vs,ds,us,h=>by
  simp only[yx]at h;split at h
  .rename_i d u as us' h1 h2;obtain⟨_,rfl⟩:=h;exact((iY h1).mono (by simp)).append ((vR h2).mono λv hv=>by grind)
  grind
theorem KA{ρ:Operand->V}:∀{ps:List (Nat×Operand)} {qs:List (Nat×List D)} {us:List (Nat×Obj)},zS ob ρ ps=some (qs,us)->FzOk (ps.map λp=>ρ p.2) ob us
 |[],ds,us,h=>by obtain⟨_,rfl⟩:=h;exact λ_ hp=>absurd hp (by simp)
 |(i,x)::vs,ds,us,h=>by
  simp only[zS]at h;split at h
  .rename_i d u as us' h1 h2;obtain⟨_,rfl⟩:=h;exact((PD h1).mono (by simp)).append ((KA h2).mono λv hv=>by grind)
  grind
theorem FzOk.up{o:Oper}{ρ:Operand->V}{vs:List V}{us:List (Nat×Obj)}(h:FzOk vs ob us)(hv:∀v∈vs,∃x∈o.op.operands.toList,ρ x=v)(hc:cls C o≠0)(up:List (Nat×Obj)):∀p∈us,UOk C o ρ ob up p:=λp hp=>by
 obtain⟨⟨v,h1,h2⟩,s,es,fz,h3,h4⟩:=h p hp;obtain⟨x,hx,rfl⟩:=hv v h1;exact⟨.inr ⟨QO hx h2,hc,by grind,λ_=>⟨s,es,fz,h3,h4⟩⟩,by grind,λu hu=>by rw[h4]at hu;simp[qZ]at hu⟩
theorem GoodR.data{o:Oper}{ρ:Operand->V}{v:V}(hv:qn v=[]):GoodR C o ρ ob (.ok v []):=⟨λ_ h=>absurd h (by simp),λk hk=>by grind⟩
theorem GoodR.dataC{o:Oper}{ρ:Operand->V}{c:Prop}[Decidable c]{v:V}(hv:qn v=[]):GoodR C o ρ ob (.cond c v []):=⟨λ_ h=>absurd h (by simp),λk hk=>by grind⟩
theorem GoodR.same{o:Oper}{ρ:Operand->V}{v:V}(hv:∀k∈qn v,nth .none ob k≠ .none):GoodR C o ρ ob (.ok v []):=⟨λ_ h=>absurd h (by simp),λk hk=> .inl (hv k hk)⟩
theorem GoodR.sameC{o:Oper}{ρ:Operand->V}{c:Prop}[Decidable c]{v:V}(hv:∀k∈qn v,nth .none ob k≠ .none):GoodR C o ρ ob (.cond c v []):=⟨λ_ h=>absurd h (by simp),λk hk=> .inl (hv k hk)⟩
theorem GoodR.new{o:Oper}{ρ:Operand->V}{d:Nat}{x:Obj}{us:List (Nat×Obj)}{v:V}(hd:o.dst=some d)(hf:qD ob d=true)(hx:x≠ .none)(hc:∀u∈qZ x,qn u=[])(hu:∀p∈us,UOk C o ρ ob (us++[(d,x)]) p)(hv:∀k∈qn v,k=d):(∀p∈us++[(d,x)],UOk C o ρ ob (us++[(d,x)]) p)/\VOk ob (us++[(d,x)]) v:=by
 refine⟨λp hp=>?_,λk hk=> .inr ?_⟩
 .rcases W3.1 hp with hp|hp
  .grind
  .simp only[V1]at hp;subst hp;exact⟨.inl ⟨JH hd,hf⟩,hx,λu hu j hj=>by grind⟩
 grind
theorem ST{o:Oper}{ρ:Operand->V}{P:Program}{op:BinOp}{t:TypeId}{x y:V}:GoodR C o ρ ob (eqV P op t x y):=by
 have hb:GoodR C o ρ ob (hZ op x y):=by
  unfold hZ;split
  .split
   .unfold shV;split<;>first|trivial|exact GoodR.data rfl|exact GoodR.dataC rfl
   split
   .trivial
   .split<;>first|trivial|exact GoodR.data rfl|exact GoodR.dataC rfl
  .split<;>first|trivial|exact GoodR.data rfl|grind
  .trivial
 unfold eqV;split
 .split
  .split<;>first|trivial|exact GoodR.data rfl
  .trivial
 .unfold ii;split
  .split
   .split<;>first|trivial|exact GoodR.dataC rfl
   .trivial
  .trivial
 grind
theorem SU{o:Oper}{ρ:Operand->V}{P:Program}{op:BinOp}{t:TypeId}{xo yo:Operand}{x y:V}:GoodR C o ρ ob (cA P op t xo yo x y):=by
 unfold cA;split
 .split
  .split
   .split<;>first|trivial|exact GoodR.data rfl
   .trivial
  .trivial
 .split
  .split<;>first|trivial|exact GoodR.dataC rfl
  .trivial
 .exact ST
theorem Nw{o:Oper}{ρ:Operand->V}{big:Bool}{x y:V}:GoodR C o ρ ob (mxV big x y):=by
 unfold mxV;split
 .split
  .split<;>exact GoodR.data rfl
  .trivial
 .trivial
theorem Lw:∀{vs:List V} {ps:List D} {us:List (Nat×Obj)},TY ob vs=some (ps,us)->∀p∈us,(∃v∈vs,p.1∈qn v)/\(∃cells,nth .none ob p.1= .box cells)/\p.2= .dead
 |[],ps,us,h=>by simp only[TY,j1,j2]at h;obtain⟨_,rfl⟩:=h;exact λ_ hp=>absurd hp (by simp)
 |v::vs,ps,us,h=>by
  unfold TY at h;split at h
  .rename_i k;split at h
   .rename_i cells hk;split at h
    .rename_i ds ps' us' hds hr;simp only[j1,j2]at h;obtain⟨_,rfl⟩:=h;intro p hp;rcases aE.1 hp with rfl|hp
     .exact⟨⟨_,en ..,by simp[qn]⟩,⟨_,hk⟩,rfl⟩
     .obtain⟨⟨u,q2,q3⟩,q4⟩:=Lw hr p hp;exact⟨⟨u,cH _ q2,q3⟩,q4⟩
    grind
   grind
  .split at h
   .rename_i ps' us' hr;simp only[j1,j2]at h;obtain⟨_,rfl⟩:=h;intro p hp;obtain⟨⟨u,q2,q3⟩,q4⟩:=Lw hr p hp;exact⟨⟨u,cH _ q2,q3⟩,q4⟩
   grind
  grind
theorem SV(f:Nat)(ps:List D):qn (funV f ps)=[]:=by cases ps<;>rfl
theorem SW[EffOk C]{o:Oper}{ρ:Operand->V}(hρ:∀x,∀k∈qn (ρ x),nth .none ob k≠ .none)(hb:∀k,∀u∈qZ (nth .none ob k),∀j∈qn u,nth .none ob j≠ .none):GoodR C o ρ ob (xr C o ρ ob):=by
 obtain⟨a6,op,ty,pos,a3,g⟩:=o;cases op with
 |move x=>exact GoodR.same (hρ x)
 |assign x=>exact GoodR.same (hρ x)
 |pick c x y=>
  simp only[xr];split
  .split
   .exact GoodR.same (hρ x)
   .exact GoodR.same (hρ y)
  .trivial
 |binOp op t x y t2=>exact SU
 |unOp op t x=>simp only[xr,unV];split<;>first|trivial|exact GoodR.data rfl
 |convert s t x=>
  simp only[xr];split
  .split<;>first|trivial|exact GoodR.dataC rfl
  .split
   .unfold Fc;split<;>first|trivial|exact GoodR.data rfl|exact GoodR.dataC rfl
   .trivial
 |field t x f=>
  simp only[xr]
  repeat' split
  all_goals first|trivial|exact GoodR.data rfl
 |index t x i=>simp only[xr];split<;>first|trivial|exact GoodR.dataC rfl
 |extract x i=>
  simp only[xr];split
  .repeat' split
   all_goals first|trivial|exact GoodR.data rfl
  .trivial
 |alloc t=>
  simp only[xr];split
  .rename_i d;split
   .rename_i z hd hz;split
    .refine GoodR.new (us:=[]) (x:= .box (z.map Q0)) rfl hd (by simp) (λv hv=>?_) (λ_ h=>absurd h (by simp)) (λk hk=>by simpa [qn]using hk);obtain⟨y,_,rfl⟩:=U0.1 hv;exact VG y
    .split
     .refine GoodR.new (us:=[]) (x:= .bld t .nilS) rfl hd (by simp) (λv hv=>?_) (λ_ h=>absurd h (by simp)) (λk hk=>by simpa [qn]using hk);simp[qZ]at hv;subst hv;rfl
     .trivial
   .trivial
  .trivial
 |box t x=>
  simp only[xr];split
  .rename_i d;split
   .rename_i hd;split
    .exact GoodR.new (us:=[]) rfl hd (by simp) (λv hv=>by
      obtain⟨y,_,rfl⟩:=U0.1 hv;rfl) (λ_ h=>absurd h (by simp)) (λk hk=>by simpa [qn]using hk)
    .exact GoodR.new (us:=[]) rfl hd (by simp) (λv hv=>by
      simp[qZ]at hv;subst hv;rfl) (λ_ h=>absurd h (by simp)) (λk hk=>by simpa [qn]using hk)
    .exact GoodR.new (us:=[]) rfl hd (by simp) (λv hv=>by
      simp[qZ]at hv;subst hv;rfl) (λ_ h=>absurd h (by simp)) (λk hk=>by simpa [qn]using hk)
    .trivial
   .trivial
  .trivial
 |makeSlice t x y=>
  simp only[xr];split
  .rename_i d;split
   .rename_i e hd he;split
    .split
     .exact GoodR.new (us:=[]) rfl hd (by simp) (λu hu=>by simp[qZ]at hu) (λ_ h=>absurd h (by simp)) (λk hk=>by simpa [qn]using hk)
     .trivial
    .trivial
   .trivial
  .trivial
 |build t parts=>
  simp only[xr];split
  .split
   .rename_i qs us hp;split
    .refine⟨(KA hp).up (λv hv=>?_) (by simp[cls]) _,λk hk=>by simp[qn]at hk⟩;obtain⟨p,hp,rfl⟩:=U0.1 hv;exact⟨p.2,by simp only[P1];exact U0.2 ⟨p,hp,rfl⟩,rfl⟩
    .trivial
   .trivial
  .trivial
 |buildSlice t len parts=>
  simp only[xr];split
  .rename_i d;split
   .rename_i e hd he;split
    .rename_i z qs us hz hp;split
     .split
      .refine GoodR.new rfl hd (by simp) (λu hu=>by simp[qZ]at hu) ((KA hp).up (λv hv=>?_) (by simp[cls]) _) (λk hk=>by simpa [qn]using hk);obtain⟨p,hp,rfl⟩:=U0.1 hv;exact⟨p.2,by simp only[P1];exact U0.2 ⟨p,hp,rfl⟩,rfl⟩
      .trivial
     .trivial
    .trivial
   .trivial
  .trivial
 |load t x=>
  have hx:=hρ x;simp only[xr,Fe];split
  .trivial
  .split
   .split
    .rename_i k an hv _ a5 hk;split
     .split
      .rename_i hle0;split
       .exact GoodR.data rfl
       .trivial
      .trivial
     .split
      .rename_i b2;have b2:an<a5.length:=by simpa using b2
       refine GoodR.same (hb k _ ?_);rw[hk,qm _ b2];exact fg b2
      .trivial
    .trivial
   .trivial
   .split<;>trivial
   .trivial
 |nilCheck x=>
  have hx:=hρ x;simp only[xr];split
  .rename_i k an hv;rw[hv]at hx;split
   .exact GoodR.same hx
   .trivial
  .trivial
 |fieldAddr t x f=>
  have hx:=hρ x;simp only[xr];split
  .split
   .trivial
   .split
    .rename_i k an hv;rw[hv]at hx;split
     .exact GoodR.same hx
     .trivial
    .rename_i k i an hv;rw[hv]at hx;split
     .exact GoodR.same hx
     .trivial
    .exact GoodR.data rfl
    .trivial
  .trivial
 |indexAddr t x i=>
  have hx:=hρ x;simp only[xr,Qa];split
  .split
   .split
    .split
     .exact GoodR.dataC rfl
     .trivial
    .rename_i k hv;rw[hv]at hx;split
     .split
      .exact GoodR.sameC hx
      .trivial
     .trivial
    .rename_i k o l hv;rw[hv]at hx;split
     .split
      .exact GoodR.sameC hx
      .trivial
     .trivial
    .trivial
   .split
    .rename_i k an hv;rw[hv]at hx;split
     .split
      .split
       .exact GoodR.same hx
       .trivial
      .trivial
     .trivial
    .split
     .split
      .exact GoodR.data rfl
      .trivial
     .trivial
    .trivial
   .trivial
  .trivial
 |slice t x lo hi mx=>
  have hx:=hρ x;simp only[xr];simp only[H2,H1,TX];split
  rotate_left
  .split
   .split
    .rename_i hv;rw[hv]at hx
     repeat' split
     all_goals first|trivial|exact GoodR.same hx
    .trivial
   .trivial
  split
  rotate_left
  .repeat' split
   all_goals first|trivial|exact GoodR.dataC rfl
  split
  .repeat' split
   all_goals first|trivial|exact GoodR.dataC rfl
  .split
   .rename_i z es us hz hel;have hu:=(F1 hel).up (C:=C) (o:=⟨a6,.slice t x lo hi mx,ty,pos,a3,g⟩) (ρ:=ρ) (λv hv=>⟨x,by simp[P1],by simp at hv;exact hv.symm⟩) (by simp[cls]) us
    repeat' split
    all_goals first|trivial|exact⟨hu,λk hk=>by simp[qn]at hk⟩
   .trivial
  .trivial
 |store t p x=>
  have hp:=hρ p;have hx:=hρ x;simp only[xr,Nk];have ad:∀k∈qn (ρ p),k∈opk ⟨a6,.store t p x,ty,pos,a3,g⟩ ρ ob:=λk hk=>QO (x:=p) (by simp[P1]) hk
  have a8:cls C ⟨a6,.store t p x,ty,pos,a3,g⟩=2:=rfl;split
  .trivial
  .split
   .rename_i k an hv;rw[hv]at hp ad;split
    .rename_i a5 hk;have ap:∀a7:List V,(∀v∈a7,v∈a5\/v=ρ x\/qn v=[])->GoodR C ⟨a6,.store t p x,ty,pos,a3,g⟩ ρ ob (.ok .any [(k,.box a7)]):=by
      intro a7 hcs;refine⟨λq hq=>?_,λk hk=>by simp[qn]at hk⟩;simp only[V1]at hq;subst hq;refine⟨.inr ⟨ad k (by simp[qn]),by rw[a8];simp,by rw[hk];simp,λhle=>by rw[a8]at hle;omega⟩,by simp,λv hv j hj=> .inl ?_⟩;rcases hcs v hv with h1|h1|h1
      .exact hb k v (by rw[hk];exact h1) j hj
      .subst h1;exact hx j hj
      .rw[h1]at hj;simp at hj
     have a9:∀(ds:List D) (a5:List V) (an:Nat) (v:V),v∈S6 a5 an ds->v∈a5\/qn v=[]:=by
      intro ds
      induction ds with
      |nil=>intro a5 an v hv;exact .inl hv
      |cons d ds ih=>
       intro a5 an v hv;rcases ih _ _ _ hv with hv|hv
       .rcases zV hv with hv|rfl
        .exact .inl hv
        .exact .inr rfl
       .exact .inr hv
     split
     .split
      .split
       .exact ap _ λv hv=>by
         rcases a9 _ _ _ _ hv with h1|h1
         .exact .inl h1
         .exact .inr (.inr h1)
       .trivial
      .trivial
     .split
      .split
       .exact ap _ λv hv=>by
         rcases zV hv with h1|rfl
         .exact .inl h1
         .exact .inr (.inr rfl)
       .trivial
      .split
       .exact ap _ λv hv=>by
         rcases zV hv with h1|rfl
         .exact .inl h1
         .exact .inr (.inr rfl)
       .trivial
      .rename_i j hj;split
       .split
        .exact ap _ λv hv=>by
          rcases zV hv with h1|rfl
          .exact .inl h1
          .exact .inr (.inl hj.symm)
        .trivial
       .trivial
      .trivial
    .trivial
   .rename_i k i an hv;rw[hv]at hp ad;split
    .rename_i s es hk;have ap:∀(c:Prop) [Decidable c] (b4:List (List D)),GoodR C ⟨a6,.store t p x,ty,pos,a3,g⟩ ρ ob (.cond c .any [(k,.arr s b4 false)]):=by intro c _ b4;refine⟨λq hq=>?_,λk hk=>by simp[qn]at hk⟩;simp only[V1]at hq;subst hq;exact⟨.inr ⟨ad k (by simp[qn]),by rw[a8];simp,by rw[hk];simp,λhle=>by rw[a8]at hle;omega⟩,by simp,λu hu=>by simp[qZ]at hu⟩
     split
     .split
      .exact ap _ _
      .trivial
     .split
      .exact ap _ _
      .trivial
     .trivial
    .trivial
   .trivial
 |makeFunc fn first captured=>
  simp only[xr];split
  .split
   .rename_i ps us hc;refine⟨λp hp=>?_,λk hk=>by rw[SV]at hk;simp at hk⟩;obtain⟨⟨v,hv,hk⟩,⟨a5,hb2⟩,h3⟩:=Lw hc p hp;obtain⟨x,hx,rfl⟩:=U0.1 hv;refine⟨.inr ⟨QO (x:=x) (by simp only[P1,B0];exact W1 _ hx) hk,by simp[cls],by rw[hb2];simp,λhle=>by simp[cls]at hle⟩,by rw[h3];simp,λu hu=>by rw[h3]at hu;simp[qZ]at hu⟩
   .trivial
  .trivial
 |call c=>
  obtain⟨b3,a4,ts⟩:=c;simp only[xr];have al:∀(f:Nat) (b1:Operand) (ps:List D),cls C ⟨a6,.call ⟨.value b1,a4,ts⟩,ty,pos,a3,g⟩≠0->GoodR C ⟨a6,.call ⟨.value b1,a4,ts⟩,ty,pos,a3,g⟩ ρ ob (vI C ob f (a4.toList.map ρ++ps.map V.c)):=by
   intro f b1 ps a8;unfold vI;split
   .trivial
   .split
    .trivial
    .split
     .rename_i as us sh hto hsh;have hu:∀p∈us,UOk C ⟨a6,.call ⟨.value b1,a4,ts⟩,ty,pos,a3,g⟩ ρ ob us p:=λp hp=>by
       obtain⟨⟨v,h1,h2⟩,s,es,fz,h3,h4⟩:=vR hto p hp;rcases W3.1 h1 with h1|h1
       .obtain⟨x,hx,rfl⟩:=U0.1 h1;exact⟨.inr ⟨QO (x:=x) (by simp only[P1,Lm,B0];exact W1 _ hx) h2,a8,by rw[h3];simp,λ_=>⟨s,es,fz,h3,h4⟩⟩,by rw[h4];simp,λu hu=>by rw[h4]at hu;simp[qZ]at hu⟩
       .obtain⟨d,_,rfl⟩:=U0.1 h1;simp[qn]at h2
      split
      .exact hu
      .exact λ_ h=>absurd h (by simp)
     .trivial
  split
  .rename_i f;split
   .rename_i e he;have a8:cls C ⟨a6,.call ⟨.value (.func f),a4,ts⟩,ty,pos,a3,g⟩=2:=by simp[cls,he]
    have hg:=EffOk.good he a6 (a4.toList.map ρ) ob (λv hv=>by obtain⟨x,_,rfl⟩:=U0.1 hv;exact hρ x) hb;have hin:∀k,k∈yy ob ((a4.toList.map ρ).flatMap qn)->k∈opk ⟨a6,.call ⟨.value (.func f),a4,ts⟩,ty,pos,a3,g⟩ ρ ob:=λk hkk=>by show k∈yy ob _;rw[qE]at hkk ⊢;obtain⟨j,h1,h2⟩:=hkk;refine⟨j,?_,h2⟩;rw[K8];obtain⟨v,hv,hj⟩:=er.1 h1;obtain⟨x,hx,rfl⟩:=U0.1 hv;exact er.2 ⟨x,by simp only[P1,Lm,B0];exact W1 _ hx,hj⟩
    have b5:∀{up:List (Nat×Obj)} {p:Nat×Obj},((ij (C.wd f) a6 p.1/\qD ob p.1=true)\/(p.1∈yy ob ((a4.toList.map ρ).flatMap qn)/\nth .none ob p.1≠ .none))/\p.2≠ .none/\(∀u∈qZ p.2,VOk ob up u)->UOk C ⟨a6,.call ⟨.value (.func f),a4,ts⟩,ty,pos,a3,g⟩ ρ ob up p:=λ{up p} h=>by
     refine⟨?_,h.2⟩;rcases h.1 with h1|⟨h1,h2⟩
     .exact .inl ⟨HN.2 h1.1,h1.2⟩
     .exact .inr ⟨hin _ h1,by rw[a8];simp,h2,λhle=>by rw[a8]at hle;omega⟩
    generalize e a6 (a4.toList.map ρ) ob=r at *;cases r with
    |fail=>trivial
    |ok v up=>exact⟨λp hp=>b5 (hg.1 p hp),hg.2⟩
    |cond c v up=>exact⟨λp hp=>b5 (hg.1 p hp),hg.2⟩
    |look _ _ _ _=>trivial
    |call _ _ _ _=>exact hg.elim
   .rename_i he;have:=al f (.func f) [] (by simp[cls,he]);rw[hA,fx]at this;exact this
  .rename_i t0;split
   .rename_i f _;split
    .trivial
    .have:=al f (.tmp t0) [] (by simp[cls]);rw[hA,fx]at this;exact this
   .split
    .trivial
    .exact al _ _ _ (by simp[cls])
   .trivial
  .split
   .unfold iO
    repeat' split
    all_goals first|trivial|exact GoodR.data rfl
   .trivial
  .split
   .rename_i x y ag;have hx:=hρ x;have a8:cls C ⟨a6,.call ⟨.builtin .append,a4,ts⟩,ty,pos,a3,g⟩=2:=rfl;have ad:∀k∈qn (ρ x),k∈opk ⟨a6,.call ⟨.builtin .append,a4,ts⟩,ty,pos,a3,g⟩ ρ ob:=λk hk=>QO (x:=x) (by
     simp only[P1,Lm,B0];exact W1 _ (by rw[ag];simp)) hk
    unfold Ks;split
    .trivial
    .rename_i d;split
     .trivial
     .rename_i hd;split
      .split
       .split
        .split
         .split
          .exact GoodR.new (us:=[]) rfl hd (by simp) (λu hu=>by simp[qZ]at hu) (λ_ h=>absurd h (by simp)) (λk hk=>by simpa [qn]using hk)
          .rename_i k hv;rw[hv]at hx ad;split
           .rename_i s es hk;split
            .exact GoodR.new (us:=[(k,.dead)]) rfl hd (by simp) (λu hu=>by simp[qZ]at hu) (λq hq=>by
              simp only[V1]at hq;subst hq;exact⟨.inr ⟨ad k (by simp[qn]),by rw[a8];simp,by rw[hk];simp,λhle=>by rw[a8]at hle;omega⟩,by simp,λu hu=>by simp[qZ]at hu⟩) (λk hk=>by simpa [qn]using hk)
            .trivial
           .trivial
          .rename_i k o n hv;rw[hv]at hx ad;split
           .rename_i s es ho hk;split
            .exact GoodR.new (us:=[(k,.dead)]) rfl hd (by simp) (λu hu=>by simp[qZ]at hu) (λq hq=>by
              simp only[V1]at hq;subst hq;exact⟨.inr ⟨ad k (by simp[qn]),by rw[a8];simp,by rw[hk];simp,λhle=>by rw[a8]at hle;omega⟩,by simp,λu hu=>by simp[qZ]at hu⟩) (λk hk=>by simpa [qn]using hk)
            .trivial
           .trivial
          .trivial
         .trivial
        .trivial
       .trivial
      .trivial
   .trivial
  .split
   .rename_i x ag;have ad:∀k∈qn (ρ x),k∈opk ⟨a6,.call ⟨.builtin .clear,a4,ts⟩,ty,pos,a3,g⟩ ρ ob:=λk hk=>QO (x:=x) (by
     simp only[P1,Lm,B0];exact W1 _ (by rw[ag];simp)) hk
    unfold Kt;split
    .split
     .split
      .rename_i z k o l hz hv;rw[hv]at ad;split
       .rename_i s es hk;split
        .refine⟨λp hp=>?_,λk hk=>by simp[qn]at hk⟩;simp only[V1]at hp;subst hp;exact⟨.inr ⟨ad k (by simp[qn]),by simp[cls],by rw[hk];simp,λhle=>by simp[cls]at hle⟩,by simp,λu hu=>by simp[qZ]at hu⟩
        .trivial
       .trivial
      .trivial
     .trivial
    .trivial
   .trivial
  .split
   .exact Nw
   .trivial
  .split
   .exact Nw
   .trivial
  .trivial
 |_=>trivial
end
end Eng
end
