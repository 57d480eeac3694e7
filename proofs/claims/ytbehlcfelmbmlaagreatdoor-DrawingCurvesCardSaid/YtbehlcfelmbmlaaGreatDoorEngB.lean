/- The engine, part 10: places, parts, reckonings. -/
import Derived.Test.YtbehlcfelmbmlaaGreatDoorEngA
import Derived.Laws.IdiomStrings
open Array renaming ext'→Aa, range→Ab, getElem?_append_left→Ac, toList_extract→Ad, empty_append→Ae
open Bool renaming and_eq_true→Af, or_eq_false_iff→Ah, not_eq_true'→Ai
open Classical renaming choose_spec→Aj, choose→Ak
open Eng.CD renaming int→Al, slice_inv→Am
open Eng.Obj.arr renaming injEq→An
open Go renaming sizeOf→Ao
open Go.Builtin renaming zeroCells→Ap, append_→Aq, len_→Ar, lenOf→As
open Go.Call renaming operands→At
open Go.Instr renaming sliceBounds→Au, fill→Av, sliceAt→Aw, slice→Ax, indexAt→Ay, sureAddr→Az, extract→A0, buildSlice→A1, fieldAt→A2, field→A3
open Go.Op renaming operands→A4
open Go.Program renaming built→A5, bytesOf→A6
open Go.Result renaming andThen_ok→A7
open Go.Sem renaming run_bind→A8
open List renaming length_append→A9, replicate→AA, mem_cons→AB, mem_append→AC, mem_map→AD, eq_of_mem_replicate→AE, eq_nil_of_length_eq_zero→AF, mem_of_mem_take→AG, length_replicate→AH, mem_of_mem_drop→AI, getElem?_map→AJ, mem_flatMap→AK, length_cons→AL, length_nil→AM, take_append_drop→AN, mem_cons_of_mem→AO, getElem?_range→AP, flatten_append→AQ, range→AR, mem_singleton→AS, mem_cons_self→AT, getElem?_take→AU, flatten_cons→AV, length_take→AW, getElem_map→AX, exists_cons_of_ne_nil→AY, extract_eq_take_drop→AZ, map_cons→Bx, length_pos_iff→BP, getElem_range→BQ, length_drop→BR, getElem_mem→BS, all_eq_true→BT, nil_append→BU
open Nat renaming zero_add→BV, mul_le_mul_right→BW, le_refl→BX, add_mul→BY, mul_comm→BZ, lt_or_ge→Ca, add_zero→Cb, eq_of_beq_eq_true→Cc, div_lt_of_lt_mul→Cd, div_add_mod→Cf, add_sub_cancel_left→Cg, mul_le_mul_left→Ch, mod_lt→Cj, min_eq_left→Ck, add_assoc→Cl, succ_mul→Cm, one_mul→Cn
open Ne renaming symm→Co
open Option renaming map_eq_some_iff→Cp
open Option.some renaming injEq→Cq
open Prod.mk renaming injEq→Cr
section
namespace Eng
open Go Go.RowKit
section
variable {C:Cx} {B:Bd} {F0:Nat→Prop} {w0:World} {F:Nat→Prop} {loc:Where} {st:St} {a:Act} {w:World}
variable {dst:Option Nat} {ty:TypeId} {pos:String} {after:Array Edge} {g:Option (Nat×Bool)}
theorem K4 {x:Operand} (h:Conc C B F0 w0 F loc st a w):RS C B F0 w0 st a w ⟨dst,.nilCheck x,ty,pos,after,g⟩ (xc C ⟨dst,.nilCheck x,ty,pos,after,g⟩ (ev st) st.objs):=by
 simp only[xc];have hx:=qO h x;split
 ·rename_i k off hv;rw[hv]at hx;split
  ·rename_i a0 hk;obtain⟨b,c,_,hp⟩:=hx.1 _ hk rfl;refine qK h hx.1 hx.2 ?_;simp[execOp,hp]
  ·trivial
 ·trivial
theorem K5 {op:BinOp} {t:TypeId} {x y:Operand} {p q:Bool} {u v:Value} (hp:CD w F (.ifc p) u) (hq:CD w F (.ifc q) v) (hxy:kQ x=true∨kQ y=true):(eqGuard op t x y u v).run C.P w= .ok () w:=by
 cases hp with
 |nilI=>cases hq with
  |nilI=>
   rcases hxy with hxy|hxy
   ·cases x<;>simp[kQ]at hxy;cases op<;>rfl
   ·cases y<;>simp[kQ]at hxy;cases op<;>cases x<;>rfl
  |someI=>cases op<;>rfl
 |someI=>cases hq<;>cases op<;>rfl
theorem Lb {op:BinOp} {t t2:TypeId} {x y:Operand} (h:Conc C B F0 w0 F loc st a w):RS C B F0 w0 st a w ⟨dst,.binOp op t x y t2,ty,pos,after,g⟩ (xc C ⟨dst,.binOp op t x y t2,ty,pos,after,g⟩ (ev st) st.objs):=by
 simp only[xc];have hx:=(qO h x).1;have hy:=(qO h y).1;have hvs:=Ok (P:=C.P) (op:=op) (t:=t) (xo:=x) (yo:=y) hx hy;by_cases hr0:Oc C.P op t x y (ev st x) (ev st y)= .fail
 ·rw[hr0];trivial
 have hg:(eqGuard op t x y (a.eval x) (a.eval y)).run C.P w= .ok () w:=by
  generalize hu:ev st x=u at *;generalize hv:ev st y=v at *;unfold Oc at hr0;split at hr0
  ·rename_i ms hms;split at hr0
   ·rename_i p q;split at hr0
    ·rename_i hc;have hxy:kQ x=true∨kQ y=true:=by
      cases hx0:kQ x<;>cases hy0:kQ y<;>simp[hx0,hy0]at hc ⊢
     exact K5 hx hy hxy
    ·exact absurd rfl hr0
   ·exact absurd rfl hr0
  ·split at hr0
   ·have a1:CD w F _ _:=hx;refine Xa a1.one fun e=>?_
    rw[e]at a1;cases a1
   ·exact absurd rfl hr0
  ·by_cases a0:∃fs,C.P.underlying t=some (.struct fs)
   ·obtain⟨fs,a0⟩:=a0;unfold eqV at hr0;rw[a0]at hr0;exact Y2 a0 hx hy hr0
   have hg:(a.eval x).oneCell'=true∧a.eval x≠ .nilIface:=by
    have h0:∃d,u= .c d∧((∃k n,d= .int k n)∨(∃b,d= .bool b)∨∃s,d= .str s):=by
     unfold eqV at hr0;split at hr0
     ·split at hr0
      ·exact⟨_,rfl,.inr (.inl ⟨_,rfl⟩)⟩
      ·exact absurd rfl hr0
     ·rename_i fs hfs;exact absurd ⟨fs,hfs⟩ a0
     ·unfold PW at hr0;split at hr0
      ·exact⟨_,rfl,.inl ⟨_,_,rfl⟩⟩
      ·exact⟨_,rfl,.inr (.inr ⟨_,rfl⟩)⟩
      ·exact absurd rfl hr0
    obtain⟨d,h1,h2⟩:=h0;rw[h1]at hx;rcases h2 with⟨k,n,rfl⟩|⟨b,rfl⟩|⟨s,rfl⟩
    ·rw[ko hx];exact⟨rfl,by simp⟩
    ·rw[WU hx];exact⟨rfl,by simp⟩
    ·rw[vo hx];exact⟨rfl,by simp⟩
   exact Xa hg.1 hg.2
 refine wB h hvs (fun v hv=>?_);simp[execOp,hg,hv]
theorem Bq {x y:Operand} {ts:Array TypeId} (h:Conc C B F0 w0 F loc st a w):RS C B F0 w0 st a w ⟨dst,.call ⟨.builtin .max, #[x,y],ts⟩,ty,pos,after,g⟩ (mxV true (ev st x) (ev st y)):=by
 refine wB h (Ol (P:=C.P) (ts:=ts) (ty:=ty) (qO h x).1 (qO h y).1) (fun v hv=>?_);simp[execOp,resolve,invoke,builtin,hv]
theorem Br {x y:Operand} {ts:Array TypeId} (h:Conc C B F0 w0 F loc st a w):RS C B F0 w0 st a w ⟨dst,.call ⟨.builtin .min, #[x,y],ts⟩,ty,pos,after,g⟩ (mxV false (ev st x) (ev st y)):=by
 refine wB h (Om (P:=C.P) (ts:=ts) (ty:=ty) (qO h x).1 (qO h y).1) (fun v hv=>?_);simp[execOp,resolve,invoke,builtin,hv]
theorem Ot {op:UnOp} {t:TypeId} {x:Operand} (h:Conc C B F0 w0 F loc st a w):RS C B F0 w0 st a w ⟨dst,.unOp op t x,ty,pos,after,g⟩ (xc C ⟨dst,.unOp op t x,ty,pos,after,g⟩ (ev st) st.objs):=by
 simp only[xc];refine wB h (R6 (P:=C.P) (op:=op) (qO h x).1) (fun v hv=>?_);simp[execOp,hv]
theorem QO (l:List UInt8):(zc l).flatten=l.map fun c=>D.int .u8 c.toNat:=by
 induction l with
 |nil=>rfl
 |cons c l ih=>simp only[zc,Bx,AV]at ih ⊢;rw[ih];rfl
theorem Y5 {s t:TypeId} {x:Operand} {l:List UInt8} (h:Conc C B F0 w0 F loc st a w) (hb:Hf C.P s t=true) (hx:ev st x= .c (.str l)):
 Does C B F0 w0 ⟨dst,.convert s t x,ty,pos,after,g⟩ a w (st.put dst (.c (.sl (zc l))) []):=by
 obtain⟨e,hs,hd,he⟩:∃e,C.P.underlying s=some .string∧C.P.underlying t=some (.slice e)∧C.P.underlying e=some (.int .u8):=by
  unfold Hf at hb;split at hb
  ·rename_i e h1 h2;split at hb
   ·rename_i h3;exact⟨e,h1,h2,h3⟩
   ·simp at hb
  ·simp at hb
 have a4:=(qO h x).1;rw[hx]at a4;have a4:=vo a4;have a0:=run_bytes_of_string (P:=C.P) w s t e ⟨⟨l⟩⟩ hs hd he;have hsz:(⟨⟨l⟩⟩:ByteArray).size=l.length:=rfl;rw[hsz]at a0;generalize hcap:grownCap w l.length 0 e=cap at a0;generalize hob:Go.Obj.cells (bytesRow ⟨⟨l⟩⟩ cap) e ((bytesRow ⟨⟨l⟩⟩ cap).size,(bytesRow ⟨⟨l⟩⟩ cap).size+1)=ob at a0;have a7:(w.drew.alloc ob).heap.size=w.heap.size+1:=World.size_alloc ..;have a1:∀b,b<w.heap.size→(w.drew.alloc ob).heap[b]? =w.heap[b]? :=fun b hb=>Below.heap_alloc w.drew ob b hb
 refine⟨.value (.slice (some ⟨w.heap.size,0,none⟩) l.length cap),_,w.drew.alloc ob,by simp[execOp,a4,a0],.inl rfl,fun b=>F b∨b=w.heap.size,loc,?_⟩;refine h.step (up:=[]) (fun b h=> .inl h) (fun b hb=>a1 b (h.bound b hb)) (Le.refl _ _) ((BelowX.drew h.below).alloc h.hB _) (by have:=h.hB;omega) (fun k=>?_) h.inj (fun k b c hl=>⟨(h.fresh k b c hl).1,by have:=h.fresh k b c hl;omega⟩) (fun b hb=>?_) (fun b hb=>?_) ?_ trivial
 ·refine CO.le (fun b h=> .inl h) (fun b hb=>a1 b (h.bound b hb)) (Le.refl _ _) rfl rfl (fun b c hl=>?_) (h.objs k);have hf:=(h.fresh _ _ _ hl).2;exact⟨a1 b hf,fun hn a3=>by rcases a3 with a3|a3;exact hn a3;omega⟩
 ·rcases hb with hb|hb
  ·have:=h.bound b hb;omega
  ·omega
 ·rcases hb with hb|hb
  ·exact h.fsub b hb
  ·have:=h.hB;exact .inr (.inl (by omega))
 ·show CD _ _ (.sl (zc l)) _;have a5:(zc l).length=l.length:=by simp[zc]
  have hfl:=QO l;have a6:Row (w.drew.alloc ob) (fun b=>F b∨b=w.heap.size) (zc l) w.heap.size 0 1:=by
   refine⟨fun e he=>?_,.inr rfl,fun j hj=>?_⟩
   ·simp only[zc,AD]at he;obtain⟨c,_,rfl⟩:=he;rfl
   ·rw[a5,Nat.mul_one]at hj;refine⟨.int .u8 (l[j]).toNat,?_,?_⟩
    ·have a2:(w.drew.alloc ob).heap[w.heap.size]? =some ob:=by show(w.heap.push ob)[w.heap.size]? =_;simp
     rw[←hob]at a2 ⊢;unfold World.cell?;rw[a2];simp only[BV];unfold bytesRow;rw[Ac (by simpa using hj)];simp[hj]
    ·rw[hfl,qn _ (by simpa using hj)];simp only[AX];exact .int _ _
  have:=a6.CD (c:=cap) (by
   rw[a5,←hcap];exact grownCap_ge w l.length 0 e)
  rw[a5]at this;exact this
theorem Y6 {s t:TypeId} {x:Operand} (h:Conc C B F0 w0 F loc st a w):RS C B F0 w0 st a w ⟨dst,.convert s t x,ty,pos,after,g⟩ (xc C ⟨dst,.convert s t x,ty,pos,after,g⟩ (ev st) st.objs):=by
 simp only[xc];split
 ·rename_i hb;split
  ·rename_i str hx;exact fun _=>Y5 h hb hx
  ·trivial
 ·split
  ·rename_i ds hs;refine wB h (TX (P:=C.P) (src:=s) (dst:=t) hs (qO h x).1) (fun v hv=>?_);simp[execOp,hv]
  ·trivial
theorem Xc {P:Program} {t f off:Nat} {ft:TypeId} (h:yC P t f=some (off,ft)):∃fs fd,P.underlying t=some (.struct fs)∧fs[f]? =some fd∧fd.offset=off∧fd.type=ft:=by
 unfold yC at h;split at h
 ·rename_i fs hu;split at h
  ·rename_i fd hf;simp only[Cq,Cr]at h;exact⟨fs,fd,hu,hf,h.1,h.2⟩
  ·simp at h
 ·simp at h
theorem ze {P:Program} {t:TypeId} (h:P.cellsOf t≠0):∃i,P.info? t=some i∧i.size=P.cellsOf t:=by
 unfold Program.cellsOf at h ⊢;cases hi:P.info? t with
 |none=>simp[hi]at h
 |some i=>exact⟨i,rfl,by simp⟩
theorem jK {P:Program} {t f off b o:Nat} {ft:TypeId} (h:yC P t f=some (off,ft)) (h0:P.cellsOf ft≠0) (w:World):
 (A2 t (.pointer (some ⟨b,o,none⟩)) f).run P w= .ok (.pointer (some ⟨b,o+off,none⟩)) w:=by
 obtain⟨fs,fd,hu,hf,rfl,rfl⟩:=Xc h;obtain⟨i,hi,hs⟩:=ze h0;have hsz:i.size≠0:=by rw[hs];exact h0
 simp[A2,qP hu,hf,Az,fieldPlace,Ao,typeInfo,hi,hsz,xe]
theorem Jh {t:TypeId} {x:Operand} {f:Nat} (h:Conc C B F0 w0 F loc st a w):RS C B F0 w0 st a w ⟨dst,.fieldAddr t x f,ty,pos,after,g⟩ (xc C ⟨dst,.fieldAddr t x f,ty,pos,after,g⟩ (ev st) st.objs):=by
 simp only[xc];have hx:=qO h x;split
 ·rename_i a2 ft hf;split
  ·trivial
  ·rename_i h0;have h0:C.P.cellsOf ft≠0:=by simpa using h0
   split
   ·rename_i k o hv;rw[hv]at hx;split
    ·rename_i a3 hk;obtain⟨b,c,hl,hp⟩:=hx.1 _ hk rfl;refine qK h (x:= .pointer (some ⟨b,o+a2,none⟩)) (fun cells' hc _=>⟨b,c,hl,rfl⟩) hx.2 ?_;simp[execOp,hp,jK hf h0]
    ·trivial
   ·rename_i k i o hv;rw[hv]at hx;split
    ·rename_i s es fz hk;obtain⟨b,c,hl,hi,hp⟩:=hx.1 s es fz hk;refine qK h (x:= .pointer (some ⟨b,i*s+o+a2,none⟩)) (fun s' es' fz' hc=>?_) hx.2 ?_
     ·rw[hk]at hc;simp only[An]at hc;obtain⟨rfl,rfl,rfl⟩:=hc;exact⟨b,c,hl,hi,by rw[Cl]⟩
     ·simp[execOp,hp,jK hf h0]
    ·trivial
   ·rename_i es i o hv;rw[hv]at hx;obtain⟨b,p,a0,hp,hi,a1⟩:=hx.1;refine qK h (x:= .pointer (some ⟨b,p+i*a0+o+a2,none⟩)) ⟨b,p,a0,by rw[Cl],hi,a1⟩ trivial ?_;simp[execOp,hp,jK hf h0]
   ·trivial
 ·trivial
theorem Lc {t:TypeId} {x:Operand} {f:Nat} (h:Conc C B F0 w0 F loc st a w):RS C B F0 w0 st a w ⟨dst,.field t x f,ty,pos,after,g⟩ (xc C ⟨dst,.field t x f,ty,pos,after,g⟩ (ev st) st.objs):=by
 simp only[xc];have hx:=qO h x;split
 ·rename_i off ft cs hf hv;rw[hv]at hx;obtain⟨vs,a4,a1⟩:=hx.1;have hl:cs.length=vs.size:=by simpa using a1.length
  split
  ·rename_i z hz;obtain⟨fs,fd,hu,a2,ho,ht⟩:=Xc hf;subst ho ht;have h1:=vm hz w;have h2:=xp hz w;split
   ·rename_i a3;have a3:fd.offset+z.length≤cs.length:=by simpa using a3
    split
    ·rename_i ha;rw[ha]at h1;refine qK h (x:= .agg (vs.extract fd.offset (fd.offset+z.length))) ⟨_,rfl,?_⟩ trivial ?_
     ·have:(vs.extract fd.offset (fd.offset+z.length)).toList=XQ (fun j=>nth undef vs.toList j) fd.offset z.length:=by
       rw[←zq];apply List.ext_getElem?;intro j;simp only[Ad,AZ,Cg,AJ];by_cases hj:j<z.length
       ·have hsz:fd.offset+j<vs.size:=by omega
        simp[hj,qI,hsz]
       ·simp[hj];omega
      rw[this,Xb];exact wD _ _ fun j hj=>a1.nth .undef undef _ _ _ (by omega)
     ·simp[execOp,A3,qP hu,a2,part,a4,asAgg,h1,h2]
    ·rename_i ha;rw[ha]at h1;split
     ·rename_i a0;have a0:0<z.length:=by simpa using a0
      have hlt:fd.offset<vs.size:=by omega
      refine qK h (x:=nth undef vs.toList fd.offset) (show CD w F _ _ from a1.nth .undef undef _ _ fd.offset (by omega)) trivial ?_;simp[execOp,A3,qP hu,a2,part,a4,asAgg,h1,hlt,qI]
     ·trivial
   ·trivial
  ·trivial
 ·trivial
theorem Y7 {x:Operand} {i:Nat} (h:Conc C B F0 w0 F loc st a w):RS C B F0 w0 st a w ⟨dst,.extract x i,ty,pos,after,g⟩ (xc C ⟨dst,.extract x i,ty,pos,after,g⟩ (ev st) st.objs):=by
 simp only[xc];have hx:=qO h x;split
 ·rename_i as hv;rw[hv]at hx;obtain⟨vs,a2,a4⟩:=hx.1;have hl:as.length=vs.size:=by simpa using a4.length
  split
  ·rename_i a1;have a1:i<as.length:=by simpa using a1
   have h1:=a4.nth (A.c .undef) undef as vs.toList i a1;have a0:(execOp a.eval ⟨dst,.extract x i,ty,pos,after,g⟩).run C.P w= .ok (.value (nth undef vs.toList i)) w:=by simp[execOp,A0,a2,qI,show i<vs.size by omega]
   split
   ·rename_i d hd;rw[hd]at h1;exact qK h h1 trivial a0
   ·rename_i cs hd;rw[hd]at h1;exact qK h h1 trivial a0
  ·trivial
 ·rename_i k as hv;rw[hv]at hx;obtain⟨⟨y,ys,a2,hy,a5⟩,a3⟩:=hx;have hl:as.length=ys.length:=by simpa using a5.length
  split
  ·have a0:(execOp a.eval ⟨dst,.extract x 0,ty,pos,after,g⟩).run C.P w= .ok (.value y) w:=by simp[execOp,A0,a2]
   refine qK h (x:=y) (fun s es fz hc=>?_) a3 a0;obtain⟨b,c,h1,h2⟩:=hy s es fz hc;exact .inl ⟨b,c,h1,h2⟩
  ·rename_i j;split
   ·rename_i a1;have a1:j<as.length:=by simpa using a1
    have h1:=a5.nth (A.c .undef) undef as ys j a1;have a0:(execOp a.eval ⟨dst,.extract x (j+1),ty,pos,after,g⟩).run C.P w= .ok (.value (nth undef ys j)) w:=by simp[execOp,A0,a2,qI,show j<ys.length by omega]
    split
    ·rename_i d hd;rw[hd]at h1;exact qK h h1 trivial a0
    ·rename_i cs hd;rw[hd]at h1;exact qK h h1 trivial a0
   ·trivial
 ·trivial
theorem Ld {t:TypeId} {x i:Operand} (h:Conc C B F0 w0 F loc st a w):RS C B F0 w0 st a w ⟨dst,.index t x i,ty,pos,after,g⟩ (xc C ⟨dst,.index t x i,ty,pos,after,g⟩ (ev st) st.objs):=by
 simp only[xc];have hx:=(qO h x).1;have hi:=(qO h i).1;split
 ·rename_i s k n hu hvx hvi;rw[hvx]at hx;rw[hvi]at hi;rintro⟨h0,h1⟩;refine xa h (x:= .int .u8 ((nth 0 s n.toNat).toNat:Int)) ?_ (Al _ _) trivial;have hs:=vo hx;have hn:=ko hi;have a0:n.toNat<s.length:=by omega
  have hg:(⟨⟨s⟩⟩:ByteArray)[n.toNat]? =some (nth 0 s n.toNat):=by rw[qn _ a0];have:n.toNat<(⟨⟨s⟩⟩:ByteArray).size:=a0;rw[getElem?_pos (⟨⟨s⟩⟩:ByteArray) n.toNat this];rfl
  simp[execOp,Instr.index,hs,hn,asIntOf,qP hu,h0,hg]
 ·trivial
theorem yP (s:Nat):∀(n:Nat) (cs:List D),(jF s n cs).length=n
 |0,_=>rfl
 |n+1,cs=>by simp only[jF,AL];rw[yP s n]
theorem vR (s:Nat):∀(n:Nat) (cs:List D),cs.length=n*s→(jF s n cs).flatten=cs∧∀e∈jF s n cs,e.length=s
 |0,cs,h=>by have:cs=[]:=AF (by omega);subst this;exact⟨rfl,fun e he=>by simp[jF]at he⟩
 |n+1,cs,h=>by
  rw[BY,Cn]at h;obtain⟨h1,h2⟩:=vR s n (cs.drop s) (by rw[BR];omega);refine⟨?_,fun e he=>?_⟩
  ·simp only[jF,AV];rw[h1,AN]
  ·simp only[jF,AB]at he;rcases he with rfl|he
   ·rw[AW];omega
   ·exact h2 e he
theorem WW (h:Conc C B F0 w0 F loc st a w) {g len:Nat} {e:TypeId} {es:List (List D)} (hg:TM C g len e=some es):Row w F es g 0 (C.P.cellsOf e)∧es.length=len∧0<C.P.cellsOf e:=by
 unfold TM at hg;split at hg
 ·rename_i cs hG;split at hg
  ·rename_i hc;simp only[Af,decide_eq_true_eq]at hc;simp only[Cq]at hg;subst hg;obtain⟨hF,vs,t,fr,a1,a0⟩:=h.inv g cs hG;obtain⟨h1,h2⟩:=vR _ _ _ hc.2;have hl:=yP (C.P.cellsOf e) len cs;refine⟨⟨h2,hF,fun j hj=>?_⟩,hl,hc.1⟩;rw[hl]at hj;have a2:=a0.length;refine⟨nth undef vs.toList j,?_,?_⟩
   ·have a3:j<vs.size:=by simp at a2;omega
    have:w.cell? ⟨g,0+j,none⟩=vs[0+j]? :=by simp[World.cell?,a1]
    rw[this,BV,qn _ (by simpa using a3)];simp[a3]
   ·rw[h1];exact a0.nth .undef undef _ _ j (by omega)
  ·simp at hg
 ·simp at hg
theorem Ji {t:TypeId} {x i:Operand} (h:Conc C B F0 w0 F loc st a w):RS C B F0 w0 st a w ⟨dst,.indexAddr t x i,ty,pos,after,g⟩ (xc C ⟨dst,.indexAddr t x i,ty,pos,after,g⟩ (ev st) st.objs):=by
 simp only[xc,kC];have hx:=(qO h x);have hi:=(qO h i).1;split
 ·rename_i k n hvi;rw[hvi]at hi;have hn:=ko hi;split
  ·rename_i e hu;have a7:∀s,C.P.cellsOf e=s→s≠0→(Ao e).run C.P w= .ok s w:=fun s hs h0=>by obtain⟨aa,h1,h2⟩:=ze (P:=C.P) (t:=e) (by rw[hs];exact h0);simp[Ao,typeInfo,h1,h2,hs]
   split
   ·rename_i es a1;rw[a1]at hx;split
    ·rename_i a6;have a6:0<C.P.cellsOf e:=by simpa using a6
     rintro⟨h0,h1,h2⟩;obtain⟨ad,c,a2,_,a0⟩:=Am hx.1;rcases a0 with rfl|⟨b,o,a8,rfl,a0⟩
     ·simp at h1;omega
     have a4:n.toNat<es.length:=by omega
     have a5:a8=C.P.cellsOf e:=by rw[←h2,qn _ a4];exact(a0.hs _ (BS a4)).symm
     subst a5;refine xa h (x:= .pointer (some ⟨b,o+n.toNat*C.P.cellsOf e,none⟩)) ?_ ⟨b,o,_,by simp,a4,a0⟩ trivial;simp[execOp,Ay,a2,hn,asIntOf,qP hu,h0,h1,a7 _ rfl (by omega),xe]
    ·trivial
   ·rename_i k' a1;rw[a1]at hx;split
    ·rename_i s es fz hk;split
     ·rename_i hs;have hs:s=C.P.cellsOf e:=by simpa using hs
      rintro⟨h0,h1⟩;have a3:=h.objs k';rw[hk]at a3;obtain⟨_,hs0,_,a3⟩:=a3;rcases hx.1 s es fz hk with⟨b,c,hl,a2⟩|⟨_,rfl,_⟩
      ·have a4:n.toNat<es.length:=by omega
       refine xa h (x:= .pointer (some ⟨b,n.toNat*s,none⟩)) ?_ (fun s' es' fz' hc=>?_) hx.2
       ·simp[execOp,Ay,a2,hn,asIntOf,qP hu,h0,h1,a7 _ hs.symm (by omega),xe]
       ·rw[hk]at hc;simp only[An]at hc;obtain⟨rfl,rfl,rfl⟩:=hc;exact⟨b,c,hl,a4,by simp⟩
      ·simp at h1;omega
     ·trivial
    ·trivial
   ·rename_i k' o l a1;rw[a1]at hx;split
    ·rename_i s es fz hk;split
     ·rename_i hs;have hs:s=C.P.cellsOf e:=by simpa using hs
      rintro⟨h0,h1⟩;have a3:=h.objs k';rw[hk]at a3;obtain⟨_,hs0,_,a3⟩:=a3;obtain⟨b,c,hl,hol,a2⟩:=hx.1 s es fz hk;refine xa h (x:= .pointer (some ⟨b,o*s+n.toNat*s,none⟩)) ?_ (fun s' es' fz' hc=>?_) hx.2
      ·simp[execOp,Ay,a2,hn,asIntOf,qP hu,h0,h1,a7 _ hs.symm (by omega),xe]
      ·rw[hk]at hc;simp only[An]at hc;obtain⟨rfl,rfl,rfl⟩:=hc;exact⟨b,c,hl,by omega,by rw[BY];simp⟩
     ·trivial
    ·trivial
   ·trivial
  ·rename_i len e hu;split
   ·rename_i k' off a1;rw[a1]at hx;split
    ·rename_i a9 hk;split
     ·rename_i m;split
      ·rename_i hm;simp only[Af,decide_eq_true_eq]at hm;obtain⟨b,c,hl,a2⟩:=hx.1 _ hk rfl;obtain⟨aa,h1,h2⟩:=ze (P:=C.P) (t:=e) (by omega);refine qK h (x:= .pointer (some ⟨b,off+m*C.P.cellsOf e,none⟩)) (fun cells' hc _=>⟨b,c,hl,rfl⟩) hx.2 ?_;simp[execOp,Ay,a2,hn,asIntOf,qP hu,hm.1,Az,Ao,typeInfo,h1,h2,xe]
      ·trivial
     ·trivial
    ·trivial
   ·rename_i g' a1;rw[a1]at hx;split
    ·rename_i es hes;obtain⟨a0,hlen,a6⟩:=WW h hes;rintro⟨h0,h1⟩;have a2:a.eval x= .pointer (some ⟨g',0,none⟩):=hx.1;have a4:n.toNat<es.length:=by omega
     obtain⟨aa,q1,q2⟩:=ze (P:=C.P) (t:=e) (by omega);refine xa h (x:= .pointer (some ⟨g',0+n.toNat*C.P.cellsOf e,none⟩)) ?_ ⟨g',0,_,by simp,a4,a0⟩ trivial;have h3:n.toNat<len:=by omega
     simp[execOp,Ay,a2,hn,asIntOf,qP hu,h0,h1,Az,Ao,typeInfo,q1,q2,xe]
    ·trivial
   ·trivial
  ·trivial
 ·trivial
end
end Eng
end

section
namespace Eng
open Go Go.RowKit
section
variable {C:Cx} {B:Bd} {F0:Nat→Prop} {w0:World} {F:Nat→Prop} {loc:Where} {st:St} {a:Act} {w:World}
variable {dst:Option Nat} {ty:TypeId} {pos:String} {after:Array Edge} {g:Option (Nat×Bool)}
theorem CO.heap {objs:List Obj} {w':World} {k:Nat} {o:Obj} (hh:w'.heap=w.heap) (h:CO loc objs w F k o):CO loc objs w' F k o:=
 CO.le (fun _ h=>h) (fun _ _=>by rw[hh]) (Le.refl _ _) rfl rfl (fun _ _ _=>⟨by rw[hh],fun h=>h⟩) h
theorem Conc.drew (h:Conc C B F0 w0 F loc st a w):Conc C B F0 w0 F loc st a w.drew:=
 ⟨h.prog,h.below.drew,h.hB,h.defers,All2.mono (R:=CV loc st.objs w F) (fun _ _ hv=>CV.mem (w:=w) (w':=w.drew) (fun _ h=>h) (fun _ _=>rfl) hv) h.tmps,h.refs,fun k=>CO.heap (w:=w) (w':=w.drew) rfl (h.objs k),h.inj,h.fresh,h.bound,h.fsub,h.fsup,h.inv.mono (fun _ h=>h) fun _ _=>rfl⟩
def ye (loc:Where) (k:Nat):Where:=⟨loc.P,fun j=>if j=k then none else loc j,loc.ty⟩
theorem Conc.kill {k s:Nat} {es:List (List D)} {fz:Bool} (h:Conc C B F0 w0 F loc st a w) (hk:nth .none st.objs k= .arr s es fz) (dt:List Nat):
 Conc C B F0 w0 F (ye loc k) ⟨st.tmps,upd st.objs k .dead,dt⟩ a w:=by
 have a0:k<st.objs.length:=by
  rcases Ca k st.objs.length with h1|h1
  ·exact h1
  ·rw[qB _ h1]at hk;simp at hk
 have a1:Le st.objs (upd st.objs k .dead) loc (ye loc k):=by
  refine⟨rfl,fun _ _=>rfl,fun j hj=>?_,fun j o' hj hc hbx=>?_,fun j s' es' fz' hj hc=>?_⟩
  ·by_cases hkj:k=j
   ·subst hkj;rw[qb _ _ _ a0];simp
   ·rw[qa _ _ _ hkj];exact hj
  ·by_cases hkj:k=j
   ·subst hkj;rw[qb _ _ _ a0]at hc;rw[←hc]at hbx;simp[xE]at hbx
   ·rw[qa _ _ _ hkj]at hc;exact⟨by rw[hc];exact hbx,by simp[ye,Co hkj]⟩
  ·by_cases hkj:k=j
   ·subst hkj;rw[qb _ _ _ a0]at hc;simp at hc
   ·rw[qa _ _ _ hkj]at hc;exact⟨⟨_,_,hc,rfl⟩,by simp[ye,Co hkj]⟩
 have:=h.step (dst:=none) (v:= .any) (x:=undef) (up:=[(k,.dead)]) (loc':=ye loc k) (F':=F) (fun _ h=>h) (fun _ _=>rfl) a1 h.below h.hB (fun j=>?_) ?_ ?_ h.bound h.fsub trivial trivial
 ·exact this.redirty
 ·show CO _ (upd st.objs k .dead) _ _ _ (nth .none (upd st.objs k .dead) j);by_cases hkj:k=j
  ·subst hkj;rw[qb _ _ _ a0];simp[CO,ye]
  ·rw[qa _ _ _ hkj];exact CO.le (fun _ h=>h) (fun _ _=>rfl) a1 (by simp[ye,Co hkj]) rfl (fun b c hb=>⟨rfl,fun h=>h⟩) (h.objs j)
 ·intro j j' b c c' h1 h2;simp only[ye]at h1 h2;split at h1
  ·simp at h1
  ·split at h2
   ·simp at h2
   ·exact h.inj _ _ _ _ _ h1 h2
 ·intro j b c h1;simp only[ye]at h1;split at h1
  ·simp at h1
  ·exact h.fresh _ _ _ h1
theorem Conc.adopt {d b cap tt:Nat} {ob:Obj} {v:V} {x:Value} {cs:Array Value} {t:TypeId} (h:Conc C B F0 w0 F loc st a w) (hd:qq st.objs d=true)
 (hb:Own B b∧b<w.heap.size) (hnF:¬F b) (hno:∀k c,loc k≠some (b,c))
 (hob:CO (at_ loc d (b,cap) tt) (upd st.objs d ob) (setBlk w b (.cells cs t (0,0))) F d ob)
 (hv:CV (at_ loc d (b,cap) tt) (upd st.objs d ob) (setBlk w b (.cells cs t (0,0))) F v x) (hr:Ref (upd st.objs d ob) v):
 Conc C B F0 w0 F (at_ loc d (b,cap) tt) (st.put dst v [(d,ob)]) (a.put dst x) (setBlk w b (.cells cs t (0,0))):=by
 obtain⟨a0,hlt⟩:=qE hd;have hw:∀b',F b'→(setBlk w b (.cells cs t (0,0))).heap[b']? =w.heap[b']? :=fun b' hb'=>xb (fun e=>hnF (e▸hb'))
 have a1:Le st.objs (upd st.objs d ob) loc (at_ loc d (b,cap) tt):=by
  refine⟨rfl,fun k hk=>by
   have:k≠d:=fun e=>by subst e;exact absurd a0 hk
   simp[at_,this],fun k hk=>?_,fun k o' hk hc hbx=>?_,fun k s es' fz' hk hc=>?_⟩
  ·by_cases hkd:d=k
   ·subst hkd;exact absurd a0 hk
   ·rw[qa _ _ _ hkd];exact hk
  ·by_cases hkd:d=k
   ·subst hkd;exact absurd a0 hk
   ·rw[qa _ _ _ hkd]at hc;exact⟨by rw[hc];exact hbx,by simp[at_,Co hkd]⟩
  ·by_cases hkd:d=k
   ·subst hkd;exact absurd a0 hk
   ·rw[qa _ _ _ hkd]at hc;exact⟨⟨_,_,hc,rfl⟩,by simp[at_,Co hkd]⟩
 refine h.step (up:=[(d,ob)]) (fun _ h=>h) hw a1 (BelowX.setBlk h.below hb.1) (by rw[setBlk_size];exact h.hB) (fun k=>?_) ?_ ?_ (fun b' hb'=>by rw[setBlk_size];exact h.bound b' hb') h.fsub hv hr
 ·show CO _ (upd st.objs d ob) _ _ _ (nth .none (upd st.objs d ob) k);by_cases hk:d=k
  ·subst hk;rw[qb _ _ _ hlt];exact hob
  ·rw[qa _ _ _ hk];refine CO.le (fun _ h=>h) hw a1 (by simp[at_,Co hk]) (by simp[at_,Co hk]) (fun b' c hb'=>⟨xb (fun e=>?_),fun h=>h⟩) (h.objs k);subst e;exact hno _ _ hb'
 ·intro k k' b' c c' h1 h2;simp only[at_]at h1 h2;split at h1<;>split at h2
  ·rw[‹k=d›,‹k'=d›]
  ·simp only[Cq,Cr]at h1;rw[←h1.1]at h2;exact absurd h2 (hno _ _)
  ·simp only[Cq,Cr]at h2;rw[←h2.1]at h1;exact absurd h1 (hno _ _)
  ·exact h.inj _ _ _ _ _ h1 h2
 ·intro k b' c h1;simp only[at_]at h1;rw[setBlk_size];split at h1
  ·simp only[Cq,Cr]at h1;obtain⟨rfl,_⟩:=h1;exact hb
  ·exact h.fresh _ _ _ h1
theorem R9 {x:Operand} {ts:Array TypeId} (h:Conc C B F0 w0 F loc st a w):RS C B F0 w0 st a w ⟨dst,.call ⟨.builtin .len, #[x],ts⟩,ty,pos,after,g⟩ (R1 C.P st.objs ts (ev st x)):=by
 unfold R1;have hx:=(qO h x).1;split
 ·rename_i t hts;have a1:∀n:Int,(Ar ts ty #[a.eval x]).run C.P w= .ok (.int .i64 n) w→(execOp a.eval ⟨dst,.call ⟨.builtin .len, #[x],ts⟩,ty,pos,after,g⟩).run C.P w= .ok (.value (.int .i64 n)) w:=fun n hn=>by simp[execOp,resolve,invoke,builtin,hn]
  have a3:ts[0]? =some t:=by
   have:ts= #[t]:=by apply Aa;simpa using hts
   rw[this];rfl
  split
  ·rename_i hu;split
   ·rename_i s hv;rw[hv]at hx;refine qK h (Al _ _) trivial (a1 _ ?_);simp[Ar,a3,qP hu,vo hx,goInt];rfl
   ·trivial
  ·rename_i e hu;have a2:∀ad n c,a.eval x= .slice ad n c→(Ar ts ty #[a.eval x]).run C.P w= .ok (.int .i64 n) w:=fun ad n c a0=>by simp[Ar,a3,qP hu,a0,goInt]
   split
   ·rename_i es hv;rw[hv]at hx;obtain⟨ad,c,a0,_⟩:=Am hx;exact qK h (Al _ _) trivial (a1 _ (a2 _ _ _ a0))
   ·rename_i hv;rw[hv]at hx;exact qK h (Al _ _) trivial (a1 _ (a2 none 0 0 hx))
   ·rename_i k hv;rw[hv]at hx;split
    ·rename_i s es fz hk;rcases hx s es fz hk with⟨b,c,_,a0⟩|⟨_,rfl,a0⟩
     ·exact qK h (Al _ _) trivial (a1 _ (a2 _ _ _ a0))
     ·exact qK h (Al _ _) trivial (a1 _ (a2 _ _ _ a0))
    ·trivial
   ·rename_i k o l hv;rw[hv]at hx;split
    ·rename_i s es fz hk;obtain⟨b,c,_,_,a0⟩:=hx s es fz hk;exact qK h (Al _ _) trivial (a1 _ (a2 _ _ _ a0))
    ·trivial
   ·trivial
  ·trivial
 ·trivial
theorem z6 {d:Int} {x:Option Operand} {n:Int} (h:Conc C B F0 w0 F loc st a w) (hb:jx d (xF (ev st) x)=some n):(x=none∧n=d)∨∃y k,x=some y∧a.eval y= .int k n:=by
 cases x with
 |none=>simp only[xF,jx,Cq]at hb;exact .inl ⟨rfl,hb.symm⟩
 |some y=>
  simp only[xF]at hb;have hy:=(qO h y).1;generalize ev st y=v at hb hy;unfold jx at hb;split at hb
  ·rename_i a0;simp at a0
  ·rename_i k m a0;simp only[Cq]at a0 hb;subst a0 hb;exact .inr ⟨y,k,rfl,ko hy⟩
  ·simp at hb
theorem j1 {P:Program} {sl:Bool} {len cap:Nat} {lo hi:Option Operand} {l r:Int} (hl:(lo=none∧l=0)∨∃y k,lo=some y∧a.eval y= .int k l) (hr:(hi=none∧r=len)∨∃y k,hi=some y∧a.eval y= .int k r)
 (h0:0≤l) (h1:l≤r) (h2:r≤len) (h3:len≤cap):(Au sl len cap (lo.map a.eval) (hi.map a.eval) none).run P w= .ok (l.toNat,r.toNat,cap) w:=by
 have a0:0≤r:=by omega
 have a1:r≤(cap:Int):=by omega
 have hlr:l≤(r.toNat:Int):=by omega
 rcases hl with⟨rfl,rfl⟩|⟨y,k,rfl,hy⟩<;>rcases hr with⟨rfl,rfl⟩|⟨y',k',rfl,a2⟩
 ·simp[Au]
 ·simp[Au,a2,run_sliceBound _ _ _ _ _ a0 a1]
 ·have:l≤(len:Int):=h1;simp[Au,hy,run_sliceBound _ _ _ _ _ h0 this]
 ·simp[Au,hy,a2,run_sliceBound _ _ _ _ _ a0 a1,run_sliceBound _ _ _ _ _ h0 hlr]
theorem K6 {P:Program} {sl:Bool} {len cap:Nat} {lo hi mx:Option Operand} {l r m:Int} (hl:(lo=none∧l=0)∨∃y k,lo=some y∧a.eval y= .int k l) (hr:∃y k,hi=some y∧a.eval y= .int k r)
 (hm:∃y k,mx=some y∧a.eval y= .int k m) (h0:0≤l) (h1:l≤r) (h2:r≤m) (h3:m≤cap):(Au sl len cap (lo.map a.eval) (hi.map a.eval) (mx.map a.eval)).run P w= .ok (l.toNat,r.toNat,m.toNat) w:=by
 have a1:0≤m:=by omega
 have a2:0≤r:=by omega
 have a3:r≤(m.toNat:Int):=by omega
 have hlr:l≤(r.toNat:Int):=by omega
 obtain⟨y',k',rfl,a4⟩:=hr;obtain⟨y'',k'',rfl,a0⟩:=hm;rcases hl with⟨rfl,rfl⟩|⟨y,k,rfl,hy⟩
 ·simp[Au,a4,a0,run_sliceBound _ _ _ _ _ a1 h3,run_sliceBound _ _ _ _ _ a2 a3]
 ·simp[Au,hy,a4,a0,run_sliceBound _ _ _ _ _ a1 h3,run_sliceBound _ _ _ _ _ a2 a3,run_sliceBound _ _ _ _ _ h0 hlr]
theorem Row.part {es:List (List D)} {b o size l r:Nat} (h:Row w F es b o size) (h1:l≤r) (h2:r≤es.length):Row w F ((es.take r).drop l) b (o+l*size) size:=by
 refine⟨fun e he=>h.hs e (AG (AI he)),h.hF,fun j hj=>?_⟩;have a0:((es.take r).drop l).length=r-l:=by simp;omega
 rw[a0]at hj;obtain⟨q,hq⟩:∃q,q=j/size:=⟨_,rfl⟩;have hs0:0<size:=by
  rcases Nat.eq_zero_or_pos size with h0|h0
  ·subst h0;omega
  ·exact h0
 have hqr:q<r-l:=by rw[hq];exact Cd (by rw[BZ];exact hj)
 have hjq:j=q*size+j%size:=by rw[hq,BZ];exact(Cf j size).symm
 have a1:=Cj j hs0;obtain⟨v,q1,q2⟩:=h.hc ((l+q)*size+j%size) (Je (by omega) a1);refine⟨v,by rw[←q1];congr 2;rw[BY];omega,?_⟩;rw[x7 h.hs _ _ (by omega) a1]at q2;rw[hjq,x7 (fun e he=>h.hs e (AG (AI he))) _ _ (by omega) a1];have:nth [] (List.drop l (List.take r es)) q=nth [] es (l+q):=by simp only[qI,List.getElem?_drop];rw[AU,if_pos (by omega)]
 rw[this];exact q2
theorem Lf {es:List (List D)} {x:Value} {z:List Value} {e:TypeId} {l r m:Nat} (hx:CD w F (.sl es) x) (_hz:zC C.P e=some z) (hlens:lens z.length es) (h1:l≤r) (h2:r≤es.length) (h3:r≤m):
 ∃ad c,x= .slice ad es.length c∧es.length≤c∧(m≤c→CD w F (.sl ((es.take r).drop l)) (.slice (if m=l then ad else ad.map (·.add (l*z.length))) (r-l) (m-l))):=by
 obtain⟨ad,c,hxe,hlc,a0⟩:=hx.slice_inv;refine⟨ad,c,hxe,hlc,fun _=>?_⟩;have a1:((es.take r).drop l).length=r-l:=by simp;omega
 rcases Nat.eq_or_lt_of_le h1 with rfl|hlt
 ·have:(es.take l).drop l=[]:=AF (by rw[a1];omega);rw[this,Nat.sub_self];exact .nil _ _
 ·rcases a0 with rfl|⟨b,o,a2,rfl,a0⟩
  ·simp at h2;omega
  ·have hne:es≠[]:=by intro h0;subst h0;simp at h2;omega
   obtain⟨e0,es0,rfl⟩:=AY hne;have hsz:a2=z.length:=by rw[←hlens e0 (by simp)];exact(a0.hs e0 (by simp)).symm
   subst hsz;rw[if_neg (by omega)];have:=(a0.part h1 h2).CD (c:=m-l) (by rw[a1];omega);rw[a1]at this
   simpa [xe]using this
theorem Ho {t:TypeId} {x:Operand} {lo hi mx:Option Operand} (h:Conc C B F0 w0 F loc st a w):RS C B F0 w0 st a w ⟨dst,.slice t x lo hi mx,ty,pos,after,g⟩ (ZU C.P t st.objs (ev st x) (xF (ev st) lo) (xF (ev st) hi) (xF (ev st) mx)):=by
 simp only[ZU];have hx:=(qO h x).1;split
 ·rename_i hu;split
  ·rename_i s hv;rw[hv]at hx;have hs:=vo hx;split
   ·rename_i l r hl hr;have a5:=z6 h hl;have a2:=z6 h hr;split
    ·rename_i hm;have a4:mx=none:=by cases mx with|none=>rfl|some y=>simp[xF]at hm
     subst a4;rintro⟨h0,h1,h2⟩;have hb:=j1 (P:=C.P) (w:=w) (sl:=false) (len:=s.length) (cap:=s.length) a5 a2 h0 h1 h2 (BX _);refine xa h (x:= .string ⟨⟨(s.take r.toNat).drop l.toNat⟩⟩) ?_ (CD.str _) trivial;have hsz:(⟨⟨s⟩⟩:ByteArray).size=s.length:=rfl;have a7:(⟨⟨s⟩⟩:ByteArray).extract l.toNat r.toNat=⟨⟨(s.take r.toNat).drop l.toNat⟩⟩:=by apply ByteArray.ext;apply Aa;simp only[ByteArray.data_extract,Ad,AZ];rw[List.drop_take]
     simp[execOp,Aw,qP hu,Ax,hs,hsz,hb,a7]
    ·trivial
   ·trivial
  ·trivial
 ·rename_i e hu;split
  ·rename_i z es us hz hel;obtain⟨hfz,hcd⟩:=TV h hel hx;have ac:∀(l r m:Int) (c0:∀(F':Nat→Prop) ad c,CD w F' (.sl es) (a.eval x)→a.eval x= .slice ad es.length c→es.length≤c→∃mm:Nat,mm≤c∧r.toNat≤mm∧(Au true es.length c (lo.map a.eval) (hi.map a.eval) (mx.map a.eval)).run C.P w= .ok (l.toNat,r.toNat,mm) w),
    0≤l→l≤r→r≤es.length→lens z.length es→Does C B F0 w0 ⟨dst,.slice t x lo hi mx,ty,pos,after,g⟩ a w (st.put dst (.c (.sl ((es.take r.toNat).drop l.toNat))) us):=by
    intro l r m c0 h0 h1 h2 a3;obtain⟨F',hc',hF',hb'⟩:=h.freezes hfz st.dirty;have a0:=hcd F' hF' hb';obtain⟨ad,c,aa,a6,_⟩:=a0.slice_inv;obtain⟨mm,hm1,hm2,a9⟩:=c0 F' ad c a0 aa a6;obtain⟨ad',c',a1,_,a8⟩:=Lf (C:=C) (l:=l.toNat) (r:=r.toNat) (m:=mm) a0 hz a3 (by omega) (by omega) hm2;rw[aa]at a1;simp only[Value.slice.injEq]at a1;obtain⟨rfl,_,rfl⟩:=a1;refine⟨_,_,w,?_,.inl rfl,F',loc,(hc'.pure (dst:=dst) (v:= .c (.sl ((es.take r.toNat).drop l.toNat))) (a8 hm1) trivial).redirty⟩;have h3:=xp hz w;simp[execOp,Aw,qP hu,Ax,aa,a9,h3]
   split
   ·rename_i l r hl hr;have a5:=z6 h hl;have a2:=z6 h hr;split
    ·rename_i hm;have a4:mx=none:=by cases mx with|none=>rfl|some y=>simp[xF]at hm
     subst a4;rintro⟨h0,h1,h2,h3⟩;exact ac l r 0 (fun F' ad c _ _ a6=>⟨c,BX _,by omega,j1 (P:=C.P) a5 a2 h0 h1 h2 a6⟩) h0 h1 h2 h3
    ·rename_i mv hm;split
     ·rename_i m _ ab hh;rw[←hm]at ab;rcases z6 h ab with⟨a4,_⟩|hm'
      ·subst a4;simp[xF]at hm
      rcases a2 with⟨hhi,_⟩|a2
      ·subst hhi;simp[xF]at hh
      ·rintro⟨h0,h1,h2,h3,h4⟩;exact ac l r m (fun F' ad c _ _ a6=>⟨m.toNat,by omega,by omega,K6 (P:=C.P) a5 a2 hm' h0 h1 h2 (by omega)⟩) h0 h1 (by omega) h4
     ·trivial
   ·trivial
  ·trivial
 ·trivial
theorem Hp {t:TypeId} {x:Operand} {lo hi mx:Option Operand} (h:Conc C B F0 w0 F loc st a w):RS C B F0 w0 st a w ⟨dst,.slice t x lo hi mx,ty,pos,after,g⟩ (ZV C.P t st.objs (ev st x) (xF (ev st) lo) (xF (ev st) hi) (xF (ev st) mx)):=by
 unfold ZV;split
 ·exact Ho h
 ·rename_i a0;have hv:ev st x= .nilS:=by
   cases hq:ev st x<;>rw[hq]at a0<;>simp[nilB]at a0 ⊢
  split
  ·rename_i e hu hm;split
   ·rename_i z l r hz hl hr;have hmx:mx=none:=by cases mx with|none=>rfl|some y=>simp[xF]at hm
    subst hmx;rintro⟨h0,h1,h2⟩;have hx:=(qO h x).1;rw[hv]at hx;have hx:a.eval x= .slice none 0 0:=hx;have hl':=z6 h hl;have hr':=z6 h hr;have hb:=j1 (P:=C.P) (w:=w) (sl:=true) (len:=0) (cap:=0) hl' hr' h0 h1 h2 (BX _);refine xa h (x:= .slice none 0 0) ?_ rfl trivial;have h3:=xp hz w;have e1:l.toNat=0:=by omega
    have e2:r.toNat=0:=by omega
    rw[e1,e2]at hb;simp[execOp,Aw,qP hu,Ax,hx,hb,h3]
   ·trivial
  ·trivial
theorem Ou {t:TypeId} {x:Operand} {lo hi mx:Option Operand} (h:Conc C B F0 w0 F loc st a w):RS C B F0 w0 st a w ⟨dst,.slice t x lo hi mx,ty,pos,after,g⟩ (Kr C.P t st.objs (ev st x) (xF (ev st) lo) (xF (ev st) hi) (xF (ev st) mx)):=by
 unfold Kr;have hx:=qO h x;split
 ·rename_i e hu;split
  ·rename_i z k hz hv;rw[hv]at hx;split
   ·rename_i s es fz hk;split
    ·rename_i a5 a3;have a5:lo=none:=by cases lo with|none=>rfl|some y=>simp[xF]at a5
     have a3:mx=none:=by cases mx with|none=>rfl|some y=>simp[xF]at a3
     subst a5 a3;split
     ·rename_i r hs hr;have hs:s=z.length:=Cc hs;have a7:=z6 h hr;rintro⟨h0,h2,h3⟩;have a1:=h.objs k;rw[hk]at a1;rcases hx.1 s es fz hk with⟨b,c,a0,a8⟩|⟨_,rfl,_⟩
      ·obtain⟨_,_,_,a1⟩:=a1;rcases a1 with⟨h5,_⟩|⟨b',c',cs,t',h5,_,_,_,a4,_⟩
       ·rw[h5]at a0;simp at a0
       rw[h5]at a0;simp only[Cq,Cr]at a0;obtain⟨rfl,rfl⟩:=a0;have a2:=j1 (P:=C.P) (w:=w) (sl:=true) (len:=es.length) (cap:=c') (lo:=none) (l:=0) (.inl ⟨rfl,rfl⟩) a7 (by omega) (by omega) h2 a4.1;simp only[Option.map_none]at a2;have h3':=xp hz w;refine xa h (x:= .slice (some ⟨b',0,none⟩) r.toNat c') ?_ (fun s' es' fz' hc=>?_) hx.2
       ·have a6:c'≠0:=by omega
        simp[execOp,Aw,qP hu,Ax,a8,a2,h3',a6,xe]
       ·rw[hk]at hc;simp only[An]at hc;obtain⟨rfl,rfl,rfl⟩:=hc;exact⟨b',c',h5,by omega,by simp⟩
      ·simp at h3
     ·trivial
    split
    ·rename_i l r hs hl hr hm;have hs:s=z.length:=Cc hs;have a3:mx=none:=by cases mx with|none=>rfl|some y=>simp[xF]at hm
     subst a3;have hl':=z6 h hl;have a7:=z6 h hr;rintro⟨h0,h1,h2⟩;have a1:=h.objs k;rw[hk]at a1;rcases hx.1 s es fz hk with⟨b,c,a0,a8⟩|⟨_,rfl,_⟩
     ·obtain⟨_,_,_,a1⟩:=a1;rcases a1 with⟨h5,_⟩|⟨b',c',cs,t',h5,_,_,_,a4,_⟩
      ·rw[h5]at a0;simp at a0
      rw[h5]at a0;simp only[Cq,Cr]at a0;obtain⟨rfl,rfl⟩:=a0;have a2:=j1 (P:=C.P) (w:=w) (sl:=true) (len:=es.length) (cap:=c') hl' a7 h0 (by omega) h2 a4.1;have h3:=xp hz w;refine xa h (x:= .slice (some ⟨b',l.toNat*s,none⟩) (r.toNat-l.toNat) (c'-l.toNat)) ?_ (fun s' es' fz' hc=>?_) hx.2
      ·have a6:c'≠l.toNat:=by omega
       simp[execOp,Aw,qP hu,Ax,a8,a2,h3,hs,a6,xe]
      ·rw[hk]at hc;simp only[An]at hc;obtain⟨rfl,rfl,rfl⟩:=hc;exact⟨b',c',h5,by omega,rfl⟩
     ·simp at h2;omega
    ·trivial
   ·trivial
  ·trivial
 ·trivial
theorem Lg {t:TypeId} {x:Operand} {lo hi mx:Option Operand} (h:Conc C B F0 w0 F loc st a w):RS C B F0 w0 st a w ⟨dst,.slice t x lo hi mx,ty,pos,after,g⟩ (xc C ⟨dst,.slice t x lo hi mx,ty,pos,after,g⟩ (ev st) st.objs):=by
 simp only[xc];split
 ·rename_i g' hg;have hv:ev st x= .gl g' 0:=by
   unfold Ns at hg;split at hg
   ·rename_i hv;simp only[Cq]at hg;rw[hv,hg]
   ·simp at hg
  have hx:=(qO h x).1;rw[hv]at hx;have hx:a.eval x= .pointer (some ⟨g',0,none⟩):=hx;unfold Hg;split
  ·rename_i len e hu a2 a0 a3;have a2:lo=none:=by cases lo with|none=>rfl|some y=>simp[xF]at a2
   have a0:hi=none:=by cases hi with|none=>rfl|some y=>simp[xF]at a0
   have a3:mx=none:=by cases mx with|none=>rfl|some y=>simp[xF]at a3
   subst a2 a0 a3;split
   ·rename_i es hes;obtain⟨a4,a1,hp0⟩:=WW h hes;obtain⟨inf,q1,q2⟩:=ze (P:=C.P) (t:=e) (by omega);refine qK h (x:= .slice (some ⟨g',0,none⟩) es.length es.length) (a4.CD (BX _)) trivial ?_;simp[execOp,Aw,qP hu,Ax,hx,a1,Ao,typeInfo,q1,Az,Au,xe]
   ·trivial
  ·trivial
 ·split
  ·exact Hp h
  ·exact Ou h
end
end Eng
end

section
namespace Eng
open Go Go.RowKit
section
variable {C:Cx} {B:Bd} {F0:Nat→Prop} {w0:World} {F:Nat→Prop} {loc:Where} {st:St} {a:Act} {w:World}
variable {dst:Option Nat} {ty:TypeId} {pos:String} {after:Array Edge} {g:Option (Nat×Bool)}
theorem yQ {off:Nat}:∀(l:List Value) (k:Nat) (cells:Array Value),(l.zipIdx k).foldl (fun cs (x:Value×Nat)=>cs.setIfInBounds (off+x.2) x.1) cells=(qF cells.toList (off+k) l).toArray
 |[],_,cells=>by simp[qF]
 |v::l,k,cells=>by rw[List.zipIdx_cons,List.foldl_cons,yQ l (k+1)];simp only[qF,Array.toList_setIfInBounds,←xv];rw[show off+(k+1)=off+k+1 by omega]
theorem yR {v:Value} {off:Nat} {cells:Array Value}:v.cells.zipIdx.foldl (fun cs (x:Value×Nat)=>cs.setIfInBounds (off+x.2) x.1) cells=(qF cells.toList off v.cells.toList).toArray:=by
 have:=yQ (off:=off) v.cells.toList 0 cells;rw[Cb]at this;rw[←this,←Array.foldl_toList,Array.toList_zipIdx]
theorem yn:∀{ps:List (Nat×Operand)} {qs:List (Nat×List D)} {us:List (Nat×Obj)} (_:Conc C B F0 w0 F loc st a w) (_:xG st.objs (ev st) ps=some (qs,us)),
 Frz st.objs us∧∀F':Nat→Prop,(∀b,F b→F' b)→(∀p∈us,∀b c,loc p.1=some (b,c)→F' b)→All2 (fun q (p:Nat×Value)=>q.1=p.1∧All2 (CD w F') q.2 p.2.cells.toList) qs (ps.map fun x=>(x.1,a.eval x.2))
 |[],qs,us,h,hp=>by simp only[xG,Cq,Cr]at hp;obtain⟨rfl,rfl⟩:=hp;exact⟨Frz.nil _,fun _ _ _=>trivial⟩
 |(i,x)::ps,qs,us,h,hp=>by
  simp only[xG]at hp;split at hp
  ·rename_i ds u qs' us' h1 h2;simp only[Cq,Cr]at hp;obtain⟨rfl,rfl⟩:=hp;obtain⟨q1,q2⟩:=Yy h h1 (qO h x).1;obtain⟨r1,r2⟩:=yn h h2;exact⟨q1.append r1,fun F' hF hb=>⟨⟨rfl,q2 F' hF fun p hp=>hb p (by simp[hp])⟩,r2 F' hF fun p hp=>hb p (by simp[hp])⟩⟩
  ·simp at hp
theorem yS {F':Nat→Prop} {pl:List (Nat×Nat)} {place:Nat→Option (Nat×Nat)} (hpl:∀i p,pl[i]? =some p→place i=some p):
 ∀(qs:List (Nat×List D)) (ps:List (Nat×Value)) (cs cs':List D) (vs:Array Value),All2 (fun q (p:Nat×Value)=>q.1=p.1∧All2 (CD w F') q.2 p.2.cells.toList) qs ps→ZW pl qs cs=some cs'→All2 (CD w F') cs vs.toList→
  ∃vs':Array Value,Av place vs ps=some vs'∧All2 (CD w F') cs' vs'.toList
 |[],[],cs,cs',vs,_,hb,hv=>by simp only[ZW,Cq]at hb;subst hb;exact⟨vs,rfl,hv⟩
 |(i,ds)::qs,(i',x)::ps,cs,cs',vs,hq,hb,hv=>by
  obtain⟨⟨rfl,h1⟩,h2⟩:=hq;simp only[ZW]at hb;split at hb
  ·rename_i off size hf;split at hb
   ·rename_i hc;simp only[Af,decide_eq_true_eq]at hc;have hlen:=h1.length;have hvl:cs.length=vs.size:=by simpa using hv.length
    simp at hlen;obtain⟨vs',q1,q2⟩:=yS hpl qs ps _ cs' (qF vs.toList off x.cells.toList).toArray h2 hb (by
     rw[XO];exact All2.upds _ _ _ _ _ h1 hv)
    refine⟨vs',?_,q2⟩;simp only[Av,hpl _ _ hf];rw[if_neg (by simp;omega)];have:=yR (v:=x) (off:=off) (cells:=vs);rw[this];exact q1
   ·simp at hb
  ·simp at hb
 |[],_::_,_,_,_,hq,_,_=>hq.elim
 |_::_,[],_,_,_,hq,_,_=>hq.elim
theorem yT {F':Nat→Prop}:∀{z:List Value},(∀x∈z,x.oneCell'=true)→All2 (CD w F') (z.map xu) z
 |[],_=>trivial
 |x::z,h=>⟨w9 _ _ x (h x (by simp)),yT fun y hy=>h y (by simp[hy])⟩
theorem Hq (w:World) (F:Nat→Prop) (v:Value) (h:v.oneCell'=true):CVC loc st.objs w F (yB v) v:=by
 unfold yB;split
 ·rfl
 ·exact w9 w F v h
theorem yU:∀{z:List Value},(∀x∈z,x.oneCell'=true)→All2 (CVC loc st.objs w F) (z.map yB) z
 |[],_=>trivial
 |x::z,h=>⟨Hq _ _ x (h x (by simp)),yU fun y hy=>h y (by simp[hy])⟩
theorem XS:∀(vs:List D) (cs:List VC) (off:Nat),TI cs off vs=qF cs off (vs.map VC.d)
 |[],cs,off=>rfl
 |v::vs,cs,off=>by simp[qF,TI,XS vs]
theorem Nz {loc':Where} {objs':List Obj} {F':Nat→Prop}:∀{ds:List D} {xs:List Value},All2 (CD w F') ds xs→All2 (CVC loc' objs' w F') (ds.map VC.d) xs
 |[],[],_=>trivial
 |_::_,_::_,h=>⟨h.1,Nz h.2⟩
 |[],_::_,h=>h.elim
 |_::_,[],h=>h.elim
theorem yV {pl:List (Nat×Nat)}:∀(qs:List (Nat×List D)) (cs cs':List VC),vO pl qs cs=some cs'→zW cs=[]→zW cs'=[]
 |[],cs,cs',h,hk=>by simp only[vO,Cq]at h;subst h;exact hk
 |(i,ds)::qs,cs,cs',h,hk=>by
  simp only[vO]at h;split at h
  ·split at h
   ·refine yV qs _ cs' h ?_;rw[XS];rw[List.eq_nil_iff_forall_not_mem]at hk ⊢;intro k hk';have:=xi.1 hk';have hm:∀(l:List VC) (cs:List VC) (off:Nat) (v:VC),v∈qF cs off l→v∈cs∨v∈l:=by
     intro l
     induction l with
     |nil=>intro cs off v hv;exact .inl hv
     |cons d l ih=>
      intro cs off v hv;rcases ih _ _ _ hv with hv|hv
      ·rcases xC hv with hv|rfl
       ·exact .inl hv
       ·exact .inr (by simp)
      ·exact .inr (by simp[hv])
    rcases hm _ _ _ _ this with h1|h1
    ·exact hk k (xi.2 h1)
    ·obtain⟨_,_,e⟩:=AD.1 h1;cases e
   ·simp at h
  ·simp at h
theorem jL:∀(z:List Value),zW (z.map yB)=[]
 |[]=>rfl
 |v::z=>by
  simp only[Bx];unfold yB;split
  ·exact jL z
  ·exact jL z
theorem yW {loc':Where} {objs':List Obj} {F':Nat→Prop} {pl:List (Nat×Nat)} {place:Nat→Option (Nat×Nat)} (hpl:∀i p,pl[i]? =some p→place i=some p):
 ∀(qs:List (Nat×List D)) (ps:List (Nat×Value)) (cs cs':List VC) (vs:Array Value),All2 (fun q (p:Nat×Value)=>q.1=p.1∧All2 (CD w F') q.2 p.2.cells.toList) qs ps→vO pl qs cs=some cs'→All2 (CVC loc' objs' w F') cs vs.toList→
  ∃vs':Array Value,Av place vs ps=some vs'∧All2 (CVC loc' objs' w F') cs' vs'.toList
 |[],[],cs,cs',vs,_,hb,hv=>by simp only[vO,Cq]at hb;subst hb;exact⟨vs,rfl,hv⟩
 |(i,ds)::qs,(i',x)::ps,cs,cs',vs,hq,hb,hv=>by
  obtain⟨⟨rfl,h1⟩,h2⟩:=hq;simp only[vO]at hb;split at hb
  ·rename_i off size hf;split at hb
   ·rename_i hc;simp only[Af,decide_eq_true_eq]at hc;have hlen:=h1.length;have hvl:cs.length=vs.size:=by simpa using hv.length
    simp at hlen;obtain⟨vs',q1,q2⟩:=yW hpl qs ps _ cs' (qF vs.toList off x.cells.toList).toArray h2 hb (by
     rw[XS];exact All2.upds _ _ _ _ _ (Nz h1) hv)
    refine⟨vs',?_,q2⟩;simp only[Av,hpl _ _ hf];rw[if_neg (by simp;omega)];have:=yR (v:=x) (off:=off) (cells:=vs);rw[this];exact q1
   ·simp at hb
  ·simp at hb
 |[],_::_,_,_,_,hq,_,_=>hq.elim
 |_::_,[],_,_,_,hq,_,_=>hq.elim
theorem Lh {t:TypeId} {parts:Array (Nat×Operand)} (h:Conc C B F0 w0 F loc st a w):RS C B F0 w0 st a w ⟨dst,.build t parts,ty,pos,after,g⟩ (xc C ⟨dst,.build t parts,ty,pos,after,g⟩ (ev st) st.objs):=by
 simp only[xc];split
 ·rename_i z pl hz a1;split
  ·rename_i qs us hp;split
   ·split
    ·rename_i cs hb;obtain⟨inf,zv,hi,a7,ad,hsz,a5,_⟩:=xJ hz;obtain⟨ab,a3⟩:=yn h hp;obtain⟨F',aa,a8,a9⟩:=h.freezes ab st.dirty;have hq:=a3 F' a8 a9;have a6:All2 (CD w F') (z.map xu) zv.cells.toList:=by rw[ad];exact yT a5
     have a2:∃a0:Array Value,C.P.built t ((parts.map fun(i,x)=>(i,a.eval x)).toList)=some a0∧All2 (CD w F') cs a0.toList:=by
      have a4:(parts.map fun(i,x)=>(i,a.eval x)).toList=parts.toList.map fun x=>(x.1,a.eval x.2):=by simp
      rw[a4];unfold XK at a1;split at a1
      ·rename_i fs hu;obtain⟨a0,q1,q2⟩:=yS (w:=w) (F':=F') (pl:=pl) (place:=(pl.toArray[·]?)) (fun i p hp=>by simpa using hp) qs _ _ cs zv.cells hq hb a6;exact⟨a0,by simp only[A5,hi,hu,a7,a1];exact q1,q2⟩
      ·rename_i n e hu;split at a1
       ·rename_i ie ac;simp only[Cq]at a1;subst a1;obtain⟨a0,q1,q2⟩:=yS (w:=w) (F':=F') (place:=fun k=>some (k*ie.size,ie.size)) (fun i p hp=>by
         simp only[AJ,Cp]at hp;obtain⟨k,hk,rfl⟩:=hp;have:k=i:=by
          have:=AP (n:=n) (i:=i);rcases Ca i n with h1|h1
          ·simp[h1]at hk;exact hk.symm
          ·simp[h1]at hk
         subst this;rfl) qs _ _ cs zv.cells hq hb a6
        exact⟨a0,by simp only[A5,hi,hu,a7,ac];exact q1,q2⟩
       ·simp at a1
      ·simp at a1
     obtain⟨a0,q1,q2⟩:=a2;refine⟨_,_,w,?_,.inl rfl,F',loc,(aa.pure (dst:=dst) (v:= .ag cs) (x:= .agg a0) ⟨a0,rfl,q2⟩ trivial).redirty⟩;have hr:=run_build (P:=C.P) w t (parts.map fun(i,x)=>(i,a.eval x)) a0 q1;simp only[execOp,A8,hr,A7];rfl
    ·trivial
   ·split
    ·rename_i cs hb;obtain⟨inf,zv,hi,a7,ad,hsz,a5,_⟩:=xJ hz;obtain⟨ab,a3⟩:=yn h hp;obtain⟨F',aa,a8,a9⟩:=h.freezes ab st.dirty;have hq:=a3 F' a8 a9;have a6:All2 (CVC loc (upds st.objs us) w F') (z.map yB) zv.cells.toList:=by rw[ad];exact yU (st:=⟨st.tmps,upds st.objs us,st.dirty⟩) a5
     have a2:∃a0:Array Value,C.P.built t ((parts.map fun(i,x)=>(i,a.eval x)).toList)=some a0∧All2 (CVC loc (upds st.objs us) w F') cs a0.toList:=by
      have a4:(parts.map fun(i,x)=>(i,a.eval x)).toList=parts.toList.map fun x=>(x.1,a.eval x.2):=by simp
      rw[a4];unfold XK at a1;split at a1
      ·rename_i fs hu;obtain⟨a0,q1,q2⟩:=yW (loc':=loc) (objs':=upds st.objs us) (w:=w) (F':=F') (pl:=pl) (place:=(pl.toArray[·]?)) (fun i p hp=>by simpa using hp) qs _ _ cs zv.cells hq hb a6;exact⟨a0,by simp only[A5,hi,hu,a7,a1];exact q1,q2⟩
      ·rename_i n e hu;split at a1
       ·rename_i ie ac;simp only[Cq]at a1;subst a1;obtain⟨a0,q1,q2⟩:=yW (loc':=loc) (objs':=upds st.objs us) (w:=w) (F':=F') (place:=fun k=>some (k*ie.size,ie.size)) (fun i p hp=>by
         simp only[AJ,Cp]at hp;obtain⟨k,hk,rfl⟩:=hp;have:k=i:=by
          have:=AP (n:=n) (i:=i);rcases Ca i n with h1|h1
          ·simp[h1]at hk;exact hk.symm
          ·simp[h1]at hk
         subst this;rfl) qs _ _ cs zv.cells hq hb a6
        exact⟨a0,by simp only[A5,hi,hu,a7,ac];exact q1,q2⟩
       ·simp at a1
      ·simp at a1
     obtain⟨a0,q1,q2⟩:=a2;refine⟨_,_,w,?_,.inl rfl,F',loc,(aa.pure (dst:=dst) (v:= .agv cs) (x:= .agg a0) ⟨a0,rfl,q2⟩ (fun k hk=>by rw[yV _ _ _ hb (jL z)]at hk;simp at hk)).redirty⟩;have hr:=run_build (P:=C.P) w t (parts.map fun(i,x)=>(i,a.eval x)) a0 q1;simp only[execOp,A8,hr,A7];rfl
    ·trivial
  ·trivial
 ·trivial
end
end Eng
end

section
namespace Eng
open Go Go.RowKit
section
variable {C:Cx} {B:Bd} {F0:Nat→Prop} {w0:World} {F:Nat→Prop} {loc:Where} {st:St} {a:Act} {w:World}
variable {dst:Option Nat} {ty:TypeId} {pos:String} {after:Array Edge} {g:Option (Nat×Bool)}
theorem ja {α β:Type} {R:α→β→Prop} (d:α) (e:β):∀{as:List α} {bs:List β},as.length=bs.length→(∀i,i<as.length→R (nth d as i) (nth e bs i))→All2 R as bs
 |[],[],_,_=>trivial
 |a::as,b::bs,hl,h=>⟨h 0 (by simp),ja d e (by simpa using hl) fun i hi=>h (i+1) (by simpa using hi)⟩
 |[],_::_,hl,_=>by simp at hl
 |_::_,[],hl,_=>by simp at hl
theorem Xd {α:Type}:∀(ds l p:List α),l.length=ds.length→qF (p++l) p.length ds=p++ds
 |[],l,p,h=>by have:l=[]:=AF h;subst this;simp[qF]
 |d::ds,[],p,h=>by simp at h
 |d::ds,x::l,p,h=>by
  simp only[qF];have h1:upd (p++x::l) p.length d=(p++[d])++l:=by rw[xv,List.set_append_right _ _ (BX _)];simp
  rw[h1];have:=Xd ds l (p++[d]) (by simpa using h);rw[A9]at this;simp only[AL,AM,BV]at this;rw[this];simp
theorem qm {size:Nat}:∀{es:List (List D)},(∀e∈es,e.length=size)→es.flatten.length=es.length*size
 |[],_=>by simp
 |e::es,h=>by rw[AV,A9,h e (by simp),qm fun e he=>h e (by simp[he]),AL,Cm];omega
theorem Xe {F':Nat→Prop} {size:Nat}:
 ∀(qs:List (Nat×List D)) (ps:List (Nat×Value)) (es es':List (List D)) (vs:Array Value),All2 (fun q (p:Nat×Value)=>q.1=p.1∧All2 (CD w F') q.2 p.2.cells.toList) qs ps→yD size qs es=some es'→
  (∀e∈es,e.length=size)→All2 (CD w F') es.flatten vs.toList→
  ∃vs':Array Value,Av (fun i=>some (i*size,size)) vs ps=some vs'∧All2 (CD w F') es'.flatten vs'.toList∧(∀e∈es',e.length=size)∧es'.length=es.length
 |[],[],es,es',vs,_,hb,hs,hv=>by simp only[yD,Cq]at hb;subst hb;exact⟨vs,rfl,hv,hs,rfl⟩
 |(i,ds)::qs,(i',x)::ps,es,es',vs,hq,hb,hs,hv=>by
  obtain⟨⟨rfl,h1⟩,h2⟩:=hq;simp only[yD]at hb;split at hb
  ·rename_i hc;simp only[Af,decide_eq_true_eq]at hc;obtain⟨hc1,hc2⟩:=hc;have hlen:=h1.length;simp at hlen;have hvl:=hv.length;rw[qm hs]at hvl;simp at hvl;have hfl:=wi es hs i 0 ds hc2 (by omega);have hfull:qF (nth [] es i) 0 ds=ds:=by
    have:=Xd ds (nth [] es i) [] (by rw[qn _ hc2,hs _ (BS hc2),hc1])
    simpa using this
   rw[hfull,Cb]at hfl;obtain⟨vs',q1,q2,q3,q4⟩:=Xe (F':=F') (size:=size) qs ps (upd es i ds) es' (qF vs.toList (i*size) x.cells.toList).toArray h2 hb (by
    intro e he;rcases xC he with he|rfl
    ·exact hs e he
    ·exact hc1) (by rw[hfl];exact All2.upds _ _ _ _ _ h1 hv)
   refine⟨vs',?_,q2,q3,by rw[q4,qi]⟩;have hle:=Je (s:=size) (m:=size-1) hc2;simp only[Av];rw[if_neg (by
    have h5:(i+1)*size≤es.length*size:=BW _ hc2;rw[Cm]at h5;simp;omega)]
   have:=yR (v:=x) (off:=i*size) (cells:=vs);rw[this];exact q1
  ·simp at hb
 |[],_::_,_,_,_,hq,_,_,_=>hq.elim
 |_::_,[],_,_,_,hq,_,_,_=>hq.elim
theorem K7 {F':Nat→Prop} {z:Array Value} {n:Nat} (h0:0<z.size) (hone:∀x∈z.toList,x.oneCell'=true):
 All2 (CD w F') (AA n (z.toList.map xu)).flatten ((Ab (n*z.size)).map (z[· %z.size]!)).toList:=by
 have hs:∀e∈AA n (z.toList.map xu),e.length=z.size:=fun e he=>by rw[AE he];simp
 refine ja .undef undef ?_ fun j hj=>?_
 ·rw[qm hs];simp
 ·rw[qm hs,AH]at hj;have hm:=Cj j h0;have hq:j/z.size<n:=Cd (by rw[BZ];exact hj);have hjq:j=j/z.size*z.size+j%z.size:=by rw[BZ];exact(Cf j z.size).symm
  have h1:nth .undef (AA n (z.toList.map xu)).flatten j=xu z[j%z.size]:=by
   conv=>lhs;rw[hjq]
   have hE:nth [] (AA n (z.toList.map xu)) (j/z.size)=z.toList.map xu:=by rw[qn _ (by simpa using hq)];simp
   rw[x7 hs _ _ (by simpa using hq) hm,hE,qn _ (by simpa using hm)];simp
  have h2:nth undef ((Ab (n*z.size)).map (z[· %z.size]!)).toList j=z[j%z.size]:=by rw[qn _ (by simpa using hj)];simp[hm]
  rw[h1,h2];exact w9 _ _ _ (hone _ (by simp))
theorem XT {d s:Nat} {es:List (List D)} {cs:Array Value} {e:TypeId} {cap:Nat} (h:Conc C B F0 w0 F loc st a w) (hd:qq st.objs d=true) (hroom:room es.length) (hs0:0<s) (hs:∀x∈es,x.length=s)
 (hcap:es.length≤cap∧cap≤9223372036854775807) (hsz:cs.size=cap*s) (hcs:∀j,j<es.length*s→∃v,cs[j]? =some v∧CD w F (nth .undef es.flatten j) v) (hty:C.P.cellsOf e=s):
 Conc C B F0 w0 F (at_ loc d (w.heap.size,cap) e) (st.put dst (.arr d) [(d,.arr s es false)]) (a.put dst (.slice (some ⟨w.heap.size,0,none⟩) es.length cap)) (w.alloc (.cells cs e)):=by
 obtain⟨_,a0⟩:=qE hd;refine h.new hd ⟨hroom,hs0,hs,.inr ⟨w.heap.size,cap,cs,e,by simp[at_],?_,by show(w.heap.push _)[w.heap.size]? =_;simp,hsz,hcap,fun j hj=>?_,(by show loc.P.cellsOf e=s;rw[h.prog];exact hty),by simp[at_]⟩⟩ ?_ ?_
 ·show ¬F w.heap.size;intro hF;have:=h.bound _ hF;omega
 ·obtain⟨v,h1,h2⟩:=hcs j hj;exact⟨v,h1,h2.mono (fun _ h=>h) fun b hb=>Below.heap_alloc _ _ _ (h.bound b hb)⟩
 ·intro s' es' fz' hc;rw[qb _ _ _ a0]at hc;simp only[An]at hc;obtain⟨rfl,rfl,rfl⟩:=hc;exact .inl ⟨w.heap.size,cap,by simp[at_],rfl⟩
 ·show nth .none (upd st.objs d (.arr s es false)) d≠ .none;rw[qb _ _ _ a0];simp
theorem wF {P:Program} {t e:TypeId} (h:Kp P t=some e):P.underlying t=some (.slice e):=by
 unfold Kp at h;split at h
 ·rename_i e' hu;simp only[Cq]at h;subst h;exact hu
 ·simp at h
theorem jo {d:Nat}:∀{us:List (Nat×Obj)} {objs:List Obj},Frz objs us→qq objs d=true→qq (upds objs us) d=true
 |[],_,_,h=>h
 |(k,o)::us,objs,hf,h=>by
  obtain⟨s,es,fz,h1,h2⟩:=hf (k,o) (by simp);simp only at h1 h2;subst h2;refine jo (us:=us) (objs:=upd objs k (.arr s es true)) (Frz.step h1 fun p hp=>hf p (by simp[hp])) ?_;obtain⟨q1,q2⟩:=qE h;have hkd:k≠d:=by rintro rfl;rw[h1]at q1;simp at q1
  unfold qq;rw[qa _ _ _ hkd,qn _ q2];rw[qn _ q2]at q1;rw[q1]
theorem zr:∀(us us':List (Nat×Obj)) (objs:List Obj),upds objs (us++us')=upds (upds objs us) us'
 |[],_,_=>rfl
 |(k,o)::us,us',objs=>zr us us' (upd objs k o)
theorem XU {t:TypeId} {len:Nat} {parts:Array (Nat×Operand)} (h:Conc C B F0 w0 F loc st a w):RS C B F0 w0 st a w ⟨dst,.buildSlice t len parts,ty,pos,after,g⟩ (xc C ⟨dst,.buildSlice t len parts,ty,pos,after,g⟩ (ev st) st.objs):=by
 simp only[xc];split
 ·rename_i d;split
  ·rename_i e hd he;split
   ·rename_i z qs us hz hp;split
    ·rename_i es hb;split
     ·rename_i hc;simp only[Af,decide_eq_true_eq]at hc;obtain⟨hc1,a9⟩:=hc;obtain⟨inf,zv,hi,hzv,ae,hsz,aa,_⟩:=xJ hz;obtain⟨af,a8⟩:=yn h hp;obtain⟨F',hc',hF',hb'⟩:=h.freezes af st.dirty;have hq:=a8 F' hF' hb';have ag:zv.cells.size=z.length:=by rw[←ae];simp
      have a1:=K7 (w:=w) (F':=F') (z:=zv.cells) (n:=len) (by omega) (by rw[ae];exact aa);rw[ae,ag]at a1;obtain⟨a4,q1,q2,q3,q4⟩:=Xe (F':=F') (size:=z.length) qs _ (AA len (z.map xu)) es _ hq hb (fun e he=>by rw[AE he];simp) a1;rw[AH]at q4;have a6:(parts.map fun(i,x)=>(i,a.eval x)).toList=parts.toList.map fun x=>(x.1,a.eval x.2):=by simp
      have a3:¬(len*z.length>2^24):=by omega
      have a7:=xp hz w;have a0:Av (fun i=>some (i*z.length,z.length)) ((Ab (len*z.length)).map (zv.cells[· %zv.cells.size]!)) ((parts.map fun(i,x)=>(i,a.eval x)).toList)=some a4:=by rw[a6,ag];exact q1
      have ac:(execOp a.eval ⟨some d,.buildSlice t len parts,ty,pos,after,g⟩).run C.P w= .ok (.value (.slice (some ⟨w.heap.size,0,none⟩) es.length es.length)) (w.alloc (.cells a4 e)):=by
       rw[q4];by_cases h0:len*z.length=0
       ·have hr0:((Ab (len*z.length)).map (zv.cells[· %zv.cells.size]!))= #[]:=by rw[h0];simp
        rw[hr0]at a0;have hl0:len=0:=by
         rcases Nat.mul_eq_zero.1 h0 with h1|h1
         ·exact h1
         ·omega
        subst hl0;have a2:Av (fun i=>some (i*z.length,z.length)) #[] (parts.toList.map fun x=>(x.1,a.eval x.2))=some a4:=by rw[a6]at a0;exact a0
        simp[execOp,A1,qP (wF he),a7,Array.range_zero',a2,newRow]
       ·simp only[execOp,A1,A8,qP (wF he),A7,a7,if_neg a3,if_neg h0];have hzr:(zeroValue e).run C.P w= .ok zv w:=by simp[zeroValue,typeInfo,hi,hzv]
        simp only[A8,hzr,A7,Sem.run_pure,a0];simp[newRow]
      have ad:=q2.length;rw[qm q3]at ad;simp at ad;have a5:=XT (dst:=some d) (st:=⟨st.tmps,upds st.objs us,st.dirty⟩) (d:=d) (s:=z.length) (es:=es) (cs:=a4) (e:=e) (cap:=es.length) hc' (jo (objs:=st.objs) af hd) (by unfold room;rw[q4];have:len*1≤len*z.length:=Ch _ a9;omega) a9 q3 ⟨BX _,by rw[q4];have:len*1≤len*z.length:=Ch _ a9;omega⟩ ad.symm (fun j hj=>by
       refine⟨nth undef a4.toList j,?_,q2.nth .undef undef _ _ j (by rw[qm q3];exact hj)⟩;rw[qn _ (by simp;omega)];simp[show j<a4.size by omega])
      refine⟨_,_,_,ac,.inl rfl,F',at_ loc d (w.heap.size,es.length) e,?_⟩;have ab:(⟨st.tmps,upds st.objs us,st.dirty⟩:St).put (some d) (.arr d) [(d,.arr z.length es false)]=⟨(st.put (some d) (.arr d) (us++[(d,.arr z.length es false)])).tmps,(st.put (some d) (.arr d) (us++[(d,.arr z.length es false)])).objs,d::st.dirty⟩:=by simp only[St.put,zr];rfl
      rw[ab]at a5;exact(a5 (wa hz)).redirty
     ·trivial
    ·trivial
   ·trivial
  ·trivial
 ·trivial
theorem Jj {t:TypeId} {x y:Operand} (h:Conc C B F0 w0 F loc st a w):RS C B F0 w0 st a w ⟨dst,.makeSlice t x y,ty,pos,after,g⟩ (xc C ⟨dst,.makeSlice t x y,ty,pos,after,g⟩ (ev st) st.objs):=by
 simp only[xc];have hx:=(qO h x).1;have hy:=(qO h y).1;split
 ·rename_i d;split
  ·rename_i e hd he;split
   ·rename_i z l c hz hvx hvy;rw[hvx]at hx;rw[hvy]at hy;split
    ·rename_i hc;simp only[Af,decide_eq_true_eq]at hc;obtain⟨hc1,a9⟩:=hc;rintro⟨h0,h1,h2⟩;obtain⟨a1,zv,hi,hzv,a8,aa,a5,_⟩:=xJ hz;unfold room at h2;have hby:C.P.bytesOf e=a1.bytes:=by simp[A6,hi]
     have hmul:(a1.bytes:Int)*c≤4096*1073741824:=by
      have h3:(a1.bytes:Int)≤4096:=by omega
      have h4:c≤1073741824:=by omega
      exact Int.mul_le_mul h3 h4 (by omega) (by omega)
     have hr:=run_make (P:=C.P) w t e a1 zv (wF he) hi hzv .i64 .i64 l c h0 h1 (by omega) (by omega);have a6:(execOp a.eval ⟨some d,.makeSlice t x y,ty,pos,after,g⟩).run C.P w= .ok (.value (.slice (some ⟨w.heap.size,0,none⟩) l.toNat c.toNat)) (w.alloc (.cells (madeCells zv.cells (c.toNat*a1.size)) e)):=by simp[execOp,ko hx,ko hy,hr]
     have hzs:zv.cells.size=z.length:=by rw[←a8];simp
     have a0:=K7 (w:=w) (F':=F) (z:=zv.cells) (n:=c.toNat) (by omega) (by rw[a8];exact a5);rw[a8]at a0;have a3:(AA l.toNat (z.map xu)).length=l.toNat:=by simp
     have a7:∀n,∀e∈AA n (z.map xu),e.length=z.length:=fun n e he=>by rw[AE he];simp
     have a2:=XT (dst:=some d) (d:=d) (s:=z.length) (es:=AA l.toNat (z.map xu)) (cs:=madeCells zv.cells (c.toNat*a1.size)) (e:=e) (cap:=c.toNat) h hd (by unfold room;rw[a3];omega) a9 (a7 _) (by rw[a3];omega)
      (by rw[size_madeCells,aa]) (fun j hj=>by
       rw[a3]at hj;have a4:j<c.toNat*z.length:=Nat.lt_of_lt_of_le hj (BW _ (by omega));have h5:=a0.nth .undef undef _ _ j (by rw[qm (a7 _),AH];exact a4);refine⟨nth undef ((Ab (c.toNat*zv.cells.size)).map (zv.cells[· %zv.cells.size]!)).toList j,?_,?_⟩
       ·unfold madeCells;rw[aa,hzs,qn _ (by simpa using a4)];simp[a4]
       ·have hm:=Cj j a9;have hjq:j=j/z.length*z.length+j%z.length:=by rw[BZ];exact(Cf j z.length).symm
        have hq1:j/z.length<l.toNat:=Cd (by rw[BZ];exact hj);have hq2:j/z.length<c.toNat:=by omega
        have hE:∀n,j/z.length<n→nth .undef (AA n (z.map xu)).flatten j=nth .undef (z.map xu) (j%z.length):=fun n hn=>by
         have hE1:nth [] (AA n (z.map xu)) (j/z.length)=z.map xu:=by rw[qn _ (by simpa using hn)];simp
         conv=>lhs;rw[hjq]
         rw[x7 (a7 _) _ _ (by simpa using hn) hm,hE1]
        have:nth .undef (AA l.toNat (z.map xu)).flatten j=nth .undef (AA c.toNat (z.map xu)).flatten j:=by rw[hE _ hq1,hE _ hq2]
        rw[this];exact h5)
     rw[a3]at a2;exact⟨_,_,_,a6,.inl rfl,F,_,a2 (wa hz)⟩
    ·trivial
   ·trivial
  ·trivial
 ·trivial
end
end Eng
end

section
namespace Eng
open Go Go.RowKit
section
variable {C:Cx} {B:Bd} {F0:Nat→Prop} {w0:World} {F:Nat→Prop} {loc:Where} {st:St} {a:Act} {w:World}
variable {dst:Option Nat} {ty:TypeId} {pos:String} {after:Array Edge} {g:Option (Nat×Bool)}
theorem WX {d s:Nat} (h:Conc C B F0 w0 F loc st a w) (hd:qq st.objs d=true) (hs0:0<s):
 Conc C B F0 w0 F loc (st.put dst (.arr d) [(d,.arr s [] false)]) (a.put dst (.slice none 0 0)) w:=by
 obtain⟨a0,a2⟩:=qE hd;have a1:loc d=none:=by have:=h.objs d;rw[a0]at this;exact this
 have a3:Le st.objs (upd st.objs d (.arr s [] false)) loc loc:=by
  refine⟨rfl,fun _ _=>rfl,fun k hk=>?_,fun k o' hk hc hbx=>?_,fun k s' es' fz' hk hc=>?_⟩
  ·by_cases hkd:d=k
   ·subst hkd;exact absurd a0 hk
   ·rw[qa _ _ _ hkd];exact hk
  ·by_cases hkd:d=k
   ·subst hkd;exact absurd a0 hk
   ·rw[qa _ _ _ hkd]at hc;exact⟨by rw[hc];exact hbx,rfl⟩
  ·by_cases hkd:d=k
   ·subst hkd;exact absurd a0 hk
   ·rw[qa _ _ _ hkd]at hc;exact⟨⟨_,_,hc,rfl⟩,rfl⟩
 refine h.step (up:=[(d,.arr s [] false)]) (loc':=loc) (fun _ h=>h) (fun _ _=>rfl) a3 h.below h.hB (fun k=>?_) h.inj h.fresh h.bound h.fsub ?_ ?_
 ·show CO _ (upd st.objs d (.arr s [] false)) _ _ _ (nth .none (upd st.objs d (.arr s [] false)) k);by_cases hk:d=k
  ·subst hk;rw[qb _ _ _ a2];exact⟨by simp[room],hs0,by simp,.inl ⟨a1,rfl⟩⟩
  ·rw[qa _ _ _ hk];exact CO.le (fun _ h=>h) (fun _ _=>rfl) a3 rfl rfl (fun b c hb=>⟨rfl,fun h=>h⟩) (h.objs k)
 ·intro s' es' fz' hc;show _∨_;rw[show upds st.objs [(d,.arr s [] false)]=upd st.objs d (.arr s [] false)from rfl,qb _ _ _ a2]at hc;simp only[An]at hc;obtain⟨rfl,rfl,rfl⟩:=hc;exact .inr ⟨a1,rfl,rfl⟩
 ·show nth .none (upd st.objs d (.arr s [] false)) d≠ .none;rw[qb _ _ _ a2];simp
theorem RA {v:V} {x:Value} {ys:List (List D)} {us:List (Nat×Obj)} (h:Conc C B F0 w0 F loc st a w) (hc:kM st.objs v=some (ys,us)) (hv:CV loc st.objs w F v x):
 ∃ad c,x= .slice ad ys.length c∧(ys=[]∨∃b o size,ad=some ⟨b,o,none⟩∧(∀e∈ys,e.length=size)∧∀j,j<ys.length*size→∃u,w.cell? ⟨b,o+j,none⟩=some u∧CD w F (nth .undef ys.flatten j) u):=by
 unfold kM at hc;split at hc
 ·simp only[Cq,Cr]at hc;obtain⟨rfl,rfl⟩:=hc;obtain⟨ad,c,h1,_,h2⟩:=Am (hv:CD w F _ _);refine⟨ad,c,h1,?_⟩;rcases h2 with h2|⟨b,o,size,h2,h3⟩
  ·exact .inl h2
  ·exact .inr ⟨b,o,size,h2,h3.hs,h3.hc⟩
 ·simp only[Cq,Cr]at hc;obtain⟨rfl,rfl⟩:=hc;exact⟨none,0,hv,.inl rfl⟩
 ·rename_i k;split at hc
  ·rename_i s es' fz hk;simp only[Cq,Cr]at hc;obtain⟨rfl,rfl⟩:=hc;have h0:=h.objs k;rw[hk]at h0;obtain⟨_,_,hs,h4⟩:=h0;rcases hv s es' fz hk with⟨b,c,q1,rfl⟩|⟨q1,rfl,rfl⟩
   ·rcases h4 with⟨h4,rfl⟩|⟨b',c',cs,t,h4,h5,h6,h7,h8,h9⟩
    ·exact⟨_,c,rfl,.inl rfl⟩
    ·rw[h4]at q1;simp only[Cq,Cr]at q1;obtain⟨rfl,rfl⟩:=q1;refine⟨_,c',rfl,.inr ⟨b',0,s,rfl,hs,fun j hj=>?_⟩⟩;obtain⟨u,r1,r2⟩:=h9.1 j hj;exact⟨u,by rw[xU h6,BV];exact r1,r2⟩
   ·exact⟨none,0,rfl,.inl rfl⟩
  ·simp at hc
 ·simp at hc
theorem zI {P:Program} {t e ty:TypeId} {z:List Value} (ht:P.underlying t=some (.slice e)) (hz:zC P e=some z) (base:Option Addr) (sLen sCap:Nat) (hle:sLen≤sCap) (ad:Option Addr) (c:Nat) (w:World):
 (Aq #[t,t] ty #[.slice base sLen sCap,.slice ad 0 c]).run P w= .ok (.slice base sLen sCap) w:=by
 have h2:=xp hz w;have h3:∀x:Addr,(loadCells x 0).run P w= .ok #[] w:=fun x=>rfl
 cases base<;>cases ad<;>simp[Aq,qP ht,h2,As,Builtin.firstCells,hle,storeCells,h3]
theorem QP {P:Program} {t e ty t':TypeId} {inf:TypeInfo} (ht:P.underlying t=some (.slice e)) (hi:P.info? e=some inf) {b sLen sCap:Nat} {cur:Array Value} (hg:w.heap[b]? =some (.cells cur t' (0,0)))
 (ad:Addr) (m c:Nat) (news:List Value) (hl:news.length=m*inf.size) (hnews:∀j u,news[j]? =some u→w.cell? (ad.add j)=some u) (h1:∀u∈news,u.oneCell'=true)
 (hroom:sLen+m≤sCap) (hfit:sLen*inf.size+news.length≤cur.size):
 (Aq #[t,t] ty #[.slice (some ⟨b,0,none⟩) sLen sCap,.slice (some ad) m c]).run P w=
  .ok (.slice (some ⟨b,0,none⟩) (sLen+m) sCap) (setBlk w b (.cells (qF cur.toList (sLen*inf.size) news).toArray t' (0,0))):=by
 have hf:=run_firstCells_some (P:=P) w inf.size m ad m c news hl hnews;have a0:=xk (P:=P) (o:=sLen*inf.size) news 0 w cur hg (by omega) h1;simp only[Cb]at a0;simp[Aq,qP ht,Ao,typeInfo,hi,As,hroom,hf,xe,a0]
theorem Hr {x y:Operand} {ts:Array TypeId} (h:Conc C B F0 w0 F loc st a w):RS C B F0 w0 st a w ⟨dst,.call ⟨.builtin .append, #[x,y],ts⟩,ty,pos,after,g⟩ (yE C dst st.objs ts (ev st x) (ev st y)):=by
 unfold yE;have hx:=(qO h x).1;have hy:=(qO h y).1;split
 ·trivial
 rename_i d;split
 ·trivial
 rename_i hd;split
 ·rename_i t t2 hts;split
  ·rename_i e he bh;have bh:t2=t:=by simpa using bh
   subst bh;have bi:ts= #[t2,t2]:=by apply Aa;simpa using hts
   subst bi;have hu:=wF he;split
   ·rename_i ys us z hel hz
    ·split
     ·rename_i hc;simp only[Af,decide_eq_true_eq]at hc;obtain⟨hc1,b7⟩:=hc;obtain⟨ac,zv,hi,bk,hzc,b3,hone,_⟩:=xJ hz;have hzs:zv.cells.size=z.length:=by rw[←hzc];simp
      have hby:C.P.bytesOf e=ac.bytes:=by simp[A6,hi]
      obtain⟨ad,c,hye,b6⟩:=RA h hel hy;have ae:∀v w',(Aq #[t2,t2] ty #[a.eval x,.slice ad ys.length c]).run C.P w= .ok v w'→(execOp a.eval ⟨some d,.call ⟨.builtin .append, #[x,y], #[t2,t2]⟩,ty,pos,after,g⟩).run C.P w= .ok (.value v) w':=fun v w' hr=>by rw[←hye]at hr;simp[execOp,resolve,invoke,builtin,hr]
      --the cells that are appended
      have ab:lens z.length ys→ys≠[]→∃b o,ad=some ⟨b,o,none⟩∧∃a0:List Value,a0.length=ys.length*ac.size∧(∀j u,a0[j]? =some u→w.cell? ((⟨b,o,none⟩:Addr).add j)=some u)∧All2 (CD w F) ys.flatten a0:=by
       intro hl a7;rcases b6 with hys|⟨b,o,bl,had,hs,ao⟩
       ·exact absurd hys a7
       ·obtain⟨y0,ys0,rfl⟩:=AY a7;have b1:bl=z.length:=by rw[←hl y0 (by simp),hs y0 (by simp)]
        subst b1;refine⟨b,o,had,?_⟩;have bm:∀j,∃u,j<(y0::ys0).length*z.length→w.cell? ⟨b,o+j,none⟩=some u∧CD w F (nth .undef (y0::ys0).flatten j) u:=fun j=>by
         by_cases hj:j<(y0::ys0).length*z.length
         ·obtain⟨u,hu⟩:=ao j hj;exact⟨u,fun _=>hu⟩
         ·exact⟨undef,fun hh=>absurd hh hj⟩
        let f:Nat→Value:=fun j=>Ak (bm j)
        have hf:∀j,j<(y0::ys0).length*z.length→w.cell? ⟨b,o+j,none⟩=some (f j)∧CD w F (nth .undef (y0::ys0).flatten j) (f j):=fun j hj=>Aj (bm j) hj
        refine⟨(AR ((y0::ys0).length*z.length)).map f,by simp[b3],fun j u hj=>?_,?_⟩
        ·rw[xe];simp only[AJ,Cp]at hj;obtain⟨k,hk,rfl⟩:=hj;rcases Ca j ((y0::ys0).length*z.length)with h1|h1
         ·rw[AP h1]at hk;simp only[Cq]at hk;subst hk;exact(hf _ h1).1
         ·rw[List.getElem?_eq_none (by simpa using h1)]at hk;simp at hk
        ·refine ja .undef undef (by rw[qm hl];simp) fun j hj=>?_
         rw[qm hl]at hj;rw[qn undef (by simpa using hj)];simp only[AX,BQ];exact(hf j hj).2
      --a new array out of all that there is
      have aa:∀(ar:Where) (bb:St) (es:List (List D)) (a8 a0:List Value) (am:Nat),Conc C B F0 w0 F ar bb a w→qq bb.objs d=true→room (es.length+ys.length)→(∀q∈es,q.length=z.length)→(∀q∈ys,q.length=z.length)→
       All2 (CD w F) es.flatten a8→All2 (CD w F) ys.flatten a0→
       Conc C B F0 w0 F (at_ ar d (w.heap.size,grownCap w (es.length+ys.length) am e) e) (bb.put (some d) (.arr d) [(d,.arr z.length (es++ys) false)]) (a.put (some d) (.slice (some ⟨w.heap.size,0,none⟩) (es.length+ys.length) (grownCap w (es.length+ys.length) am e)))
        (w.drew.alloc (.cells (a8.toArray++a0.toArray++Ap zv.cells (grownCap w (es.length+ys.length) am e-(es.length+ys.length))) e)):=by
       intro ar bb es a8 a0 am hC ay a1 bd be ho hn;have hge:=grownCap_ge w (es.length+ys.length) am e;have bn:=ho.length;have bo:=hn.length;rw[qm bd]at bn;rw[qm be]at bo;have bf:∀q∈es++ys,q.length=z.length:=fun q hq=>by rcases AC.1 hq with hq|hq;exact bd q hq;exact be q hq
       have:=XT (dst:=some d) (d:=d) (s:=z.length) (es:=es++ys) (cs:=a8.toArray++a0.toArray++Ap zv.cells (grownCap w (es.length+ys.length) am e-(es.length+ys.length))) (e:=e) (cap:=grownCap w (es.length+ys.length) am e) hC.drew ay (by rw[A9];exact a1) b7 bf (by rw[A9];exact⟨hge,Nat.le_trans (grownCap_le_maxLen w _ am e (by simp only[maxLen];unfold Eng.room at a1;omega)) (by simp[maxLen])⟩)
        (by
         simp only[Array.size_append,List.size_toArray,size_zeroCells,hzs,←bn,←bo,←BY];congr 1;omega)
        (fun j hj=>by
         rw[A9,BY]at hj;have bc:=All2.append ho hn;have:=bc.nth .undef undef _ _ j (by rw[A9,qm bd,qm be];exact hj);refine⟨nth undef (a8++a0) j,?_,?_⟩
         ·rw[qn _ (by rw[A9];omega)];rw[Ac (by simp;omega)];simp[show j<a8.length+a0.length by omega]
         ·rw[AQ];exact this.mono (fun _ h=>h) fun _ _=>rfl)
       rw[A9]at this;exact this (wa hz)
      have a3:∀n,n≤1073741824→n*ac.bytes≤140737488355328:=fun n hn=>by have:n*ac.bytes≤1073741824*4096:=Nat.mul_le_mul hn (by omega);omega
      split
      ·rename_i bj;rw[bj]at hx;have b5:a.eval x= .slice none 0 0:=hx;rw[b5]at ae;rintro⟨a1,a2⟩;unfold room at a1;by_cases a7:ys=[]
       ·subst a7;exact⟨_,_,w,ae _ _ (zI hu hz none 0 0 (BX _) ad c w),.inl rfl,F,loc,WX h hd b7⟩
       ·obtain⟨b,o,rfl,a0,ai,aw,aj⟩:=ab a2 a7;have ap:0<ys.length:=BP.2 a7;have hr:=run_append_nil (P:=C.P) w t2 ty e ac zv hu hi bk ⟨b,o,none⟩ ys.length c a0 ai aw ap (by omega) (by have:=a3 _ a1;omega);have:=aa loc st [] [] a0 0 h hd (by simpa [room]using a1) (by simp) a2 trivial aj;simp only[AM,BV,BU,Ae]at this;exact⟨_,_,_,ae _ _ hr,.inl rfl,F,_,this⟩
      ·rename_i k bj;rw[bj]at hx;split
       ·rename_i s es hk;split
        ·rename_i bq;simp only[Af,decide_eq_true_eq,Ai,decide_eq_false_iff_not]at bq;obtain⟨rfl,hkd⟩:=bq;rintro⟨a1,a2⟩;have a6:=h.kill hk (k::st.dirty);have a4:qq (upd st.objs k .dead) d=true:=by obtain⟨q1,q2⟩:=qE hd;unfold qq;rw[qa _ _ _ hkd,qn _ q2];rw[qn _ q2]at q1;rw[q1]
         have ag:∀o',(⟨st.tmps,upd st.objs k .dead,k::st.dirty⟩:St).put (some d) (.arr d) [(d,o')]=⟨(st.put (some d) (.arr d) [(k,.dead),(d,o')]).tmps,(st.put (some d) (.arr d) [(k,.dead),(d,o')]).objs,d::k::st.dirty⟩:=fun o'=>rfl
         have b8:=h.objs k;rw[hk]at b8;obtain⟨aq,_,hs,b8⟩:=b8;have a5:=a1;unfold room at a5;rcases hx _ es false hk with⟨b,cap,hl,b5⟩|⟨hl,rfl,b5⟩
         ·rcases b8 with⟨av,_⟩|⟨b',cap',cs,t',av,az,an,af,ba,b9⟩
          ·rw[hl]at av;simp at av
          rw[hl]at av;simp only[Cq,Cr]at av;obtain⟨rfl,rfl⟩:=av;have az:¬F b:=az;rw[b5]at ae;have hf:=h.fresh _ _ _ hl;have hno:∀j c',ye loc k j≠some (b,c'):=by
           intro j c' hj;simp only[ye]at hj;split at hj
           ·simp at hj
           ·rename_i hjk;exact hjk (h.inj _ _ _ _ _ hj hl)
          --the array stands where it stood,with bs ax
          have al:∀(a9:List (List D)) (au:Array Value),room a9.length→(∀q∈a9,q.length=z.length)→au.size=cap*z.length→a9.length≤cap→(∀j,j<a9.length*z.length→∃v,au[j]? =some v∧CD w F (nth .undef a9.flatten j) v)→
           Conc C B F0 w0 F (at_ (ye loc k) d (b,cap) t') (st.put (some d) (.arr d) [(k,.dead),(d,.arr z.length a9 false)]) (a.put (some d) (.slice (some ⟨b,0,none⟩) a9.length cap)) (setBlk w b (.cells au t' (0,0))):=by
           intro a9 au r1 r2 r3 r4 r5;have bp:d<(upd st.objs k .dead).length:=(qE a4).2;have:=a6.adopt (tt:=t') (dst:=some d) (d:=d) (b:=b) (cap:=cap) (ob:= .arr z.length a9 false) (v:= .arr d) (x:= .slice (some ⟨b,0,none⟩) a9.length cap) (cs:=au) (t:=t') a4 hf az hno
            ⟨r1,b7,r2,.inr ⟨b,cap,au,t',by simp[at_],az,xP hf.2,r3,⟨r4,ba.2⟩,fun j hj=>by
             obtain⟨v,p1,p2⟩:=r5 j hj;exact⟨v,p1,p2.mono (fun _ h=>h) fun b' hb'=>xb (fun e=>az (e▸hb'))⟩,b9.2.1,by simp[at_]⟩⟩
            (fun s' es'' fz' hc=>by
             rw[qb _ _ _ bp]at hc;simp only[An]at hc;obtain⟨rfl,rfl,rfl⟩:=hc;exact .inl ⟨b,cap,by simp[at_],rfl⟩)
            (by show nth .none (upd (upd st.objs k .dead) d (.arr z.length a9 false)) d≠ .none;rw[qb _ _ _ bp];simp)
           rw[ag]at this;exact this.redirty
          by_cases a7:ys=[]
          ·subst a7;have:=al es cs aq hs af ba.1 b9.1;rw[we an]at this;rw[List.append_nil];exact⟨_,_,w,ae _ _ (zI hu hz _ _ _ ba.1 ad c w),.inl rfl,F,_,this⟩
          ·obtain⟨b2,o2,rfl,a0,ai,aw,aj⟩:=ab a2 a7;have hn1':a0.length=ys.length*z.length:=by rw[←b3];exact ai
           have ak:All2 (CD w F) es.flatten (cs.toList.take (es.length*z.length)):=by
            have hle:es.length*z.length≤cs.size:=by rw[af];exact BW _ ba.1
            refine ja .undef undef (by rw[qm hs];simp;omega) fun j hj=>?_
            rw[qm hs]at hj;obtain⟨v,p1,p2⟩:=b9.1 j hj;have:nth undef (cs.toList.take (es.length*z.length)) j=v:=by rw[qI,AU,if_pos hj];simp[p1]
            rw[this];exact p2
           have b0:∀u∈a0,u.oneCell'=true:=by
            have:∀(ds:List D) (vs:List Value),All2 (CD w F) ds vs→∀v∈vs,v.oneCell'=true:=by
             intro ds
             induction ds with
             |nil=>intro vs b4 v hv;cases vs with|nil=>simp at hv|cons _ _=>exact b4.elim
             |cons d ds ih=>
              intro vs b4 v hv;cases vs with
              |nil=>exact b4.elim
              |cons y vs=>
               rcases AB.1 hv with rfl|hv
               ·exact b4.1.one
               ·exact ih vs b4.2 v hv
            exact this _ _ aj
           by_cases hfit:es.length+ys.length≤cap
           ·have ah:es.length*ac.size+a0.length≤cs.size:=by rw[ai,af,b3,←BY];exact BW _ hfit
            have hr:=QP (P:=C.P) (ty:=ty) hu hi an ⟨b2,o2,none⟩ ys.length c a0 ai aw b0 hfit ah;have bf:∀q∈es++ys,q.length=z.length:=fun q hq=>by rcases AC.1 hq with hq|hq;exact hs q hq;exact a2 q hq
            have:=al (es++ys) (qF cs.toList (es.length*ac.size) a0).toArray (by rw[A9];exact a1) bf (by simp[xj,af]) (by rw[A9];exact hfit) (fun j hj=>by
             rw[A9,BY]at hj;rw[AQ];have hl3:=aj.length;rw[qm a2]at hl3;have bg:(qF cs.toList (es.length*ac.size) a0).length=cs.size:=by simp[xj]
             rw[b3]at ah bg ⊢;refine⟨nth undef (qF cs.toList (es.length*z.length) a0) j,?_,?_⟩
             ·rw[qn _ (by omega)];simp[show j<(qF cs.toList (es.length*z.length) a0).length by omega]
             ·rcases Ca j (es.length*z.length)with h6|h6
              ·rw[x4 _ _ _ _ _ h6];obtain⟨v,p1,p2⟩:=b9.1 j h6;have e1:nth undef cs.toList j=v:=by rw[qI];simp[p1]
               have e2:nth .undef (es.flatten++ys.flatten) j=nth .undef es.flatten j:=by rw[qI,qI,List.getElem?_append_left (by rw[qm hs];exact h6)]
               rw[e1,e2];exact p2
              ·obtain⟨i,rfl⟩:∃i,j=es.length*z.length+i:=⟨j-es.length*z.length,by omega⟩;rw[xI _ _ _ _ _ (by omega) (by simp;omega)];have e2:nth .undef (es.flatten++ys.flatten) (es.length*z.length+i)=nth .undef ys.flatten i:=by rw[qI,qI,List.getElem?_append_right (by rw[qm hs];omega),qm hs,Cg]
               rw[e2];exact aj.nth .undef undef _ _ i (by rw[qm a2];omega))
            rw[A9]at this;exact⟨_,_,_,ae _ _ hr,.inl rfl,F,_,this⟩
           ·have ho1:(cs.toList.take (es.length*z.length)).length=es.length*ac.size:=by have:=ak.length;rw[qm hs]at this;rw[b3];exact this.symm
            have hr:=run_append_grow (P:=C.P) w t2 ty e ac zv hu hi bk ⟨b,0,none⟩ es.length cap (cs.toList.take (es.length*z.length)) ho1 (fun j v hj=>by
             rw[xe,xU an,BV];rw[AU]at hj;split at hj
             ·simpa using hj
             ·simp at hj) ⟨b2,o2,none⟩ ys.length c a0 ai aw (by omega) (by omega) (growslice_fits (by omega) (a3 _ a5))
            have:=aa _ _ es _ a0 cap a6 a4 a1 hs a2 ak aj;rw[ag]at this;exact⟨_,_,_,ae _ _ hr,.inl rfl,F,_,this.redirty⟩
         ·rw[b5]at ae;by_cases a7:ys=[]
          ·subst a7;have:=WX (dst:=some d) a6 a4 b7;rw[ag]at this;exact⟨_,_,w,ae _ _ (zI hu hz none 0 0 (BX _) ad c w),.inl rfl,F,_,this.redirty⟩
          ·obtain⟨b,o,rfl,a0,ai,aw,aj⟩:=ab a2 a7;have ap:0<ys.length:=BP.2 a7;simp only[AM,BV]at a5;have hr:=run_append_nil (P:=C.P) w t2 ty e ac zv hu hi bk ⟨b,o,none⟩ ys.length c a0 ai aw ap (by omega) (by have:=a3 _ a5;omega);have:=aa _ _ [] [] a0 0 a6 a4 a1 (by simp) a2 trivial aj;simp only[AM,BV,BU,Ae]at this;rw[ag]at this;exact⟨_,_,_,ae _ _ hr,.inl rfl,F,_,this.redirty⟩
        ·trivial
       ·trivial
      ·trivial
     ·trivial
   ·trivial
  ·trivial
 ·trivial
theorem Xf {α β:Type} {R:α→β→Prop}:∀{as:List α} {bs:List β},All2 R as bs→∀b∈bs,∃a,R a b
 |[],[],_,b,hb=>by simp at hb
 |a::as,c::bs,h,b,hb=>by
  rcases AB.1 hb with rfl|hb
  ·exact⟨a,h.1⟩
  ·exact Xf h.2 b hb
 |[],_::_,h,_,_=>h.elim
 |_::_,[],h,_,_=>h.elim
theorem Lj {x:Operand} {ts:Array TypeId} (h:Conc C B F0 w0 F loc st a w):RS C B F0 w0 st a w ⟨dst,.call ⟨.builtin .clear, #[x],ts⟩,ty,pos,after,g⟩ (yF C st.objs ts (ev st x)):=by
 unfold yF;have hx:=(qO h x).1;split
 ·rename_i t hts;have a8:ts= #[t]:=by apply Aa;simpa using hts
  subst a8;split
  ·rename_i e he;split
   ·rename_i z k o l hz hv;rw[hv]at hx;split
    ·rename_i s es hk;split
     ·rename_i hsz;obtain rfl:=Cc hsz;intro hl0;obtain⟨b,c,hl,hol,hxe⟩:=hx _ es false hk;have a4:=h.objs k;rw[hk]at a4;obtain⟨ab,hs0,hs,a4⟩:=a4;rcases a4 with⟨a2,_⟩|⟨b',c',cs,t',a2,hnF,a3,a5,hlc,hcs⟩
      ·rw[hl]at a2;simp at a2
      rw[hl]at a2;simp only[Cq,Cr]at a2;obtain⟨rfl,rfl⟩:=a2;have hf:=h.fresh _ _ _ hl;obtain⟨inf,zv,hi,hzv,a9,hszz,a7,_⟩:=xJ hz;have hzs:zv.cells.size=z.length:=by rw[←a9];simp
      have a0:=K7 (w:=w) (F':=F) (z:=zv.cells) (n:=l) (by omega) (by rw[a9];exact a7);rw[a9]at a0;have hin:(o+l)*z.length≤es.length*z.length:=BW _ hol;have hinc:es.length*z.length≤c*z.length:=BW _ hlc.1;have hml:=a0.length;have aa:=qm (es:=AA l (z.map xu)) (size:=z.length) (fun e he=>by rw[AE he];simp);rw[AH]at aa;have hadd:(o+l)*z.length=o*z.length+l*z.length:=BY ..;have a6:(Ap zv.cells l).toList.length=l*z.length:=by simp[Ap,hzs]
      have ac:=xk (P:=C.P) (b:=b) (o:=o*z.length) (Ap zv.cells l).toList 0 w cs a3 (by rw[a6,a5];omega) (fun v hv=>?_)
      ·refine⟨_,.tuple #[],setBlk w b (.cells (qF cs.toList (o*z.length) (Ap zv.cells l).toList).toArray t' (0,0)),?_,.inl rfl,?_⟩
       ·have hzr:∀w,(zeroValue e).run C.P w= .ok zv w:=fun w=>by simp[zeroValue,typeInfo,hi,hzv]
        have hll:∃m,l=m+1:=⟨l-1,by omega⟩;obtain⟨m,rfl⟩:=hll;rw[Cb]at ac;simp[execOp,resolve,invoke,builtin,Builtin.clear_,hxe,qP (wF he),hzr,ac]
       ·have h5:=QN (.tuple #[]) (dst:=dst) (k:=k) (p:=o*z.length) (es':=es.take o++(AA l (z.map xu)++es.drop (o+l))) h hk hl a3 a0 (by simp;omega) (fun e' a1=>?_) ?_ (by omega)
        ·exact⟨F,loc,h5⟩
        ·rcases AC.1 a1 with a1|a1
         ·exact hs _ (AG a1)
         ·rcases AC.1 a1 with a1|a1
          ·rw[AE a1];simp
          ·exact hs _ (AI a1)
        ·have e1:es=es.take o++((es.drop o).take l++es.drop (o+l)):=by rw[←List.drop_drop,AN,AN]
         conv=>rhs;rw[e1]
         simp only[AQ];have hta:(es.take o).flatten.length=o*z.length:=by rw[qm (fun e he=>hs e (AG he)),AW,Ck (by omega)]
         rw[←hta,Jg];rw[aa,qm (size:=z.length) (fun e he=>hs e (AI (AG he))),AW,BR,Ck (by omega)]
      ·obtain⟨d,hd⟩:=Xf a0 v hv;exact hd.one
     ·trivial
    ·trivial
   ·trivial
  ·trivial
 ·trivial
end
end Eng
end

section
namespace Eng
open Go Go.RowKit
section
variable {C:Cx} {B:Bd} {F0:Nat→Prop} {w0:World} {F:Nat→Prop} {loc:Where} {st:St} {a:Act} {w:World}
variable {dst:Option Nat} {ty:TypeId} {pos:String} {after:Array Edge} {g:Option (Nat×Bool)}
theorem K8 {w w':World} {F F':Nat→Prop} {d:D} {v:Value} (h:CD w F d v) (hf:QM d=true):CD w' F' d v:=by
 cases h<;>first|(simp[QM]at hf;done)|(constructor;done)|(constructor;assumption)
theorem yX {w w':World} {F F':Nat→Prop} {d:A} {v:Value} (h:CA w F d v) (hf:XN d=true):CA w' F' d v:=by
 cases d with
 |c d=>exact K8 h hf
 |ag cs=>obtain⟨vs,rfl,h⟩:=h;exact⟨vs,rfl,h.mono_mem fun d hd v hv=>K8 hv (BT.1 hf d hd)⟩
theorem Hs {w w':World} {F F':Nat→Prop} {rs:List A} {v:Value} (h:WS w F rs v) (hf:∀r∈rs,XN r=true):WS w' F' rs v:=by
 unfold WS at h ⊢;split
 ·rename_i r;exact yX h (hf r (by simp))
 ·rename_i hne;split at h
  ·exact absurd rfl (hne _)
  ·obtain⟨vs,rfl,h⟩:=h;exact⟨vs,rfl,h.mono_mem fun r hr v hv=>yX hv (hf r hr)⟩
theorem WY {objs:List Obj} {rs:List A} {v:Value} (h:WS w F rs v):CV loc objs w F (Ke rs) v∧Ref objs (Ke rs):=by
 unfold Ke;split
 ·exact⟨h,trivial⟩
 ·exact⟨h,trivial⟩
 ·rename_i h1 h2;unfold WS at h;split at h
  ·rename_i r;cases r with
   |c d=>exact absurd rfl (h1 d)
   |ag cs=>exact absurd rfl (h2 cs)
  ·exact⟨h,trivial⟩
theorem Conc.behind {v:V} {x:Value} {w':World} (h:Conc C B F0 w0 F loc st a w) (hb:Below w.heap.size w w') (hv:CV loc st.objs w' (fun b=>F b∨(w.heap.size≤b∧b<w'.heap.size)) v x) (hr:Ref st.objs v):
 Conc C B F0 w0 (fun b=>F b∨(w.heap.size≤b∧b<w'.heap.size)) loc (st.put dst v []) (a.put dst x) w':=by
 have hw:∀b,F b→w'.heap[b]? =w.heap[b]? :=fun b hF=>hb.block b (h.bound b hF)
 have hsz:=hb.size;refine h.step (up:=[]) (fun b hF=> .inl hF) hw (Le.refl _ _) (h.below.trans (.of hb h.hB)) (by have:=h.hB;omega) (fun k=>?_) h.inj (fun k b c hl=>?_) ?_ ?_ hv hr
 ·refine CO.le (fun b hF=> .inl hF) hw (Le.refl _ _) rfl rfl (fun b c hl=>?_) (h.objs k);have hf:=(h.fresh _ _ _ hl).2;exact⟨hb.block b hf,fun hn a0=>by rcases a0 with a0|a0;exact hn a0;omega⟩
 ·have:=h.fresh _ _ _ hl;exact⟨this.1,by omega⟩
 ·intro b hF;rcases hF with hF|hF
  ·have:=h.bound b hF;omega
  ·exact hF.2
 ·intro b hF;rcases hF with hF|hF
  ·exact h.fsub b hF
  ·have:=h.hB;exact .inr (.inl (by omega))
theorem kp (h:Conc C B F0 w0 F loc st a w):∀(xs:List Operand),All2 (CV loc st.objs w F) (xs.map (ev st)) (xs.map a.eval)
 |[]=>trivial
 |x::xs=>⟨(qO h x).1,kp h xs⟩
theorem WZ {f:Nat} {o:Oper} {vs:List V} {xs:List Value} (h:Conc C B F0 w0 F loc st a w) (hvs:All2 (CV loc st.objs w F) vs xs)
 (hrun:∀fn,C.P.funcs[f]? =some fn→fn.body≠none→fn.name≠ "runtime.NumGoroutine" →(execOp a.eval o).run C.P w= .ok (.enter f xs.toArray) w):RS C B F0 w0 st a w o (yd C st.objs f vs):=by
 unfold yd;split
 ·trivial
 ·rename_i fn hfn;split
  ·trivial
  ·rename_i a9;simp only[Af,Ai]at a9;obtain⟨a2,a5⟩:=a9;have hrun:=hrun fn hfn (by intro hb;simp[hb]at a2) (by simpa using a5);split
   ·rename_i as us sh hto hsh;obtain⟨hfz,a6⟩:=vn h hto hvs;obtain⟨F',a7,hF',hb'⟩:=h.freezes hfz st.dirty;have a1:=a6 F' hF' hb';have aa:∀(up:List (Nat×Obj)) (rs:List A),qe C f as rs→(∀v w',Below w.heap.size w w'→WS w' (fun b=>F' b∨(w.heap.size≤b∧b<w'.heap.size)) rs v→St.has C B F0 w0 (st.put o.dst (Ke rs) up) (a.put o.dst v) w')→
     ∀(next:Act→World→Prop) (Q:Exit→Act→World→Prop),(∀a' w',St.has C B F0 w0 (st.put o.dst (Ke rs) up) a' w'→next a' w')→Oper.wp C.P o a w next Q:=by
     intro up rs hg a8 next Q hn
     unfold Oper.wp;rw[hrun,Oper.upon_enter];refine(hg w F' xs a7.bound a7.inv a1).mono fun e w' he=>?_
     obtain⟨a0,v,rfl,hr⟩:=he;exact hn _ _ (a8 v w' a0 hr)
    split
    ·intro rs hg _ next Q hn
     refine aa us rs hg (fun v w' a0 hr=>?_) next Q hn
     have a3:=WY (loc:=loc) (objs:=upds st.objs us) hr;exact⟨_,loc,(a7.behind (dst:=o.dst) a0 a3.1 a3.2).redirty⟩
    ·rename_i hns;intro rs hg a4 next Q hn
     refine aa [] rs hg (fun v w' a0 hr=>?_) next Q hn
     have hr':WS w' (fun b=>F b∨(w.heap.size≤b∧b<w'.heap.size)) rs v:=Hs hr (a4 hns);have a3:=WY (loc:=loc) (objs:=st.objs) hr';exact⟨_,loc,h.behind (dst:=o.dst) a0 a3.1 a3.2⟩
   ·trivial
theorem Ht {f:Nat} {cal:Operand} {args:Array Operand} {ts:Array TypeId} (h:Conc C B F0 w0 F loc st a w) (hcal:a.eval cal= .func (.func f) #[] #[]):RS C B F0 w0 st a w ⟨dst,.call ⟨.value cal,args,ts⟩,ty,pos,after,g⟩ (yd C st.objs f (args.toList.map (ev st))):=by
 refine WZ h (kp h args.toList) fun fn hfn hb2 hne=>?_
 have a0:(args.toList.map a.eval).toArray=args.map a.eval:=by apply Aa;simp
 rw[a0];simp[execOp,resolve,hcal,Deferred.ofValue,invoke,callFunc,hfn,hne,hb2]
theorem Xg {R:D→Value→Prop}:∀(ps:List D) (vs:Nat→Value) (i:Nat),(∀j,j<ps.length→R (nth .undef ps j) (vs (i+j)))→All2 R ps ((List.range' i ps.length).map vs)
 |[],_,_,_=>trivial
 |p::ps,vs,i,h=>by
  rw[AL,List.range'_succ,Bx];refine⟨by have:=h 0 (by simp);simpa [nth]using this,Xg ps vs (i+1) fun j hj=>?_⟩;have:=h (j+1) (by simp;omega);rw[show i+1+j=i+(j+1)by omega]
  simpa [nth]using this
theorem Jk:∀{ps:List D} {xs:List Value},All2 (CD w F) ps xs→All2 (CV loc st.objs w F) (ps.map V.c) xs
 |[],[],_=>trivial
 |_::_,_::_,h=>⟨h.1,Jk h.2⟩
 |[],_::_,h=>h.elim
 |_::_,[],h=>h.elim
theorem Jl {α β:Type} {R:α→β→Prop}:∀{as as':List α} {bs bs':List β},All2 R as bs→All2 R as' bs'→All2 R (as++as') (bs++bs')
 |[],_,[],_,_,h'=>h'
 |_::_,_,_::_,_,h,h'=>⟨h.1,Jl h.2 h'⟩
 |[],_,_::_,_,h,_=>h.elim
 |_::_,_,[],_,h,_=>h.elim
theorem RB {f:Nat} {ps:List D} {cal:Operand} {args:Array Operand} {ts:Array TypeId} (h:Conc C B F0 w0 F loc st a w) (hcal:CD w F (.clo f ps) (a.eval cal)):
 RS C B F0 w0 st a w ⟨dst,.call ⟨.value cal,args,ts⟩,ty,pos,after,g⟩ (yd C st.objs f (args.toList.map (ev st)++ps.map V.c)):=by
 generalize hc:a.eval cal=y at hcal;cases hcal with
 |clo f ps vs hd=>
  have h2:All2 (CD w F) ps ((AR ps.length).map vs):=by rw[List.range_eq_range'];exact Xg ps vs 0 fun j hj=>by rw[BV];exact hd j hj
  refine WZ h (Jl (kp h args.toList) (Jk h2)) fun fn hfn hb2 hne=>?_
  have a0:(args.toList.map a.eval++(AR ps.length).map vs).toArray=args.map a.eval++((AR ps.length).map vs).toArray:=by apply Aa;simp
  rw[a0];simp[execOp,resolve,hc,Deferred.ofValue,invoke,callFunc,hfn,hne,hb2]
theorem K9 (h:Conc C B F0 w0 F loc st a w):∀{vs:List V} {xs:List Value} {ps:List D} {us:List (Nat×Obj)},Ks st.objs vs=some (ps,us)→All2 (CV loc st.objs w F) vs xs→
 (∀p∈us,p.2= .dead∧(∃v∈vs,p.1∈qk v)∧∃cells,nth .none st.objs p.1= .box cells)∧∀F':Nat→Prop,(∀b,F b→F' b)→(∀p∈us,∀b c,loc p.1=some (b,c)→F' b)→All2 (CD w F') ps xs
 |[],[],ps,us,hc,_=>by simp only[Ks,Cq,Cr]at hc;obtain⟨rfl,rfl⟩:=hc;exact⟨fun p hp=>by simp at hp,fun _ _ _=>trivial⟩
 |v::vs,x::xs,ps,us,hc,hv=>by
  unfold Ks at hc;split at hc
  ·rename_i k;split at hc
   ·rename_i cells hk;split at hc
    ·rename_i ds ps' us' hds hr;simp only[Cq,Cr]at hc;obtain⟨rfl,rfl⟩:=hc;obtain⟨h1,h2⟩:=K9 h hr hv.2;refine⟨fun p hp=>?_,fun F' hF hb=>⟨?_,h2 F' hF fun p hp=>hb p (by simp[hp])⟩⟩
     ·rcases AB.1 hp with rfl|hp
      ·exact⟨rfl,⟨_,AT ..,by simp[qk]⟩,_,hk⟩
      ·obtain⟨q1,⟨u,q2,q3⟩,q4⟩:=h1 p hp;exact⟨q1,⟨u,AO _ q2,q3⟩,q4⟩
     ·obtain⟨b,c,hl,hx⟩:=hv.1 _ hk rfl;have hco:=h.objs k;rw[hk]at hco;obtain⟨b',c',cs,t',hl',hnF,hblk,hall,hrefs⟩:=hco;rw[hl]at hl';simp only[Cq,Cr]at hl';obtain⟨rfl,rfl⟩:=hl';have hcd:All2 (CD w F) ds cs.toList:=zE (loc:=loc) (objs:=st.objs) hds (hall.mono fun _ _ h=>h.1);have hlen:=hcd.length;rw[hx];refine CD.ptr ds b 0 (fun j=>nth undef cs.toList j) (hb _ (AT ..) _ _ hl) (fun j hj=>?_) (fun j hj=>?_)
      ·rw[BV,xU hblk,qn _ (by omega)];simp at hlen;simp[show j<cs.size by omega]
      ·exact(hcd.nth .undef undef _ _ j hj).mono hF fun _ _=>rfl
    ·simp at hc
   ·simp at hc
  ·rename_i ds;split at hc
   ·rename_i ps' us' hr;simp only[Cq,Cr]at hc;obtain⟨rfl,rfl⟩:=hc;obtain⟨h1,h2⟩:=K9 h hr hv.2;obtain⟨b,o,size,hx,_,hrow⟩:=hv.1;have hsz:ds.length=size:=hrow.hs ds (by simp);have hcell:∀j,j<ds.length→∃v,w.cell? ⟨b,o+j,none⟩=some v∧CD w F (nth .undef ds j) v:=fun j hj=>by
     have:=hrow.hc j (by simp only[List.length_singleton,Cn];omega)
     simpa using this
    open Classical in
    have hptr:CD w F (.ptr ds) x:=by
     rw[hx];simp only[Nat.zero_mul,Cb];refine CD.ptr ds b o (fun j=>if h:j<ds.length then Ak (hcell j h)else undef) hrow.hF (fun j hj=>?_) (fun j hj=>?_)
     ·rw[dif_pos hj];exact(Aj (hcell j hj)).1
     ·rw[dif_pos hj];exact(Aj (hcell j hj)).2
    refine⟨fun p hp=>?_,fun F' hF hb=>⟨CD.mono hptr hF fun _ _=>rfl,h2 F' hF hb⟩⟩;obtain⟨q1,⟨u,q2,q3⟩,q4⟩:=h1 p hp;exact⟨q1,⟨u,AO _ q2,q3⟩,q4⟩
   ·simp at hc
  ·simp at hc
 |[],_::_,_,_,_,h=>h.elim
 |_::_,[],_,_,_,h=>h.elim
theorem zf:∀(us:List (Nat×Obj)) (objs:List Obj) (k:Nat),(∀p∈us,p.2= .dead∧p.1<objs.length)→nth .none (upds objs us) k=if(∃p∈us,p.1=k)then .dead else nth .none objs k
 |[],objs,k,_=>by simp[upds]
 |(j,o)::us,objs,k,h=>by
  obtain⟨h1,h2⟩:=h (j,o) (by simp);simp only at h1 h2;subst h1;simp only[upds];rw[zf us _ k fun p hp=>⟨(h p (by simp[hp])).1,by rw[qi];exact(h p (by simp[hp])).2⟩];by_cases hk:∃p∈us,p.1=k
  ·rw[if_pos hk,if_pos];obtain⟨p,hp,e⟩:=hk;exact⟨p,by simp[hp],e⟩
  ·rw[if_neg hk];by_cases hj:j=k
   ·subst hj;rw[qb _ _ _ h2,if_pos ⟨(j,.dead),by simp,rfl⟩]
   ·rw[qa _ _ _ hj,if_neg];rintro⟨p,hp,e⟩;rcases AB.1 hp with rfl|hp
    ·exact hj e
    ·exact hk ⟨p,hp,e⟩
theorem Conc.capture {us:List (Nat×Obj)} {v:V} {x:Value} (h:Conc C B F0 w0 F loc st a w) (hu:∀p∈us,p.2= .dead∧∃cells,nth .none st.objs p.1= .box cells)
 (hv:CD w (fun b=>F b∨∃p∈us,∃c,loc p.1=some (b,c)) (match v with| .c d=>d|_=> .undef) x) (hvc:∃d,v= .c d):St.has C B F0 w0 (st.put dst v us) (a.put dst x) w:=by
 have hlt:∀p∈us,p.2= .dead∧p.1<st.objs.length:=fun p hp=>by
  obtain⟨h1,cells,h2⟩:=hu p hp;refine⟨h1,?_⟩;rcases Ca p.1 st.objs.length with h3|h3
  ·exact h3
  ·rw[qB _ h3]at h2;simp at h2
 have hn:=fun k=>zf us st.objs k hlt
 open Classical in
 let loc':Where:=⟨loc.P,fun k=>if(∃p∈us,p.1=k)then none else loc k,loc.ty⟩
 have a2:Le st.objs (upds st.objs us) loc loc':=by
  refine⟨rfl,fun _ _=>rfl,fun j hj=>?_,fun j o' hj hc hbx=>?_,fun j s' es' fz' hj hc=>?_⟩
  ·rw[hn];split
   ·simp
   ·exact hj
  ·rw[hn]at hc;split at hc
   ·rw[←hc]at hbx;simp[xE]at hbx
   ·rename_i e;exact⟨by rw[hc];exact hbx,by simp only[loc'];rw[if_neg e]⟩
  ·rw[hn]at hc;split at hc
   ·simp at hc
   ·rename_i e;exact⟨⟨_,_,hc,rfl⟩,by simp only[loc'];rw[if_neg e]⟩
 have a0:∀k b c,loc' k=some (b,c)→loc k=some (b,c)∧¬∃p∈us,p.1=k:=fun k b c hl=>by
  simp only[loc']at hl;split at hl
  ·simp at hl
  ·rename_i e;exact⟨hl,e⟩
 refine⟨fun b=>F b∨∃p∈us,∃c,loc p.1=some (b,c),loc',h.step (fun b hb=> .inl hb) (fun _ _=>rfl) a2 h.below h.hB (fun k=>?_) ?_ ?_ ?_ ?_ ?_ ?_⟩
 ·rw[hn];by_cases hk:∃p∈us,p.1=k
  ·rw[if_pos hk];show loc' k=none;simp only[loc'];rw[if_pos hk]
  ·rw[if_neg hk];refine CO.le (fun b hb=> .inl hb) (fun _ _=>rfl) a2 (by simp only[loc'];rw[if_neg hk]) rfl (fun b c hl=>⟨rfl,fun hnF a1=>?_⟩) (h.objs k);rcases a1 with a1|⟨p,hp,c',a1⟩
   ·exact hnF a1
   ·exact hk ⟨p,hp,h.inj _ _ _ _ _ a1 hl⟩
 ·intro k k' b c c' h1 h2;exact h.inj _ _ _ _ _ (a0 _ _ _ h1).1 (a0 _ _ _ h2).1
 ·intro k b c h1;exact h.fresh _ _ _ (a0 _ _ _ h1).1
 ·intro b hb;rcases hb with hb|⟨p,hp,c,hb⟩
  ·exact h.bound b hb
  ·exact(h.fresh _ _ _ hb).2
 ·intro b hb;rcases hb with hb|⟨p,hp,c,hb⟩
  ·exact h.fsub b hb
  ·exact .inr (h.fresh _ _ _ hb).1
 ·obtain⟨d,rfl⟩:=hvc;exact hv
 ·obtain⟨d,rfl⟩:=hvc;trivial
theorem KA {fn:Fn} {first captured:Array Operand} (h:Conc C B F0 w0 F loc st a w):RS C B F0 w0 st a w ⟨dst,.makeFunc fn first captured,ty,pos,after,g⟩ (xc C ⟨dst,.makeFunc fn first captured,ty,pos,after,g⟩ (ev st) st.objs):=by
 simp only[xc];split
 ·rename_i f hf;have a0:first= #[]:=by apply Aa;simpa using hf
  subst a0;split
  ·rename_i ps us a1;obtain⟨h1,h2⟩:=K9 h a1 (kp h captured.toList);have h3:=h2 (fun b=>F b∨∃p∈us,∃c,loc p.1=some (b,c)) (fun b hb=> .inl hb) (fun p hp b c hl=> .inr ⟨p,hp,c,hl⟩);refine⟨_,.func (.func f) #[] (captured.map a.eval),w,by simp[execOp,Instr.makeFunc],.inl rfl,?_⟩;refine h.capture (fun p hp=>⟨(h1 p hp).1,(h1 p hp).2.2⟩) ?_ (by cases ps<;>exact⟨_,rfl⟩);have hl:=h3.length;cases ps with
   |nil=>
    have:captured.map a.eval= #[]:=by
     apply Aa;have:captured.toList.length=0:=by simpa using hl.symm
     simp[AF this]
    rw[this];exact CD.fn f
   |cons p ps=>
    have e:captured.map a.eval=((AR (p::ps).length).map fun j=>nth undef (captured.toList.map a.eval) j).toArray:=by
     apply Aa;rw[Array.toList_map];apply List.ext_getElem
     ·simp at hl ⊢;omega
     ·intro i hi1 hi2;simp only[AX,BQ];rw[qn _ (by simpa using hi1)];simp
    rw[e];exact CD.clo f (p::ps) _ fun j hj=>h3.nth .undef undef _ _ j hj
  ·trivial
 ·trivial
def RSW (C:Cx) (B:Bd) (F0:Nat→Prop) (w0:World) (st:St) (a:Act) (w:World) (o:Oper):R→Prop
 | .fail=>True
 | .ok v up=>∀(next:Act→World→Prop) (Q:Exit→Act→World→Prop),(∀a' w',St.has C B F0 w0 (st.put o.dst v up) a' w'→next a' w')→o.wp C.P a w next Q
 | .cond (dc:=_) c v up=>c→∀(next:Act→World→Prop) (Q:Exit→Act→World→Prop),(∀a' w',St.has C B F0 w0 (st.put o.dst v up) a' w'→next a' w')→o.wp C.P a w next Q
 | .look z row off ag=>∀ds,cut row off z.length ds→∀(next:Act→World→Prop) (Q:Exit→Act→World→Prop),(∀a' w',St.has C B F0 w0 (st.put o.dst (match ag with|true=> .ag ds|false=> .c (nth .undef ds 0)) []) a' w'→next a' w')→o.wp C.P a w next Q
 | .call f as sh up=>∀rs,qe C f as rs→(zb sh=false→∀r∈rs,XN r=true)→∀(next:Act→World→Prop) (Q:Exit→Act→World→Prop),
  (∀a' w',St.has C B F0 w0 (st.put o.dst (Ke rs) up) a' w'→next a' w')→o.wp C.P a w next Q
theorem rsw {o:Oper} {r:R} (h:RS C B F0 w0 st a w o r):RSW C B F0 w0 st a w o r:=by
 cases r with
 |fail=>trivial
 |ok v up=>exact fun next Q hn=>Does.wp h hn
 |cond c v up=>exact fun hc next Q hn=>Does.wp (h hc) hn
 |look z row off ag=>exact fun ds hc next Q hn=>Does.wp (h ds hc) hn
 |call f as sh up=>exact h
def qM:Obj→List V
 | .box cells=>cells
 | .bld _ q=>[q]
 |_=>[]
def VOk (ob:List Obj) (up:List (Nat×Obj)) (v:V):Prop:=∀k∈qk v,nth .none ob k≠ .none∨(qq ob k=true∧∃x,(k,x)∈up)
def Ow (wd:Bool) (dst:Option Nat) (k:Nat):Prop:=dst=some k∨(wd=true∧∃d,dst=some d∧k=d+1)
def N0 (wd:Bool) (dst:Option Nat) (keys:List Nat) (ob:List Obj):R→Prop
 | .fail=>True
 | .ok v up| .cond (dc:=_) _ v up=>(∀p∈up,((Ow wd dst p.1∧qq ob p.1=true)∨(p.1∈keys∧nth .none ob p.1≠ .none))∧p.2≠ .none∧∀u∈qM p.2,VOk ob up u)∧VOk ob up v
 | .look .. =>False
 | .call .. =>False
class EffOk (C:Cx):Prop where
 rs:∀{f:Nat} {e:Option Nat→List V→List Obj→R},C.eff f=some e→∀{B:Bd} {F0:Nat→Prop} {w0:World} {F:Nat→Prop} {loc:Where} {st:St} {a:Act} {w:World} {dst:Option Nat} {args:Array Operand} {ts:Array TypeId} {ty:TypeId} {pos:String} {after:Array Edge} {g:Option (Nat×Bool)},
  Conc C B F0 w0 F loc st a w→RSW C B F0 w0 st a w ⟨dst,.call ⟨.value (.func f),args,ts⟩,ty,pos,after,g⟩ (e dst (args.toList.map (ev st)) st.objs)
 ag:∀{f:Nat} {e:Option Nat→List V→List Obj→R},C.eff f=some e→∀(dst:Option Nat) (vs:List V) (ob ob':List Obj),(∀k∈zp ob (vs.flatMap qk),nth .none ob k=nth .none ob' k)→(∀d,Ow (C.wd f) dst d→qq ob d=qq ob' d)→e dst vs ob=e dst vs ob'
 good:∀{f:Nat} {e:Option Nat→List V→List Obj→R},C.eff f=some e→∀(dst:Option Nat) (vs:List V) (ob:List Obj),(∀v∈vs,∀k∈qk v,nth .none ob k≠ .none)→(∀k,∀u∈qM (nth .none ob k),∀j∈qk u,nth .none ob j≠ .none)→N0 (C.wd f) dst (zp ob (vs.flatMap qk)) ob (e dst vs ob)
theorem Bs [EffOk C] {o:Oper} (h:Conc C B F0 w0 F loc st a w):RSW C B F0 w0 st a w o (xc C o (ev st) st.objs):=by
 obtain⟨dst,op,ty,pos,a3,g⟩:=o;cases op with
 |move x=>exact rsw (On h)
 |assign x=>exact rsw (Hn h)
 |pick c x y=>exact rsw (Oo h)
 |alloc t=>exact rsw (TZ h)
 |box t x=>exact rsw (R7 h)
 |build t parts=>exact rsw (Lh h)
 |buildSlice t len parts=>exact rsw (XU h)
 |load t x=>exact rsw (Oq h)
 |store t p x=>exact rsw (La h)
 |nilCheck x=>exact rsw (K4 h)
 |binOp op t x y t2=>exact rsw (Lb h)
 |unOp op t x=>exact rsw (Ot h)
 |convert s t x=>exact rsw (Y6 h)
 |makeSlice t x y=>exact rsw (Jj h)
 |slice t x lo hi mx=>exact rsw (Lg h)
 |fieldAddr t x f=>exact rsw (Jh h)
 |field t x f=>exact rsw (Lc h)
 |indexAddr t x i=>exact rsw (Ji h)
 |index t x i=>exact rsw (Ld h)
 |extract x i=>exact rsw (Y7 h)
 |makeFunc fn first captured=>exact rsw (KA h)
 |call c=>
  obtain⟨a2,a0,ts⟩:=c;simp only[xc];split
  ·split
   ·rename_i e he;exact EffOk.rs he h
   ·exact rsw (Ht h rfl)
  ·split
   ·rename_i t _ f hx;have a1:=(qO h (.tmp t)).1;rw[hx]at a1;split
    ·trivial
    refine rsw (Ht h ((fun(y:Value) (hy:CD w F (.fn f) y)=>(by cases hy;rfl:y= .func (.func f) #[] #[])) _ a1))
   ·rename_i t _ f ps hx;have a1:=(qO h (.tmp t)).1;rw[hx]at a1;split
    ·trivial
    exact rsw (RB h a1)
   ·trivial
  ·split
   ·rename_i x hx;have:a0= #[x]:=by apply Aa;simpa using hx
    subst this;exact rsw (R9 h)
   ·trivial
  ·split
   ·rename_i x y hx;have:a0= #[x,y]:=by apply Aa;simpa using hx
    subst this;exact rsw (Hr h)
   ·trivial
  ·split
   ·rename_i x hx;have:a0= #[x]:=by apply Aa;simpa using hx
    subst this;exact rsw (Lj h)
   ·trivial
  ·split
   ·rename_i x y hx;have:a0= #[x,y]:=by apply Aa;simpa using hx
    subst this;exact rsw (Bq h)
   ·trivial
  ·split
   ·rename_i x y hx;have:a0= #[x,y]:=by apply Aa;simpa using hx
    subst this;exact rsw (Br h)
   ·trivial
  ·trivial
 |_=>trivial
theorem jp:∀{z:List Value} {K:List D→Prop},zG z K→∃ds,K ds∧(yA z=false→∀d∈ds,QM d=true)∧ds.length=z.length
 |[],K,h=>⟨[],h,fun _ d hd=>absurd hd (by simp),rfl⟩
 |z::r,K,h=>by
  have key:∀(d:D),(zG r fun ds=>K (d::ds))→(Bn z=false→QM d=true)→∃ds,K ds∧(yA (z::r)=false→∀d∈ds,QM d=true)∧ds.length=(z::r).length:=by
   intro d hd a0;obtain⟨ds,h1,h2,h3⟩:=jp hd;refine⟨d::ds,h1,fun hz e he=>?_,by simp[h3]⟩;simp only[yA,Ah]at hz;rcases AB.1 he with rfl|he
   ·exact a0 hz.1
   ·exact h2 hz.2 e he
  cases z<;>simp only[zG]at h<;>obtain⟨x,h⟩:=h<;>refine key _ h ?_<;>simp[QM,Bn]
theorem vu:∀{sh:List (Bool×List Value)} {K:List A→Prop},Yv sh K→∃rs,K rs∧(zb sh=false→∀r∈rs,XN r=true)
 |[],K,h=>⟨[],h,fun _ d hd=>absurd hd (by simp)⟩
 |(true,z)::r,K,h=>by
  simp only[Yv]at h;obtain⟨ds,h1,h2,h5⟩:=jp h;obtain⟨rs,h3,h4⟩:=vu h1;refine⟨_,h3,fun hs=>?_⟩;cases z with
  |nil=>simp[zb]at hs
  |cons z0 z=>
   simp only[zb,Ah]at hs;intro q hq;rcases AB.1 hq with rfl|hq
   ·exact BT.2 (h2 hs.1)
   ·exact h4 hs.2 q hq
 |(false,z)::r,K,h=>by
  simp only[Yv]at h;obtain⟨ds,h1,h2,h5⟩:=jp h;obtain⟨rs,h3,h4⟩:=vu h1;refine⟨_,h3,fun hs=>?_⟩;cases z with
  |nil=>simp[zb]at hs
  |cons z0 z=>
   simp only[zb,Ah]at hs;intro q hq;rcases AB.1 hq with rfl|hq
   ·cases ds with
    |nil=>simp at h5
    |cons d ds=>exact h2 hs.1 d (by simp)
   ·exact h4 hs.2 q hq
end
end Eng
end

section
namespace Eng
open Go Go.RowKit
theorem vv {ρ:Operand→V}:∀(l:List Operand),Ku ρ l=l.flatMap fun x=>qk (ρ x)
 |[]=>rfl
 |x::r=>by simp only[Ku,List.flatMap_cons];rw[vv r]
theorem wG {ob:List Obj} {k:Nat}:∀{l:List Nat},k∈ZX ob l↔∃j∈l,k=j∨∃T q,nth .none ob j= .bld T q∧k∈qk q
 |[]=>by simp[ZX]
 |j::r=>by
  simp only[ZX,AC];rw[wG];constructor
  ·rintro(h|⟨i,h1,h2⟩)
   ·split at h
    ·rename_i T q hq;rcases AB.1 h with rfl|h
     ·exact⟨k,by simp,.inl rfl⟩
     ·exact⟨j,by simp,.inr ⟨T,q,hq,h⟩⟩
    ·simp only[AS]at h;exact⟨j,by simp,.inl h⟩
   ·exact⟨i,by simp[h1],h2⟩
  ·rintro⟨i,h1,h2⟩;rcases AB.1 h1 with rfl|h1
   ·refine .inl ?_;rcases h2 with rfl|⟨T,q,hq,h2⟩
    ·split<;>simp
    ·rw[hq];simp[h2]
   ·exact .inr ⟨i,h1,h2⟩
theorem vw {k:Nat}:∀{l:List V},k∈ZY l↔∃q∈l,k∈qk q
 |[]=>by simp[ZY]
 |v::r=>by
  simp only[ZY,AC];rw[vw];constructor
  ·rintro(h|⟨q,h1,h2⟩)
   ·exact⟨v,by simp,h⟩
   ·exact⟨q,by simp[h1],h2⟩
  ·rintro⟨q,h1,h2⟩;rcases AB.1 h1 with rfl|h1
   ·exact .inl h2
   ·exact .inr ⟨q,h1,h2⟩
theorem qy {ob:List Obj} {k:Nat}:∀{l:List Nat},k∈zp ob l↔∃j∈l,k=j∨∃q,q∈qM (nth .none ob j)∧k∈qk q
 |[]=>by simp[zp]
 |j::r=>by
  simp only[zp,AC];rw[qy];constructor
  ·rintro(h|⟨i,h1,h2⟩)
   ·split at h
    ·rename_i T q hq;rcases AB.1 h with rfl|h
     ·exact⟨k,by simp,.inl rfl⟩
     ·exact⟨j,by simp,.inr ⟨q,by rw[hq];simp[qM],h⟩⟩
    ·rename_i cs hq;rcases AB.1 h with rfl|h
     ·exact⟨k,by simp,.inl rfl⟩
     ·obtain⟨q,h1,h2⟩:=vw.1 h;exact⟨j,by simp,.inr ⟨q,by rw[hq];simpa [qM]using h1,h2⟩⟩
    ·simp only[AS]at h;exact⟨j,by simp,.inl h⟩
   ·exact⟨i,by simp[h1],h2⟩
  ·rintro⟨i,h1,h2⟩;rcases AB.1 h1 with rfl|h1
   ·refine .inl ?_;rcases h2 with rfl|⟨q,hq,h2⟩
    ·split<;>simp
    ·cases hi:nth .none ob i with
     |bld T q'=>rw[hi]at hq;simp only[qM,AS]at hq;subst hq;simp[h2]
     |box cs=>rw[hi]at hq;simp only[qM]at hq;exact AO _ (vw.2 ⟨q,hq,h2⟩)
     |none=>rw[hi]at hq;simp[qM]at hq
     |dead=>rw[hi]at hq;simp[qM]at hq
     |arr _ _ _=>rw[hi]at hq;simp[qM]at hq
   ·exact .inr ⟨i,h1,h2⟩
theorem yq {C:Cx} {o:Oper} {d:Nat} (h:o.dst=some d):d∈Hh C o:=by
 unfold Hh;rw[h]
 dsimp only
 split
 ·split
  ·split<;>simp
  ·simp
 ·simp
theorem Jm {C:Cx} {dst:Option Nat} {f:Nat} {args:Array Operand} {ts:Array TypeId} {ty:TypeId} {pos:String} {after:Array Edge} {g:Option (Nat×Bool)} {k:Nat}:k∈Hh C ⟨dst,.call ⟨.value (.func f),args,ts⟩,ty,pos,after,g⟩↔Ow (C.wd f) dst k:=by
 unfold Hh Ow;cases dst with
 |none=>simp
 |some t=>
  dsimp only
  cases C.wd f with
  |true=>simp[eq_comm]
  |false=>simp[eq_comm]
theorem wj {o:Oper} {ρ:Operand→V} {ob:List Obj} {x:Operand} {k:Nat} (hx:x∈o.op.operands.toList) (hk:k∈qk (ρ x)):k∈opk o ρ ob:=by
 unfold opk;split
 ·rw[qy,vv];exact⟨k,AK.2 ⟨x,hx,hk⟩,.inl rfl⟩
 ·rw[wG,vv];exact⟨k,AK.2 ⟨x,hx,hk⟩,.inl rfl⟩
def Ag (c:Nat) (x y:Obj):Prop:=x=y∨(c≤1∧∃s es fz fz',x= .arr s es fz∧y= .arr s es fz')
theorem Ag.symm {c:Nat} {x y:Obj} (h:Ag c x y):Ag c y x:=by
 rcases h with h|⟨h,s,es,fz,fz',h1,h2⟩
 ·exact .inl h.symm
 ·exact .inr ⟨h,s,es,fz',fz,h2,h1⟩
section
variable {C:Cx} {ob ob':List Obj}
theorem wH {c:Nat}:∀{cs:List VC},(∀k∈zW cs,Ag c (nth .none ob k) (nth .none ob' k))→dataC ob cs=dataC ob' cs
 |[],_=>rfl
 | .d d::r,h=>by simp only[dataC,Kq];rw[wH (cs:=r) fun k hk=>h k (by simpa [zW]using hk)]
 | .nil::r,h=>by simp only[dataC,Kq];rw[wH (cs:=r) fun k hk=>h k (by simpa [zW]using hk)]
 | .arr j::r,h=>by
  simp only[dataC,Kq];rw[wH (cs:=r) fun k hk=>h k (by simp[zW,hk])];rcases h j (by simp[zW])with h|⟨_,s,es,fz,fz',h1,h2⟩
  ·simp only[h]
  ·simp only[h1,h2]
theorem Y8 {c:Nat} {v:V} (h:∀k∈qk v,Ag c (nth .none ob k) (nth .none ob' k)):cellsOf ob v=cellsOf ob' v:=by
 cases v<;>try rfl
 ·rename_i k;rcases h k (by simp[qk])with h|⟨_,s,es,fz,fz',h1,h2⟩
  ·simp only[cellsOf,h]
  ·simp only[cellsOf,h1,h2]
 ·rename_i cs;simp only[cellsOf];rw[wH (cs:=cs) fun k hk=>h k hk]
theorem RC {c:Nat} {v:V} (h:∀k∈qk v,Ag c (nth .none ob k) (nth .none ob' k)):toA ob v=toA ob' v:=by
 cases v<;>try rfl
 ·rename_i k;rcases h k (by simp[qk])with h|⟨_,s,es,fz,fz',h1,h2⟩
  ·simp only[toA,h]
  ·simp only[toA,h1,h2]
 ·rename_i cs;simp only[toA];rw[wH (cs:=cs) fun k hk=>h k hk]
theorem Va {c:Nat} {v:V} (h:∀k∈qk v,Ag c (nth .none ob k) (nth .none ob' k)):kM ob v=kM ob' v:=by
 cases v with
 |c d=>cases d<;>rfl
 |arr k=>?_
 |_=>rfl
 rcases h k (by simp[qk])with h|⟨_,s,es,fz,fz',h1,h2⟩
 ·simp only[kM,h]
 ·simp only[kM,h1,h2]
theorem jM {c:Nat}:∀{vs:List V},(∀v∈vs,∀k∈qk v,Ag c (nth .none ob k) (nth .none ob' k))→kL ob vs=kL ob' vs
 |[],_=>rfl
 |v::vs,h=>by simp only[kL];rw[RC (h v (by simp)),jM fun u hu=>h u (by simp[hu])]
theorem yY {c:Nat} {ρ:Operand→V}:∀{ps:List (Nat×Operand)},(∀p∈ps,∀k∈qk (ρ p.2),Ag c (nth .none ob k) (nth .none ob' k))→xG ob ρ ps=xG ob' ρ ps
 |[],_=>rfl
 |(i,x)::ps,h=>by simp only[xG];rw[Y8 (h (i,x) (by simp)),yY fun u hu=>h u (by simp[hu])]
theorem Jn {ob:List Obj} {ts:Array TypeId} {v:V} (h:∀k o l,v≠ .sub k o l):yF C ob ts v= .fail:=by
 unfold yF;split
 ·split
  ·split
   ·exact absurd rfl (h _ _ _)
   ·rfl
  ·rfl
 ·rfl
theorem Hw:∀{vs:List V},(∀v∈vs,∀k∈qk v,Ag 2 (nth .none ob k) (nth .none ob' k))→Ks ob vs=Ks ob' vs
 |[],_=>rfl
 |v::vs,h=>by
  have ih:=Hw (vs:=vs) fun u hu=>h u (by simp[hu])
  cases v with
  |box k off=>
   cases off with
   |zero=>
    rcases h _ (AT ..) k (by simp[qk])with h1|⟨h1,_⟩
    ·simp only[Ks,h1,ih]
    ·omega
   |succ n=>rfl
  |eref es i off=>
   unfold Ks;split
   ·rename_i h0;cases h0
   ·rw[ih]
   ·rfl
  |_=>rfl
theorem Ox [EffOk C] {o:Oper} {ρ:Operand→V} (hk:cls C o=0∨∀k∈opk o ρ ob,Ag (cls C o) (nth .none ob k) (nth .none ob' k)) (hd1:∀d,d∈Hh C o→qq ob d=qq ob' d):xc C o ρ ob=xc C o ρ ob':=by
 have hd:∀d,o.dst=some d→qq ob d=qq ob' d:=fun d h=>hd1 d (yq h)
 obtain⟨a4,op,ty,a6,a2,g⟩:=o;have a1:∀{c:Nat} (x:Operand),x∈op.operands.toList→(c=0∨∀k∈opk ⟨a4,op,ty,a6,a2,g⟩ ρ ob,Ag c (nth .none ob k) (nth .none ob' k))→c≠0→∀k∈qk (ρ x),Ag c (nth .none ob k) (nth .none ob' k):=by
  intro c x hx h hc k hkx;rcases h with h|h
  ·exact absurd h hc
  ·exact h k (wj hx hkx)
 cases op with
 |move x=>rfl
 |assign x=>rfl
 |pick c x y=>rfl
 |binOp op t x y t2=>rfl
 |unOp op t x=>rfl
 |convert s t x=>rfl
 |field t x f=>rfl
 |index t x i=>rfl
 |extract x i=>rfl
 |alloc t=>
  cases a4 with
  |none=>rfl
  |some d=>simp only[xc];rw[hd d rfl]
 |box t x=>
  cases a4 with
  |none=>rfl
  |some d=>simp only[xc];rw[hd d rfl]
 |makeSlice t x y=>
  cases a4 with
  |none=>rfl
  |some d=>simp only[xc];rw[hd d rfl]
 |build t parts=>
  have h1:xG ob ρ parts.toList=xG ob' ρ parts.toList:=yY fun p hp=>a1 (c:=1) p.2 (by simp only[A4];exact AD.2 ⟨p,hp,rfl⟩) hk (by simp)
  simp only[xc,h1]
 |buildSlice t len parts=>
  have h1:xG ob ρ parts.toList=xG ob' ρ parts.toList:=yY fun p hp=>a1 (c:=1) p.2 (by simp only[A4];exact AD.2 ⟨p,hp,rfl⟩) hk (by simp)
  cases a4 with
  |none=>rfl
  |some d=>simp only[xc,h1];rw[hd d rfl]
 |load t x=>
  have h1:=a1 (c:=1) x (by simp[A4]) hk (by simp);simp only[xc,TL];cases hx:ρ x<;>try rfl
  ·rename_i k a5;rw[hx]at h1;rcases h1 k (by simp[qk])with h|⟨_,s,es,fz,a3,h1,h2⟩
   ·simp only[h]
   ·simp only[h1,h2]
  ·rename_i k i a5;rw[hx]at h1;rcases h1 k (by simp[qk])with h|⟨_,s,es,fz,a3,h1,h2⟩
   ·simp only[h]
   ·simp only[h1,h2]
 |nilCheck x=>
  have h1:=a1 (c:=1) x (by simp[A4]) hk (by simp);simp only[xc];cases hx:ρ x<;>try rfl
  rename_i k a5;rw[hx]at h1;rcases h1 k (by simp[qk])with h|⟨_,s,es,fz,a3,h1,h2⟩
  ·simp only[h]
  ·simp only[h1,h2]
 |fieldAddr t x f=>
  have h1:=a1 (c:=1) x (by simp[A4]) hk (by simp);simp only[xc];cases hx:ρ x<;>try rfl
  ·rename_i k a5;rw[hx]at h1;rcases h1 k (by simp[qk])with h|⟨_,s,es,fz,a3,h1,h2⟩
   ·simp only[h]
   ·simp only[h1,h2]
  ·rename_i k i a5;rw[hx]at h1;rcases h1 k (by simp[qk])with h|⟨_,s,es,fz,a3,h1,h2⟩
   ·simp only[h]
   ·simp only[h1,h2]
 |indexAddr t x i=>
  have h1:=a1 (c:=1) x (by simp[A4]) hk (by simp);simp only[xc,kC];cases hx:ρ x with
  |c d=>cases d<;>rfl
  |box k a5=>?_
  |arr k=>?_
  |sub k o l=>?_
  |gl g a5=>cases a5<;>rfl
  |_=>rfl
  ·rw[hx]at h1;rcases h1 k (by simp[qk])with h|⟨_,s,es,fz,a3,h1,h2⟩
   ·simp only[h]
   ·simp only[h1,h2]
  ·rw[hx]at h1;rcases h1 k (by simp[qk])with h|⟨_,s,es,fz,a3,h1,h2⟩
   ·simp only[h]
   ·simp only[h1,h2]
  ·rw[hx]at h1;rcases h1 k (by simp[qk])with h|⟨_,s,es,fz,a3,h1,h2⟩
   ·simp only[h]
   ·simp only[h1,h2]
 |slice t x lo hi mx=>
  have h1:kM ob (ρ x)=kM ob' (ρ x):=Va (a1 (c:=1) x (by simp[A4]) hk (by simp));have h2:=a1 (c:=1) x (by simp[A4]) hk (by simp);have h3:∀lo hi mx,Kr C.P t ob (ρ x) lo hi mx=Kr C.P t ob' (ρ x) lo hi mx:=by
   intro lo hi mx;unfold Kr;cases C.P.underlying t with
   |none=>rfl
   |some d=>cases d with
    |slice e=>
     dsimp only
     cases zC C.P e with
     |none=>rfl
     |some z=>cases hx:ρ x with
      |arr k=>
       rw[hx]at h2
       dsimp only
       rcases h2 k (by simp[qk])with h|⟨_,s,es,fz,a3,h1,h2⟩
       ·simp only[h]
       ·simp only[h1,h2]
      |_=>rfl
    |_=>rfl
  simp only[xc,ZV,ZU,h1,h3]
 |store t p x=>
  have h1:=a1 (c:=2) p (by simp[A4]) hk (by simp);have h2:=a1 (c:=2) x (by simp[A4]) hk (by simp);have e1:∀k,k∈qk (ρ p)→nth .none ob k=nth .none ob' k:=fun k hkk=>by
   rcases h1 k hkk with h|⟨h,_⟩
   ·exact h
   ·omega
  have e2:∀k,k∈qk (ρ x)→nth .none ob k=nth .none ob' k:=fun k hkk=>by
   rcases h2 k hkk with h|⟨h,_⟩
   ·exact h
   ·omega
  simp only[xc,WO];cases hp:ρ p<;>try rfl
  ·rename_i k a5;rw[hp]at e1
   dsimp only
   rw[e1 k (by simp[qk])];cases hx:ρ x<;>try rfl
   rename_i j;rw[hx]at e2
   dsimp only
   rw[e2 j (by simp[qk])]
  ·rename_i k i a5;rw[hp]at e1
   dsimp only
   rw[e1 k (by simp[qk])]
 |makeFunc fn first captured=>
  simp only[xc];split
  ·have h1:Ks ob (captured.toList.map ρ)=Ks ob' (captured.toList.map ρ):=Hw fun v hv=>by obtain⟨x,hx,rfl⟩:=AD.1 hv;exact a1 (c:=2) x (by simp[A4];exact .inr (by simpa using hx)) hk (by simp)
   rw[h1]
  ·rfl
 |call c=>
  obtain⟨a7,a0,ts⟩:=c;simp only[xc];split
  ·rename_i f;cases he:C.eff f with
   |none=>
    have a8:cls C ⟨a4,.call ⟨.value (.func f),a0,ts⟩,ty,a6,a2,g⟩=1:=by simp[cls,he]
    rw[a8]at hk;have h1:kL ob (a0.toList.map ρ)=kL ob' (a0.toList.map ρ):=jM fun v hv=>by obtain⟨x,hx,rfl⟩:=AD.1 hv;exact a1 (c:=1) x (by simp[A4,At];exact .inr (by simpa using hx)) hk (by simp)
    simp only[yd,h1]
   |some e=>
    have a8:cls C ⟨a4,.call ⟨.value (.func f),a0,ts⟩,ty,a6,a2,g⟩=2:=by simp[cls,he]
    rw[a8]at hk;refine EffOk.ag he _ _ _ _ (fun k hkk=>?_) (fun d hd'=>hd1 d (Jm.2 hd'));rcases hk with h|h
    ·simp at h
    ·have hin:k∈opk ⟨a4,.call ⟨.value (.func f),a0,ts⟩,ty,a6,a2,g⟩ ρ ob:=by show k∈zp ob _;rw[qy]at hkk ⊢;obtain⟨j,h1,h2⟩:=hkk;refine⟨j,?_,h2⟩;rw[vv];obtain⟨v,hv,hj⟩:=AK.1 h1;obtain⟨x,hx,rfl⟩:=AD.1 hv;exact AK.2 ⟨x,by simp only[A4,At,Array.toList_append];exact List.mem_append_right _ hx,hj⟩
     rcases h k hin with h|⟨h,_⟩
     ·exact h
     ·omega
  ·rename_i t;have h1:kL ob (a0.toList.map ρ)=kL ob' (a0.toList.map ρ):=jM fun v hv=>by obtain⟨x,hx,rfl⟩:=AD.1 hv;exact a1 (c:=1) x (by simp[A4,At];exact .inr (by simpa using hx)) hk (by simp)
   split
   ·split
    ·rfl
    ·simp only[yd,h1]
   ·rename_i f ps _;have h2:kL ob (a0.toList.map ρ++ps.map V.c)=kL ob' (a0.toList.map ρ++ps.map V.c):=jM (c:=1) fun v hv=>by
     rcases AC.1 hv with hv|hv
     ·obtain⟨x,hx,rfl⟩:=AD.1 hv;exact a1 (c:=1) x (by simp[A4,At];exact .inr (by simpa using hx)) hk (by simp)
     ·obtain⟨d,_,rfl⟩:=AD.1 hv;intro k hk;simp[qk]at hk
    split
    ·rfl
    ·simp only[yd,h2]
   ·rfl
  ·split
   ·rename_i x hx;have:a0= #[x]:=by apply Aa;simpa using hx
    subst this;have h1:=a1 (c:=1) x (by simp[A4,At]) hk (by simp);simp only[R1];cases hx:ρ x with
    |c d=>cases d<;>rfl
    |arr k=>?_
    |sub k o l=>?_
    |_=>rfl
    ·rw[hx]at h1;rcases h1 k (by simp[qk])with h|⟨_,s,es,fz,a3,h1,h2⟩
     ·simp only[h]
     ·simp only[h1,h2]
    ·rw[hx]at h1;rcases h1 k (by simp[qk])with h|⟨_,s,es,fz,a3,h1,h2⟩
     ·simp only[h]
     ·simp only[h1,h2]
   ·rfl
  ·split
   ·rename_i x y hx;have:a0= #[x,y]:=by apply Aa;simpa using hx
    subst this;have h1:=a1 (c:=2) x (by simp[A4,At]) hk (by simp);have h2:kM ob (ρ y)=kM ob' (ρ y):=Va (a1 (c:=2) y (by simp[A4,At]) hk (by simp));cases a4 with
    |none=>rfl
    |some d=>
     simp only[yE,h2];rw[hd d rfl];cases hx:ρ x<;>try rfl
     rename_i k;rw[hx]at h1;rcases h1 k (by simp[qk])with h|⟨h,_⟩
     ·dsimp only
      rw[h]
     ·omega
   ·rfl
  ·split
   ·rename_i x hx;have:a0= #[x]:=by apply Aa;simpa using hx
    subst this;have h1:=a1 (c:=2) x (by simp[A4,At]) hk (by simp);by_cases hs:∃k o l,ρ x= .sub k o l
    ·obtain⟨k,o,l,hx⟩:=hs;rw[hx]at h1 ⊢;rcases h1 k (by simp[qk])with h|⟨h,_⟩
     ·unfold yF;split
      ·split
       ·split
        ·rename_i hv;simp only[V.sub.injEq]at hv;obtain⟨rfl,rfl,rfl⟩:=hv;rw[h]
        ·rfl
       ·rfl
      ·rfl
     ·omega
    ·have a9:∀k o l,ρ x≠ .sub k o l:=fun k o l e=>hs ⟨k,o,l,e⟩
     rw[Jn a9,Jn a9]
   ·rfl
  ·rfl
  ·rfl
  ·rfl
 |_=>rfl
end
end Eng
end
