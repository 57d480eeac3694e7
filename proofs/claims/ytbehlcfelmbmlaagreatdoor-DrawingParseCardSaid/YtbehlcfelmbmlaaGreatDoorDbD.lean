/- The verification conditions of functions, printed by a program (vcgen.py) and checked by the kernel. -/
import Derived.Test.YtbehlcfelmbmlaaGreatDoorCtxB
import Derived.Test.YtbehlcfelmbmlaaGreatDoorTxA
import Derived.Test.YtbehlcfelmbmlaaGreatDoorDbC
import Derived.Test.YtbehlcfelmbmlaaGreatDoorLexA
import Derived.Test.YtbehlcfelmbmlaaGreatDoorDbB
import Derived.KernelRfl
open Bool renaming and_eq_true→Aw, or_eq_true→Bx
section
namespace Eng
open Go Go.Proofs
set_option maxRecDepth 1000000
end Eng
end

section
namespace Eng
open Go Go.Proofs
set_option maxRecDepth 100000
end Eng
end

section
namespace Eng
open Go Go.Proofs
set_option maxRecDepth 100000
theorem jB {x:Rw} (hf:x.rd) (h:xU (vr x)=true):A.ag x.cs=xk x.val∧Sz 54 x.val∧(X3 (x.val/1000)).length≤37:=by
 unfold vr at h;by_cases hx:x.ok=true
 ·rw[if_pos hx]at h;have h1:=Rw.val_cs hx;have hb:decide (-10000000≤x.val∧x.val≤10000000)=true:=by have h':vd x.val=true:=h;unfold vd at h';simp only[Aw]at h';exact h'.1
  have hb:=of_decide_eq_true hb;exact⟨by rw[h1];rfl,Rw.rd_sz hf hx hb.1 hb.2,YP h⟩
 ·rw[if_neg hx]at h;simp[xU]at h
theorem yj {l:Ly} (h:y3 l=true):1≤l.kind∧l.kind≤4∧l.name.length≤24∧l.depth.natAbs<10^23:=by
 unfold y3 at h;simp only[Aw,Bx,decide_eq_true_eq]at h;have hn:=kI h.1;exact⟨by omega,by omega,hn,by omega⟩
structure EOk (e:Er):Prop where
 few:e.few
 kind:1≤e.kind∧e.kind≤3
 name:e.layer.length≤24
 pts:e.pts.length≤3
 ok:∀p∈e.pts,xU (vr p.1)=true∧xU (vr p.2)=true
 rad:e.kind=3→xU (vr e.rad)=true
end Eng
end

section
namespace Eng
open Go Go.Proofs
set_option maxRecDepth 100000
end Eng
end

section
namespace Eng
open Go Go.Proofs
set_option maxRecDepth 100000
theorem Zp:∀{ls:List Ly} {es:List EnO},z7 ls es=0→∀e∈es,xD ls e=0
 |_,[],_,e,he=>by simp at he
 |ls,x::es,h,e,he=>by
  rw[z7]at h;have hk:xD ls x=0:=by
   cases hx:xD ls x with
   |zero=>rfl
   |succ n=>rw[hx]at h;simp at h
  rw[hk]at h;rcases List.mem_cons.1 he with rfl|he
  ·exact hk
  ·exact Zp h e he
theorem kP {ls:List Ly} {es:List Er} (hf:∀e∈es,e.few) (h:JK ls es=0):(∀l∈ls,y3 l=true)∧(∀e∈es,EOk e)∧ls.length≤20∧es.length≤200:=by
 unfold JK wx at h;rw[List.length_map]at h;split at h
 ·omega
 rename_i hlen;have h1:xR [] ls=0:=by
  cases hx:xR [] ls with
  |zero=>rfl
  |succ n=>rw[hx]at h;simp at h
 rw[h1]at h;have h2:=Qn h1;have h3:=Zp (show z7 ls (es.map Er.o)=0 from h);refine⟨h2,fun e he=>?_,by omega,by omega⟩;have hk:=h3 e.o (List.mem_map.2 ⟨e,he,rfl⟩);unfold xD at hk;split at hk
 ·rename_i hin;split at hk
  ·rename_i a0;rw[e.ok_eq]at a0;simp only[Aw,Bx,decide_eq_true_eq]at a0;obtain⟨q1,q2,q3,q4⟩:=a0;obtain⟨l,hl,hn⟩:=List.mem_map.1 hin;have hn:l.name=e.layer:=hn;refine⟨hf e he,q1,?_,?_,fun p hp=>?_,fun hk3=>?_⟩
   ·rw[←hn];exact(yj (h2 l hl)).2.2.1
   ·have:=Kg e.kind;rcases this with h|h
    ·omega
    ·exact absurd q1 h.1
   ·have:=List.all_eq_true.1 q3 p hp;unfold Tz at this;rw[Aw]at this;exact this
   ·rcases q4 with h|h
    ·exact absurd hk3 h
    ·exact h.1
  ·omega
 ·omega
end Eng
end

section
namespace Eng
open Go Go.Proofs
set_option maxRecDepth 100000
theorem Ko {x:Rw} (h:xU (vr x)=true):vr x=some x.val:=by
 unfold vr at h ⊢;by_cases hx:x.ok=true
 ·rw[if_pos hx]
 ·rw[if_neg hx]at h;simp[xU]at h
end Eng
end

section
namespace Eng
open Go Go.Proofs
set_option maxRecDepth 100000
end Eng
end
