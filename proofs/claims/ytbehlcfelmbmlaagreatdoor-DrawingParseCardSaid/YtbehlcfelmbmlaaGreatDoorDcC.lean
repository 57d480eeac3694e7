/- The verification conditions of functions, printed by a program (vcgen.py) and checked by the kernel. -/
import Derived.Test.YtbehlcfelmbmlaaGreatDoorCtxB
import Derived.Test.YtbehlcfelmbmlaaGreatDoorTxA
import Derived.Test.YtbehlcfelmbmlaaGreatDoorDcB
import Derived.Test.YtbehlcfelmbmlaaGreatDoorDbD
import Derived.KernelRfl
open Eng.D renaming bool→Aw, sl→Bx, int→Dd
open List renaming mem_cons→F0, length_cons→F2, not_mem_nil→Hu, mem_map→Hv
section
namespace Eng
open Go Go.Proofs
set_option maxRecDepth 1000000
end Eng
end

section
namespace Eng
open Go Go.Proofs
set_option maxRecDepth 100000
end Eng
end

section
namespace Eng
open Go Go.Proofs
set_option maxRecDepth 100000
end Eng
end

section
open Go Go.Proofs Eng
set_option maxRecDepth 1000000
namespace Eng
end Eng
end

section
open Go Go.Proofs Eng
set_option maxRecDepth 1000000
namespace Eng
theorem NO (Gv:Nat→List A→List A→Prop) (s:List UInt8) (Q:List A→Prop):wpF CC Gv an0 Tryz.f4 [.c (.str s)] Q=(
 ∃b,Gv 8 [] [A.c (Aw b)]∧br (toB (Aw !b)) (∃b,Gv 8 [] [A.c (Aw b)]∧Q [A.c (Aw b)]) (br (toB (Aw (decide ((Int.ofNat s.length)>500)))) (∃b,Gv 8 [] [A.c (Aw b)]∧Q [A.c (Aw b)]) (∃es e1 n n1,Gv 13 [A.c (D.str s)] [A.ag [Bx es,Bx e1],A.c (Dd .i64 n),A.c (Dd .i64 n1)]∧∃e2 e3 n2 n3,Gv 15 [A.c (D.str s)] [A.ag [Bx e2,Bx e3],A.c (Dd .i64 n2),A.c (Dd .i64 n3)]∧br (toB (Aw (n==n2))) (br (toB (Aw (n1==n3))) (∃b,Gv 14 [A.ag [Bx es,Bx e1],A.ag [Bx e2,Bx e3]] [A.c (Aw b)]∧Q [A.c (Aw b)]) (Q [A.c (Aw false)])) (Q [A.c (Aw false)])))):=by kernel_rfl
end Eng
end

section
open Go Go.Proofs Eng
set_option maxRecDepth 1000000
namespace Eng
end Eng
end

section
namespace Eng
open Go Go.Proofs
set_option maxRecDepth 100000
theorem vv {c:UInt8}:∀{s:List UInt8} {w:List UInt8},w∈qC c s→w.length≤s.length
 |[],w,h=>by have h:w∈[[]]:=h;simp only[F0,Hu,or_false]at h;rw[h];simp
 |a::s,w,h=>by
  unfold qC at h;split at h
  ·rcases F0.1 h with rfl|h
   ·simp
   ·have:=vv h;simp only[F2];omega
  ·split at h
   ·rename_i h2;simp only[F0,Hu,or_false]at h;subst h;simp
   ·rename_i x r h2;have hx:x.length≤s.length:=vv (by rw[h2];simp);rcases F0.1 h with rfl|h
    ·simp only[F2];omega
    ·have:=vv (s:=s) (w:=w) (by rw[h2];simp[h]);simp only[F2];omega
theorem VQ {s:List UInt8} {ls:List Ly} {es:List En} (hs:s.length≤500) (h:YK s= .ok (ls,es)):(es.map fun e=>jO (XI e).o)=es∧JK ls (es.map XI)=0∧∀e∈es.map XI,e.few:=by
 obtain⟨hv,_⟩:=Mt h;have a0:∀e∈es,wG e=e:=by
  unfold YK at h;cases hl:kD 1 (qC 10 s)with
  |error e=>rw[hl]at h;simp at h
  |ok L=>rw[hl]at h;simp only at h;exact(ww (by simp) (by simp) rfl rfl (by simp) h).2
 have hNb:∀e∈es,NbE e∧e.pts.length≤3:=by
  unfold YK at h;cases hl:kD 1 (qC 10 s)with
  |error e=>rw[hl]at h;simp at h
  |ok L=>rw[hl]at h;simp only at h;obtain⟨_,hLx⟩:=Zr hl;refine Wv (fun x hx p hp=>?_) (by simp) h;obtain⟨_,w,hw,_,hwt⟩:=hLx x hx;unfold tkW at hp;obtain⟨t,ht,rfl⟩:=Hv.1 hp;have:=hwt t ht;have hwl:=vv hw;show t.text.length≤2000;omega
 refine⟨?_,?_,fun e he=>?_⟩
 ·conv=>rhs;rw[←List.map_id es]
  exact List.map_congr_left fun e he=>NF (a0 e he)
 ·rw[Kt];exact hv
 ·obtain⟨x,hx,rfl⟩:=Hv.1 he;exact Wu (hNb x hx).1
theorem RU:qf CC 14 [.ag [.sl [],.sl []],.ag [.sl [],.sl []]] [.c (.bool true)]:=Zu (ls:=[]) (es:=[]) (by simp) (by simp) (by simp) (by simp)
theorem NP (hA:qf CC 8 [] [.c (.bool true)]) (s:List UInt8):qf CC 4 [.c (.str s)] [.c (.bool true)]:=by
 refine qg (anns:=an0) mixedT Tryz.func4 ?_;rw[NO];refine⟨_,hA,brb (fun h=>by simp at h) (fun _=>brd (fun _=>⟨_,hA,rfl⟩) (fun h=>?_))⟩;have hs:s.length≤500:=by simp only[Int.ofNat_eq_natCast]at h;omega
 have hw:=fun w (hw:w∈qC 10 s)=>vv hw
 have h1:=QP (s:=s) (by omega) (fun w h=>by have:=hw w h;omega);have h2:=L6 (s:=s) (by omega) (fun w h=>by have:=hw w h;omega);cases hp:YK s with
 |error q=>obtain⟨n,e⟩:=q;rw[hp]at h1 h2;exact⟨_,_,_,_,h1,_,_,_,_,h2,brb (fun _=>brb (fun _=>⟨_,RU,rfl⟩) (fun h=>by simp at h)) (fun h=>by simp at h)⟩
 |ok q=>obtain⟨ls,es⟩:=q;rw[hp]at h1 h2;obtain⟨b1,b2,b3⟩:=VQ hs hp;obtain⟨f1,f2,f3,f4⟩:=kP b3 b2;have a0:=Zu f1 f2 (by omega) (by omega);rw[List.map_map]at a0;have e1:es.map ((fun e=>jO e.o)∘XI)=es:=b1;rw[e1,←Uh]at a0;unfold drP at a0;exact⟨_,_,_,_,h1,_,_,_,_,h2,brb (fun _=>brb (fun _=>⟨_,a0,rfl⟩) (fun h=>by simp at h)) (fun h=>by simp at h)⟩
end Eng
end
