/- The verification conditions of functions, printed by a program (vcgen.py) and checked by the kernel. -/
import Derived.Test.YtbehlcfelmbmlaaGreatDoorCtxB
import Derived.Test.YtbehlcfelmbmlaaGreatDoorTxA
import Derived.Test.YtbehlcfelmbmlaaGreatDoorDbB
import Derived.Test.YtbehlcfelmbmlaaGreatDoorLexA
import Derived.KernelRfl
open Bool renaming eq_iff_iff→Aw
open Eng.A renaming c→Bx, ag→Dd
open Eng.D renaming int→F0, bool→F2, sl→Hu, str→Hv
open Eng.D.int renaming injEq→Hx
open Go.IntKind renaming wrap→Hy
open Int renaming ofNat→J3, toNat→J7, toNat_natCast→J9, ofNat_eq_natCast→Lm
open List renaming take→Lr, drop→Ls, length→Lv, take_length→No, length_drop→Pl, length_map→P1, append_nil→Ts, drop_zero→T1, drop_take→U0, length_append→U3, length_take→V1, length_cons→W0, length_nil→W1
open List.cons renaming injEq→W2
open UInt8 renaming toNat→ah
section
namespace Eng
open Go Go.Proofs
set_option maxRecDepth 1000000
section
variable (Gv:Nat→List A→List A→Prop) (Q:List A→Prop) (I0 I1 I2 I3:List D→List D→Prop) (M0 M1 M2 M3:List D→Nat)
theorem TU (s:List UInt8):wpF CC Gv (fun _=>⟨[.slot 3 (.int .i64 0)],[],I0,M0⟩) Tryz.f258 [.c (.str s)] Q=(
 I0 [] [F0 .i64 0]∧∀(n:Int),I0 [] [F0 .i64 n]→br (toB (F2 (decide (n<(J3 s.length))))) ((0≤n∧n<(J3 s.length))∧∃b,Gv 257 [Bx (F0 .u8 (J3 (ah (nth 0 s (J7 n)))))] [Bx (F2 b)]∧br b (I0 [] [F0 .i64 (Hy .i64 (n+1))]∧M0 [F0 .i64 (Hy .i64 (n+1))]<M0 [F0 .i64 n]) (Q [Bx (F0 .i64 n)])) (Q [Bx (F0 .i64 n)])):=by kernel_rfl
theorem TV (J4:List D→List D→Prop) (s:List UInt8):wpF CC Gv (wB an0 4 ⟨[.slot 3 (.int .i64 0)],[],J4,fun _=>0⟩) Tryz.f164 [.c (.str s)] Q=(
 br (toB (F2 (decide ((J3 s.length)>0)))) (((0:Int)≤(0:Int)∧0<(J3 s.length))∧br (toB (F2 ((J3 (ah (nth 0 s (J7 (0:Int)))))==45))) (J4 [] [F0 .i64 1]) (J4 [] [F0 .i64 0])) (J4 [] [F0 .i64 0])∧∀(n:Int),J4 [] [F0 .i64 n]→(0≤n∧n≤(J3 s.length)∧(J3 s.length)≤(J3 s.length))∧∃n1,Gv 258 [Bx (Hv (Ls (J7 n) (Lr (J7 (J3 s.length)) s)))] [Bx (F0 .i64 n1)]∧br (toB (F2 (n1==0))) (Q [Bx (F0 .i64 0)]) (br (toB (F2 (decide (Hy .i64 (Hy .i64 (n1+n)+1)<(J3 s.length))))) ((0≤Hy .i64 (n1+n)∧Hy .i64 (n1+n)<(J3 s.length))∧br (toB (F2 ((J3 (ah (nth 0 s (J7 (Hy .i64 (n1+n))))))==46))) ((0≤Hy .i64 (Hy .i64 (n1+n)+1)∧Hy .i64 (Hy .i64 (n1+n)+1)<(J3 s.length))∧∃b,Gv 257 [Bx (F0 .u8 (J3 (ah (nth 0 s (J7 (Hy .i64 (Hy .i64 (n1+n)+1)))))))] [Bx (F2 b)]∧br b ((0≤Hy .i64 (Hy .i64 (n1+n)+1)∧Hy .i64 (Hy .i64 (n1+n)+1)≤(J3 s.length)∧(J3 s.length)≤(J3 s.length))∧∃n2,Gv 258 [Bx (Hv (Ls (J7 (Hy .i64 (Hy .i64 (n1+n)+1))) (Lr (J7 (J3 s.length)) s)))] [Bx (F0 .i64 n2)]∧Q [Bx (F0 .i64 (Hy .i64 (Hy .i64 (Hy .i64 (n1+n)+1)+n2)))]) (Q [Bx (F0 .i64 (Hy .i64 (n1+n)))])) (Q [Bx (F0 .i64 (Hy .i64 (n1+n)))])) (Q [Bx (F0 .i64 (Hy .i64 (n1+n)))]))):=by kernel_rfl
theorem TW (s:List UInt8):wpF CC Gv (fun _=>⟨[.slot 6 (.int .i64 0),.own 5 116 3],[],I0,M0⟩) Tryz.f87 [.c (.str s)] Q=(
 br (toB (F2 (decide ((J3 s.length)>65536)))) (Q [Bx (Hu []),Bx (F0 .i64 0),Bx (F0 .i64 3)]) (I0 [] [F0 .i64 0,Hu []]∧∀(n:Int) (es:List (List D)),I0 [] [F0 .i64 n,Hu es]→br (toB (F2 (decide (n<(J3 s.length))))) ((0≤n∧n<(J3 s.length))∧br (toB (F2 ((J3 (ah (nth 0 s (J7 n)))) !=35))) ((0≤n∧n≤(J3 s.length)∧(J3 s.length)≤(J3 s.length))∧(0≤n∧n<(J3 s.length))∧br (toB (F2 ((J3 (ah (nth 0 s (J7 n))))==32))) (I0 [] [F0 .i64 (Hy .i64 (n+1)),Hu es]∧M0 [F0 .i64 (Hy .i64 (n+1)),Hu es]<M0 [F0 .i64 n,Hu es]) ((0≤n∧n<(J3 s.length))∧∃b,Gv 162 [Bx (F0 .u8 (J3 (ah (nth 0 s (J7 n)))))] [Bx (F2 b)]∧br b (∃n1,Gv 163 [Bx (Hv (Ls (J7 n) (Lr (J7 (J3 s.length)) s)))] [Bx (F0 .i64 n1)]∧br (toB (F2 (decide (n1>24)))) (Q [Bx (Hu []),Bx (F0 .i64 n),Bx (F0 .i64 3)]) (((0:Int)≤(0:Int)∧0≤n1∧n1≤(J3 (Lv (Ls (J7 n) (Lr (J7 (J3 s.length)) s)))))∧(room (es.length+1)∧lens 3 [[F0 .i64 1,F0 .i64 n,Hv (Ls 0 (Lr (J7 n1) (Ls (J7 n) (Lr (J7 (J3 s.length)) s))))]])∧I0 [] [F0 .i64 (Hy .i64 (n+n1)),Hu (es++[[F0 .i64 1,F0 .i64 n,Hv (Ls 0 (Lr (J7 n1) (Ls (J7 n) (Lr (J7 (J3 s.length)) s))))]])]∧M0 [F0 .i64 (Hy .i64 (n+n1)),Hu (es++[[F0 .i64 1,F0 .i64 n,Hv (Ls 0 (Lr (J7 n1) (Ls (J7 n) (Lr (J7 (J3 s.length)) s))))]])]<M0 [F0 .i64 n,Hu es])) (∃n1,Gv 164 [Bx (Hv (Ls (J7 n) (Lr (J7 (J3 s.length)) s)))] [Bx (F0 .i64 n1)]∧br (toB (F2 (decide (n1>0)))) (∃n2,Gv 164 [Bx (Hv (Ls (J7 n) (Lr (J7 (J3 s.length)) s)))] [Bx (F0 .i64 n2)]∧((0:Int)≤(0:Int)∧0≤n2∧n2≤(J3 (Lv (Ls (J7 n) (Lr (J7 (J3 s.length)) s)))))∧∃b e1 b1 e2 n3,Gv 165 [Bx (Hv (Ls 0 (Lr (J7 n2) (Ls (J7 n) (Lr (J7 (J3 s.length)) s)))))] [Dd [F2 b,Hu e1,F2 b1,Hu e2],Bx (F0 .i64 n3)]∧br (toB (F2 (n3 !=0))) (Q [Bx (Hu []),Bx (F0 .i64 n),Bx (F0 .i64 2)]) (br (toB (F2 (decide (n2<(J3 (Lv (Ls (J7 n) (Lr (J7 (J3 s.length)) s)))))))) ((0≤n2∧n2<(J3 (Lv (Ls (J7 n) (Lr (J7 (J3 s.length)) s)))))∧∃b,Gv 162 [Bx (F0 .u8 (J3 (ah (nth 0 (Ls (J7 n) (Lr (J7 (J3 s.length)) s)) (J7 n2)))))] [Bx (F2 b)]∧br b (Q [Bx (Hu []),Bx (F0 .i64 (Hy .i64 (n+n2))),Bx (F0 .i64 2)]) ((0≤n2∧n2<(J3 (Lv (Ls (J7 n) (Lr (J7 (J3 s.length)) s)))))∧br (toB (F2 ((J3 (ah (nth 0 (Ls (J7 n) (Lr (J7 (J3 s.length)) s)) (J7 n2))))==95))) (Q [Bx (Hu []),Bx (F0 .i64 (Hy .i64 (n+n2))),Bx (F0 .i64 2)]) ((0≤n2∧n2<(J3 (Lv (Ls (J7 n) (Lr (J7 (J3 s.length)) s)))))∧br (toB (F2 ((J3 (ah (nth 0 (Ls (J7 n) (Lr (J7 (J3 s.length)) s)) (J7 n2))))==46))) (Q [Bx (Hu []),Bx (F0 .i64 (Hy .i64 (n+n2))),Bx (F0 .i64 2)]) (((0:Int)≤(0:Int)∧0≤n2∧n2≤(J3 (Lv (Ls (J7 n) (Lr (J7 (J3 s.length)) s)))))∧(room (es.length+1)∧lens 3 [[F0 .i64 2,F0 .i64 n,Hv (Ls 0 (Lr (J7 n2) (Ls (J7 n) (Lr (J7 (J3 s.length)) s))))]])∧I0 [] [F0 .i64 (Hy .i64 (n+n2)),Hu (es++[[F0 .i64 2,F0 .i64 n,Hv (Ls 0 (Lr (J7 n2) (Ls (J7 n) (Lr (J7 (J3 s.length)) s))))]])]∧M0 [F0 .i64 (Hy .i64 (n+n2)),Hu (es++[[F0 .i64 2,F0 .i64 n,Hv (Ls 0 (Lr (J7 n2) (Ls (J7 n) (Lr (J7 (J3 s.length)) s))))]])]<M0 [F0 .i64 n,Hu es])))) (((0:Int)≤(0:Int)∧0≤n2∧n2≤(J3 (Lv (Ls (J7 n) (Lr (J7 (J3 s.length)) s)))))∧(room (es.length+1)∧lens 3 [[F0 .i64 2,F0 .i64 n,Hv (Ls 0 (Lr (J7 n2) (Ls (J7 n) (Lr (J7 (J3 s.length)) s))))]])∧I0 [] [F0 .i64 (Hy .i64 (n+n2)),Hu (es++[[F0 .i64 2,F0 .i64 n,Hv (Ls 0 (Lr (J7 n2) (Ls (J7 n) (Lr (J7 (J3 s.length)) s))))]])]∧M0 [F0 .i64 (Hy .i64 (n+n2)),Hu (es++[[F0 .i64 2,F0 .i64 n,Hv (Ls 0 (Lr (J7 n2) (Ls (J7 n) (Lr (J7 (J3 s.length)) s))))]])]<M0 [F0 .i64 n,Hu es]))) ((0≤n∧n<(J3 s.length))∧∃b,Gv 166 [Bx (F0 .u8 (J3 (ah (nth 0 s (J7 n)))))] [Bx (F2 b)]∧br b (((0:Int)≤(0:Int)∧(0:Int)≤(1:Int)∧1≤(J3 (Lv (Ls (J7 n) (Lr (J7 (J3 s.length)) s)))))∧(room (es.length+1)∧lens 3 [[F0 .i64 3,F0 .i64 n,Hv (Ls 0 (Lr 1 (Ls (J7 n) (Lr (J7 (J3 s.length)) s))))]])∧I0 [] [F0 .i64 (Hy .i64 (n+1)),Hu (es++[[F0 .i64 3,F0 .i64 n,Hv (Ls 0 (Lr 1 (Ls (J7 n) (Lr (J7 (J3 s.length)) s))))]])]∧M0 [F0 .i64 (Hy .i64 (n+1)),Hu (es++[[F0 .i64 3,F0 .i64 n,Hv (Ls 0 (Lr 1 (Ls (J7 n) (Lr (J7 (J3 s.length)) s))))]])]<M0 [F0 .i64 n,Hu es]) (Q [Bx (Hu []),Bx (F0 .i64 n),Bx (F0 .i64 2)]))))) (Q [Bx (Hu es),Bx (F0 .i64 0),Bx (F0 .i64 0)])) (Q [Bx (Hu es),Bx (F0 .i64 0),Bx (F0 .i64 0)]))):=by kernel_rfl
theorem N6 (s:List UInt8):wpF CC Gv (fun _=>⟨[.slot 6 (.int .i64 0),.slot 7 (.int .i64 0),.slot 8 (.int .i64 0),.own 5 58 2],[],I0,M0⟩) Tryz.f42 [.c (.str s)] Q=(
 br (toB (F2 (decide ((J3 s.length)>65536)))) (Q [Bx (Hu []),Bx (F0 .i64 0),Bx (F0 .i64 3)]) (I0 [] [F0 .i64 0,F0 .i64 1,F0 .i64 0,Hu []]∧∀(n n1 n2:Int) (es:List (List D)),I0 [] [F0 .i64 n,F0 .i64 n1,F0 .i64 n2,Hu es]→br (toB (F2 (decide (n2≤(J3 s.length))))) (br (toB (F2 (decide (n2<(J3 s.length))))) ((0≤n2∧n2<(J3 s.length))∧br (toB (F2 ((J3 (ah (nth 0 s (J7 n2)))) !=10))) (I0 [] [F0 .i64 n,F0 .i64 n1,F0 .i64 (Hy .i64 (n2+1)),Hu es]∧M0 [F0 .i64 n,F0 .i64 n1,F0 .i64 (Hy .i64 (n2+1)),Hu es]<M0 [F0 .i64 n,F0 .i64 n1,F0 .i64 n2,Hu es]) ((0≤n∧n≤n2∧n2≤(J3 s.length))∧∃e1 n3 n4,Gv 87 [Bx (Hv (Ls (J7 n) (Lr (J7 n2) s)))] [Bx (Hu e1),Bx (F0 .i64 n3),Bx (F0 .i64 n4)]∧br (toB (F2 (n4 !=0))) (Q [Bx (Hu []),Bx (F0 .i64 n1),Bx (F0 .i64 n4)]) (br (toB (F2 (decide ((J3 e1.length)>0)))) ((room (es.length+1)∧lens 2 [[F0 .i64 n1,Hu e1]])∧I0 [] [F0 .i64 (Hy .i64 (n2+1)),F0 .i64 (Hy .i64 (n1+1)),F0 .i64 (Hy .i64 (n2+1)),Hu (es++[[F0 .i64 n1,Hu e1]])]∧M0 [F0 .i64 (Hy .i64 (n2+1)),F0 .i64 (Hy .i64 (n1+1)),F0 .i64 (Hy .i64 (n2+1)),Hu (es++[[F0 .i64 n1,Hu e1]])]<M0 [F0 .i64 n,F0 .i64 n1,F0 .i64 n2,Hu es]) (I0 [] [F0 .i64 (Hy .i64 (n2+1)),F0 .i64 (Hy .i64 (n1+1)),F0 .i64 (Hy .i64 (n2+1)),Hu es]∧M0 [F0 .i64 (Hy .i64 (n2+1)),F0 .i64 (Hy .i64 (n1+1)),F0 .i64 (Hy .i64 (n2+1)),Hu es]<M0 [F0 .i64 n,F0 .i64 n1,F0 .i64 n2,Hu es])))) ((0≤n∧n≤n2∧n2≤(J3 s.length))∧∃e1 n3 n4,Gv 87 [Bx (Hv (Ls (J7 n) (Lr (J7 n2) s)))] [Bx (Hu e1),Bx (F0 .i64 n3),Bx (F0 .i64 n4)]∧br (toB (F2 (n4 !=0))) (Q [Bx (Hu []),Bx (F0 .i64 n1),Bx (F0 .i64 n4)]) (br (toB (F2 (decide ((J3 e1.length)>0)))) ((room (es.length+1)∧lens 2 [[F0 .i64 n1,Hu e1]])∧I0 [] [F0 .i64 (Hy .i64 (n2+1)),F0 .i64 (Hy .i64 (n1+1)),F0 .i64 (Hy .i64 (n2+1)),Hu (es++[[F0 .i64 n1,Hu e1]])]∧M0 [F0 .i64 (Hy .i64 (n2+1)),F0 .i64 (Hy .i64 (n1+1)),F0 .i64 (Hy .i64 (n2+1)),Hu (es++[[F0 .i64 n1,Hu e1]])]<M0 [F0 .i64 n,F0 .i64 n1,F0 .i64 n2,Hu es]) (I0 [] [F0 .i64 (Hy .i64 (n2+1)),F0 .i64 (Hy .i64 (n1+1)),F0 .i64 (Hy .i64 (n2+1)),Hu es]∧M0 [F0 .i64 (Hy .i64 (n2+1)),F0 .i64 (Hy .i64 (n1+1)),F0 .i64 (Hy .i64 (n2+1)),Hu es]<M0 [F0 .i64 n,F0 .i64 n1,F0 .i64 n2,Hu es])))) (Q [Bx (Hu es),Bx (F0 .i64 0),Bx (F0 .i64 0)]))):=by kernel_rfl
theorem TX (J6:List D→List D→Prop) (s:List UInt8):wpF CC Gv (wB (fun _=>⟨[.slot 4 (.int .i64 0),.slot 5 (.bool false),.slot 6 (.int .i64 0)],[],I0,M0⟩) 6 ⟨[.slot 3 (.string ⟨#[]⟩)],[],J6,fun _=>0⟩) Tryz.f167 [.c (.str s)] Q=(
 br (toB (F2 (decide ((J3 s.length)>65536)))) (Q [Bx (F0 .i64 (-1))]) (br (toB (F2 (decide ((J3 s.length)>0)))) (((0:Int)≤(0:Int)∧0<(J3 s.length))∧br (toB (F2 ((J3 (ah (nth 0 s (J7 (0:Int)))))==45))) (((0:Int)≤(1:Int)∧1≤(J3 s.length)∧(J3 s.length)≤(J3 s.length))∧J6 [] [Hv (Ls 1 (Lr (J7 (J3 s.length)) s))]) (J6 [] [Hv s])) (J6 [] [Hv s])∧∀(s1:List UInt8),J6 [] [Hv s1]→I0 [] [F0 .i64 (J3 s1.length),F2 false,F0 .i64 0]∧∀(n:Int) (b:Bool) (n1:Int),I0 [] [F0 .i64 n,F2 b,F0 .i64 n1]→br (toB (F2 (decide (n1<(J3 s1.length))))) ((0≤n1∧n1<(J3 s1.length))∧br (toB (F2 ((J3 (ah (nth 0 s1 (J7 n1))))==46))) (br (toB (F2 (n==(J3 s1.length)))) (I0 [] [F0 .i64 n1,F2 b,F0 .i64 (Hy .i64 (n1+1))]∧M0 [F0 .i64 n1,F2 b,F0 .i64 (Hy .i64 (n1+1))]<M0 [F0 .i64 n,F2 b,F0 .i64 n1]) ((0≤n1∧n1<(J3 s1.length))∧br (toB (F2 (decide ((J3 (ah (nth 0 s1 (J7 n1))))<48)))) (Q [Bx (F0 .i64 (-1))]) ((0≤n1∧n1<(J3 s1.length))∧br (toB (F2 (decide ((J3 (ah (nth 0 s1 (J7 n1))))>57)))) (Q [Bx (F0 .i64 (-1))]) (br b (I0 [] [F0 .i64 n,F2 true,F0 .i64 (Hy .i64 (n1+1))]∧M0 [F0 .i64 n,F2 true,F0 .i64 (Hy .i64 (n1+1))]<M0 [F0 .i64 n,F2 b,F0 .i64 n1]) ((0≤n1∧n1<(J3 s1.length))∧I0 [] [F0 .i64 n,F2 ((J3 (ah (nth 0 s1 (J7 n1)))) !=48),F0 .i64 (Hy .i64 (n1+1))]∧M0 [F0 .i64 n,F2 ((J3 (ah (nth 0 s1 (J7 n1)))) !=48),F0 .i64 (Hy .i64 (n1+1))]<M0 [F0 .i64 n,F2 b,F0 .i64 n1]))))) ((0≤n1∧n1<(J3 s1.length))∧br (toB (F2 (decide ((J3 (ah (nth 0 s1 (J7 n1))))<48)))) (Q [Bx (F0 .i64 (-1))]) ((0≤n1∧n1<(J3 s1.length))∧br (toB (F2 (decide ((J3 (ah (nth 0 s1 (J7 n1))))>57)))) (Q [Bx (F0 .i64 (-1))]) (br b (I0 [] [F0 .i64 n,F2 true,F0 .i64 (Hy .i64 (n1+1))]∧M0 [F0 .i64 n,F2 true,F0 .i64 (Hy .i64 (n1+1))]<M0 [F0 .i64 n,F2 b,F0 .i64 n1]) ((0≤n1∧n1<(J3 s1.length))∧I0 [] [F0 .i64 n,F2 ((J3 (ah (nth 0 s1 (J7 n1)))) !=48),F0 .i64 (Hy .i64 (n1+1))]∧M0 [F0 .i64 n,F2 ((J3 (ah (nth 0 s1 (J7 n1)))) !=48),F0 .i64 (Hy .i64 (n1+1))]<M0 [F0 .i64 n,F2 b,F0 .i64 n1]))))) (br (toB (F2 (n==0))) (Q [Bx (F0 .i64 (-1))]) (br (toB (F2 (decide (n>1)))) (((0:Int)≤(0:Int)∧0<(J3 s1.length))∧br (toB (F2 ((J3 (ah (nth 0 s1 (J7 (0:Int)))))==48))) (Q [Bx (F0 .i64 (-1))]) (br (toB (F2 (decide ((J3 s.length)>(J3 s1.length))))) (br (toB (F2 !b)) (Q [Bx (F0 .i64 (-1))]) (br (toB (F2 (n==(J3 s1.length)))) (Q [Bx (F0 .i64 0)]) (br (toB (F2 (decide (Hy .i64 (Hy .i64 ((J3 s1.length)-n)-1)<1)))) (Q [Bx (F0 .i64 (-1))]) (br (toB (F2 (decide (Hy .i64 (Hy .i64 ((J3 s1.length)-n)-1)>30)))) (Q [Bx (F0 .i64 (-1))]) (Q [Bx (F0 .i64 (Hy .i64 (Hy .i64 ((J3 s1.length)-n)-1)))]))))) (br (toB (F2 (n==(J3 s1.length)))) (Q [Bx (F0 .i64 0)]) (br (toB (F2 (decide (Hy .i64 (Hy .i64 ((J3 s1.length)-n)-1)<1)))) (Q [Bx (F0 .i64 (-1))]) (br (toB (F2 (decide (Hy .i64 (Hy .i64 ((J3 s1.length)-n)-1)>30)))) (Q [Bx (F0 .i64 (-1))]) (Q [Bx (F0 .i64 (Hy .i64 (Hy .i64 ((J3 s1.length)-n)-1)))])))))) (br (toB (F2 (decide ((J3 s.length)>(J3 s1.length))))) (br (toB (F2 !b)) (Q [Bx (F0 .i64 (-1))]) (br (toB (F2 (n==(J3 s1.length)))) (Q [Bx (F0 .i64 0)]) (br (toB (F2 (decide (Hy .i64 (Hy .i64 ((J3 s1.length)-n)-1)<1)))) (Q [Bx (F0 .i64 (-1))]) (br (toB (F2 (decide (Hy .i64 (Hy .i64 ((J3 s1.length)-n)-1)>30)))) (Q [Bx (F0 .i64 (-1))]) (Q [Bx (F0 .i64 (Hy .i64 (Hy .i64 ((J3 s1.length)-n)-1)))]))))) (br (toB (F2 (n==(J3 s1.length)))) (Q [Bx (F0 .i64 0)]) (br (toB (F2 (decide (Hy .i64 (Hy .i64 ((J3 s1.length)-n)-1)<1)))) (Q [Bx (F0 .i64 (-1))]) (br (toB (F2 (decide (Hy .i64 (Hy .i64 ((J3 s1.length)-n)-1)>30)))) (Q [Bx (F0 .i64 (-1))]) (Q [Bx (F0 .i64 (Hy .i64 (Hy .i64 ((J3 s1.length)-n)-1)))]))))))))):=by kernel_rfl
theorem TY (s:List UInt8):wpF CC Gv (fun _=>⟨[.slot 5 (.string ⟨#[]⟩),.slot 6 (.int .i64 0)],[],I0,M0⟩) Tryz.f165 [.c (.str s)] Q=(
 ∃n,Gv 167 [Bx (Hv s)] [Bx (F0 .i64 n)]∧br (toB (F2 (decide (n<0)))) (Q [Dd [F2 false,Hu [],F2 false,Hu []],Bx (F0 .i64 2)]) (I0 [] [Hv [],F0 .i64 0]∧∀(s1:List UInt8) (n1:Int),I0 [] [Hv s1,F0 .i64 n1]→br (toB (F2 (decide (n1<(J3 s.length))))) ((0≤n1∧n1<(J3 s.length))∧br (toB (F2 (decide ((J3 (ah (nth 0 s (J7 n1))))≥48)))) ((0≤n1∧n1<(J3 s.length))∧br (toB (F2 (decide ((J3 (ah (nth 0 s (J7 n1))))≤57)))) (br (toB (F2 !s1==[])) ((0≤n1∧n1≤Hy .i64 (n1+1)∧Hy .i64 (n1+1)≤(J3 s.length))∧room (s1.length+Lv (Ls (J7 n1) (Lr (J7 (Hy .i64 (n1+1))) s)))∧I0 [] [Hv (s1++Ls (J7 n1) (Lr (J7 (Hy .i64 (n1+1))) s)),F0 .i64 (Hy .i64 (n1+1))]∧M0 [Hv (s1++Ls (J7 n1) (Lr (J7 (Hy .i64 (n1+1))) s)),F0 .i64 (Hy .i64 (n1+1))]<M0 [Hv s1,F0 .i64 n1]) ((0≤n1∧n1<(J3 s.length))∧br (toB (F2 ((J3 (ah (nth 0 s (J7 n1)))) !=48))) ((0≤n1∧n1≤Hy .i64 (n1+1)∧Hy .i64 (n1+1)≤(J3 s.length))∧room (s1.length+Lv (Ls (J7 n1) (Lr (J7 (Hy .i64 (n1+1))) s)))∧I0 [] [Hv (s1++Ls (J7 n1) (Lr (J7 (Hy .i64 (n1+1))) s)),F0 .i64 (Hy .i64 (n1+1))]∧M0 [Hv (s1++Ls (J7 n1) (Lr (J7 (Hy .i64 (n1+1))) s)),F0 .i64 (Hy .i64 (n1+1))]<M0 [Hv s1,F0 .i64 n1]) (I0 [] [Hv s1,F0 .i64 (Hy .i64 (n1+1))]∧M0 [Hv s1,F0 .i64 (Hy .i64 (n1+1))]<M0 [Hv s1,F0 .i64 n1]))) (I0 [] [Hv s1,F0 .i64 (Hy .i64 (n1+1))]∧M0 [Hv s1,F0 .i64 (Hy .i64 (n1+1))]<M0 [Hv s1,F0 .i64 n1])) (I0 [] [Hv s1,F0 .i64 (Hy .i64 (n1+1))]∧M0 [Hv s1,F0 .i64 (Hy .i64 (n1+1))]<M0 [Hv s1,F0 .i64 n1])) (br (toB (F2 (s1==[]))) (((0:Int)≤(0:Int)∧0<(J3 s.length))∧br (toB (F2 ((J3 (ah (nth 0 s (J7 (0:Int)))))==45))) (room 2∧∃b es n2,Gv 259 [Bx (Hv [45,48])] [Dd [F2 b,Hu es],Bx (F0 .i64 n2)]∧∃b1 e1 b2 e2,Gv 261 [Dd [F2 b,Hu es]] [Dd [F2 b1,Hu e1,F2 b2,Hu e2]]∧∃b es b3 e3,Gv 143 [Bx (F0 .i64 n)] [Dd [F2 b,Hu es,F2 b3,Hu e3]]∧∃b4 e4 b5 e5,Gv 260 [Dd [F2 b1,Hu e1,F2 b2,Hu e2],Dd [F2 b,Hu es,F2 b3,Hu e3]] [Dd [F2 b4,Hu e4,F2 b5,Hu e5]]∧Q [Dd [F2 b4,Hu e4,F2 b5,Hu e5],Bx (F0 .i64 0)]) (∃b es n2,Gv 259 [Bx (Hv [48])] [Dd [F2 b,Hu es],Bx (F0 .i64 n2)]∧∃b1 e1 b2 e2,Gv 261 [Dd [F2 b,Hu es]] [Dd [F2 b1,Hu e1,F2 b2,Hu e2]]∧∃b es b3 e3,Gv 143 [Bx (F0 .i64 n)] [Dd [F2 b,Hu es,F2 b3,Hu e3]]∧∃b4 e4 b5 e5,Gv 260 [Dd [F2 b1,Hu e1,F2 b2,Hu e2],Dd [F2 b,Hu es,F2 b3,Hu e3]] [Dd [F2 b4,Hu e4,F2 b5,Hu e5]]∧Q [Dd [F2 b4,Hu e4,F2 b5,Hu e5],Bx (F0 .i64 0)])) (((0:Int)≤(0:Int)∧0<(J3 s.length))∧br (toB (F2 ((J3 (ah (nth 0 s (J7 (0:Int)))))==45))) (room (1+s1.length)∧∃b es n2,Gv 259 [Bx (Hv (45::s1))] [Dd [F2 b,Hu es],Bx (F0 .i64 n2)]∧∃b1 e1 b2 e2,Gv 261 [Dd [F2 b,Hu es]] [Dd [F2 b1,Hu e1,F2 b2,Hu e2]]∧∃b es b3 e3,Gv 143 [Bx (F0 .i64 n)] [Dd [F2 b,Hu es,F2 b3,Hu e3]]∧∃b4 e4 b5 e5,Gv 260 [Dd [F2 b1,Hu e1,F2 b2,Hu e2],Dd [F2 b,Hu es,F2 b3,Hu e3]] [Dd [F2 b4,Hu e4,F2 b5,Hu e5]]∧Q [Dd [F2 b4,Hu e4,F2 b5,Hu e5],Bx (F0 .i64 0)]) (∃b es n2,Gv 259 [Bx (Hv s1)] [Dd [F2 b,Hu es],Bx (F0 .i64 n2)]∧∃b1 e1 b2 e2,Gv 261 [Dd [F2 b,Hu es]] [Dd [F2 b1,Hu e1,F2 b2,Hu e2]]∧∃b es b3 e3,Gv 143 [Bx (F0 .i64 n)] [Dd [F2 b,Hu es,F2 b3,Hu e3]]∧∃b4 e4 b5 e5,Gv 260 [Dd [F2 b1,Hu e1,F2 b2,Hu e2],Dd [F2 b,Hu es,F2 b3,Hu e3]] [Dd [F2 b4,Hu e4,F2 b5,Hu e5]]∧Q [Dd [F2 b4,Hu e4,F2 b5,Hu e5],Bx (F0 .i64 0)]))))):=by kernel_rfl
theorem TZ (s:List UInt8):wpF CC Gv an0 Tryz.f88 [.c (.str s)] Q=(
 ∃n,Gv 167 [Bx (Hv s)] [Bx (F0 .i64 n)]∧br (toB (F2 (decide (n<0)))) (Q [Bx (F0 .i64 0),Bx (F0 .i64 2)]) (br (toB (F2 (decide (n>3)))) (Q [Bx (F0 .i64 0),Bx (F0 .i64 2)]) (∃b es b1 e1 n,Gv 165 [Bx (Hv s)] [Dd [F2 b,Hu es,F2 b1,Hu e1],Bx (F0 .i64 n)]∧∃b2 e2 b3 e3,Gv 143 [Bx (F0 .i64 3)] [Dd [F2 b2,Hu e2,F2 b3,Hu e3]]∧∃b4 e4 b5 e5,Gv 103 [Dd [F2 b,Hu es,F2 b1,Hu e1],Dd [F2 b2,Hu e2,F2 b3,Hu e3]] [Dd [F2 b4,Hu e4,F2 b5,Hu e5]]∧∃b es,Gv 169 [Dd [F2 b4,Hu e4,F2 b5,Hu e5]] [Dd [F2 b,Hu es]]∧∃n b6,Gv 168 [Dd [F2 b,Hu es]] [Bx (F0 .i64 n),Bx (F2 b6)]∧br (toB (F2 !b6)) (Q [Bx (F0 .i64 0),Bx (F0 .i64 11)]) (Q [Bx (F0 .i64 n),Bx (F0 .i64 0)])))):=by kernel_rfl
theorem La (k n:Int) (s:List UInt8):wpF CC Gv an0 Tryz.f170 [.ag [.int .i64 k,.int .i64 n,.str s]] Q=(
 ∃b es b1 e1 n,Gv 165 [Bx (Hv s)] [Dd [F2 b,Hu es,F2 b1,Hu e1],Bx (F0 .i64 n)]∧br (toB (F2 (k !=2))) (Q [Dd [F2 false,Hu [],F2 false,Hu []],Bx (F2 false)]) (br (toB (F2 (n !=0))) (Q [Dd [F2 false,Hu [],F2 false,Hu []],Bx (F2 false)]) (∃b2 e2 b3 e3,Gv 27 [Bx (F0 .i64 1000)] [Dd [F2 b2,Hu e2,F2 b3,Hu e3]]∧∃b4 e4 b5 e5,Gv 103 [Dd [F2 b,Hu es,F2 b1,Hu e1],Dd [F2 b2,Hu e2,F2 b3,Hu e3]] [Dd [F2 b4,Hu e4,F2 b5,Hu e5]]∧Q [Dd [F2 b4,Hu e4,F2 b5,Hu e5],Bx (F2 true)]))):=by kernel_rfl
end
end Eng
end

section
namespace Eng
open Go Go.Proofs
set_option maxRecDepth 100000
theorem Kl {s:List UInt8} (hs:s.length≤1073741824):qf CC 258 [.c (.str s)] [.c (.int .i64 ((zc isD s:Nat):Int))]:=by
 refine qg (anns:=fun _=>⟨[.slot 3 (.int .i64 0)],[],fun _ ds=>∃k:Nat,k≤s.length∧ds=[.int .i64 (k:Int)]∧zc isD s=k+zc isD (s.drop k),fun ds=>(s.length-toI (nth .undef ds 0)).toNat⟩) mixedT Tryz.func258 ?_;rw[TU];simp only[Lm];refine⟨⟨0,by omega,rfl,by simp⟩,?_⟩;rintro n ⟨k,hk,he,hl⟩;simp only[W2,Hx,true_and,and_true]at he;subst he;refine brd (fun h=>?_) (fun h=>?_)
 ·have hkl:k<s.length:=by omega
  rw[J9];refine⟨⟨by omega,by omega⟩,_,Zg _,jm (fun hc=>?_) (fun hc=>?_)⟩
  ·have hw:Hy .i64 ((k:Int)+1)=((k+1:Nat):Int):=by rw[qK (by omega) (by omega)];omega
   rw[hw];refine⟨⟨k+1,by omega,rfl,?_⟩,by simp only[nth,toI];omega⟩;rw[hl,vg hkl hc];omega
  ·rw[hl,zm (.inr hc)];simp
 ·rw[hl,zm (.inl (by omega))];simp
theorem Lb {s:List UInt8} (hs:s.length≤1073741000):qf CC 164 [.c (.str s)] [.c (.int .i64 ((kq s:Nat):Int))]:=by
 refine qg (anns:=wB an0 4 ⟨[.slot 3 (.int .i64 0)],[],fun _ ds=>ds=[.int .i64 ((if nth 0 s 0=45 then 1 else 0:Nat):Int)],fun _=>0⟩) mixedT Tryz.func164 ?_;rw[TV];simp only[Lm];have hz:J7 0=0:=rfl;have e45:(((nth 0 s 0).toNat:Int)==45)=decide (nth 0 s 0=45):=u8b (nth 0 s 0) 45 (by omega);refine⟨brd (fun h=>⟨⟨by omega,by omega⟩,?_⟩) (fun h=>?_),?_⟩
 ·rw[hz,e45];refine brd (fun h2=>?_) (fun h2=>?_)
  ·rw[if_pos h2];rfl
  ·rw[if_neg h2];rfl
 ·have h0:s.length≤0:=by omega
  rw[kj h0,if_neg (by decide)];rfl
 intro n he;simp only[W2,Hx,true_and,and_true]at he;subst he;have hg:(if nth 0 s 0=45 then 1 else 0:Nat)≤s.length:=by
  split
  ·rename_i h;rcases Nat.eq_zero_or_pos s.length with h0|h0
   ·rw[kj (by omega)]at h;exact absurd h (by decide)
   ·exact h0
  ·omega
 have hN:kq s=(let g:=if nth 0 s 0=45 then 1 else 0
  let d:=zc isD (s.drop g)
  if d=0 then 0 else
   let n:=g+d
   if nth 0 s n=46∧isD (nth 0 s (n+1))=true then n+1+zc isD (s.drop (n+1))else n):=rfl
 generalize (if nth 0 s 0=45 then 1 else 0:Nat)=g at *;simp only at hN;rw[J9,J9,No];have h1:=Kl (s:=s.drop g) (by rw[Pl];omega);have hr:=kH (p:=isD) hg;refine⟨⟨by omega,by omega,by omega⟩,_,h1,?_⟩;have e0:(((zc isD (s.drop g):Nat):Int)==0)=decide (zc isD (s.drop g)=0):=by rw[Aw];simp
 rw[e0];generalize zc isD (s.drop g)=d at *;have hw:Hy .i64 ((d:Int)+(g:Int))=((g+d:Nat):Int):=by rw[qK (by omega) (by omega)];omega
 have hw2:Hy .i64 (((g+d:Nat):Int)+1)=((g+d+1:Nat):Int):=by rw[qK (by omega) (by omega)];omega
 rw[hw,hw2];refine brd (fun h=>?_) (fun h=>?_)
 ·rw[if_pos h]at hN;rw[hN];rfl
 rw[if_neg h]at hN;rw[J9,J9];have e46:(((nth 0 s (g+d)).toNat:Int)==46)=decide (nth 0 s (g+d)=46):=u8b _ 46 (by omega);refine brd (fun h2=>⟨⟨by omega,by omega⟩,?_⟩) (fun h2=>?_)
 ·rw[e46];refine brd (fun h3=>⟨⟨by omega,by omega⟩,_,Zg _,jm (fun h4=>?_) (fun h4=>?_)⟩) (fun h3=>?_)
  ·rw[if_pos ⟨h3,h4⟩]at hN;have h5:=Kl (s:=s.drop (g+d+1)) (by rw[Pl];omega);have hr2:=kH (p:=isD) (s:=s) (i:=g+d+1) (by omega);refine⟨⟨by omega,by omega,by omega⟩,_,h5,?_⟩;rw[hN];rw[qK (by omega) (by omega)];rfl
  ·rw[if_neg (fun h=>by rw[h4]at h;simp at h)]at hN;rw[hN]
  ·rw[if_neg (fun h=>h3 h.1)]at hN;rw[hN]
 ·have:¬(nth 0 s (g+d)=46∧isD (nth 0 s (g+d+1))=true):=fun h=>by rw[kj (s:=s) (i:=g+d+1) (by omega)]at h;exact absurd h.2 (by decide)
  rw[if_neg this]at hN;rw[hN]
theorem Dm (c:UInt8):qf CC 166 [.c (.int .u8 c.toNat)] [.c (.bool (Mo c))]:=by
 refine qg (anns:=an0) mixedT Tryz.func166 ?_;have e:=fun(n:Nat) (hn:n<256)=>u8b c n hn
 rw[T6];unfold Mo;have e1:((c.toNat:Int)==61)=decide (c=61):=e 61 (by omega);have e2:((c.toNat:Int)==44)=decide (c=44):=e 44 (by omega);have e3:((c.toNat:Int)==59)=decide (c=59):=e 59 (by omega);have e4:((c.toNat:Int)==58)=decide (c=58):=e 58 (by omega);have e5:((c.toNat:Int)==40)=decide (c=40):=e 40 (by omega);have e6:((c.toNat:Int)==41)=decide (c=41):=e 41 (by omega);rw[e1,e2,e3,e4,e5,e6];cases decide (c=61)<;>cases decide (c=44)<;>cases decide (c=59)<;>cases decide (c=58)<;>cases decide (c=40)<;>cases decide (c=41)<;>rfl
end Eng
end

section
namespace Eng
open Go Go.Proofs
set_option maxRecDepth 100000
theorem Lc (s:List UInt8):(qA s).2=true↔(qA s).1.length<s.length:=by
 cases s with
 |nil=>simp[qA]
 |cons c s=>rw[xj];split<;>simp
theorem Ld {s:List UInt8} (h:0<s.length):(qA s).1=if nth 0 s 0=45 then s.drop 1 else s:=by
 cases s with
 |nil=>simp at h
 |cons c s=>rw[xj];have e:nth 0 (c::s) 0=c:=rfl;rw[e];split<;>rfl
theorem N7 {n i pt:Nat} {b:List UInt8} {sm:Bool} (h:i<b.length):Gn n (b.drop i) i pt sm=if nth 0 b i=46∧pt=n then Gn n (b.drop (i+1)) (i+1) i sm else if isD (nth 0 b i)=true then Gn n (b.drop (i+1)) (i+1) pt (sm||decide (nth 0 b i≠48))else none:=by
 rw[zg h,Gn]
def plI (b:List UInt8) (ds:List D):Prop:=∃(pt i:Nat) (sm:Bool),i≤b.length∧pt≤b.length∧ds=[.int .i64 (pt:Int),.bool sm,.int .i64 (i:Int)]∧Gn b.length (b.drop i) i pt sm=Gn b.length b 0 b.length false
theorem Km {s:List UInt8} (hs:s.length≤60000):qf CC 167 [.c (.str s)] [.c (.int .i64 (A0 s))]:=by
 have a5:=Lc s;have hl:=kB s;have hP:A0 s=match Gn (qA s).1.length (qA s).1 0 (qA s).1.length false with
  |none=> -1
  |some (pt,sm)=>
   if pt=0∨(1<pt∧nth 0 (qA s).1 0=48)∨((qA s).2=true∧sm=false)then-1
   else if pt=(qA s).1.length then 0
   else if(qA s).1.length-pt-1<1∨30<(qA s).1.length-pt-1 then-1 else(((qA s).1.length-pt-1:Nat):Int):=rfl
 have hJ:∀u,[Hv u]=[Hv (qA s).1]→u=(qA s).1:=fun u h=>by simpa using h
 refine qg (anns:=wB (fun _=>⟨[.slot 4 (.int .i64 0),.slot 5 (.bool false),.slot 6 (.int .i64 0)],[],fun _ ds=>plI (qA s).1 ds,fun ds=>((qA s).1.length-toI (nth .undef ds 2)).toNat⟩) 6 ⟨[.slot 3 (.string ⟨#[]⟩)],[],fun _ ds=>ds=[.str (qA s).1],fun _=>0⟩) mixedT Tryz.func167 ?_;rw[TX];simp only[Lm];have hz:J7 0=0:=rfl;refine brd (fun h=>absurd h (by omega)) (fun _=>⟨brd (fun h=>⟨⟨by omega,by omega⟩,?_⟩) (fun h=>?_),?_⟩)
 ·have ht:=Ld (s:=s) (by omega);have e45:(((nth 0 s 0).toNat:Int)==45)=decide (nth 0 s 0=45):=u8b (nth 0 s 0) 45 (by omega);rw[hz,e45];refine brd (fun h2=>⟨⟨by omega,by omega,by omega⟩,?_⟩) (fun h2=>?_)
  ·rw[ht,if_pos h2,J9,No]
  ·rw[ht,if_neg h2]
 ·have:s=[]:=by cases s with|nil=>rfl|cons _ _=>simp at h
  subst this;rfl
 intro s1 he;have he:=hJ _ he;subst he;generalize (qA s).1=b at *;generalize (qA s).2=neg at *;generalize A0 s=R at *;refine⟨⟨b.length,0,false,by omega,by omega,rfl,by simp⟩,?_⟩;rintro n sm n1 ⟨pt,i,sm',hi,a8,he,hf⟩;simp only[W2,Hx,D.bool.injEq,true_and,and_true]at he;obtain⟨rfl,rfl,rfl⟩:=he;rw[←hf]at hP;refine brd (fun h=>?_) (fun h=>?_)
 ·have a4:i<b.length:=by omega
  have hw:Hy .i64 ((i:Int)+1)=((i+1:Nat):Int):=by rw[qK (by omega) (by omega)];omega
  rw[N7 a4]at hf hP;rw[J9,hw];have hb:(0:Int)≤(i:Int)∧(i:Int)<(b.length:Int):=⟨by omega,by omega⟩;have e46:(((nth 0 b i).toNat:Int)==46)=decide (nth 0 b i=46):=u8b _ 46 (by omega);have a2:(((nth 0 b i).toNat:Int) !=48)=decide (nth 0 b i≠48):=by
   have this:(((nth 0 b i).toNat:Int)==48)=decide (nth 0 b i=48):=u8b (nth 0 b i) 48 (by omega);rw[bne,this];by_cases h:nth 0 b i=48
   ·rw[decide_eq_true h,decide_eq_false (by simp[h])];rfl
   ·rw[decide_eq_false h,decide_eq_true h];rfl
  rw[e46,a2];have a3:isD (nth 0 b i)=true↔¬((nth 0 b i).toNat:Int)<48∧¬((nth 0 b i).toNat:Int)>57:=by rw[jc];omega
  have a0:¬(nth 0 b i=46∧pt=b.length)→
   (((0:Int)≤(i:Int)∧(i:Int)<(b.length:Int))∧
     br (toB (F2 (decide (((nth 0 b i).toNat:Int)<48)))) ([Bx (F0 .i64 (-1:Int))]=[Bx (F0 .i64 R)])
      (((0:Int)≤(i:Int)∧(i:Int)<(b.length:Int))∧
        br (toB (F2 (decide (((nth 0 b i).toNat:Int)>57)))) ([Bx (F0 .i64 (-1:Int))]=[Bx (F0 .i64 R)])
         (br sm
          (plI b [F0 .i64 (pt:Int),F2 true,F0 .i64 ((i+1:Nat):Int)]∧((b.length:Int)-toI (nth .undef [F0 .i64 (pt:Int),F2 true,F0 .i64 ((i+1:Nat):Int)] 2)).toNat<((b.length:Int)-toI (nth .undef [F0 .i64 (pt:Int),F2 sm,F0 .i64 (i:Int)] 2)).toNat)
          (((0:Int)≤(i:Int)∧(i:Int)<(b.length:Int))∧
            plI b [F0 .i64 (pt:Int),F2 (decide (nth 0 b i≠48)),F0 .i64 ((i+1:Nat):Int)]∧((b.length:Int)-toI (nth .undef [F0 .i64 (pt:Int),F2 (decide (nth 0 b i≠48)),F0 .i64 ((i+1:Nat):Int)] 2)).toNat<((b.length:Int)-toI (nth .undef [F0 .i64 (pt:Int),F2 sm,F0 .i64 (i:Int)] 2)).toNat)))):=by
   intro a6;rw[if_neg a6]at hf hP;refine⟨hb,brd (fun h2=>?_) (fun h2=>⟨hb,brd (fun h3=>?_) (fun h3=>?_)⟩)⟩
   ·rw[if_neg (fun h=>(a3.1 h).1 h2)]at hP;rw[hP]
   ·rw[if_neg (fun h=>(a3.1 h).2 h3)]at hP;rw[hP]
   ·rw[if_pos (a3.2 ⟨h2,h3⟩)]at hf;refine jm (fun h4=>⟨⟨pt,i+1,true,by omega,a8,rfl,?_⟩,by simp only[nth,toI];omega⟩) (fun h4=>⟨hb,⟨pt,i+1,_,by omega,a8,rfl,?_⟩,by simp only[nth,toI];omega⟩)
    ·rw[←hf,h4];rfl
    ·rw[←hf,h4];rfl
  refine⟨hb,brd (fun h2=>?_) (fun h2=>a0 (fun h=>h2 h.1))⟩;have en:(((pt:Nat):Int)==(b.length:Int))=decide (pt=b.length):=by rw[Aw];simp;omega
  rw[en];refine brd (fun h3=>?_) (fun h3=>a0 (fun h=>h3 h.2));rw[if_pos ⟨h2,h3⟩]at hf;exact⟨⟨i,i+1,sm,by omega,by omega,rfl,hf⟩,by simp only[nth,toI];omega⟩
 ·have a4:i=b.length:=by omega
  subst a4;rw[List.drop_length]at hP;have hP:R=if pt=0∨(1<pt∧nth 0 b 0=48)∨(neg=true∧sm=false)then-1
   else if pt=b.length then 0
   else if b.length-pt-1<1∨30<b.length-pt-1 then-1 else((b.length-pt-1:Nat):Int):=hP
  have e0:(((pt:Nat):Int)==0)=decide (pt=0):=by rw[Aw];simp
  have en:(((pt:Nat):Int)==(b.length:Int))=decide (pt=b.length):=by rw[Aw];simp;omega
  have a2:(((nth 0 b 0).toNat:Int)==48)=decide (nth 0 b 0=48):=u8b _ 48 (by omega);have en2:decide ((s.length:Int)>(b.length:Int))=neg:=by rw[Aw,decide_eq_true_eq,a5];omega
  rw[e0,hz,a2,en,en2];have a7:¬(pt=0∨(1<pt∧nth 0 b 0=48)∨(neg=true∧sm=false))→
   br (toB (F2 (decide (pt=b.length)))) ([Bx (F0 .i64 (0:Int))]=[Bx (F0 .i64 R)])
    (br (toB (F2 (decide (Hy .i64 (Hy .i64 ((b.length:Int)-(pt:Int))-(1:Int))<(1:Int))))) ([Bx (F0 .i64 (-1:Int))]=[Bx (F0 .i64 R)])
     (br (toB (F2 (decide (Hy .i64 (Hy .i64 ((b.length:Int)-(pt:Int))-(1:Int))>(30:Int))))) ([Bx (F0 .i64 (-1:Int))]=[Bx (F0 .i64 R)])
      ([Bx (F0 .i64 (Hy .i64 (Hy .i64 ((b.length:Int)-(pt:Int))-(1:Int))))]=[Bx (F0 .i64 R)]))):=by
   intro a6;rw[if_neg a6]at hP;refine brd (fun h2=>?_) (fun h2=>?_)
   ·rw[if_pos h2]at hP;rw[hP]
   rw[if_neg h2]at hP;have hw:Hy .i64 (Hy .i64 ((b.length:Int)-(pt:Int))-(1:Int))=((b.length-pt-1:Nat):Int):=by rw[qK (n:=(b.length:Int)-(pt:Int)) (by omega) (by omega),qK (by omega) (by omega)];omega
   rw[hw];refine brd (fun h3=>?_) (fun h3=>brd (fun h4=>?_) (fun h4=>?_))
   ·rw[if_pos (.inl (by omega))]at hP;rw[hP]
   ·rw[if_pos (.inr (by omega))]at hP;rw[hP]
   ·rw[if_neg (by omega)]at hP;rw[hP]
  have a1:(pt=0∨(1<pt∧nth 0 b 0=48)∨(neg=true∧sm=false))→[Bx (F0 .i64 (-1:Int))]=[Bx (F0 .i64 R)]:=fun h=>by rw[if_pos h]at hP;rw[hP]
  have sgn:¬pt=0→¬(1<pt∧nth 0 b 0=48)→br (toB (F2 neg))
   (br (toB (F2 !sm)) ([Bx (F0 .i64 (-1:Int))]=[Bx (F0 .i64 R)])
    (br (toB (F2 (decide (pt=b.length)))) ([Bx (F0 .i64 (0:Int))]=[Bx (F0 .i64 R)])
    (br (toB (F2 (decide (Hy .i64 (Hy .i64 ((b.length:Int)-(pt:Int))-(1:Int))<(1:Int))))) ([Bx (F0 .i64 (-1:Int))]=[Bx (F0 .i64 R)])
     (br (toB (F2 (decide (Hy .i64 (Hy .i64 ((b.length:Int)-(pt:Int))-(1:Int))>(30:Int))))) ([Bx (F0 .i64 (-1:Int))]=[Bx (F0 .i64 R)])
      ([Bx (F0 .i64 (Hy .i64 (Hy .i64 ((b.length:Int)-(pt:Int))-(1:Int))))]=[Bx (F0 .i64 R)])))))
   (br (toB (F2 (decide (pt=b.length)))) ([Bx (F0 .i64 (0:Int))]=[Bx (F0 .i64 R)])
    (br (toB (F2 (decide (Hy .i64 (Hy .i64 ((b.length:Int)-(pt:Int))-(1:Int))<(1:Int))))) ([Bx (F0 .i64 (-1:Int))]=[Bx (F0 .i64 R)])
     (br (toB (F2 (decide (Hy .i64 (Hy .i64 ((b.length:Int)-(pt:Int))-(1:Int))>(30:Int))))) ([Bx (F0 .i64 (-1:Int))]=[Bx (F0 .i64 R)])
      ([Bx (F0 .i64 (Hy .i64 (Hy .i64 ((b.length:Int)-(pt:Int))-(1:Int))))]=[Bx (F0 .i64 R)])))):=by
   intro h1 h2;refine brb (fun hn=>brb (fun h3=>a1 (.inr (.inr ⟨hn,by simpa using h3⟩))) (fun h3=>a7 (fun h=>?_))) (fun hn=>a7 (fun h=>?_))
   ·rcases h with h|h|h
    ·exact h1 h
    ·exact h2 h
    ·rw[h.2]at h3;simp at h3
   ·rcases h with h|h|h
    ·exact h1 h
    ·exact h2 h
    ·rw[hn]at h;simp at h
  refine brd (fun h1=>a1 (.inl h1)) (fun h1=>brd (fun h2=>⟨⟨by omega,by omega⟩,brd (fun h3=>a1 (.inr (.inl ⟨by omega,h3⟩))) (fun h3=>sgn h1 (fun h=>h3 h.2))⟩) (fun h2=>sgn h1 (fun h=>h2 (by omega))))
end Eng
end

section
open Go Go.Proofs Eng
set_option maxRecDepth 1000000
namespace Eng
section
variable (Gv:Nat→List A→List A→Prop) (Q:List A→Prop) (I0 I1 I2 I3:List D→List D→Prop) (M0 M1 M2 M3:List D→Nat)
theorem RH (p q r t:Bool) (es fs gs hs:List (List D)):wpF CC Gv an0 Tryz.f260 [.ag [.bool p,.sl es,.bool q,.sl fs],.ag [.bool r,.sl gs,.bool t,.sl hs]] Q=(
 ∃b e1 b1 e2 n,Gv 273 [Dd [F2 p,Hu es,F2 q,Hu fs],Dd [F2 r,Hu gs,F2 t,Hu hs]] [Dd [F2 b,Hu e1,F2 b1,Hu e2],Bx (F0 .i64 n)]∧Q [Dd [F2 b,Hu e1,F2 b1,Hu e2]]):=by kernel_rfl
theorem G6 (p:Bool) (es:List (List D)):wpF CC Gv an0 Tryz.f261 [.ag [.bool p,.sl es]] Q=(
 ∃b e1,Gv 69 [] [Dd [F2 b,Hu e1]]∧Q [Dd [F2 p,Hu es,F2 b,Hu e1]]):=by kernel_rfl
theorem N8 (p q:Bool) (es fs:List (List D)):wpF CC Gv an0 Tryz.f169 [.ag [.bool p,.sl es,.bool q,.sl fs]] Q=(
 ∃b e1 b1 e2 n,Gv 240 [Dd [F2 p,Hu es],Dd [F2 q,Hu fs]] [Dd [F2 b,Hu e1],Dd [F2 b1,Hu e2],Bx (F0 .i64 n)]∧Q [Dd [F2 b,Hu e1]]):=by kernel_rfl
end
end Eng
end

section
namespace Eng
open Go Go.Proofs
set_option maxRecDepth 100000
theorem G7 (z:Int):qf CC 261 [qJ z] [xk (z:Rat)]:=by
 refine qg (anns:=an0) mixedT Tryz.func261 ?_;have h:=XZ;rw[qm]at h ⊢;rw[G6];refine⟨_,_,h,?_⟩;rw[qb,Rat.num_intCast,Rat.den_intCast];rfl
theorem RI {x y:Rat} (hx:Sr x) (hy:Sr y) (h0:y≠0):qf CC 260 [xk x,xk y] [xk (x/y)]:=by
 refine qg (anns:=an0) mixedT Tryz.func260 ?_;have h:=EM zN hx hy;rw[if_neg h0]at h;rw[qb,qb y,qb (x/y)]at h;rw[qb,qb y,RH,qb (x/y)];exact⟨_,_,_,_,_,h,rfl⟩
theorem QM {s:List UInt8} (hs:s.length≤2000):qf CC 165 [.c (.str s)] (CJ (XU s)):=by
 have hP:=Km (s:=s) (by omega);rw[Pr]at hP;refine qg (anns:=fun _=>⟨[.slot 5 (.string ⟨#[]⟩),.slot 6 (.int .i64 0)],[],fun _ ds=>∃i:Nat,i≤s.length∧ds=[.str (xh ((s.take i).filter isD)),.int .i64 (i:Int)],fun ds=>(s.length-toI (nth .undef ds 1)).toNat⟩) mixedT Tryz.func165 ?_;unfold XU;rw[TY];simp only[Lm];have hz:J7 0=0:=rfl;cases hd:vS s with
 |none=>rw[hd]at hP;have hP:qf CC 167 [.c (.str s)] [.c (.int .i64 (-1))]:=hP;exact⟨_,hP,brd (fun _=>rfl) (fun h=>absurd (by omega) h)⟩
 |some q=>
  obtain⟨m,k⟩:=q;rw[hd]at hP;have hP:qf CC 167 [.c (.str s)] [.c (.int .i64 (k:Int))]:=hP;have hR:=Ey hd;obtain⟨hk,hm⟩:=vH hd;have hs0:0<s.length:=by
   cases s with
   |nil=>exact absurd ((show none=vS []from rfl).trans hd) (by simp)
   |cons _ _=>simp
  have hdl:(z8 m).length≤60000:=by have h1:(Lib.decDigits m.natAbs).length≤s.length+1:=zh (n:=s.length) (Nat.lt_of_lt_of_le hm (Nat.pow_le_pow_right (by omega) (by omega)));have h2:=Vs m;unfold z8;rw[U3];omega
  have hp:=Rk hdl;rw[Vv]at hp;have ho:F9 (some m)=[qJ m,.c (.int .i64 0)]:=rfl;rw[ho,qm]at hp;have hF:=G7 m;rw[qm,qb]at hF;have ad:=Ze (k:=k) hk;rw[qb]at ad;have hpp:10^k<10^40:=Nat.pow_lt_pow_right (by omega) (by omega);have a9:0<10^k:=Nat.pow_pos (by omega);have hSm:Sr (m:Rat):=by
   refine⟨?_,?_⟩
   ·rw[Rat.num_intCast];exact Kk hm (by omega)
   ·rw[Rat.den_intCast];exact CW (by decide)
  have hO:=RI hSm (HS hpp) (by
   have:((10^k:Nat):Rat)≠0:=by exact_mod_cast (Nat.pos_iff_ne_zero.1 a9)
   exact this)
  rw[qb,qb ((10^k:Nat):Rat),qb (_/_)]at hO;have a8:CJ (some ((m:Rat)/((10^k:Nat):Rat)))=[xk ((m:Rat)/((10^k:Nat):Rat)),Bx (F0 .i64 0)]:=rfl;simp only;rw[a8,qb];have a6:∀t:List UInt8,t=z8 m→∃b es n_2,qf CC 259 [Bx (Hv t)] [Dd [F2 b,Hu es],Bx (F0 .i64 n_2)]∧
   ∃b_1 es_1 b_2 es_2,qf CC 261 [Dd [F2 b,Hu es]] [Dd [F2 b_1,Hu es_1,F2 b_2,Hu es_2]]∧
    ∃b es b_3 es_3,qf CC 143 [Bx (F0 .i64 (k:Int))] [Dd [F2 b,Hu es,F2 b_3,Hu es_3]]∧
     ∃b_4 es_4 b_5 es_5,qf CC 260 [Dd [F2 b_1,Hu es_1,F2 b_2,Hu es_2],Dd [F2 b,Hu es,F2 b_3,Hu es_3]] [Dd [F2 b_4,Hu es_4,F2 b_5,Hu es_5]]∧
      [Dd [F2 b_4,Hu es_4,F2 b_5,Hu es_5],Bx (F0 .i64 0)]=[.ag [.bool (decide (((m:Rat)/((10^k:Nat):Rat)).num<0)),.sl (raw (lim ((m:Rat)/((10^k:Nat):Rat)).num.natAbs)),.bool (decide ((((m:Rat)/((10^k:Nat):Rat)).den:Int)<0)),.sl (raw (lim (((m:Rat)/((10^k:Nat):Rat)).den:Int).natAbs))],Bx (F0 .i64 0)]:=by
   rintro t rfl;exact⟨_,_,_,hp,_,_,_,_,hF,_,_,_,_,ad,_,_,_,_,hO,rfl⟩
  refine⟨_,hP,brd (fun h=>absurd h (by omega)) (fun _=>⟨⟨0,by omega,by simp[xh]⟩,?_⟩)⟩;rintro d n1 ⟨i,hi,he⟩;simp only[W2,Hx,D.str.injEq,true_and,and_true]at he;obtain⟨rfl,rfl⟩:=he;have a4:(xh ((s.take i).filter isD)).length≤2000:=by have h1:=Zm ((s.take i).filter isD);have h2:=List.length_filter_le isD (s.take i);rw[V1]at h2;omega
  refine brd (fun h=>?_) (fun h=>?_)
  ·have a2:i<s.length:=by omega
   have hw:Hy .i64 ((i:Int)+1)=((i+1:Nat):Int):=by rw[qK (by omega) (by omega)];omega
   have hT:=H5 a2;rw[hw,J9,J9];have hb:(0:Int)≤(i:Int)∧(i:Int)<(s.length:Int):=⟨by omega,by omega⟩;have e1:Ls i (Lr (i+1) s)=[nth 0 s i]:=by rw[U0,zg a2,show i+1-i=1 by omega];rfl
   rw[e1];have a7:isD (nth 0 s i)=true↔((nth 0 s i).toNat:Int)≥48∧((nth 0 s i).toNat:Int)≤57:=by rw[jc];omega
   have e48:(((nth 0 s i).toNat:Int) !=48)=!decide (nth 0 s i=48):=by have this:(((nth 0 s i).toNat:Int)==48)=decide (nth 0 s i=48):=u8b (nth 0 s i) 48 (by omega);rw[bne,this]
   rw[e48];have a1:¬(isD (nth 0 s i)=true∧(xh ((s.take i).filter isD)≠[]∨nth 0 s i≠48))→
    (∃i':Nat,i'≤s.length∧[Hv (xh ((s.take i).filter isD)),F0 .i64 ((i+1:Nat):Int)]=[.str (xh ((s.take i').filter isD)),.int .i64 (i':Int)])∧
     ((s.length:Int)-toI (nth .undef [Hv (xh ((s.take i).filter isD)),F0 .i64 ((i+1:Nat):Int)] 1)).toNat<((s.length:Int)-toI (nth .undef [Hv (xh ((s.take i).filter isD)),F0 .i64 (i:Int)] 1)).toNat:=fun hno=>by
    rw[if_neg hno]at hT;exact⟨⟨i+1,a2,by rw[hT]⟩,by simp only[nth,toI];omega⟩
   have a5:(isD (nth 0 s i)=true∧(xh ((s.take i).filter isD)≠[]∨nth 0 s i≠48))→
    ((0:Int)≤(i:Int)∧(i:Int)≤((i+1:Nat):Int)∧((i+1:Nat):Int)≤(s.length:Int))∧
      room ((xh ((s.take i).filter isD)).length+[nth 0 s i].length)∧
       (∃i':Nat,i'≤s.length∧[Hv (xh ((s.take i).filter isD)++[nth 0 s i]),F0 .i64 ((i+1:Nat):Int)]=[.str (xh ((s.take i').filter isD)),.int .i64 (i':Int)])∧
        ((s.length:Int)-toI (nth .undef [Hv (xh ((s.take i).filter isD)++[nth 0 s i]),F0 .i64 ((i+1:Nat):Int)] 1)).toNat<((s.length:Int)-toI (nth .undef [Hv (xh ((s.take i).filter isD)),F0 .i64 (i:Int)] 1)).toNat:=fun hyes=>by
    rw[if_pos hyes]at hT;refine⟨⟨by omega,by omega,by omega⟩,by unfold room;simp only[W0,W1];omega,⟨i+1,a2,by rw[hT]⟩,by simp only[nth,toI];omega⟩
   refine⟨hb,brd (fun h2=>⟨hb,brd (fun h3=>?_) (fun h3=>a1 (fun h=>h3 (a7.1 h.1).2))⟩) (fun h2=>a1 (fun h=>h2 (a7.1 h.1).1))⟩;have a3:=a7.2 ⟨h2,h3⟩;refine brb (fun h4=>a5 ⟨a3,.inl (by simpa using h4)⟩) (fun h4=>⟨hb,brn (fun h5=>a5 ⟨a3,.inr (of_decide_eq_false h5)⟩) (fun h5=>a1 (fun h=>?_))⟩);rcases h.2 with h|h
   ·exact h (by simpa using h4)
   ·exact h (of_decide_eq_true h5)
  ·have a2:i=s.length:=by omega
   subst a2;rw[No]at a4 ⊢;have e45:(((nth 0 s 0).toNat:Int)==45)=decide (nth 0 s 0=45):=u8b (nth 0 s 0) 45 (by omega);rw[hz,e45];unfold IR at hR;simp only at hR;refine brb (fun h2=>⟨⟨by omega,by omega⟩,brd (fun h3=>⟨by unfold room;omega,a6 _ ?_⟩) (fun h3=>a6 _ ?_)⟩) (fun h2=>⟨⟨by omega,by omega⟩,brd (fun h3=>⟨by unfold room;omega,a6 _ ?_⟩) (fun h3=>a6 _ ?_)⟩)
   ·have a0:xh (s.filter isD)=[]:=by simpa using h2
    rw[if_pos h3,if_pos a0]at hR;exact hR
   ·have a0:xh (s.filter isD)=[]:=by simpa using h2
    rw[if_neg h3,if_pos a0]at hR;exact hR
   ·have a0:¬xh (s.filter isD)=[]:=by simpa using h2
    rw[if_pos h3,if_neg a0]at hR;exact hR
   ·have a0:¬xh (s.filter isD)=[]:=by simpa using h2
    rw[if_neg h3,if_neg a0]at hR;exact hR
end Eng
end

section
namespace Eng
open Go Go.Proofs
set_option maxRecDepth 100000
section
variable {s:List UInt8} {i:Nat} {out:List Tk}
theorem Ws {k m:Nat} (h:i<s.length) (h35:nth 0 s i≠35) (hs:s.length≤2000) (ho:out.length≤i) (hp:wH out (jU i (s.drop i))=jU 0 s) (hr:VI i (s.drop i)=VI 0 s) (hsc:kN (nth 0 s i) (s.drop (i+1))= .tok k m) (hm:i+m≤s.length):
 ((0:Int)≤0∧(0:Int)≤(m:Int)∧(m:Int)≤((s.drop i).length:Int))∧
   (room ((out.map zQ).length+1)∧lens 3 [[F0 .i64 (k:Int),F0 .i64 (i:Int),Hv ((s.drop i).take m)]])∧
    Fo s [F0 .i64 (Hy .i64 ((i:Int)+(m:Int))),Hu (out.map zQ++[[F0 .i64 (k:Int),F0 .i64 (i:Int),Hv ((s.drop i).take m)]])]∧
     TQ s [F0 .i64 (Hy .i64 ((i:Int)+(m:Int))),Hu (out.map zQ++[[F0 .i64 (k:Int),F0 .i64 (i:Int),Hv ((s.drop i).take m)]])]<TQ s [F0 .i64 (i:Int),Hu (out.map zQ)]:=by
 have hw:Hy .i64 ((i:Int)+(m:Int))=((i+m:Nat):Int):=by rw[qK (by omega) (by omega)];omega
 have et:Ls (J7 (i:Int)) (Lr (J7 ((i+m:Nat):Int)) s)=(s.drop i).take m:=by rw[J9,J9,U0];congr 1;omega
 have:=XH h h35 (by omega) ho hp hr hsc hm;rw[et]at this;rw[hw];exact⟨⟨by omega,by omega,by rw[Pl];omega⟩,this.2⟩
end
theorem Lf {s:List UInt8} (hs:s.length≤2000):qf CC 87 [.c (.str s)] (VJ s):=by
 refine qg (anns:=fun _=>⟨[.slot 6 (.int .i64 0),.own 5 116 3],[],fun _ ds=>Fo s ds,TQ s⟩) mixedT Tryz.func87 ?_;rw[TW];simp only[Lm,J9,No,T1];refine brd (fun h=>absurd h (by omega)) (fun _=>⟨⟨0,[],by omega,rfl,vf _,rfl,by simp⟩,?_⟩);rintro n es ⟨i,ae,hi,he,hp,hr,ho⟩;simp only[W2,Hx,D.sl.injEq,true_and,and_true]at he;obtain⟨rfl,rfl⟩:=he;have a5:jU i (s.drop i)= .ok []→[Bx (Hu (ae.map zQ)),Bx (F0 .i64 0),Bx (F0 .i64 0)]=VJ s:=fun h=>by rw[h]at hp;unfold VJ;rw[←hp];show _=[Bx (Hu ((ae++[]).map zQ)),_,_];rw[Ts]
 refine brd (fun h=>?_) (fun h=>a5 (Qq (.inl (by omega))));have a2:i<s.length:=by omega
 simp only[J9];have e35:(((nth 0 s i).toNat:Int) !=35)=!decide (nth 0 s i=35):=by rw[show(35:Int)=((35:Nat):Int)from rfl,bne,u8b _ 35 (by omega)];rfl
 have e32:(((nth 0 s i).toNat:Int)==32)=decide (nth 0 s i=32):=u8b _ 32 (by omega);rw[e35,e32];have hb:(0:Int)≤(i:Int)∧(i:Int)<(s.length:Int):=⟨by omega,by omega⟩;refine⟨hb,brn (fun a1=>?_) (fun a1=>a5 (Qq (.inr (of_decide_eq_true a1))))⟩;have a1:=of_decide_eq_false a1;have hd:=zg a2;have hW:(s.drop i).length=s.length-i:=Pl;have hw1:Hy .i64 ((i:Int)+1)=((i+1:Nat):Int):=by rw[qK (by omega) (by omega)];omega
 refine⟨⟨by omega,by omega,by omega⟩,hb,brd (fun h32=>?_) (fun h32=>⟨hb,_,vp _,jm (fun hl=>?_) (fun hl=>?_)⟩)⟩
 ·have a4:kN (nth 0 s i) (s.drop (i+1))= .blank:=by unfold kN;rw[if_pos h32]
  rw[WW a2 a1,a4]at hp;rw[Wr a2 a1,a4]at hr;rw[hw1];exact⟨⟨i+1,ae,by omega,rfl,hp,hr,by omega⟩,by simp only[TQ,nth,toI];omega⟩
 ·have a7:=kH (p:=nmc) (s:=s) (i:=i) (by omega);have a4:kN (nth 0 s i) (s.drop (i+1))=if 24<zc nmc (s.drop i)then .bad 3 else .tok 1 (zc nmc (s.drop i)):=by unfold kN;rw[if_neg h32,if_pos hl,←hd]
  refine⟨_,HU (s:=s.drop i) (by omega),brd (fun h3=>?_) (fun h3=>?_)⟩
  ·rw[if_pos (by omega)]at a4;have:=yi a2 a1 hp hr a4;have a3:TP (nth 0 s i) (s.drop (i+1))=0:=by unfold TP;rw[if_pos hl]
   rw[a3]at this;exact this
  ·rw[if_neg (by omega)]at a4;exact Ws (k:=1) a2 a1 hs ho hp hr a4 a7
 ·have a6:=Lb (s:=s.drop i) (by omega);have a0:kN (nth 0 s i) (s.drop (i+1))=if kq (s.drop i)≠0 then(if vS ((s.drop i).take (kq (s.drop i)))=none then .bad 2
   else if wF (nth 0 (s.drop i) (kq (s.drop i)))=true then .bad 2 else .tok 2 (kq (s.drop i)))else if Mo (nth 0 s i)=true then .tok 3 1 else .bad 2:=by
   unfold kN;rw[if_neg h32,if_neg (by rw[hl];simp),←hd]
  have a3:TP (nth 0 s i) (s.drop (i+1))=if kq (s.drop i)≠0∧vS ((s.drop i).take (kq (s.drop i)))≠none then kq (s.drop i)else 0:=by unfold TP;rw[if_neg (by rw[hl];simp),←hd]
  have ad:kq (s.drop i)≠0→i+kq (s.drop i)≤s.length:=fun h0=>by have hc:=(WX s i).1 h0;have:=N1 a2;rw[P0 hc]at this;exact this
  generalize hm:kq (s.drop i)=m at *;refine⟨_,a6,brd (fun h0=>?_) (fun h0=>?_)⟩
  ·have h0:m≠0:=by omega
   have ad:=ad h0;rw[if_pos h0]at a0;have hP:=QM (s:=(s.drop i).take m) (by rw[V1];omega);refine⟨_,a6,⟨by omega,by omega,by omega⟩,?_⟩;by_cases hdS:vS ((s.drop i).take m)=none
   ·rw[if_pos hdS]at a0;rw[if_neg (fun h=>h.2 hdS)]at a3;have hv:XU ((s.drop i).take m)=none:=by unfold XU;rw[hdS]
    rw[hv]at hP;refine⟨_,_,_,_,_,hP,brb (fun _=>?_) (fun h=>by simp at h)⟩;have:=yi a2 a1 hp hr a0;rw[a3]at this;exact this
   ·rw[if_neg hdS]at a0;rw[if_pos ⟨h0,hdS⟩]at a3;obtain⟨r,hv⟩:∃r,XU ((s.drop i).take m)=some r:=by
     unfold XU;cases hd2:vS ((s.drop i).take m)with
     |none=>exact absurd hd2 hdS
     |some q=>exact⟨_,rfl⟩
    rw[hv]at hP;have hoQ:CJ (some r)=[xk r,.c (.int .i64 0)]:=rfl;rw[hoQ,qb]at hP;have hwm:Hy .i64 ((i:Int)+(m:Int))=((i+m:Nat):Int):=by rw[qK (by omega) (by omega)];omega
    have a9:wF (nth 0 (s.drop i) m)=true→[Bx (Hu []),Bx (F0 .i64 (Hy .i64 ((i:Int)+(m:Int)))),Bx (F0 .i64 (2:Int))]=VJ s:=fun hg=>by rw[if_pos hg]at a0;have:=yi a2 a1 hp hr a0;rw[a3]at this;rw[hwm];exact this
    have af:¬wF (nth 0 (s.drop i) m)=true→_:=fun hg=>Ws (k:=2) (m:=m) a2 a1 hs ho hp hr (by rw[a0,if_neg hg]) ad
    refine⟨_,_,_,_,_,hP,brb (fun h=>by simp at h) (fun _=>brd (fun h4=>?_) (fun h4=>af ?_))⟩
    ·have e95:(((nth 0 (s.drop i) m).toNat:Int)==95)=decide (nth 0 (s.drop i) m=95):=u8b _ 95 (by omega);have e46:(((nth 0 (s.drop i) m).toNat:Int)==46)=decide (nth 0 (s.drop i) m=46):=u8b _ 46 (by omega);simp only[J9];rw[e95,e46];have a8:(0:Int)≤(m:Int)∧(m:Int)<((s.drop i).length:Int):=⟨by omega,by omega⟩;refine⟨a8,_,vp _,jm (fun h1=>a9 (by unfold wF;rw[h1];rfl)) (fun h1=>⟨a8,brd (fun h2=>a9 (by unfold wF;rw[h2];simp)) (fun h2=>⟨a8,brd (fun h3=>a9 (by unfold wF;rw[h3];simp)) (fun h3=>af ?_)⟩)⟩)⟩;unfold wF;rw[h1,decide_eq_false h2,decide_eq_false h3];simp
    ·rw[kj (by omega)];decide
  ·have h0:m=0:=by omega
   rw[if_neg (by simp[h0])]at a0;rw[if_neg (fun h=>h.1 h0)]at a3;refine⟨hb,_,Dm _,?_⟩;cases hy:Mo (nth 0 s i)with
   |true=>rw[hy,if_pos rfl]at a0;exact jm (fun _=>Ws (k:=3) (m:=1) a2 a1 hs ho hp hr a0 (by omega)) (fun h=>by cases h)
   |false=>rw[hy,if_neg (by simp)]at a0;refine jm (fun h=>by cases h) (fun _=>?_);have:=yi a2 a1 hp hr a0;rw[a3]at this;exact this
end Eng
end

section
namespace Eng
open Go Go.Proofs
set_option maxRecDepth 100000
def qLI (s:List UInt8) (ds:List D):Prop:=∃(f n i:Nat) (out:List Li),ds=[.int .i64 (f:Int),.int .i64 (n:Int),.int .i64 (i:Int),.sl (out.map yI)]∧out.length≤i∧n≤i+1∧
 ((i≤s.length∧f≤i∧(∀j,f≤j→j<i→nth 0 s j≠10)∧wH out (kD n (qC 10 (s.drop f)))=kD 1 (qC 10 s)∧∀w∈qC 10 (s.drop f),w.length≤2000)∨(i=s.length+1∧kD 1 (qC 10 s)= .ok out))
def qLM (s:List UInt8) (ds:List D):Nat:=((s.length:Int)+1-toI (nth .undef ds 2)).toNat
theorem N9 {s:List UInt8} (hs:s.length≤65536) (hw:∀w∈qC 10 s,w.length≤2000):qf CC 42 [.c (.str s)] (Dj s):=by
 refine qg (anns:=fun _=>⟨[.slot 6 (.int .i64 0),.slot 7 (.int .i64 0),.slot 8 (.int .i64 0),.own 5 58 2],[],fun _ ds=>qLI s ds,qLM s⟩) mixedT Tryz.func42 ?_;have a6:∀R,Dj s=R→R=(match kD 1 (qC 10 s)with
  | .ok l=>[.c (.sl (l.map yI)),.c (.int .i64 0),.c (.int .i64 0)]
  | .error (n,e)=>[.c (.sl []),.c (.int .i64 (n:Int)),.c (.int .i64 (e:Int))]):=fun R h=>h.symm
 rw[N6];generalize hR:Dj s=R;have hR:=a6 R hR;clear a6;simp only[Lm];refine brd (fun h=>absurd h (by omega)) (fun _=>⟨⟨0,1,0,[],rfl,by simp,by omega,.inl ⟨by omega,by omega,fun j _ h=>absurd h (by omega),by rw[T1,vf],by rw[T1];exact hw⟩⟩,?_⟩);rintro a1 a2 a3 es ⟨f,n,i,a4,he,ho,hn,ad⟩;simp only[W2,Hx,D.sl.injEq,true_and,and_true]at he;obtain⟨rfl,rfl,rfl,rfl⟩:=he;refine brd (fun h=>?_) (fun h=>?_)
 ·have hil:i≤s.length:=by omega
  rcases ad with⟨_,hf,a9,hp,ae⟩|⟨ad,_⟩
  ·have hw1:Hy .i64 ((i:Int)+1)=((i+1:Nat):Int):=by rw[qK (by omega) (by omega)];omega
   have hw2:Hy .i64 ((n:Int)+1)=((n+1:Nat):Int):=by rw[qK (by omega) (by omega)];omega
   rw[hw1,hw2];have et:Ls (J7 (f:Int)) (Lr (J7 (i:Int)) s)=(s.drop f).take (i-f):=by rw[J9,J9,U0]
   --a line's end
   have a7:∀a5,qC 10 (s.drop f)=(s.drop f).take (i-f)::a5→(∀out',wH out' (kD (n+1) a5)=kD 1 (qC 10 s)→out'.length≤i+1→qLI s [F0 .i64 ((i+1:Nat):Int),F0 .i64 ((n+1:Nat):Int),F0 .i64 ((i+1:Nat):Int),Hu (out'.map yI)])→
    (((0:Int)≤(f:Int)∧(f:Int)≤(i:Int)∧(i:Int)≤(s.length:Int))∧
      ∃es_1 n_3 n_4,qf CC 87 [Bx (Hv (Ls (J7 (f:Int)) (Lr (J7 (i:Int)) s)))] [Bx (Hu es_1),Bx (F0 .i64 n_3),Bx (F0 .i64 n_4)]∧
       br (toB (F2 (n_4 !=(0:Int)))) ([Bx (Hu []),Bx (F0 .i64 (n:Int)),Bx (F0 .i64 n_4)]=R)
        (br (toB (F2 (decide ((es_1.length:Int)>(0:Int)))))
         ((room ((a4.map yI).length+1)∧lens 2 [[F0 .i64 (n:Int),Hu es_1]])∧
           qLI s [F0 .i64 ((i+1:Nat):Int),F0 .i64 ((n+1:Nat):Int),F0 .i64 ((i+1:Nat):Int),Hu (a4.map yI++[[F0 .i64 (n:Int),Hu es_1]])]∧
            qLM s [F0 .i64 ((i+1:Nat):Int),F0 .i64 ((n+1:Nat):Int),F0 .i64 ((i+1:Nat):Int),Hu (a4.map yI++[[F0 .i64 (n:Int),Hu es_1]])]<qLM s [F0 .i64 (f:Int),F0 .i64 (n:Int),F0 .i64 (i:Int),Hu (a4.map yI)])
         (qLI s [F0 .i64 ((i+1:Nat):Int),F0 .i64 ((n+1:Nat):Int),F0 .i64 ((i+1:Nat):Int),Hu (a4.map yI)]∧
          qLM s [F0 .i64 ((i+1:Nat):Int),F0 .i64 ((n+1:Nat):Int),F0 .i64 ((i+1:Nat):Int),Hu (a4.map yI)]<qLM s [F0 .i64 (f:Int),F0 .i64 (n:Int),F0 .i64 (i:Int),Hu (a4.map yI)]))):=by
    intro a5 hc a0;rw[et];have hwl:((s.drop f).take (i-f)).length≤2000:=ae _ (by rw[hc];simp);generalize (s.drop f).take (i-f)=w at *;rw[hc,J2]at hp;have hT:=Lf hwl;unfold VJ at hT;refine⟨⟨by omega,by omega,by omega⟩,?_⟩;cases ht:jU 0 w with
    |error e=>rw[ht]at hT hp;have h0:=yH _ 0 _ e (Nat.le_refl _) ht;refine⟨_,_,_,hT,brb (fun _=>?_) (fun h=>by simp at h;omega)⟩;have hp:(Except.error (n,e):Except (Nat×Nat) (List Li))=kD 1 (qC 10 s):=hp;rw[hR,←hp]
    |ok l=>
     rw[ht]at hT hp;simp only at hT hp;rw[J1]at hp;refine⟨_,_,_,hT,brb (fun h=>by simp at h) (fun _=>brd (fun h2=>?_) (fun h2=>?_))⟩
     ·rw[P1]at h2;have a8:l≠[]:=by intro e;subst e;simp at h2
      rw[if_neg a8]at hp;have:=a0 _ hp (by rw[U3];simp only[W0,W1];omega);refine⟨⟨by unfold room;rw[P1];omega,?_⟩,?_,by simp only[qLM,nth,toI];omega⟩
      ·intro e he;simp only[List.mem_cons,List.not_mem_nil,or_false]at he;rw[he];rfl
      ·rw[List.map_append]at this;exact this
     ·rw[P1]at h2;have a8:l=[]:=by cases l with|nil=>rfl|cons _ _=>simp at h2
      rw[if_pos a8,Ts]at hp;exact⟨a0 _ hp (by omega),by simp only[qLM,nth,toI];omega⟩
   refine brd (fun h2=>?_) (fun h2=>?_)
   ·have h2:i<s.length:=by omega
    have hb:(0:Int)≤(i:Int)∧(i:Int)<(s.length:Int):=⟨by omega,by omega⟩;have e10:(((nth 0 s (J7 (i:Int))).toNat:Int) !=10)=!decide (nth 0 s i=10):=by rw[J9];have this:(((nth 0 s i).toNat:Int)==10)=decide (nth 0 s i=10):=u8b (nth 0 s i) 10 (by omega);rw[bne,this]
    rw[e10];refine⟨hb,brn (fun h3=>?_) (fun h3=>?_)⟩
    ·have h3:=of_decide_eq_false h3;refine⟨⟨f,n,i+1,a4,rfl,by omega,by omega,.inl ⟨h2,by omega,fun j hj1 hj2=>?_,hp,ae⟩⟩,by simp only[qLM,nth,toI];omega⟩;by_cases hji:j=i
     ·rw[hji];exact h3
     ·exact a9 j hj1 (by omega)
    ·have hc:=Px h2 hf a9 (of_decide_eq_true h3);refine a7 _ hc fun out' hp' ho'=>⟨i+1,n+1,i+1,out',rfl,ho',by omega,.inl ⟨h2,Nat.le_refl _,fun j h1 h2=>absurd h2 (by omega),hp',fun w hw'=>ae w (by rw[hc];exact List.mem_cons_of_mem _ hw')⟩⟩
   ·have h2:i=s.length:=by omega
    subst h2;have hc:=Py hf a9;refine a7 [] hc fun out' hp' ho'=>⟨s.length+1,n+1,s.length+1,out',rfl,ho',by omega,.inr ⟨rfl,?_⟩⟩
    rw[←hp'];show Except.ok (out'++[])=_;rw[Ts]
  ·omega
 ·rcases ad with⟨hi,_⟩|⟨_,hp⟩
  ·omega
  ·rw[hR,hp]
theorem Lg {t:Tk} (hs:t.text.length≤2000):qf CC 170 [.ag (zQ t)] (RG (Fp t)):=by
 refine qg (anns:=an0) mixedT Tryz.func170 ?_;have er:Dd (zQ t)= .ag [.int .i64 (t.kind:Int),.int .i64 (t.pos:Int),.str t.text]:=rfl;rw[er,La];unfold Fp;have hP:=QM (s:=t.text) hs;have e2:(((t.kind:Nat):Int) !=2)=!decide (t.kind=2):=by rw[Aw];simp;omega
 rw[e2];cases hv:XU t.text with
 |none=>
  rw[hv]at hP;refine⟨_,_,_,_,_,hP,brn (fun h=>?_) (fun h=>brb (fun _=>?_) (fun h=>by simp at h))⟩
  ·rw[if_neg (of_decide_eq_false h)];rfl
  ·rw[if_pos (of_decide_eq_true h)];rfl
 |some r=>
  have hsr:=val_sr hv hs;have h1:=zM (n:=1000) (by omega) (by omega);have sM:Sz 4 ((1000:Int):Rat):=Sz.int (by decide);have hm:=Xk zN hsr (sM.sr (by omega));rw[hv]at hP;have hoQ:CJ (some r)=[xk r,.c (.int .i64 0)]:=rfl;rw[hoQ,qb]at hP;rw[qb]at h1;rw[qb,qb ((1000:Int):Rat),qb (r*_)]at hm;refine⟨_,_,_,_,_,hP,brn (fun h=>?_) (fun h=>brb (fun h=>by simp at h) (fun _=>⟨_,_,_,_,h1,_,_,_,_,hm,?_⟩))⟩
  ·rw[if_neg (of_decide_eq_false h)];rfl
  ·rw[if_pos (of_decide_eq_true h)];show _=[xk (r*1000),Bx (.bool true)];rw[qb];rfl
end Eng
end

section
namespace Eng
open Go Go.Proofs
set_option maxRecDepth 100000
theorem NA {x:Rat} (hx:Sr x):qf CC 169 [xk x] [qJ x.floor]:=by
 refine qg (anns:=an0) mixedT Tryz.func169 ?_;have hp:=x.den_pos;have h:=vK zN hx.1.sm hx.2.sm (by omega);have e:x.num/(x.den:Int)=x.floor:=by rw[Rat.floor_def]
 rw[e]at h;rw[qb,N8];rw[qm,qm,qm,qm]at h;rw[qm];exact⟨_,_,_,_,_,h,rfl⟩
end Eng
end
