/- The greater one of 0 and a number, as the program's max prints. -/
import Derived.Test.YtbehlcfelmbmlaaGreatDoorEngA
import Derived.Test.YtbehlcfelmbmlaaGreatDoorCtxB
import Derived.Test.YtbehlcfelmbmlaaGreatDoorTxP
import Derived.Test.YtbehlcfelmbmlaaGreatDoorLexA
import Derived.Test.YtbehlcfelmbmlaaGreatDoorDivA
import Derived.Test.YtbehlcfelmbmlaaGreatDoorCdA
import Derived.KernelRfl
open Bool renaming eq_iff_iff→Aw
open Eng.A renaming c→Bx, ag→Dd
open Eng.D renaming bool→F0, int→F2, str→Hu, sl→Hv
open Eng.D.int renaming injEq→Hx
open Go.IntKind renaming wrap→Hy
open Go.Lib renaming decDigits→J3, indexByte→J6, nDigits→Lm, repeatL→Lr, decDigits_length→Ls
open Int renaming ofNat→Lv, toNat→No, toNat_natCast→Pl, ofNat_eq_natCast→P1, tmod→Ts, tdiv→T1
open List renaming length→U0, take→U3, drop→V1, length_cons→W0, eq_nil_of_length_eq_zero→W1, length_append→W2, length_nil→ai, take_length→aj, length_take→ak, length_drop→am, drop_zero→an, take_of_length_le→ao, length_pos_iff→ap, append_assoc→aq, getElem_mem→ar, drop_length→au, all_eq_true→av
open List.cons renaming injEq→aw
open Nat renaming lt_of_lt_of_le→ax, lt_or_ge→ay, pow_pos→az, mul_le_mul_right→aA, eq_zero_or_pos→aB, div_eq_of_lt→aC, reducePow→aD, pow_zero→aE, toUInt8→aF, pow_mul→aG, pow_add→aH
open UInt8 renaming toNat→aI, ofNat→aJ
section
namespace Eng
def mxZ (a:Int):Int:=match decide ((0:Int)<a)with
 |true=>a
 |false=>0
theorem AM (a:Int):mxZ a=((a.toNat:Nat):Int):=by
 unfold mxZ;by_cases h:(0:Int)<a
 ·rw[decide_eq_true h];simp only;omega
 ·rw[decide_eq_false h];simp only;omega
def mnZ (a b:Int):Int:=match decide (a<b)with
 |true=>a
 |false=>b
theorem AN (a b:Int):mnZ a b=min a b:=by
 unfold mnZ;by_cases h:a<b
 ·rw[decide_eq_true h];simp only;omega
 ·rw[decide_eq_false h];simp only;omega
end Eng
end

section
open Go Go.Proofs Eng
set_option maxRecDepth 1000000
namespace Eng
section
variable (Gv:Nat→List A→List A→Prop) (Q:List A→Prop) (I0 I1 I2 I3:List D→List D→Prop) (M0 M1 M2 M3:List D→Nat)
theorem B1 (s:List UInt8) (c:Int):wpF CC Gv an0 Tryz.f246 [.c (.str s),.c (.int .u8 c)] Q=(
 Q [Bx (F2 .i64 (J6 s (aF (No c))))]):=by kernel_rfl
theorem EW (s:List UInt8) (c:UInt8):wpF CC Gv an0 Tryz.f318 [.c (.str s),.c (.str [c])] Q=(
 br (toB (F0 ([c]==s))) (Q [Bx (F2 .i64 0)]) (((0:Int)≤(0:Int)∧(0:Int)<(1:Int))∧∃n,Gv 246 [Bx (Hu s),Bx (F2 .u8 (Lv (aI (nth 0 [c] (No (0:Int))))))] [Bx (F2 .i64 n)]∧Q [Bx (F2 .i64 n)])):=by kernel_rfl
theorem EX (s:List UInt8) (c:UInt8):wpF CC Gv an0 Tryz.f321 [.c (.str s),.c (.str [c])] Q=(
 ∃n,Gv 318 [Bx (Hu s),Bx (Hu [c])] [Bx (F2 .i64 n)]∧br (toB (F0 (decide (n≥0)))) (((0:Int)≤(0:Int)∧0≤n∧n≤(Lv s.length))∧(0≤Hy .i64 (n+1)∧Hy .i64 (n+1)≤(Lv s.length)∧(Lv s.length)≤(Lv s.length))∧Q [Bx (Hu (V1 0 (U3 (No n) s))),Bx (Hu (V1 (No (Hy .i64 (n+1))) (U3 (No (Lv s.length)) s))),Bx (F0 true)]) (Q [Bx (Hu s),Bx (Hu []),Bx (F0 false)])):=by kernel_rfl
theorem EY (s:List UInt8) (c:UInt8):wpF CC Gv an0 Tryz.f248 [.c (.str s),.c (.str [c])] Q=(
 ∃s1 s2 b,Gv 321 [Bx (Hu s),Bx (Hu [c])] [Bx (Hu s1),Bx (Hu s2),Bx (F0 b)]∧Q [Bx (Hu s1),Bx (Hu s2),Bx (F0 b)]):=by kernel_rfl
theorem B2 (s t:List UInt8):wpF CC Gv an0 Tryz.f333 [.c (.str s),.c (.str t)] Q=(
 br (toB (F0 (decide ((Lv s.length)≥(Lv t.length))))) (((0:Int)≤(0:Int)∧0≤(Lv t.length)∧(Lv t.length)≤(Lv s.length))∧Q [Bx (F0 (V1 0 (U3 (No (Lv t.length)) s)==t))]) (Q [Bx (F0 false)])):=by kernel_rfl
theorem B3 (s t:List UInt8):wpF CC Gv an0 Tryz.f320 [.c (.str s),.c (.str t)] Q=(
 ∃b,Gv 333 [Bx (Hu s),Bx (Hu t)] [Bx (F0 b)]∧br (toB (F0 !b)) (Q [Bx (Hu s),Bx (F0 false)]) ((0≤(Lv t.length)∧(Lv t.length)≤(Lv s.length)∧(Lv s.length)≤(Lv s.length))∧Q [Bx (Hu (V1 (No (Lv t.length)) (U3 (No (Lv s.length)) s))),Bx (F0 true)])):=by kernel_rfl
theorem B5 (s t:List UInt8):wpF CC Gv an0 Tryz.f247 [.c (.str s),.c (.str t)] Q=(
 ∃s1 b,Gv 320 [Bx (Hu s),Bx (Hu t)] [Bx (Hu s1),Bx (F0 b)]∧Q [Bx (Hu s1),Bx (F0 b)]):=by kernel_rfl
theorem EZ (J7:List D→List D→Prop) (p:Bool) (es:List (List D)):wpF CC Gv (wB (fun _=>⟨[.slot 5 (.int .i64 0),.bld 4 76 45],[],I0,M0⟩) 7 ⟨[.bld 4 76 46],[],J7,fun _=>0⟩) Tryz.f237 [.ag [.bool p,.sl es]] Q=(
 br (toB (F0 ((Lv es.length)==0))) (Q [Bx (Hu [48])]) (br p (room 1∧J7 [] [Hv [[F2 .u8 45]]]) (J7 [] [Hv []])∧∀(e1:List (List D)),J7 [] [Hv e1]→(0≤Hy .i64 ((Lv es.length)-1)∧Hy .i64 ((Lv es.length)-1)<(Lv es.length)∧U0 (nth [] es (No (Hy .i64 ((Lv es.length)-1))))=1)∧∃n,cut (nth [] es (No (Hy .i64 ((Lv es.length)-1)))) 0 1 [F2 .u32 n]∧∃s,Gv 71 [Bx (F2 .u64 (Hy .u64 n)),Bx (F2 .i64 10)] [Bx (Hu s)]∧room (e1.length+U0 (qp s))∧I0 [] [F2 .i64 (Hy .i64 ((Lv es.length)-2)),Hv (e1++qp s)]∧∀(n:Int) (e2:List (List D)),I0 [] [F2 .i64 n,Hv e2]→br (toB (F0 (decide (n≥0)))) ((0≤n∧n<(Lv es.length)∧U0 (nth [] es (No n))=1)∧∃n1,cut (nth [] es (No n)) 0 1 [F2 .u32 n1]∧∃s,Gv 71 [Bx (F2 .u64 (Hy .u64 n1)),Bx (F2 .i64 10)] [Bx (Hu s)]∧∃s1,Gv 161 [Bx (Hu [48]),Bx (F2 .i64 (Hy .i64 (9-(Lv s.length))))] [Bx (Hu s1)]∧room (e2.length+U0 (qp s1))∧room (U0 (e2++qp s1)+U0 (qp s))∧I0 [] [F2 .i64 (Hy .i64 (n-1)),Hv (e2++qp s1++qp s)]∧M0 [F2 .i64 (Hy .i64 (n-1)),Hv (e2++qp s1++qp s)]<M0 [F2 .i64 n,Hv e2]) ((e2≠[]∧jK e2=true)∧Q [Bx (Hu (zH e2))]))):=by kernel_rfl
theorem PU (J4:List D→List D→Prop) (s:List UInt8):wpF CC Gv (wB (Gl ⟨[.slot 40 (.int .i64 0)],[],I0,M0⟩ ⟨[.own 7 87 1,.slot 8 (.int .i64 0)],[],I1,M1⟩ ⟨[.slot 9 (.int .u32 0),.slot 69 (.int .i64 0)],[.own 7 87 1,.slot 8 (.int .i64 0)],I2,M2⟩) 4 ⟨[],[.slot 4 (.string ⟨#[]⟩),.slot 5 (.bool false)],J4,fun _=>0⟩) Tryz.f245 [.c (.str s)] Q=(
 ∃s1 b,Gv 247 [Bx (Hu s),Bx (Hu [45])] [Bx (Hu s1),Bx (F0 b)]∧br (toB (F0 (s1==[]))) (Q [Dd [F0 false,Hv []],Bx (F2 .i64 2)]) (br (toB (F0 (decide ((Lv s.length)>65536)))) (Q [Dd [F0 false,Hv []],Bx (F2 .i64 2)]) (((0:Int)≤(0:Int)∧0<(Lv s1.length))∧br (toB (F0 ((Lv (aI (nth 0 s1 (No (0:Int)))))==48))) (br (toB (F0 (decide ((Lv s1.length)>1)))) (Q [Dd [F0 false,Hv []],Bx (F2 .i64 2)]) (br b (Q [Dd [F0 false,Hv []],Bx (F2 .i64 2)]) (J4 [Hu s1,F0 b] []))) (J4 [Hu s1,F0 b] [])))∧(J4 [Hu s1,F0 b] []→I0 [] [F2 .i64 0]∧∀(n:Int),I0 [] [F2 .i64 n]→br (toB (F0 (decide (n<(Lv s1.length))))) ((0≤n∧n<(Lv s1.length))∧br (toB (F0 (decide ((Lv (aI (nth 0 s1 (No n))))<48)))) (Q [Dd [F0 false,Hv []],Bx (F2 .i64 2)]) ((0≤n∧n<(Lv s1.length))∧br (toB (F0 (decide ((Lv (aI (nth 0 s1 (No n))))>57)))) (Q [Dd [F0 false,Hv []],Bx (F2 .i64 2)]) (I0 [] [F2 .i64 (Hy .i64 (n+1))]∧M0 [F2 .i64 (Hy .i64 (n+1))]<M0 [F2 .i64 n]))) (I1 [] [Hv [],F2 .i64 (Lv s1.length)]∧∀(es:List (List D)) (n:Int),I1 [] [Hv es,F2 .i64 n]→br (toB (F0 (decide (n>0)))) (((0≤mxZ (Hy .i64 (n-9)))∧(mxZ (Hy .i64 (n-9)))≤n∧n≤(Lv s1.length))∧room (U0 (V1 (No (mxZ (Hy .i64 (n-9)))) (U3 (No n) s1)))∧I2 [Hv es,F2 .i64 n] [F2 .u32 0,F2 .i64 0]∧∀(n1 n2:Int),I2 [Hv es,F2 .i64 n] [F2 .u32 n1,F2 .i64 n2]→br (toB (F0 (decide (n2<(Lv (U0 (qp (V1 (No (mxZ (Hy .i64 (n-9)))) (U3 (No n) s1))))))))) ((0≤n2∧n2<(Lv (U0 (qp (V1 (No (mxZ (Hy .i64 (n-9)))) (U3 (No n) s1)))))∧U0 (nth [] (qp (V1 (No (mxZ (Hy .i64 (n-9)))) (U3 (No n) s1))) (No n2))=1)∧∃n3,cut (nth [] (qp (V1 (No (mxZ (Hy .i64 (n-9)))) (U3 (No n) s1))) (No n2)) 0 1 [F2 .u8 n3]∧I2 [Hv es,F2 .i64 n] [F2 .u32 (Hy .u32 (Hy .u32 (10*n1)+Hy .u32 (Hy .u8 (n3-48)))),F2 .i64 (Hy .i64 (n2+1))]∧M2 [F2 .u32 (Hy .u32 (Hy .u32 (10*n1)+Hy .u32 (Hy .u8 (n3-48)))),F2 .i64 (Hy .i64 (n2+1))]<M2 [F2 .u32 n1,F2 .i64 n2]) ((room (es.length+1)∧lens 1 [[F2 .u32 n1]])∧I1 [] [Hv (es++[[F2 .u32 n1]]),F2 .i64 (Hy .i64 (n-9))]∧M1 [Hv (es++[[F2 .u32 n1]]),F2 .i64 (Hy .i64 (n-9))]<M1 [Hv es,F2 .i64 n])) (∃b1 e1,Gv 189 [Bx (F0 b),Bx (Hv es)] [Dd [F0 b1,Hv e1]]∧Q [Dd [F0 b1,Hv e1],Bx (F2 .i64 0)])))):=by kernel_rfl
theorem Fa (p:Bool) (es:List (List D)):wpF CC Gv (Gl ⟨[.slot 3 (.string ⟨#[]⟩),.slot 4 (.int .i64 0)],[],I0,M0⟩ ⟨[.slot 3 (.string ⟨#[]⟩),.slot 5 (.int .u32 0),.slot 6 (.int .i64 0)],[.slot 3 (.string ⟨#[]⟩),.slot 4 (.int .i64 0),.slot 5 (.int .u32 0)],I1,M1⟩ ⟨[.slot 3 (.string ⟨#[]⟩)],[],I2,M2⟩) Tryz.f238 [.ag [.bool p,.sl es]] Q=(
 br (toB (F0 ((Lv es.length)==0))) (Q [Bx (Hu [48])]) (I0 [] [Hu [],F2 .i64 0]∧∀(s:List UInt8) (n:Int),I0 [] [Hu s,F2 .i64 n]→br (toB (F0 (decide (n<(Lv es.length))))) ((0≤n∧n<(Lv es.length)∧U0 (nth [] es (No n))=1)∧∃n1,cut (nth [] es (No n)) 0 1 [F2 .u32 n1]∧I1 [Hu s,F2 .i64 n,F2 .u32 n1] [Hu s,F2 .u32 n1,F2 .i64 0]∧∀(s1:List UInt8) (n2 n3:Int),I1 [Hu s,F2 .i64 n,F2 .u32 n1] [Hu s1,F2 .u32 n2,F2 .i64 n3]→br (toB (F0 (decide (n3<9)))) ((10:Int)≠(0:Int)∧(0≤Hy .i32 (Hy .u32 (48+Ts n2 (10:Int)))∧Hy .i32 (Hy .u32 (48+Ts n2 (10:Int)))<128)∧room (1+s1.length)∧(10:Int)≠(0:Int)∧I1 [Hu s,F2 .i64 n,F2 .u32 n1] [Hu (aJ (No (Hy .i32 (Hy .u32 (48+Ts n2 (10:Int)))))::s1),F2 .u32 (Hy .u32 (T1 n2 (10:Int))),F2 .i64 (Hy .i64 (n3+1))]∧M1 [Hu (aJ (No (Hy .i32 (Hy .u32 (48+Ts n2 (10:Int)))))::s1),F2 .u32 (Hy .u32 (T1 n2 (10:Int))),F2 .i64 (Hy .i64 (n3+1))]<M1 [Hu s1,F2 .u32 n2,F2 .i64 n3]) (I0 [] [Hu s1,F2 .i64 (Hy .i64 (n+1))]∧M0 [Hu s1,F2 .i64 (Hy .i64 (n+1))]<M0 [Hu s,F2 .i64 n])) (I2 [] [Hu s]∧∀(s:List UInt8),I2 [] [Hu s]→((0:Int)≤(0:Int)∧0<(Lv s.length))∧br (toB (F0 ((Lv (aI (nth 0 s (No (0:Int)))))==48))) (((0:Int)≤(1:Int)∧1≤(Lv s.length)∧(Lv s.length)≤(Lv s.length))∧I2 [] [Hu (V1 1 (U3 (No (Lv s.length)) s))]∧M2 [Hu (V1 1 (U3 (No (Lv s.length)) s))]<M2 [Hu s]) (br p (room (1+s.length)∧Q [Bx (Hu (45::s))]) (Q [Bx (Hu s)]))))):=by kernel_rfl
end
end Eng
end

section
open Go Go.Proofs Eng
set_option maxRecDepth 1000000
namespace Eng
section
variable (Gv:Nat→List A→List A→Prop) (Q:List A→Prop) (I0 I1 I2 I3:List D→List D→Prop) (M0 M1 M2 M3:List D→Nat)
theorem B6 (p q:Bool) (es fs:List (List D)):wpF CC Gv an0 Tryz.f67 [.ag [.bool p,.sl es],.ag [.bool q,.sl fs]] Q=(
 br (toB (F0 (p==q))) (∃n,Gv 127 [Bx (Hv es),Bx (Hv fs)] [Bx (F2 .i64 n)]∧Q [Bx (F0 (n==0))]) (Q [Bx (F0 false)])):=by kernel_rfl
theorem B7 (m d:Int):wpF CC Gv an0 Tryz.f76 [.c (.int .i64 m),.c (.int .i64 d)] Q=(
 br (toB (F0 (d==0))) (∃b es,Gv 68 [Bx (F2 .i64 0)] [Dd [F0 b,Hv es]]∧∃b1 e1,Gv 68 [Bx (F2 .i64 1)] [Dd [F0 b1,Hv e1]]∧∃b2 e2 b3 e3,Gv 145 [Dd [F0 b,Hv es],Dd [F0 b1,Hv e1]] [Dd [F0 b2,Hv e2,F0 b3,Hv e3]]∧Q [Dd [F0 b2,Hv e2,F0 b3,Hv e3]]) (∃b es,Gv 68 [Bx (F2 .i64 m)] [Dd [F0 b,Hv es]]∧∃b1 e1,Gv 68 [Bx (F2 .i64 d)] [Dd [F0 b1,Hv e1]]∧∃b2 e2 b3 e3,Gv 145 [Dd [F0 b,Hv es],Dd [F0 b1,Hv e1]] [Dd [F0 b2,Hv e2,F0 b3,Hv e3]]∧Q [Dd [F0 b2,Hv e2,F0 b3,Hv e3]])):=by kernel_rfl
theorem PW (n:Int):wpF CC Gv (fun _=>⟨[.slot 4 (.int .i64 0),.box 3 [.bool false,.slice none 0 0,.bool false,.slice none 0 0]],[],I0,M0⟩) Tryz.f143 [.c (.int .i64 n)] Q=(
 ∃b es b1 e1,Gv 27 [Bx (F2 .i64 1)] [Dd [F0 b,Hv es,F0 b1,Hv e1]]∧I0 [] [F2 .i64 0,F0 b,Hv es,F0 b1,Hv e1]∧∀(n1:Int) (b:Bool) (es:List (List D)) (b2:Bool) (e2:List (List D)),I0 [] [F2 .i64 n1,F0 b,Hv es,F0 b2,Hv e2]→br (toB (F0 (decide (n1<n)))) (∃b3 e3 b4 e4,Gv 27 [Bx (F2 .i64 10)] [Dd [F0 b3,Hv e3,F0 b4,Hv e4]]∧∃b5 e5 b6 e6,Gv 103 [Dd [F0 b,Hv es,F0 b2,Hv e2],Dd [F0 b3,Hv e3,F0 b4,Hv e4]] [Dd [F0 b5,Hv e5,F0 b6,Hv e6]]∧I0 [] [F2 .i64 (Hy .i64 (n1+1)),F0 b5,Hv e5,F0 b6,Hv e6]∧M0 [F2 .i64 (Hy .i64 (n1+1)),F0 b5,Hv e5,F0 b6,Hv e6]<M0 [F2 .i64 n1,F0 b,Hv es,F0 b2,Hv e2]) (Q [Dd [F0 b,Hv es,F0 b2,Hv e2]])):=by kernel_rfl
theorem PX (p:Bool) (es:List (List D)) (n:Int):wpF CC Gv (fun _=>⟨[.slot 5 (.string ⟨#[]⟩)],[],I0,M0⟩) Tryz.f144 [.ag [.bool p,.sl es],.c (.int .i64 n)] Q=(
 ∃s,Gv 238 [Dd [F0 p,Hv es]] [Bx (Hu s)]∧((0:Int)≤(0:Int)∧0<(Lv s.length))∧br (toB (F0 ((Lv (aI (nth 0 s (No (0:Int)))))==45))) (((0:Int)≤(1:Int)∧1≤(Lv s.length)∧(Lv s.length)≤(Lv s.length))∧I0 [] [Hu (V1 1 (U3 (No (Lv s.length)) s))]∧∀(s:List UInt8),I0 [] [Hu s]→br (toB (F0 (decide ((Lv s.length)≤n)))) (room (1+s.length)∧I0 [] [Hu (48::s)]∧M0 [Hu (48::s)]<M0 [Hu s]) (br (toB (F0 (n==0))) (room (1+s.length)∧Q [Bx (Hu (45::s))]) (((0:Int)≤(0:Int)∧0≤Hy .i64 ((Lv s.length)-n)∧Hy .i64 ((Lv s.length)-n)≤(Lv s.length))∧room (1+U0 (V1 0 (U3 (No (Hy .i64 ((Lv s.length)-n))) s)))∧room (U0 (45::([]++(V1 0 (U3 (No (Hy .i64 ((Lv s.length)-n))) s))))+1)∧(0≤Hy .i64 ((Lv s.length)-n)∧Hy .i64 ((Lv s.length)-n)≤(Lv s.length)∧(Lv s.length)≤(Lv s.length))∧room (U0 (45::((([]++(V1 (No (0:Int)) (U3 (No (Hy .i64 ((Lv s.length)-n))) s))))++[46]))+U0 (V1 (No (Hy .i64 ((Lv s.length)-n))) (U3 (No (Lv s.length)) s)))∧Q [Bx (Hu (45::((((([]++(V1 (No (0:Int)) (U3 (No (Hy .i64 ((Lv s.length)-n))) s))))++([46])))++(V1 (No (Hy .i64 ((Lv s.length)-n))) (U3 (No (Lv s.length)) s)))))]))) (I0 [] [Hu s]∧∀(s:List UInt8),I0 [] [Hu s]→br (toB (F0 (decide ((Lv s.length)≤n)))) (room (1+s.length)∧I0 [] [Hu (48::s)]∧M0 [Hu (48::s)]<M0 [Hu s]) (br (toB (F0 (n==0))) (room (0+s.length)∧Q [Bx (Hu s)]) (((0:Int)≤(0:Int)∧0≤Hy .i64 ((Lv s.length)-n)∧Hy .i64 ((Lv s.length)-n)≤(Lv s.length))∧room (0+U0 (V1 0 (U3 (No (Hy .i64 ((Lv s.length)-n))) s)))∧room (U0 ([]++V1 0 (U3 (No (Hy .i64 ((Lv s.length)-n))) s))+1)∧(0≤Hy .i64 ((Lv s.length)-n)∧Hy .i64 ((Lv s.length)-n)≤(Lv s.length)∧(Lv s.length)≤(Lv s.length))∧room (U0 ([]++V1 0 (U3 (No (Hy .i64 ((Lv s.length)-n))) s)++[46])+U0 (V1 (No (Hy .i64 ((Lv s.length)-n))) (U3 (No (Lv s.length)) s)))∧Q [Bx (Hu ([]++V1 0 (U3 (No (Hy .i64 ((Lv s.length)-n))) s)++[46]++V1 (No (Hy .i64 ((Lv s.length)-n))) (U3 (No (Lv s.length)) s)))])))):=by kernel_rfl
theorem PY (p q:Bool) (es fs:List (List D)):wpF CC Gv (fun _=>⟨[.slot 4 (.int .i64 0)],[],I0,M0⟩) Tryz.f75 [.ag [.bool p,.sl es,.bool q,.sl fs]] Q=(
 I0 [] [F2 .i64 0]∧∀(n:Int),I0 [] [F2 .i64 n]→br (toB (F0 (decide (n≤30)))) (∃b e1 b1 e2,Gv 143 [Bx (F2 .i64 n)] [Dd [F0 b,Hv e1,F0 b1,Hv e2]]∧∃b2 e3 b3 e4,Gv 103 [Dd [F0 p,Hv es,F0 q,Hv fs],Dd [F0 b,Hv e1,F0 b1,Hv e2]] [Dd [F0 b2,Hv e3,F0 b3,Hv e4]]∧∃b es,Gv 68 [Bx (F2 .i64 1)] [Dd [F0 b,Hv es]]∧∃b4,Gv 67 [Dd [F0 b3,Hv e4],Dd [F0 b,Hv es]] [Bx (F0 b4)]∧br b4 (∃s,Gv 144 [Dd [F0 b2,Hv e3],Bx (F2 .i64 n)] [Bx (Hu s)]∧br (toB (F0 (decide ((Lv s.length)>1000)))) (Q [Bx (Hu []),Bx (F0 false)]) (Q [Bx (Hu s),Bx (F0 true)])) (I0 [] [F2 .i64 (Hy .i64 (n+1))]∧M0 [F2 .i64 (Hy .i64 (n+1))]<M0 [F2 .i64 n])) (Q [Bx (Hu []),Bx (F0 false)])):=by kernel_rfl
theorem AO (n:Int):wpF CC Gv an0 Tryz.f34 [.c (.int .i64 n)] Q=(
 ∃b es b1 e1,Gv 76 [Bx (F2 .i64 n),Bx (F2 .i64 1000)] [Dd [F0 b,Hv es,F0 b1,Hv e1]]∧∃s b2,Gv 75 [Dd [F0 b,Hv es,F0 b1,Hv e1]] [Bx (Hu s),Bx (F0 b2)]∧Q [Bx (Hu s)]):=by kernel_rfl
theorem B8 (p q:Bool) (es fs:List (List D)):wpF CC Gv an0 Tryz.f77 [.ag [.bool p,.sl es,.bool q,.sl fs]] Q=(
 ∃b e1 b1 e2,Gv 76 [Bx (F2 .i64 1),Bx (F2 .i64 1000)] [Dd [F0 b,Hv e1,F0 b1,Hv e2]]∧∃b2 e3 b3 e4,Gv 103 [Dd [F0 p,Hv es,F0 q,Hv fs],Dd [F0 b,Hv e1,F0 b1,Hv e2]] [Dd [F0 b2,Hv e3,F0 b3,Hv e4]]∧Q [Dd [F0 b2,Hv e3,F0 b3,Hv e4]]):=by kernel_rfl
theorem Fb (p q:Bool) (es fs:List (List D)):wpF CC Gv an0 Tryz.f91 [.ag [.bool p,.sl es,.bool q,.sl fs]] Q=(
 ∃b,Gv 108 [Dd [F0 p,Hv es,F0 q,Hv fs]] [Bx (F0 b)]∧br (toB (F0 !b)) (Q [Bx (F0 false)]) (∃b e1 b1 e2,Gv 27 [Bx (F2 .i64 10000000)] [Dd [F0 b,Hv e1,F0 b1,Hv e2]]∧∃n,Gv 171 [Dd [F0 p,Hv es,F0 q,Hv fs],Dd [F0 b,Hv e1,F0 b1,Hv e2]] [Bx (F2 .i64 n)]∧br (toB (F0 (decide (n>0)))) (Q [Bx (F0 false)]) (∃b2 e3 b3 e4,Gv 172 [Dd [F0 p,Hv es,F0 q,Hv fs]] [Dd [F0 b2,Hv e3,F0 b3,Hv e4]]∧∃n,Gv 171 [Dd [F0 b2,Hv e3,F0 b3,Hv e4],Dd [F0 b,Hv e1,F0 b1,Hv e2]] [Bx (F2 .i64 n)]∧br (toB (F0 (decide (n>0)))) (Q [Bx (F0 false)]) (∃b e5 b4 e6,Gv 77 [Dd [F0 p,Hv es,F0 q,Hv fs]] [Dd [F0 b,Hv e5,F0 b4,Hv e6]]∧∃s b5,Gv 75 [Dd [F0 b,Hv e5,F0 b4,Hv e6]] [Bx (Hu s),Bx (F0 b5)]∧Q [Bx (F0 b5)])))):=by kernel_rfl
theorem M5 (c:Int):wpF CC Gv an0 Tryz.f162 [.c (.int .u8 c)] Q=(
 br (toB (F0 (decide (c≥97)))) (br (toB (F0 (decide (c≤122)))) (Q [Bx (F0 true)]) (br (toB (F0 (decide (c≥65)))) (Q [Bx (F0 (decide (c≤90)))]) (Q [Bx (F0 false)]))) (br (toB (F0 (decide (c≥65)))) (Q [Bx (F0 (decide (c≤90)))]) (Q [Bx (F0 false)]))):=by kernel_rfl
theorem PZ (c:Int):wpF CC Gv an0 Tryz.f257 [.c (.int .u8 c)] Q=(
 br (toB (F0 (decide (c≥48)))) (Q [Bx (F0 (decide (c≤57)))]) (Q [Bx (F0 false)])):=by kernel_rfl
theorem B9 (s:List UInt8):wpF CC Gv (fun _=>⟨[.slot 3 (.int .i64 0)],[],I0,M0⟩) Tryz.f163 [.c (.str s)] Q=(
 I0 [] [F2 .i64 0]∧∀(n:Int),I0 [] [F2 .i64 n]→br (toB (F0 (decide (n<(Lv s.length))))) ((0≤n∧n<(Lv s.length))∧∃b,Gv 162 [Bx (F2 .u8 (Lv (aI (nth 0 s (No n)))))] [Bx (F0 b)]∧br b (I0 [] [F2 .i64 (Hy .i64 (n+1))]∧M0 [F2 .i64 (Hy .i64 (n+1))]<M0 [F2 .i64 n]) ((0≤n∧n<(Lv s.length))∧∃b,Gv 257 [Bx (F2 .u8 (Lv (aI (nth 0 s (No n)))))] [Bx (F0 b)]∧br b (I0 [] [F2 .i64 (Hy .i64 (n+1))]∧M0 [F2 .i64 (Hy .i64 (n+1))]<M0 [F2 .i64 n]) ((0≤n∧n<(Lv s.length))∧br (toB (F0 ((Lv (aI (nth 0 s (No n))))==95))) (I0 [] [F2 .i64 (Hy .i64 (n+1))]∧M0 [F2 .i64 (Hy .i64 (n+1))]<M0 [F2 .i64 n]) ((0≤n∧n<(Lv s.length))∧br (toB (F0 ((Lv (aI (nth 0 s (No n))))==45))) (I0 [] [F2 .i64 (Hy .i64 (n+1))]∧M0 [F2 .i64 (Hy .i64 (n+1))]<M0 [F2 .i64 n]) (Q [Bx (F2 .i64 n)]))))) (Q [Bx (F2 .i64 n)])):=by kernel_rfl
theorem M6 (s:List UInt8):wpF CC Gv an0 Tryz.f90 [.c (.str s)] Q=(
 br (toB (F0 (decide ((Lv s.length)>0)))) (br (toB (F0 (decide ((Lv s.length)≤24)))) (((0:Int)≤(0:Int)∧0<(Lv s.length))∧∃b,Gv 162 [Bx (F2 .u8 (Lv (aI (nth 0 s (No (0:Int))))))] [Bx (F0 b)]∧br b (∃n,Gv 163 [Bx (Hu s)] [Bx (F2 .i64 n)]∧Q [Bx (F0 (n==(Lv s.length)))]) (Q [Bx (F0 false)])) (Q [Bx (F0 false)])) (Q [Bx (F0 false)])):=by kernel_rfl
theorem Ra (s:List UInt8) (k d:Int):wpF CC Gv an0 Tryz.f44 [.ag [.str s,.int .i64 k,.int .i64 d]] Q=(
 br (toB (F0 (decide (d≥1)))) (br (toB (F0 (k==1))) (br (toB (F0 (k==1))) (∃b,Gv 90 [Bx (Hu s)] [Bx (F0 b)]∧br b (Q [Bx (F0 (decide (d≤10000000)))]) (Q [Bx (F0 false)])) (br (toB (F0 (k==2))) (br (toB (F0 (k==2))) (∃b,Gv 90 [Bx (Hu s)] [Bx (F0 b)]∧br b (Q [Bx (F0 (d==0))]) (Q [Bx (F0 false)])) (Q [Bx (F0 false)])) (br (toB (F0 (k==4))) (∃b,Gv 90 [Bx (Hu s)] [Bx (F0 b)]∧br b (Q [Bx (F0 (d==0))]) (Q [Bx (F0 false)])) (Q [Bx (F0 false)])))) (br (toB (F0 (k==3))) (∃b,Gv 90 [Bx (Hu s)] [Bx (F0 b)]∧br b (Q [Bx (F0 (decide (d≤10000000)))]) (Q [Bx (F0 false)])) (br (toB (F0 (k==2))) (br (toB (F0 (k==2))) (∃b,Gv 90 [Bx (Hu s)] [Bx (F0 b)]∧br b (Q [Bx (F0 (d==0))]) (Q [Bx (F0 false)])) (Q [Bx (F0 false)])) (br (toB (F0 (k==4))) (∃b,Gv 90 [Bx (Hu s)] [Bx (F0 b)]∧br b (Q [Bx (F0 (d==0))]) (Q [Bx (F0 false)])) (Q [Bx (F0 false)]))))) (br (toB (F0 (k==1))) (br (toB (F0 (k==1))) (∃b,Gv 90 [Bx (Hu s)] [Bx (F0 b)]∧br b (Q [Bx (F0 false)]) (Q [Bx (F0 false)])) (br (toB (F0 (k==2))) (br (toB (F0 (k==2))) (∃b,Gv 90 [Bx (Hu s)] [Bx (F0 b)]∧br b (Q [Bx (F0 (d==0))]) (Q [Bx (F0 false)])) (Q [Bx (F0 false)])) (br (toB (F0 (k==4))) (∃b,Gv 90 [Bx (Hu s)] [Bx (F0 b)]∧br b (Q [Bx (F0 (d==0))]) (Q [Bx (F0 false)])) (Q [Bx (F0 false)])))) (br (toB (F0 (k==3))) (∃b,Gv 90 [Bx (Hu s)] [Bx (F0 b)]∧br b (Q [Bx (F0 false)]) (Q [Bx (F0 false)])) (br (toB (F0 (k==2))) (br (toB (F0 (k==2))) (∃b,Gv 90 [Bx (Hu s)] [Bx (F0 b)]∧br b (Q [Bx (F0 (d==0))]) (Q [Bx (F0 false)])) (Q [Bx (F0 false)])) (br (toB (F0 (k==4))) (∃b,Gv 90 [Bx (Hu s)] [Bx (F0 b)]∧br b (Q [Bx (F0 (d==0))]) (Q [Bx (F0 false)])) (Q [Bx (F0 false)])))))):=by kernel_rfl
theorem BA (es:List (List D)) (s:List UInt8):wpF CC Gv (fun _=>⟨[.slot 5 (.int .i64 0)],[],I0,M0⟩) Tryz.f45 [.c (.sl es),.c (.str s)] Q=(
 I0 [] [F2 .i64 0]∧∀(n:Int),I0 [] [F2 .i64 n]→br (toB (F0 (decide (n<(Lv es.length))))) ((0≤n∧n<(Lv es.length)∧U0 (nth [] es (No n))=3)∧∃s1,cut (nth [] es (No n)) 0 1 [Hu s1]∧br (toB (F0 (s1==s))) (Q [Bx (F2 .i64 n)]) (I0 [] [F2 .i64 (Hy .i64 (n+1))]∧M0 [F2 .i64 (Hy .i64 (n+1))]<M0 [F2 .i64 n])) (Q [Bx (F2 .i64 (-1))])):=by kernel_rfl
theorem M7 (J9:List D→List D→Prop) (k:Int) (s:List UInt8) (ps:List (List D)) (p q:Bool) (l m:List (List D)):wpF CC Gv (wB (fun _=>⟨[.slot 4 (.int .i64 0)],[],I0,M0⟩) 9 ⟨[.slot 3 (.int .i64 0)],[],J9,fun _=>0⟩) Tryz.f46 [.ag [.int .i64 k,.str s,.sl ps,.bool p,.sl l,.bool q,.sl m]] Q=(
 br (toB (F0 (k==1))) (J9 [] [F2 .i64 2]) (br (toB (F0 (k==2))) (J9 [] [F2 .i64 3]) (br (toB (F0 (k==3))) (J9 [] [F2 .i64 1]) (J9 [] [F2 .i64 0])))∧∀(n:Int),J9 [] [F2 .i64 n]→br (toB (F0 (n==0))) (Q [Bx (F0 false)]) (br (toB (F0 ((Lv ps.length) !=n))) (Q [Bx (F0 false)]) (br (toB (F0 (n==1))) (∃b,Gv 91 [Dd [F0 p,Hv l,F0 q,Hv m]] [Bx (F0 b)]∧br (toB (F0 !b)) (Q [Bx (F0 false)]) (∃n1,Gv 92 [Dd [F0 p,Hv l,F0 q,Hv m]] [Bx (F2 .i64 n1)]∧br (toB (F0 (n1 !=1))) (Q [Bx (F0 false)]) (I0 [] [F2 .i64 0]∧∀(n2:Int),I0 [] [F2 .i64 n2]→br (toB (F0 (decide (n2<n)))) ((0≤n2∧n2<(Lv ps.length)∧U0 (nth [] ps (No n2))=8)∧∃b es b1 e1,cut (nth [] ps (No n2)) 0 4 [F0 b,Hv es,F0 b1,Hv e1]∧∃b2,Gv 91 [Dd [F0 b,Hv es,F0 b1,Hv e1]] [Bx (F0 b2)]∧br (toB (F0 !b2)) (Q [Bx (F0 false)]) ((0≤n2∧n2<(Lv ps.length)∧U0 (nth [] ps (No n2))=8)∧∃b es b3 e2,cut (nth [] ps (No n2)) 4 4 [F0 b,Hv es,F0 b3,Hv e2]∧∃b4,Gv 91 [Dd [F0 b,Hv es,F0 b3,Hv e2]] [Bx (F0 b4)]∧br (toB (F0 !b4)) (Q [Bx (F0 false)]) (I0 [] [F2 .i64 (Hy .i64 (n2+1))]∧M0 [F2 .i64 (Hy .i64 (n2+1))]<M0 [F2 .i64 n2]))) (Q [Bx (F0 true)])))) (I0 [] [F2 .i64 0]∧∀(n1:Int),I0 [] [F2 .i64 n1]→br (toB (F0 (decide (n1<n)))) ((0≤n1∧n1<(Lv ps.length)∧U0 (nth [] ps (No n1))=8)∧∃b es b1 e1,cut (nth [] ps (No n1)) 0 4 [F0 b,Hv es,F0 b1,Hv e1]∧∃b2,Gv 91 [Dd [F0 b,Hv es,F0 b1,Hv e1]] [Bx (F0 b2)]∧br (toB (F0 !b2)) (Q [Bx (F0 false)]) ((0≤n1∧n1<(Lv ps.length)∧U0 (nth [] ps (No n1))=8)∧∃b es b3 e2,cut (nth [] ps (No n1)) 4 4 [F0 b,Hv es,F0 b3,Hv e2]∧∃b4,Gv 91 [Dd [F0 b,Hv es,F0 b3,Hv e2]] [Bx (F0 b4)]∧br (toB (F0 !b4)) (Q [Bx (F0 false)]) (I0 [] [F2 .i64 (Hy .i64 (n1+1))]∧M0 [F2 .i64 (Hy .i64 (n1+1))]<M0 [F2 .i64 n1]))) (Q [Bx (F0 true)]))))):=by kernel_rfl
theorem Rb (ls es:List (List D)):wpF CC Gv (JW ⟨[.slot 3 (.int .i64 0)],[],I0,M0⟩ ⟨[.slot 4 (.int .i64 0)],[],I1,M1⟩) Tryz.f16 [.ag [.sl ls,.sl es]] Q=(
 br (toB (F0 (decide ((Lv ls.length)>20)))) (Q [Bx (F2 .i64 3)]) (br (toB (F0 (decide ((Lv es.length)>200)))) (Q [Bx (F2 .i64 3)]) (I0 [] [F2 .i64 0]∧∀(n:Int),I0 [] [F2 .i64 n]→br (toB (F0 (decide (n<(Lv ls.length))))) ((0≤n∧n<(Lv ls.length)∧U0 (nth [] ls (No n))=3)∧∃s n1 n2,cut (nth [] ls (No n)) 0 3 [Hu s,F2 .i64 n1,F2 .i64 n2]∧∃b,Gv 44 [Dd [Hu s,F2 .i64 n1,F2 .i64 n2]] [Bx (F0 b)]∧br (toB (F0 !b)) (Q [Bx (F2 .i64 1)]) ((0≤n∧n<(Lv ls.length)∧U0 (nth [] ls (No n))=3)∧∃s,cut (nth [] ls (No n)) 0 1 [Hu s]∧∃n3,Gv 45 [Bx (Hv ls),Bx (Hu s)] [Bx (F2 .i64 n3)]∧br (toB (F0 (decide (n3<n)))) (Q [Bx (F2 .i64 5)]) (I0 [] [F2 .i64 (Hy .i64 (n+1))]∧M0 [F2 .i64 (Hy .i64 (n+1))]<M0 [F2 .i64 n]))) (I1 [] [F2 .i64 0]∧∀(n:Int),I1 [] [F2 .i64 n]→br (toB (F0 (decide (n<(Lv es.length))))) ((0≤n∧n<(Lv es.length)∧U0 (nth [] es (No n))=7)∧∃s,cut (nth [] es (No n)) 1 1 [Hu s]∧∃n1,Gv 45 [Bx (Hv ls),Bx (Hu s)] [Bx (F2 .i64 n1)]∧br (toB (F0 (decide (n1<0)))) (Q [Bx (F2 .i64 4)]) ((0≤n∧n<(Lv es.length)∧U0 (nth [] es (No n))=7)∧∃n2 s e1 b e2 b1 e3,cut (nth [] es (No n)) 0 7 [F2 .i64 n2,Hu s,Hv e1,F0 b,Hv e2,F0 b1,Hv e3]∧∃b2,Gv 46 [Dd [F2 .i64 n2,Hu s,Hv e1,F0 b,Hv e2,F0 b1,Hv e3]] [Bx (F0 b2)]∧br (toB (F0 !b2)) (Q [Bx (F2 .i64 1)]) (I1 [] [F2 .i64 (Hy .i64 (n+1))]∧M1 [F2 .i64 (Hy .i64 (n+1))]<M1 [F2 .i64 n]))) (Q [Bx (F2 .i64 0)]))))):=by kernel_rfl
theorem Rd (n s:List UInt8) (k d:Int):wpF CC Gv an0 Tryz.f116 [.ag [.str n,.int .i64 k,.int .i64 d],.c (.ptr [.str s])] Q=(
 ∃s1,cut [Hu s] 0 1 [Hu s1]∧Q [Bx (F0 (n==s1))]):=by kernel_rfl
theorem BB (es:List (List D)) (s:List UInt8):wpF CC Gv (fun _=>⟨[.slot 8 (.int .i64 0)],[],I0,M0⟩) Tryz.f115 [.c (.sl es),.c (.clo 116 [.ptr [.str s]])] Q=(
 I0 [] [F2 .i64 0]∧∀(n:Int),I0 [] [F2 .i64 n]→br (toB (F0 (decide (n<(Lv es.length))))) ((0≤n∧n<(Lv es.length)∧U0 (nth [] es (No n))=3)∧∃s1 n1 n2,cut (nth [] es (No n)) 0 3 [Hu s1,F2 .i64 n1,F2 .i64 n2]∧∃b,Gv 116 [Dd [Hu s1,F2 .i64 n1,F2 .i64 n2],Bx (D.ptr [Hu s])] [Bx (F0 b)]∧br b (Q [Bx (F2 .i64 n)]) (I0 [] [F2 .i64 (Hy .i64 (n+1))]∧M0 [F2 .i64 (Hy .i64 (n+1))]<M0 [F2 .i64 n])) (Q [Bx (F2 .i64 (-1))])):=by kernel_rfl
theorem BC (es:List (List D)) (s:List UInt8):wpF CC Gv an0 Tryz.f61 [.c (.sl es),.c (.str s)] Q=(
 ∃n,Gv 115 [Bx (Hv es),Bx (D.clo 116 [D.ptr [Hu s]])] [Bx (F2 .i64 n)]∧Q [Bx (F2 .i64 n)]):=by kernel_rfl
end
end Eng
end

section
namespace Eng
open Go Go.Proofs
set_option maxRecDepth 100000
theorem Xm {c:UInt8}:∀(s:List UInt8) {t:List UInt8},(qB c s).2=some t→(qB c s).1=s.take (qB c s).1.length∧t=s.drop ((qB c s).1.length+1)∧(qB c s).1.length<s.length
 |[],t,h=>by simp[qB]at h
 |a::s,t,h=>by
  rw[qB]at h ⊢;by_cases ha:a=c
  ·rw[if_pos ha]at h ⊢;simp only[Option.some.injEq]at h;subst h;simp
  ·rw[if_neg ha]at h ⊢;obtain⟨h1,h2,h3⟩:=Xm s (t:=t) h;simp only[W0,List.take_succ_cons,List.drop_succ_cons,aw,true_and];exact⟨h1,h2,by omega⟩
theorem ye {c:UInt8} {s:List UInt8} (h:(qB c s).2=none):(qB c s).1=s:=by
 have:=Vx (c:=c) s;rw[h]at this
 simpa using this.symm
theorem Vr (c:UInt8):∀s,J6 s c=match(qB c s).2 with|none=> -1|some _=>((qB c s).1.length:Int)
 |[]=>rfl
 |a::s=>by
  have ih:=Vr c s;rw[J6,qB];by_cases ha:a=c
  ·subst ha;simp
  ·rw[if_neg ha];have h1:(a==c)=false:=by simpa using ha
   rw[h1];simp only[Bool.false_eq_true,if_false];rw[ih];cases h:(qB c s).2 with
   |none=>rfl
   |some t=>simp only;rw[if_neg (by simp)];simp
theorem Re (c:UInt8):aF (No ((c.toNat:Nat):Int))=c:=by
 rw[Pl];simp
theorem Tl (s:List UInt8) (c:UInt8):qf CC 246 [.c (.str s),.c (.int .u8 c.toNat)] [.c (.int .i64 (J6 s c))]:=by
 refine qg (anns:=an0) mixedT Tryz.func246 ?_;rw[B1,Re]
theorem Rf (s:List UInt8) (c:UInt8):qf CC 318 [.c (.str s),.c (.str [c])] [.c (.int .i64 (J6 s c))]:=by
 refine qg (anns:=an0) mixedT Tryz.func318 ?_;rw[EW];refine brb (fun h=>?_) (fun _=>⟨⟨by omega,by omega⟩,_,Tl s c,rfl⟩);have:[c]=s:=by simpa using h
 subst this;simp[J6]
def AP (p:List UInt8×Option (List UInt8)):List A:=[.c (.str p.1),.c (.str (p.2.getD [])),.c (.bool p.2.isSome)]
theorem Fc {s:List UInt8} (c:UInt8) (hs:s.length≤1073741824):qf CC 321 [.c (.str s),.c (.str [c])] (AP (qB c s)):=by
 refine qg (anns:=an0) mixedT Tryz.func321 ?_;rw[EX];refine⟨_,Rf s c,?_⟩;rw[Vr];cases h:(qB c s).2 with
 |none=>simp only;refine brd (fun h2=>by omega) (fun _=>?_);simp only[AP,h,ye h,Option.getD_none,Option.isSome_none]
 |some t=>
  obtain⟨h1,h2,h3⟩:=Xm s h;simp only;have hw:Hy .i64 (((qB c s).1.length:Int)+1)=(((qB c s).1.length+1:Nat):Int):=by rw[qK (by omega) (by omega)];omega
  rw[hw];simp only[P1,Pl,aj,an];refine brd (fun _=>⟨⟨by omega,by omega,by omega⟩,⟨by omega,by omega,by omega⟩,?_⟩) (fun h4=>absurd (by omega) h4);simp only[AP,h,Option.getD_some,Option.isSome_some];rw[←h1,←h2]
theorem Fd {s:List UInt8} (c:UInt8) (hs:s.length≤1073741824):qf CC 248 [.c (.str s),.c (.str [c])] (AP (qB c s)):=by
 refine qg (anns:=an0) mixedT Tryz.func248 ?_;rw[EY];exact⟨_,_,_,Fc c hs,rfl⟩
theorem BD (s:List UInt8):qf CC 333 [.c (.str s),.c (.str [45])] [.c (.bool (qA s).2)]:=by
 refine qg (anns:=an0) mixedT Tryz.func333 ?_;rw[B2];cases s with
 |nil=>exact brd (fun h=>absurd h (by simp)) (fun _=>rfl)
 |cons c s=>
  simp only[P1,W0,ai];refine brd (fun h=>⟨⟨by omega,by omega,by omega⟩,?_⟩) (fun h=>absurd h (by omega));have e:V1 0 (U3 (No ((0+1:Nat):Int)) (c::s))=[c]:=rfl;rw[e];rw[xj];by_cases hc:c=45
  ·subst hc;simp
  ·rw[if_neg hc];have:([c]==[45])=false:=by simpa using hc
   rw[this]
theorem BE {s:List UInt8} (hs:s.length≤1073741824):qf CC 320 [.c (.str s),.c (.str [45])] [.c (.str (qA s).1),.c (.bool (qA s).2)]:=by
 refine qg (anns:=an0) mixedT Tryz.func320 ?_;rw[B3];refine⟨_,BD s,brb (fun h=>?_) (fun h=>?_)⟩
 ·have h:(qA s).2=false:=by simpa using h
  rw[h];cases s with
  |nil=>rfl
  |cons c s=>
   rw[xj]at h ⊢;by_cases hc:c=45
   ·rw[if_pos hc]at h;simp at h
   ·rw[if_neg hc]
 ·have h:(qA s).2=true:=by simpa using h
  cases s with
  |nil=>simp[qA]at h
  |cons c s=>
   rw[xj]at h ⊢;by_cases hc:c=45
   ·rw[if_pos hc];simp only[P1,W0,ai]at hs ⊢;refine⟨⟨by omega,by omega,by omega⟩,?_⟩;have e:V1 (No ((0+1:Nat):Int)) (U3 (No ((s.length+1:Nat):Int)) (c::s))=s:=by rw[Pl,Pl];simp
    rw[e]
   ·rw[if_neg hc]at h;simp at h
theorem Tm {s:List UInt8} (hs:s.length≤1073741824):qf CC 247 [.c (.str s),.c (.str [45])] [.c (.str (qA s).1),.c (.bool (qA s).2)]:=by
 refine qg (anns:=an0) mixedT Tryz.func247 ?_;rw[B5];exact⟨_,_,BE hs,rfl⟩
theorem HJ (s:List UInt8):Ro s=if zP (qA s).2 (qA s).1 then some (if(qA s).2 then-(xw (qA s).1:Int)else(xw (qA s).1:Int))else none:=by
 cases s with
 |nil=>rfl
 |cons c s=>
  rw[Q8];rw[xj];by_cases hc:c=45
  ·rw[if_pos hc,if_pos hc];simp
  ·rw[if_neg hc,if_neg hc];simp
theorem BF {u v:Nat} (hu:u≠0) (hv:v<1000000000):J3 (v+1000000000*u)=J3 u++xq 9 v:=by
 obtain⟨m,hm⟩:∃m,Lm u=m+1:=⟨Lm u-1,by have:=xy u;omega⟩;have h1:=Xo u;rw[hm]at h1;have h2:10^m≤u:=by
  rcases ay u (10^m)with h|h
  ·exfalso;rcases m with _|m
   ·rw[aE]at h;omega
   ·have:=(qR m u).2 h;omega
  ·exact h
 have e1:10^(m+9)=10^m*1000000000:=by rw[aH]
 have e2:10^(m+9+1)=10^(m+1)*1000000000:=by rw[show m+9+1=m+1+9 by omega,aH]
 have h3:10^(m+9)≤v+1000000000*u:=by rw[e1];have:=aA 1000000000 h2;omega
 have h4:v+1000000000*u<10^(m+9+1):=by rw[e2];have:(u+1)*1000000000≤10^(m+1)*1000000000:=aA _ h1;omega
 rw[←jb h3 h4,show m+9+1=m+1+9 by omega,jR];have e3:(v+1000000000*u)/10^9=u:=by simp only[aD];omega
 have e4:xq 9 (v+1000000000*u)=xq 9 v:=vL _ _ _ (by simp only[aD];omega);rw[e3,e4,jb h2 h1]
theorem XA {v:Nat} (hv:v<1000000000):Lm v≤9:=(qR 8 v).2 (by simpa using hv)
theorem Tn (c:UInt8):∀n,Lr [c] n=List.replicate n c
 |0=>rfl
 |n+1=>by rw[Lr,Tn c n];rfl
theorem BG {v:Nat} (hv:v<1000000000):Lr [48] (9-(J3 v).length)++J3 v=xq 9 v:=by
 have h1:=XA hv;have h2:=Xo v;rw[Tn,Ls,qZ v];have:=Vu (Lm v) (9-Lm v) v h2;rw[show 9-Lm v+Lm v=9 by omega]at this;exact this.symm
theorem w6 (a b:List UInt8):qp (a++b)=qp a++qp b:=by simp[qp]
theorem qu (a:List UInt8):(qp a).length=a.length:=by simp[qp]
theorem Wh {s:List UInt8} {i:Nat} (h:i<s.length):nth [] (qp s) i=[.int .u8 ((s[i].toNat:Nat):Int)]:=by
 rw[qI];simp[qp,h]
theorem M8 {s:List UInt8} {i:Nat} (h:i<s.length):cut (nth [] (qp s) i) 0 1 [.int .u8 ((s[i].toNat:Nat):Int)]:=by
 rw[Wh h];exact⟨rfl,by simp⟩
theorem Fe {l:List Nat} (hz:l=[]∨l.getLast?≠some 0) {k:Nat} (hk:k<l.length):val (l.drop k)≠0:=by
 have h1:(l.drop k).getLast?≠some 0:=by
  rw[List.getLast?_drop,if_neg (by omega)];rcases hz with h|h
  ·rw[h]at hk;simp at hk
  ·exact h
 have h2:l.drop k≠[]:=fun e=>by have:=congrArg U0 e;rw[am,ai]at this;omega
 have:=Qt (a:=[]) (b:=l.drop k) Limbs.nil h1 h2 (ap.2 h2);have e:val []=0:=rfl;rw[e]at this;omega
theorem Q3 {l:List Nat} {k:Nat} (hk:k<l.length):val (l.drop k)=l[k]+1000000000*val (l.drop (k+1)):=by
 rw[List.drop_eq_getElem_cons hk];rfl
theorem To {l:List Nat} (hl:Limbs l) {k:Nat} (hk:k<l.length):(J3 (val (l.drop k))).length≤9*l.length:=by
 have h1:=qO (hl.drop k);rw[am,Wj]at h1;obtain⟨m,hm⟩:∃m,9*(l.length-k)=m+1:=⟨9*(l.length-k)-1,by omega⟩;rw[hm]at h1;have:=zh h1;omega
theorem Vs (z:Int):(sgT z).length≤1:=by unfold sgT;split<;>simp
theorem Ff (z:Int) (hz:(lim z.natAbs).length≤10000000):qf CC 237 [qJ z] [.c (.str (z8 z))]:=by
 have a2:=qe z.natAbs;have hlv:=qj z.natAbs;have a5:=vh (n:=z.natAbs);have a1:=zr z.natAbs;rw[qm];generalize hl:lim z.natAbs=l at *;have hsg:=Vs z;refine qg (C:=CC) (anns:=wB (fun _=>⟨[.slot 5 (.int .i64 0),.bld 4 76 45],[],fun _ ds=>∃k:Nat,k<l.length∧ds=[.int .i64 ((k:Int)-1),.sl (qp (sgT z++J3 (val (l.drop k))))],fun ds=>(toI (nth .undef ds 0)+1).toNat⟩)
  7 ⟨[.bld 4 76 46],[],fun _ ds=>ds=[.sl (qp (sgT z))],fun _=>0⟩) mixedT Tryz.func237 ?_
 rw[EZ];simp only[P1,qh];have h0:(((l.length:Nat):Int)==0)=decide (z.natAbs=0):=by rw[Aw];simp only[beq_iff_eq,decide_eq_true_eq];rw[←a5];cases l<;>simp;omega
 rw[h0];refine brd (fun h=>?_) (fun hne=>⟨?_,?_⟩)
 ·have:z=0:=by omega
  subst this;rw[zO (by omega)];exact congrArg (fun s=>[Bx (Hu s)]) dec_0.symm
 ·refine jm (fun h=>⟨by unfold room;omega,?_⟩) (fun h=>?_)
  ·unfold sgT;rw[h];rfl
  ·unfold sgT;rw[h];rfl
 have a6:0<l.length:=by
  rcases aB l.length with h|h
  ·exact absurd (a5.1 (W1 h)) hne
  ·exact h
 intro es he;simp only[aw,D.sl.injEq,and_true]at he;subst he;have w1:Hy .i64 ((l.length:Int)-1)=((l.length-1:Nat):Int):=by rw[qK (by omega) (by omega)];omega
 have w2:Hy .i64 ((l.length:Int)-2)=((l.length-1:Nat):Int)-1:=by rw[qK (by omega) (by omega)];omega
 rw[w1,w2,Pl];have a0:l.length-1<l.length:=by omega
 have hb1:=a2.get a0;have e0:val (l.drop (l.length-1))=l[l.length-1]:=by rw[Q3 a0,show l.length-1+1=l.length by omega,au];rfl
 have w3:Hy .u64 ((l[l.length-1]:Nat):Int)=((l[l.length-1]:Nat):Int):=x9 (by omega) (by omega);have hd1:=To a2 a0;rw[e0]at hd1;refine⟨⟨by omega,by omega,qt a0⟩,_,qw a0,?_⟩;rw[w3];refine⟨_,kv _ (by omega),?_,⟨l.length-1,a0,?_⟩,?_⟩
 ·unfold room;rw[qu,qu];omega
 ·rw[e0,w6]
 rintro n es ⟨k,hk,he⟩;simp only[aw,Hx,D.sl.injEq,true_and,and_true]at he;obtain⟨rfl,rfl⟩:=he;refine brd (fun h=>?_) (fun h=>?_)
 ·obtain⟨j,rfl⟩:∃j,k=j+1:=⟨k-1,by omega⟩;have hj:j<l.length:=by omega
  have a3:=a2.get hj;have wj:(((j+1:Nat):Int)-1)=(j:Int):=by omega
  have wu:Hy .u64 ((l[j]:Nat):Int)=((l[j]:Nat):Int):=x9 (by omega) (by omega);have hdl:(J3 l[j]).length≤9:=by rw[Ls];exact XA a3
  have w9:Hy .i64 (9-((J3 l[j]).length:Int))=((9-(J3 l[j]).length:Nat):Int):=by rw[qK (by omega) (by omega)];omega
  have wn:Hy .i64 ((j:Int)-1)=(j:Int)-1:=qK (by omega) (by omega);rw[wj,Pl];refine⟨⟨by omega,by omega,qt hj⟩,_,qw hj,?_⟩;rw[wu];refine⟨_,kv _ (by omega),?_⟩;rw[w9,wn];have hdk:=To a2 hk;have a4:qp (sgT z++J3 (val (l.drop (j+1))))++qp (Lr [48] (9-(J3 l[j]).length))++qp (J3 l[j])=qp (sgT z++J3 (val (l.drop j))):=by rw[←w6,←w6,aq,BG a3,aq,←BF (Fe a1 hk) a3,←Q3 hj]
  have hrl:(Lr [48] (9-(J3 l[j]).length)).length≤9:=by rw[Lib.repeatL_length];simp
  refine⟨_,yC [48] _ (by simp only[W0,ai];omega) (by omega),?_,?_,?_,?_⟩
  ·unfold room;rw[qu,qu,W2];omega
  ·unfold room;rw[W2,qu,qu,qu,W2];omega
  ·rw[a4];exact⟨j,hj,rfl⟩
  ·simp only[nth,toI];omega
 ·have hk0:k=0:=by omega
  subst hk0;rw[an,hlv];refine⟨⟨fun e=>?_,ko _⟩,?_⟩
  ·have:=congrArg U0 e;rw[qu,W2,ai]at this;exact kM z.natAbs (W1 (by omega))
  ·rw[kn];rfl
end Eng
end

section
namespace Eng
open Go Go.Proofs
set_option maxRecDepth 100000
def F9:Option Int→List A
 |none=>[.ag [.bool false,.sl []],.c (.int .i64 2)]
 |some z=>[qJ z,.c (.int .i64 0)]
theorem xI {neg:Bool} {s:List UInt8}:zP neg s=true↔s≠[]∧s.all isD=true∧(nth 0 s 0=48→s.length=1∧neg=false):=by
 cases s with
 |nil=>simp[zP]
 |cons c s=>
  have e:nth 0 (c::s) 0=c:=rfl;simp only[zP,e,Bool.and_eq_true,Bool.or_eq_true,decide_eq_true_eq,List.isEmpty_iff,Bool.not_eq_true',W0,ne_eq,reduceCtorEq,not_false_iff,true_and];refine and_congr_right fun _=>?_
  constructor
  ·rintro(h|h) h2
   ·exact absurd h2 h
   ·exact⟨by simp[h.1],h.2⟩
  ·intro h;by_cases hc:c=48
   ·obtain⟨h1,h2⟩:=h hc;exact .inr ⟨W1 (by omega),h2⟩
   ·exact .inl hc
theorem Tp {s:List UInt8} (h:¬zP (qA s).2 (qA s).1=true):Ro s=none:=by
 rw[HJ,if_neg h]
theorem AQ (c:UInt8):(((c.toNat:Nat):Int)==48)=decide (c=48):=by
 rw[Aw];simp only[beq_iff_eq,decide_eq_true_eq];constructor
 ·intro h;apply UInt8.toNat_inj.1;have:(48:UInt8).toNat=48:=rfl;omega
 ·rintro rfl;rfl
theorem Q4 {s:List UInt8} {k:Nat} (hk:k<s.length):(s.take (k+1)).all isD=((s.take k).all isD&&isD s[k]):=by
 rw[List.take_succ_eq_append_getElem hk,List.all_append];simp
theorem Vt {s:List UInt8} {k:Nat} (hk:k<s.length) (h:isD s[k]=false):¬s.all isD=true:=fun h2=>by
 have:=av.1 h2 s[k] (ar hk);rw[h]at this;simp at this
def jW (b:List UInt8) (n:Int):List UInt8:=(b.take n.toNat).drop (n-9).toNat
theorem Rg {b:List UInt8} {n:Int}:(jW b n).length≤9:=by
 unfold jW;rw[am,ak];omega
theorem Rh {s:List UInt8} (hs:s.length≤60000):qf CC 245 [.c (.str s)] (F9 (Ro s)):=by
 have hbl:=kB s;have ae:=fun h=>Tp (s:=s) h
 have a9:=HJ s;have hcp:=Tm (s:=s) (by omega);generalize (qA s).1=B at *;generalize (qA s).2=neg at *;have a0:¬zP neg B=true→[Dd [F0 false,Hv []],Bx (F2 .i64 2)]=F9 (Ro s):=fun h=>by rw[ae h];rfl
 refine qg (C:=CC) (anns:=wB (Gl
  ⟨[.slot 40 (.int .i64 0)],[],fun _ ds=>∃k:Nat,k≤B.length∧ds=[.int .i64 (k:Int)]∧(B.take k).all isD=true,fun ds=>(B.length-toI (nth .undef ds 0)).toNat⟩
  ⟨[.own 7 87 1,.slot 8 (.int .i64 0)],[],fun _ ds=>∃(l:List Nat) (e:Int),ds=[.sl (raw l),.int .i64 e]∧Limbs l∧e≤B.length∧ -9<e∧val l=xw (B.drop e.toNat)∧(9*l.length:Int)=B.length-e,fun ds=>(toI (nth .undef ds 1)).toNat⟩
  ⟨[.slot 9 (.int .u32 0),.slot 69 (.int .i64 0)],[.own 7 87 1,.slot 8 (.int .i64 0)],fun gs ds=>∃i:Nat,i≤(jW B (toI (nth .undef gs 1))).length∧ds=[.int .u32 ((xw ((jW B (toI (nth .undef gs 1))).take i):Nat):Int),.int .i64 (i:Int)],fun ds=>(9-toI (nth .undef ds 1)).toNat⟩)
  4 ⟨[],[.slot 4 (.string ⟨#[]⟩),.slot 5 (.bool false)],fun _ _=>B≠[]∧(nth 0 B 0=48→B.length=1∧neg=false),fun _=>0⟩) mixedT Tryz.func245 ?_
 rw[PU];simp only[P1];refine⟨_,_,hcp,brb (fun h=>?_) (fun h=>?_),?_⟩
 ·have:B=[]:=by simpa using h
  exact a0 fun h=>(xI.1 h).1 this
 ·have a8:B≠[]:=by simpa using h
  have hpos:=ap.2 a8;refine brd (fun h=>absurd h (by omega)) (fun _=>⟨⟨by omega,by omega⟩,?_⟩);have e0:No 0=0:=rfl;rw[e0,AQ];refine brd (fun a6=>brd (fun h1=>?_) (fun h1=>jm (fun hn=>?_) (fun hn=>⟨a8,fun _=>⟨by omega,hn⟩⟩))) (fun a6=>⟨a8,fun h=>absurd h a6⟩)
  ·exact a0 fun h=>by have:=((xI.1 h).2.2 a6).1;omega
  ·exact a0 fun h=>by have:=((xI.1 h).2.2 a6).2;rw[hn]at this;simp at this
 rintro⟨a8,a6⟩;refine⟨⟨0,by omega,rfl,by simp⟩,?_⟩;rintro n ⟨k,hk,he,a5⟩;simp only[aw,Hx,true_and,and_true]at he;subst he;refine brd (fun h=>?_) (fun h=>?_)
 ·have ad:k<B.length:=by omega
  rw[Pl,qn 0 ad];refine⟨⟨by omega,by omega⟩,brd (fun h1=>?_) (fun h1=>⟨⟨by omega,by omega⟩,brd (fun h2=>?_) (fun h2=>⟨⟨k+1,by omega,?_,?_⟩,?_⟩)⟩)⟩
  ·exact a0 fun h=>Vt ad (by simp[isD];omega) (xI.1 h).2.1
  ·exact a0 fun h=>Vt ad (by simp[isD];omega) (xI.1 h).2.1
  ·rw[qK (by omega) (by omega)];rfl
  ·rw[Q4 ad,a5,Bool.true_and,jc];omega
  ·rw[qK (by omega) (by omega)];simp only[nth,toI];omega
 have hk0:k=B.length:=by omega
 subst hk0;rw[aj]at a5;have hok:zP neg B=true:=xI.2 ⟨a8,a5,a6⟩;rw[if_pos hok]at a9;refine⟨⟨[],B.length,rfl,Limbs.nil,by omega,by omega,?_,by simp⟩,?_⟩
 ·rw[Pl,au];rfl
 rintro es n ⟨l,e,he,hl,heB,he9,hv,hlen⟩;simp only[aw,Hx,D.sl.injEq,true_and,and_true]at he;obtain⟨rfl,rfl⟩:=he;refine brd (fun h=>?_) (fun h=>?_)
 ·have w9:Hy .i64 (n-9)=n-9:=qK (by omega) (by omega);rw[w9,AM,Pl];have hcl:=Rg (b:=B) (n:=n);have hce:V1 (n-9).toNat (U3 n.toNat B)=jW B n:=rfl;have hcv:val (l++[xw (jW B n)])=xw (B.drop (n-9).toNat):=Rs (e:=n.toNat) (by omega) (by omega) (by omega) hv _ (by omega);have af:(jW B n).all isD=true:=BO (Tu a5 _) _;have hcb:xw (jW B n)<1000000000:=ax (Vw af hcl) (by decide);rw[hce];refine⟨⟨by omega,by omega,by omega⟩,by unfold room;omega,⟨0,by omega,rfl⟩,?_⟩;rintro n1 n2 ⟨i,hi,he⟩;have hI:toI (nth D.undef [Hv (raw l),F2 .i64 n] 1)=n:=rfl;rw[hI]at hi he;simp only[aw,Hx,true_and,and_true]at he;obtain⟨rfl,rfl⟩:=he;rw[qu];refine brd (fun h2=>?_) (fun h2=>?_)
  ·have a7:i<(jW B n).length:=by omega
   have ah:=av.1 af _ (ar a7);have hdr:=jc.1 ah;have hx:xw ((jW B n).take i)<100000000:=ax (Vw (n:=8) (Tu af i) (by rw[ak];omega)) (by decide);have hst:=yf a7;rw[Pl];refine⟨⟨by omega,by omega,?_⟩,_,M8 a7,⟨i+1,by rw[hI];omega,?_⟩,?_⟩
   ·rw[Wh a7];rfl
   ·rw[hI,hst];have a1:Hy .u32 (10*((xw ((jW B n).take i):Nat):Int))=((10*xw ((jW B n).take i):Nat):Int):=by rw[zR (by omega) (by omega)];omega
    have a2:Hy .u8 (((jW B n)[i].toNat:Int)-48)=((dv (jW B n)[i]:Nat):Int):=by rw[show Hy .u8 (((jW B n)[i].toNat:Int)-48)=(((jW B n)[i].toNat:Int)-48)%256 from rfl];unfold dv;omega
    have a3:=BL ah;have a4:Hy .u32 ((dv (jW B n)[i]:Nat):Int)=((dv (jW B n)[i]:Nat):Int):=zR (by omega) (by omega);rw[a1,a2,a4,zR (by omega) (by omega),qK (by omega) (by omega)];rfl
   ·rw[qK (by omega) (by omega)];simp only[nth,toI];omega
  ·have a7:i=(jW B n).length:=by omega
   subst a7;rw[aj];have hra:raw l++[[F2 .u32 ((xw (jW B n):Nat):Int)]]=raw (l++[xw (jW B n)]):=by rw[qV];rfl
   refine⟨⟨by unfold room;rw[qh];omega,?_⟩,⟨l++[xw (jW B n)],n-9,by rw[hra],hl.append (Limbs.cons hcb Limbs.nil),by omega,by omega,hcv,?_⟩,?_⟩
   ·intro e he;simp only[List.mem_cons,List.not_mem_nil,or_false]at he;rw[he];rfl
   ·rw[W2];simp only[W0,ai];omega
   ·simp only[nth,toI];omega
 ·have hn0:n.toNat=0:=by omega
  rw[hn0,an]at hv;have hz:=qU neg hl (by omega) (z:=if neg then-(xw B:Int)else(xw B:Int)) (by rw[hv]);rw[qm]at hz;refine⟨_,_,up hz,?_⟩;rw[a9];rfl
def CJ:Option Rat→List A
 |none=>[.ag [.bool false,.sl [],.bool false,.sl []],.c (.int .i64 2)]
 |some q=>[xk q,.c (.int .i64 0)]
theorem Gf {a b c k:Nat} (h:k=a*b*c):10^k=((10^a)^b)^c:=by rw[h,aG,aG]
theorem AR (k:Nat) (hk:k=9*100*10):JY=10^k:=by
 rw[Gf hk];rfl
theorem CK {z:Int} {n:Nat} (h:z.natAbs<10^n) (hn:n≤8000):Sm z:=by
 obtain⟨k,hk⟩:∃k,k=9*100*10:=⟨_,rfl⟩;unfold Sm;rw[AR k hk];exact ax h (Nat.pow_le_pow_right (by omega) (by omega))
theorem Fg {s:List UInt8} {z:Int} (h:Ro s=some z) (hs:s.length≤8000):Sm z:=CK (Fi h) hs
end Eng
end

section
namespace Eng
open Go Go.Proofs
set_option maxRecDepth 100000
theorem BH {l:List Nat} (hl:Limbs l) {k:Nat} (hk:k<l.length):xq 9 l[k]++xq (9*k) (val (l.take k))=xq (9*(k+1)) (val (l.take (k+1))):=by
 have h1:val (l.take k)<10^(9*k):=by have:=qO (hl.take k);rw[ak,Nat.min_eq_left (by omega),Wj]at this;exact this
 have h2:val (l.take (k+1))=val (l.take k)+10^(9*k)*l[k]:=by have:=qF l k;rw[Wj,List.getD_eq_getElem?_getD,List.getElem?_eq_getElem hk,Option.getD_some]at this;exact this
 have h3:val (l.take (k+1))/10^(9*k)=l[k]:=by rw[h2,Nat.add_mul_div_left _ _ (az (by omega)),aC h1,Nat.zero_add]
 have h4:val (l.take (k+1))%10^(9*k)=val (l.take k)%10^(9*k):=by rw[h2,Nat.add_mul_mod_self_left]
 rw[show 9*(k+1)=9+9*k by omega,jR (9*k) 9,h3,vL _ _ _ h4]
theorem Fh (z:Int) (hz:(lim z.natAbs).length≤10000000):qf CC 238 [qJ z] [.c (.str (z8 z))]:=by
 have a4:=qe z.natAbs;have ad:=qj z.natAbs;have a7:=vh (n:=z.natAbs);generalize hl:lim z.natAbs=l at *;refine qg (anns:=Gl
  ⟨[.slot 3 (.string ⟨#[]⟩),.slot 4 (.int .i64 0)],[],fun _ ds=>∃k:Nat,k≤l.length∧ds=[.str (xq (9*k) (val (l.take k))),.int .i64 (k:Int)],fun ds=>(l.length-toI (nth .undef ds 1)).toNat⟩
  ⟨[.slot 3 (.string ⟨#[]⟩),.slot 5 (.int .u32 0),.slot 6 (.int .i64 0)],[.slot 3 (.string ⟨#[]⟩),.slot 4 (.int .i64 0),.slot 5 (.int .u32 0)],
    fun gs ds=>∃(k j:Nat) (v:Nat),j≤9∧gs=[.str (xq (9*k) (val (l.take k))),.int .i64 (k:Int),.int .u32 (v:Int)]∧ds=[.str (xq j v++xq (9*k) (val (l.take k))),.int .u32 ((v/10^j:Nat):Int),.int .i64 (j:Int)],
    fun ds=>(9-toI (nth .undef ds 2)).toNat⟩
  ⟨[.slot 3 (.string ⟨#[]⟩)],[],fun _ ds=>∃j:Nat,j+1≤9*l.length∧ds=[.str (xq (j+1) z.natAbs)]∧z.natAbs<10^(j+1),fun ds=>(toS (nth .undef ds 0)).length⟩) mixedT Tryz.func238 ?_
 rw[qm,hl,Fa];simp only[P1,qh];have h0:(((l.length:Nat):Int)==0)=decide (z.natAbs=0):=by rw[Aw];simp only[beq_iff_eq,decide_eq_true_eq];rw[←a7];cases l<;>simp;omega
 rw[h0];refine brd (fun h=>?_) (fun hne=>?_)
 ·have:z=0:=by omega
  subst this;rw[zO (by omega)];exact congrArg (fun s=>[Bx (Hu s)]) dec_0.symm
 have a8:0<l.length:=by
  rcases aB l.length with h|h
  ·exact absurd (a7.1 (W1 h)) hne
  ·exact h
 refine⟨⟨0,by omega,rfl⟩,?_⟩;rintro s n ⟨k,hk,he⟩;simp only[aw,D.str.injEq,Hx,true_and,and_true]at he;obtain⟨rfl,rfl⟩:=he;refine brd (fun h=>?_) (fun h=>?_)
 ·have a0:k<l.length:=by omega
  have hw:Hy .i64 ((k:Int)+1)=((k+1:Nat):Int):=by rw[qK (by omega) (by omega)];omega
  rw[Pl];refine⟨⟨by omega,by omega,qt a0⟩,_,qw a0,⟨k,0,l[k],by omega,rfl,by simp[xq]⟩,?_⟩;rintro s1 n2 n3 ⟨k',j,v,hj,hg,he⟩;simp only[aw,D.str.injEq,Hx,true_and,and_true]at hg he;obtain⟨_,a6,hv⟩:=hg;have a6:k'=k:=by omega
  have hv:v=l[k]:=by omega
  subst a6 hv;obtain⟨rfl,rfl,rfl⟩:=he;have hvb:l[k']<1000000000:=a4.get a0;refine brd (fun h2=>?_) (fun h2=>?_)
  ·have hq1:l[k']/10^(j+1)=l[k']/10^j/10:=by rw[Nat.pow_succ,Nat.div_div_eq_div_mul]
   have hqle:l[k']/10^j≤l[k']:=Nat.div_le_self _ _;have hdc:=zo j l[k'];have a1:∀ds:List D,ds=[.str (xq (j+1) l[k']++xq (9*k') (val (l.take k'))),.int .u32 ((l[k']/10^(j+1):Nat):Int),.int .i64 ((j+1:Nat):Int)]→
    ∃(k j:Nat) (v:Nat),j≤9∧[Hu (xq (9*k') (val (l.take k'))),F2 .i64 (k':Int),F2 .u32 (l[k']:Int)]=[.str (xq (9*k) (val (l.take k))),.int .i64 (k:Int),.int .u32 (v:Int)]∧ds=[.str (xq j v++xq (9*k) (val (l.take k))),.int .u32 ((v/10^j:Nat):Int),.int .i64 (j:Int)]:=
    fun ds h=>⟨k',j+1,l[k'],by omega,rfl,h⟩
   rw[hq1,hdc]at a1;generalize l[k']/10^j=q at *;have e1:Ts (q:Int) 10=((q%10:Nat):Int):=by rw[Int.tmod_eq_emod_of_nonneg (by omega)];omega
   have e2:T1 (q:Int) 10=((q/10:Nat):Int):=by rw[Int.tdiv_eq_ediv_of_nonneg (by omega)];omega
   have e3:Hy .u32 (48+((q%10:Nat):Int))=((48+q%10:Nat):Int):=by rw[zR (by omega) (by omega)];omega
   have e4:Hy .i32 ((48+q%10:Nat):Int)=((48+q%10:Nat):Int):=by simp only[Hy,IntKind.bits,IntKind.signed];simp;omega
   have e5:Hy .u32 ((q/10:Nat):Int)=((q/10:Nat):Int):=zR (by omega) (by omega);have e6:Hy .i64 ((j:Int)+1)=((j+1:Nat):Int):=by rw[qK (by omega) (by omega)];omega
   rw[e1,e2,e3,e4,e5,e6,Pl];refine⟨by omega,⟨by omega,by omega⟩,?_,by omega,a1 _ rfl,by simp only[nth,toI];omega⟩;unfold room;rw[W2,qN,qN];omega
  ·have:j=9:=by omega
   subst this;rw[hw];refine⟨⟨k'+1,by omega,?_⟩,by simp only[nth,toI];omega⟩;rw[BH a4 a0]
 ·have a0:k=l.length:=by omega
  subst a0;rw[aj,ad];have ae:z.natAbs<10^(9*l.length):=by have:=qO a4;rw[ad,Wj]at this;exact this
  obtain⟨m,hm⟩:∃m,9*l.length=m+1:=⟨9*l.length-1,by omega⟩;rw[hm]at ae ⊢;refine⟨⟨m,by omega,rfl,ae⟩,?_⟩;rintro s ⟨j,hj,he,a9⟩;simp only[aw,D.str.injEq,and_true]at he;subst he;have a3:z.natAbs/10^j%10<10:=Nat.mod_lt _ (by omega);rw[zo];simp only[W0,qN];refine⟨⟨by omega,by omega⟩,?_⟩;have e0:nth (0:UInt8) (aJ (48+z.natAbs/10^j%10)::xq j z.natAbs) (No 0)=aJ (48+z.natAbs/10^j%10):=rfl;rw[e0,Q5 a3];have e1:((((48+z.natAbs/10^j%10:Nat)):Int)==48)=decide (z.natAbs/10^j%10=0):=by rw[Aw];simp only[beq_iff_eq,decide_eq_true_eq];omega
  rw[e1];have hq:z.natAbs/10^j<10:=by rw[Nat.div_lt_iff_lt_mul (az (by omega)),←Nat.pow_succ'];exact a9
  refine brd (fun h2=>?_) (fun h2=>?_)
  ·have hq0:z.natAbs/10^j=0:=by generalize z.natAbs/10^j=q at *;omega
   have a2:z.natAbs<10^j:=by
    rcases ay z.natAbs (10^j)with h|h
    ·exact h
    ·have:=Nat.div_pos h (az (by omega));rw[hq0]at this;omega
   rcases j with _|j
   ·rw[aE]at a2;omega
   refine⟨⟨by omega,by omega,by omega⟩,⟨j,by omega,?_,a2⟩,?_⟩
   ·rw[Pl,ao (by simp[qN])];rfl
   ·rw[Pl,ao (by simp[qN])];simp[nth,toS,qN]
  ·have hge:10^j≤z.natAbs:=by
    rcases ay z.natAbs (10^j)with h|h
    ·rw[aC h]at h2;omega
    ·exact h
   have a5:=jb hge a9;rw[←zo,a5];have hlen:(J3 z.natAbs).length=j+1:=by rw[←a5,qN]
   refine jm (fun h3=>?_) (fun h3=>?_)
   ·have h3:=of_decide_eq_true h3;refine⟨by unfold room;omega,?_⟩;unfold z8 sgT;rw[decide_eq_true h3];rfl
   ·have h3:=of_decide_eq_false h3;unfold z8 sgT;rw[decide_eq_false h3];rfl
end Eng
end
