/- The greater one of 0 and a number, as the program's max prints. -/
import Derived.Test.YtbehlcfelmbmlaaGreatDoorEngA
import Derived.Test.YtbehlcfelmbmlaaGreatDoorCtxB
import Derived.Test.YtbehlcfelmbmlaaGreatDoorTxP
import Derived.Test.YtbehlcfelmbmlaaGreatDoorLexA
import Derived.Test.YtbehlcfelmbmlaaGreatDoorDivA
import Derived.Test.YtbehlcfelmbmlaaGreatDoorCdA
import Derived.KernelRfl
open Bool renaming eq_iff_iff→Aw
open Eng.A renaming c→Bx, ag→Dd
open Eng.D renaming bool→F0, int→F2, str→Hu, sl→Hv
open Eng.D.int renaming injEq→Hx
open Go.IntKind renaming wrap→Hy
open Go.Lib renaming decDigits→J3, indexByte→Lm, nDigits→Lr, repeatL→Ls, decDigits_length→Lv
open Int renaming ofNat→No, toNat→Pl, toNat_natCast→P1, tdiv→Ts, ofNat_eq_natCast→T1, tdiv_eq_ediv_of_nonneg→U0, tmod→U3, tmod_eq_emod_of_nonneg→V1
open List renaming length→W0, take→W1, drop→W2, eq_nil_of_length_eq_zero→au, take_length→av, length_cons→aw, length_append→ax, length_pos_iff→ay, length_nil→az, length_take→aA, length_drop→aB, replicate→aC, drop_zero→aD, take_of_length_le→aE, append_assoc→aF, getElem_mem→aG, drop_length→aH, all_eq_true→aI
open List.cons renaming injEq→aJ
open Nat renaming pow_le_pow_right→aK, reducePow→aL, lt_of_lt_of_le→aM, pow_zero→aN, pow_succ→aO, lt_or_ge→aP, pow_pos→aQ, mul_le_mul_right→aR, eq_zero_or_pos→aS, div_eq_of_lt→aT, mul_comm→aU, toUInt8→aV, pow_mul→aW, pow_add→aX
open UInt8 renaming toNat→aY, ofNat→aZ, toNat_inj→ba
section
namespace Eng
def mxZ (a:Int):Int:=match decide ((0:Int)<a)with
 |true=>a
 |false=>0
theorem AM (a:Int):mxZ a=((a.toNat:Nat):Int):=by
 unfold mxZ;by_cases h:(0:Int)<a
 ·rw[decide_eq_true h];simp only;omega
 ·rw[decide_eq_false h];simp only;omega
def mnZ (a b:Int):Int:=match decide (a<b)with
 |true=>a
 |false=>b
theorem AN (a b:Int):mnZ a b=min a b:=by
 unfold mnZ;by_cases h:a<b
 ·rw[decide_eq_true h];simp only;omega
 ·rw[decide_eq_false h];simp only;omega
end Eng
end

section
open Go Go.Proofs Eng
set_option maxRecDepth 1000000
namespace Eng
section
variable (Gv:Nat→List A→List A→Prop) (Q:List A→Prop) (I0 I1 I2 I3:List D→List D→Prop) (M0 M1 M2 M3:List D→Nat)
theorem B1 (s:List UInt8) (c:Int):wpF CC Gv an0 Tryz.f246 [.c (.str s),.c (.int .u8 c)] Q=(
 Q [Bx (F2 .i64 (Lm s (aV (Pl c))))]):=by kernel_rfl
theorem EW (s:List UInt8) (c:UInt8):wpF CC Gv an0 Tryz.f318 [.c (.str s),.c (.str [c])] Q=(
 br (toB (F0 ([c]==s))) (Q [Bx (F2 .i64 0)]) (((0:Int)≤(0:Int)∧(0:Int)<(1:Int))∧∃n,Gv 246 [Bx (Hu s),Bx (F2 .u8 (No (aY (nth 0 [c] (Pl (0:Int))))))] [Bx (F2 .i64 n)]∧Q [Bx (F2 .i64 n)])):=by kernel_rfl
theorem EX (s:List UInt8) (c:UInt8):wpF CC Gv an0 Tryz.f321 [.c (.str s),.c (.str [c])] Q=(
 ∃n,Gv 318 [Bx (Hu s),Bx (Hu [c])] [Bx (F2 .i64 n)]∧br (toB (F0 (decide (n≥0)))) (((0:Int)≤(0:Int)∧0≤n∧n≤(No s.length))∧(0≤Hy .i64 (n+1)∧Hy .i64 (n+1)≤(No s.length)∧(No s.length)≤(No s.length))∧Q [Bx (Hu (W2 0 (W1 (Pl n) s))),Bx (Hu (W2 (Pl (Hy .i64 (n+1))) (W1 (Pl (No s.length)) s))),Bx (F0 true)]) (Q [Bx (Hu s),Bx (Hu []),Bx (F0 false)])):=by kernel_rfl
theorem EY (s:List UInt8) (c:UInt8):wpF CC Gv an0 Tryz.f248 [.c (.str s),.c (.str [c])] Q=(
 ∃s1 s2 b,Gv 321 [Bx (Hu s),Bx (Hu [c])] [Bx (Hu s1),Bx (Hu s2),Bx (F0 b)]∧Q [Bx (Hu s1),Bx (Hu s2),Bx (F0 b)]):=by kernel_rfl
theorem B2 (s t:List UInt8):wpF CC Gv an0 Tryz.f333 [.c (.str s),.c (.str t)] Q=(
 br (toB (F0 (decide ((No s.length)≥(No t.length))))) (((0:Int)≤(0:Int)∧0≤(No t.length)∧(No t.length)≤(No s.length))∧Q [Bx (F0 (W2 0 (W1 (Pl (No t.length)) s)==t))]) (Q [Bx (F0 false)])):=by kernel_rfl
theorem B3 (s t:List UInt8):wpF CC Gv an0 Tryz.f320 [.c (.str s),.c (.str t)] Q=(
 ∃b,Gv 333 [Bx (Hu s),Bx (Hu t)] [Bx (F0 b)]∧br (toB (F0 !b)) (Q [Bx (Hu s),Bx (F0 false)]) ((0≤(No t.length)∧(No t.length)≤(No s.length)∧(No s.length)≤(No s.length))∧Q [Bx (Hu (W2 (Pl (No t.length)) (W1 (Pl (No s.length)) s))),Bx (F0 true)])):=by kernel_rfl
theorem B5 (s t:List UInt8):wpF CC Gv an0 Tryz.f247 [.c (.str s),.c (.str t)] Q=(
 ∃s1 b,Gv 320 [Bx (Hu s),Bx (Hu t)] [Bx (Hu s1),Bx (F0 b)]∧Q [Bx (Hu s1),Bx (F0 b)]):=by kernel_rfl
theorem EZ (J7:List D→List D→Prop) (p:Bool) (es:List (List D)):wpF CC Gv (wB (fun _=>⟨[.slot 5 (.int .i64 0),.bld 4 76 45],[],I0,M0⟩) 7 ⟨[.bld 4 76 46],[],J7,fun _=>0⟩) Tryz.f237 [.ag [.bool p,.sl es]] Q=(
 br (toB (F0 ((No es.length)==0))) (Q [Bx (Hu [48])]) (br p (room 1∧J7 [] [Hv [[F2 .u8 45]]]) (J7 [] [Hv []])∧∀(e1:List (List D)),J7 [] [Hv e1]→(0≤Hy .i64 ((No es.length)-1)∧Hy .i64 ((No es.length)-1)<(No es.length)∧W0 (nth [] es (Pl (Hy .i64 ((No es.length)-1))))=1)∧∃n,cut (nth [] es (Pl (Hy .i64 ((No es.length)-1)))) 0 1 [F2 .u32 n]∧∃s,Gv 71 [Bx (F2 .u64 (Hy .u64 n)),Bx (F2 .i64 10)] [Bx (Hu s)]∧room (e1.length+W0 (qp s))∧I0 [] [F2 .i64 (Hy .i64 ((No es.length)-2)),Hv (e1++qp s)]∧∀(n:Int) (e2:List (List D)),I0 [] [F2 .i64 n,Hv e2]→br (toB (F0 (decide (n≥0)))) ((0≤n∧n<(No es.length)∧W0 (nth [] es (Pl n))=1)∧∃n1,cut (nth [] es (Pl n)) 0 1 [F2 .u32 n1]∧∃s,Gv 71 [Bx (F2 .u64 (Hy .u64 n1)),Bx (F2 .i64 10)] [Bx (Hu s)]∧∃s1,Gv 161 [Bx (Hu [48]),Bx (F2 .i64 (Hy .i64 (9-(No s.length))))] [Bx (Hu s1)]∧room (e2.length+W0 (qp s1))∧room (W0 (e2++qp s1)+W0 (qp s))∧I0 [] [F2 .i64 (Hy .i64 (n-1)),Hv (e2++qp s1++qp s)]∧M0 [F2 .i64 (Hy .i64 (n-1)),Hv (e2++qp s1++qp s)]<M0 [F2 .i64 n,Hv e2]) ((e2≠[]∧jK e2=true)∧Q [Bx (Hu (zH e2))]))):=by kernel_rfl
theorem PU (J4:List D→List D→Prop) (s:List UInt8):wpF CC Gv (wB (Gl ⟨[.slot 40 (.int .i64 0)],[],I0,M0⟩ ⟨[.own 7 87 1,.slot 8 (.int .i64 0)],[],I1,M1⟩ ⟨[.slot 9 (.int .u32 0),.slot 69 (.int .i64 0)],[.own 7 87 1,.slot 8 (.int .i64 0)],I2,M2⟩) 4 ⟨[],[.slot 4 (.string ⟨#[]⟩),.slot 5 (.bool false)],J4,fun _=>0⟩) Tryz.f245 [.c (.str s)] Q=(
 ∃s1 b,Gv 247 [Bx (Hu s),Bx (Hu [45])] [Bx (Hu s1),Bx (F0 b)]∧br (toB (F0 (s1==[]))) (Q [Dd [F0 false,Hv []],Bx (F2 .i64 2)]) (br (toB (F0 (decide ((No s.length)>65536)))) (Q [Dd [F0 false,Hv []],Bx (F2 .i64 2)]) (((0:Int)≤(0:Int)∧0<(No s1.length))∧br (toB (F0 ((No (aY (nth 0 s1 (Pl (0:Int)))))==48))) (br (toB (F0 (decide ((No s1.length)>1)))) (Q [Dd [F0 false,Hv []],Bx (F2 .i64 2)]) (br b (Q [Dd [F0 false,Hv []],Bx (F2 .i64 2)]) (J4 [Hu s1,F0 b] []))) (J4 [Hu s1,F0 b] [])))∧(J4 [Hu s1,F0 b] []→I0 [] [F2 .i64 0]∧∀(n:Int),I0 [] [F2 .i64 n]→br (toB (F0 (decide (n<(No s1.length))))) ((0≤n∧n<(No s1.length))∧br (toB (F0 (decide ((No (aY (nth 0 s1 (Pl n))))<48)))) (Q [Dd [F0 false,Hv []],Bx (F2 .i64 2)]) ((0≤n∧n<(No s1.length))∧br (toB (F0 (decide ((No (aY (nth 0 s1 (Pl n))))>57)))) (Q [Dd [F0 false,Hv []],Bx (F2 .i64 2)]) (I0 [] [F2 .i64 (Hy .i64 (n+1))]∧M0 [F2 .i64 (Hy .i64 (n+1))]<M0 [F2 .i64 n]))) (I1 [] [Hv [],F2 .i64 (No s1.length)]∧∀(es:List (List D)) (n:Int),I1 [] [Hv es,F2 .i64 n]→br (toB (F0 (decide (n>0)))) (((0≤mxZ (Hy .i64 (n-9)))∧(mxZ (Hy .i64 (n-9)))≤n∧n≤(No s1.length))∧room (W0 (W2 (Pl (mxZ (Hy .i64 (n-9)))) (W1 (Pl n) s1)))∧I2 [Hv es,F2 .i64 n] [F2 .u32 0,F2 .i64 0]∧∀(n1 n2:Int),I2 [Hv es,F2 .i64 n] [F2 .u32 n1,F2 .i64 n2]→br (toB (F0 (decide (n2<(No (W0 (qp (W2 (Pl (mxZ (Hy .i64 (n-9)))) (W1 (Pl n) s1))))))))) ((0≤n2∧n2<(No (W0 (qp (W2 (Pl (mxZ (Hy .i64 (n-9)))) (W1 (Pl n) s1)))))∧W0 (nth [] (qp (W2 (Pl (mxZ (Hy .i64 (n-9)))) (W1 (Pl n) s1))) (Pl n2))=1)∧∃n3,cut (nth [] (qp (W2 (Pl (mxZ (Hy .i64 (n-9)))) (W1 (Pl n) s1))) (Pl n2)) 0 1 [F2 .u8 n3]∧I2 [Hv es,F2 .i64 n] [F2 .u32 (Hy .u32 (Hy .u32 (10*n1)+Hy .u32 (Hy .u8 (n3-48)))),F2 .i64 (Hy .i64 (n2+1))]∧M2 [F2 .u32 (Hy .u32 (Hy .u32 (10*n1)+Hy .u32 (Hy .u8 (n3-48)))),F2 .i64 (Hy .i64 (n2+1))]<M2 [F2 .u32 n1,F2 .i64 n2]) ((room (es.length+1)∧lens 1 [[F2 .u32 n1]])∧I1 [] [Hv (es++[[F2 .u32 n1]]),F2 .i64 (Hy .i64 (n-9))]∧M1 [Hv (es++[[F2 .u32 n1]]),F2 .i64 (Hy .i64 (n-9))]<M1 [Hv es,F2 .i64 n])) (∃b1 e1,Gv 189 [Bx (F0 b),Bx (Hv es)] [Dd [F0 b1,Hv e1]]∧Q [Dd [F0 b1,Hv e1],Bx (F2 .i64 0)])))):=by kernel_rfl
theorem Fa (p:Bool) (es:List (List D)):wpF CC Gv (Gl ⟨[.slot 3 (.string ⟨#[]⟩),.slot 4 (.int .i64 0)],[],I0,M0⟩ ⟨[.slot 3 (.string ⟨#[]⟩),.slot 5 (.int .u32 0),.slot 6 (.int .i64 0)],[.slot 3 (.string ⟨#[]⟩),.slot 4 (.int .i64 0),.slot 5 (.int .u32 0)],I1,M1⟩ ⟨[.slot 3 (.string ⟨#[]⟩)],[],I2,M2⟩) Tryz.f238 [.ag [.bool p,.sl es]] Q=(
 br (toB (F0 ((No es.length)==0))) (Q [Bx (Hu [48])]) (I0 [] [Hu [],F2 .i64 0]∧∀(s:List UInt8) (n:Int),I0 [] [Hu s,F2 .i64 n]→br (toB (F0 (decide (n<(No es.length))))) ((0≤n∧n<(No es.length)∧W0 (nth [] es (Pl n))=1)∧∃n1,cut (nth [] es (Pl n)) 0 1 [F2 .u32 n1]∧I1 [Hu s,F2 .i64 n,F2 .u32 n1] [Hu s,F2 .u32 n1,F2 .i64 0]∧∀(s1:List UInt8) (n2 n3:Int),I1 [Hu s,F2 .i64 n,F2 .u32 n1] [Hu s1,F2 .u32 n2,F2 .i64 n3]→br (toB (F0 (decide (n3<9)))) ((10:Int)≠(0:Int)∧(0≤Hy .i32 (Hy .u32 (48+U3 n2 (10:Int)))∧Hy .i32 (Hy .u32 (48+U3 n2 (10:Int)))<128)∧room (1+s1.length)∧(10:Int)≠(0:Int)∧I1 [Hu s,F2 .i64 n,F2 .u32 n1] [Hu (aZ (Pl (Hy .i32 (Hy .u32 (48+U3 n2 (10:Int)))))::s1),F2 .u32 (Hy .u32 (Ts n2 (10:Int))),F2 .i64 (Hy .i64 (n3+1))]∧M1 [Hu (aZ (Pl (Hy .i32 (Hy .u32 (48+U3 n2 (10:Int)))))::s1),F2 .u32 (Hy .u32 (Ts n2 (10:Int))),F2 .i64 (Hy .i64 (n3+1))]<M1 [Hu s1,F2 .u32 n2,F2 .i64 n3]) (I0 [] [Hu s1,F2 .i64 (Hy .i64 (n+1))]∧M0 [Hu s1,F2 .i64 (Hy .i64 (n+1))]<M0 [Hu s,F2 .i64 n])) (I2 [] [Hu s]∧∀(s:List UInt8),I2 [] [Hu s]→((0:Int)≤(0:Int)∧0<(No s.length))∧br (toB (F0 ((No (aY (nth 0 s (Pl (0:Int)))))==48))) (((0:Int)≤(1:Int)∧1≤(No s.length)∧(No s.length)≤(No s.length))∧I2 [] [Hu (W2 1 (W1 (Pl (No s.length)) s))]∧M2 [Hu (W2 1 (W1 (Pl (No s.length)) s))]<M2 [Hu s]) (br p (room (1+s.length)∧Q [Bx (Hu (45::s))]) (Q [Bx (Hu s)]))))):=by kernel_rfl
theorem PV (J4:List D→List D→Prop) (J6:List D→List D→Prop) (s:List UInt8):wpF CC Gv (wB (wB (JW ⟨[.own 5 42 1,.slot 6 (.int .i64 0)],[],I0,M0⟩ ⟨[.slot 8 (.int .u32 0),.slot 9 (.int .i64 0)],[.own 5 42 1,.slot 6 (.int .i64 0),.slot 7 (.int .i64 0)],I1,M1⟩) 4 ⟨[.slot 4 (.string ⟨#[]⟩)],[],J4,fun _=>0⟩) 6 ⟨[],[.slot 4 (.string ⟨#[]⟩)],J6,fun _=>0⟩) Tryz.f259 [.c (.str s)] Q=(
 br (toB (F0 (decide ((No s.length)>0)))) (((0:Int)≤(0:Int)∧0<(No s.length))∧br (toB (F0 ((No (aY (nth 0 s (Pl (0:Int)))))==45))) (((0:Int)≤(1:Int)∧1≤(No s.length)∧(No s.length)≤(No s.length))∧J4 [] [Hu (W2 1 (W1 (Pl (No s.length)) s))]) (J4 [] [Hu s])) (J4 [] [Hu s])∧∀(s1:List UInt8),J4 [] [Hu s1]→br (toB (F0 (s1==[]))) (Q [Dd [F0 false,Hv []],Bx (F2 .i64 2)]) (br (toB (F0 (decide ((No s.length)>65536)))) (Q [Dd [F0 false,Hv []],Bx (F2 .i64 2)]) (((0:Int)≤(0:Int)∧0<(No s1.length))∧br (toB (F0 ((No (aY (nth 0 s1 (Pl (0:Int)))))==48))) (br (toB (F0 !s==[48])) (Q [Dd [F0 false,Hv []],Bx (F2 .i64 2)]) (J6 [Hu s1] [])) (J6 [Hu s1] [])))∧(J6 [Hu s1] []→(9:Int)≠(0:Int)∧(0≤Hy .i64 (Hy .i64 (Ts (No s1.length) (9:Int))+1)∧Hy .i64 (Hy .i64 (Ts (No s1.length) (9:Int))+1)≤Hy .i64 (Hy .i64 (Ts (No s1.length) (9:Int))+1)∧room (Pl (Hy .i64 (Hy .i64 (Ts (No s1.length) (9:Int))+1))))∧I0 [] [Hv (aC (Pl (Hy .i64 (Hy .i64 (Ts (No s1.length) (9:Int))+1))) [F2 .u32 0]),F2 .i64 0]∧∀(es:List (List D)) (n:Int),I0 [] [Hv es,F2 .i64 n]→br (toB (F0 (decide (n<(No s1.length))))) ((0≤n∧n<(No s1.length))∧br (toB (F0 (decide ((No (aY (nth 0 s1 (Pl n))))<48)))) (Q [Dd [F0 false,Hv []],Bx (F2 .i64 2)]) ((0≤n∧n<(No s1.length))∧br (toB (F0 (decide ((No (aY (nth 0 s1 (Pl n))))>57)))) (Q [Dd [F0 false,Hv []],Bx (F2 .i64 2)]) (I1 [Hv es,F2 .i64 n,F2 .i64 (Hy .i64 (Hy .i64 ((No s1.length)-1)-n))] [F2 .u32 1,F2 .i64 0]∧∀(n1 n2:Int),I1 [Hv es,F2 .i64 n,F2 .i64 (Hy .i64 (Hy .i64 ((No s1.length)-1)-n))] [F2 .u32 n1,F2 .i64 n2]→(9:Int)≠(0:Int)∧br (toB (F0 (decide (n2<U3 (Hy .i64 (Hy .i64 ((No s1.length)-1)-n)) (9:Int))))) (I1 [Hv es,F2 .i64 n,F2 .i64 (Hy .i64 (Hy .i64 ((No s1.length)-1)-n))] [F2 .u32 (Hy .u32 (n1*10)),F2 .i64 (Hy .i64 (n2+1))]∧M1 [F2 .u32 (Hy .u32 (n1*10)),F2 .i64 (Hy .i64 (n2+1))]<M1 [F2 .u32 n1,F2 .i64 n2]) ((9:Int)≠(0:Int)∧(9:Int)≠(0:Int)∧(0≤Hy .i64 (Ts (Hy .i64 (Hy .i64 ((No s1.length)-1)-n)) (9:Int))∧Hy .i64 (Ts (Hy .i64 (Hy .i64 ((No s1.length)-1)-n)) (9:Int))<(No es.length))∧∃n3,cut (nth [] es (Pl (Hy .i64 (Ts (Hy .i64 (Hy .i64 ((No s1.length)-1)-n)) (9:Int))))) 0 1 [F2 .u32 n3]∧(0≤n∧n<(No s1.length))∧(0≤Hy .i64 (Ts (Hy .i64 (Hy .i64 ((No s1.length)-1)-n)) (9:Int))∧Hy .i64 (Ts (Hy .i64 (Hy .i64 ((No s1.length)-1)-n)) (9:Int))<(No es.length))∧0<1∧I0 [] [Hv (upd es (Pl (Hy .i64 (Ts (Hy .i64 (Hy .i64 ((No s1.length)-1)-n)) (9:Int)))) (upd (nth [] es (Pl (Hy .i64 (Ts (Hy .i64 (Hy .i64 ((No s1.length)-1)-n)) (9:Int))))) 0 (F2 .u32 (Hy .u32 (n3+Hy .u32 (Hy .u32 (Hy .u8 ((No (aY (nth 0 s1 (Pl n))))-48))*n1)))))),F2 .i64 (Hy .i64 (n+1))]∧M0 [Hv (upd es (Pl (Hy .i64 (Ts (Hy .i64 (Hy .i64 ((No s1.length)-1)-n)) (9:Int)))) (upd (nth [] es (Pl (Hy .i64 (Ts (Hy .i64 (Hy .i64 ((No s1.length)-1)-n)) (9:Int))))) 0 (F2 .u32 (Hy .u32 (n3+Hy .u32 (Hy .u32 (Hy .u8 ((No (aY (nth 0 s1 (Pl n))))-48))*n1)))))),F2 .i64 (Hy .i64 (n+1))]<M0 [Hv es,F2 .i64 n])))) (((0:Int)≤(0:Int)∧0<(No s.length))∧∃b e1,Gv 128 [Bx (F0 ((No (aY (nth 0 s (Pl (0:Int)))))==45)),Bx (Hv es)] [Dd [F0 b,Hv e1]]∧Q [Dd [F0 b,Hv e1],Bx (F2 .i64 0)]))):=by kernel_rfl
end
end Eng
end

section
open Go Go.Proofs Eng
set_option maxRecDepth 1000000
namespace Eng
section
variable (Gv:Nat→List A→List A→Prop) (Q:List A→Prop) (I0 I1 I2 I3:List D→List D→Prop) (M0 M1 M2 M3:List D→Nat)
theorem B6 (p q:Bool) (es fs:List (List D)):wpF CC Gv an0 Tryz.f67 [.ag [.bool p,.sl es],.ag [.bool q,.sl fs]] Q=(
 br (toB (F0 (p==q))) (∃n,Gv 127 [Bx (Hv es),Bx (Hv fs)] [Bx (F2 .i64 n)]∧Q [Bx (F0 (n==0))]) (Q [Bx (F0 false)])):=by kernel_rfl
theorem B7 (m d:Int):wpF CC Gv an0 Tryz.f76 [.c (.int .i64 m),.c (.int .i64 d)] Q=(
 br (toB (F0 (d==0))) (∃b es,Gv 68 [Bx (F2 .i64 0)] [Dd [F0 b,Hv es]]∧∃b1 e1,Gv 68 [Bx (F2 .i64 1)] [Dd [F0 b1,Hv e1]]∧∃b2 e2 b3 e3,Gv 145 [Dd [F0 b,Hv es],Dd [F0 b1,Hv e1]] [Dd [F0 b2,Hv e2,F0 b3,Hv e3]]∧Q [Dd [F0 b2,Hv e2,F0 b3,Hv e3]]) (∃b es,Gv 68 [Bx (F2 .i64 m)] [Dd [F0 b,Hv es]]∧∃b1 e1,Gv 68 [Bx (F2 .i64 d)] [Dd [F0 b1,Hv e1]]∧∃b2 e2 b3 e3,Gv 145 [Dd [F0 b,Hv es],Dd [F0 b1,Hv e1]] [Dd [F0 b2,Hv e2,F0 b3,Hv e3]]∧Q [Dd [F0 b2,Hv e2,F0 b3,Hv e3]])):=by kernel_rfl
theorem PW (n:Int):wpF CC Gv (fun _=>⟨[.slot 4 (.int .i64 0),.box 3 [.bool false,.slice none 0 0,.bool false,.slice none 0 0]],[],I0,M0⟩) Tryz.f143 [.c (.int .i64 n)] Q=(
 ∃b es b1 e1,Gv 27 [Bx (F2 .i64 1)] [Dd [F0 b,Hv es,F0 b1,Hv e1]]∧I0 [] [F2 .i64 0,F0 b,Hv es,F0 b1,Hv e1]∧∀(n1:Int) (b:Bool) (es:List (List D)) (b2:Bool) (e2:List (List D)),I0 [] [F2 .i64 n1,F0 b,Hv es,F0 b2,Hv e2]→br (toB (F0 (decide (n1<n)))) (∃b3 e3 b4 e4,Gv 27 [Bx (F2 .i64 10)] [Dd [F0 b3,Hv e3,F0 b4,Hv e4]]∧∃b5 e5 b6 e6,Gv 103 [Dd [F0 b,Hv es,F0 b2,Hv e2],Dd [F0 b3,Hv e3,F0 b4,Hv e4]] [Dd [F0 b5,Hv e5,F0 b6,Hv e6]]∧I0 [] [F2 .i64 (Hy .i64 (n1+1)),F0 b5,Hv e5,F0 b6,Hv e6]∧M0 [F2 .i64 (Hy .i64 (n1+1)),F0 b5,Hv e5,F0 b6,Hv e6]<M0 [F2 .i64 n1,F0 b,Hv es,F0 b2,Hv e2]) (Q [Dd [F0 b,Hv es,F0 b2,Hv e2]])):=by kernel_rfl
theorem PX (p:Bool) (es:List (List D)) (n:Int):wpF CC Gv (fun _=>⟨[.slot 5 (.string ⟨#[]⟩)],[],I0,M0⟩) Tryz.f144 [.ag [.bool p,.sl es],.c (.int .i64 n)] Q=(
 ∃s,Gv 238 [Dd [F0 p,Hv es]] [Bx (Hu s)]∧((0:Int)≤(0:Int)∧0<(No s.length))∧br (toB (F0 ((No (aY (nth 0 s (Pl (0:Int)))))==45))) (((0:Int)≤(1:Int)∧1≤(No s.length)∧(No s.length)≤(No s.length))∧I0 [] [Hu (W2 1 (W1 (Pl (No s.length)) s))]∧∀(s:List UInt8),I0 [] [Hu s]→br (toB (F0 (decide ((No s.length)≤n)))) (room (1+s.length)∧I0 [] [Hu (48::s)]∧M0 [Hu (48::s)]<M0 [Hu s]) (br (toB (F0 (n==0))) (room (1+s.length)∧Q [Bx (Hu (45::s))]) (((0:Int)≤(0:Int)∧0≤Hy .i64 ((No s.length)-n)∧Hy .i64 ((No s.length)-n)≤(No s.length))∧room (1+W0 (W2 0 (W1 (Pl (Hy .i64 ((No s.length)-n))) s)))∧room (W0 (45::([]++(W2 0 (W1 (Pl (Hy .i64 ((No s.length)-n))) s))))+1)∧(0≤Hy .i64 ((No s.length)-n)∧Hy .i64 ((No s.length)-n)≤(No s.length)∧(No s.length)≤(No s.length))∧room (W0 (45::((([]++(W2 (Pl (0:Int)) (W1 (Pl (Hy .i64 ((No s.length)-n))) s))))++[46]))+W0 (W2 (Pl (Hy .i64 ((No s.length)-n))) (W1 (Pl (No s.length)) s)))∧Q [Bx (Hu (45::((((([]++(W2 (Pl (0:Int)) (W1 (Pl (Hy .i64 ((No s.length)-n))) s))))++([46])))++(W2 (Pl (Hy .i64 ((No s.length)-n))) (W1 (Pl (No s.length)) s)))))]))) (I0 [] [Hu s]∧∀(s:List UInt8),I0 [] [Hu s]→br (toB (F0 (decide ((No s.length)≤n)))) (room (1+s.length)∧I0 [] [Hu (48::s)]∧M0 [Hu (48::s)]<M0 [Hu s]) (br (toB (F0 (n==0))) (room (0+s.length)∧Q [Bx (Hu s)]) (((0:Int)≤(0:Int)∧0≤Hy .i64 ((No s.length)-n)∧Hy .i64 ((No s.length)-n)≤(No s.length))∧room (0+W0 (W2 0 (W1 (Pl (Hy .i64 ((No s.length)-n))) s)))∧room (W0 ([]++W2 0 (W1 (Pl (Hy .i64 ((No s.length)-n))) s))+1)∧(0≤Hy .i64 ((No s.length)-n)∧Hy .i64 ((No s.length)-n)≤(No s.length)∧(No s.length)≤(No s.length))∧room (W0 ([]++W2 0 (W1 (Pl (Hy .i64 ((No s.length)-n))) s)++[46])+W0 (W2 (Pl (Hy .i64 ((No s.length)-n))) (W1 (Pl (No s.length)) s)))∧Q [Bx (Hu ([]++W2 0 (W1 (Pl (Hy .i64 ((No s.length)-n))) s)++[46]++W2 (Pl (Hy .i64 ((No s.length)-n))) (W1 (Pl (No s.length)) s)))])))):=by kernel_rfl
theorem PY (p q:Bool) (es fs:List (List D)):wpF CC Gv (fun _=>⟨[.slot 4 (.int .i64 0)],[],I0,M0⟩) Tryz.f75 [.ag [.bool p,.sl es,.bool q,.sl fs]] Q=(
 I0 [] [F2 .i64 0]∧∀(n:Int),I0 [] [F2 .i64 n]→br (toB (F0 (decide (n≤30)))) (∃b e1 b1 e2,Gv 143 [Bx (F2 .i64 n)] [Dd [F0 b,Hv e1,F0 b1,Hv e2]]∧∃b2 e3 b3 e4,Gv 103 [Dd [F0 p,Hv es,F0 q,Hv fs],Dd [F0 b,Hv e1,F0 b1,Hv e2]] [Dd [F0 b2,Hv e3,F0 b3,Hv e4]]∧∃b es,Gv 68 [Bx (F2 .i64 1)] [Dd [F0 b,Hv es]]∧∃b4,Gv 67 [Dd [F0 b3,Hv e4],Dd [F0 b,Hv es]] [Bx (F0 b4)]∧br b4 (∃s,Gv 144 [Dd [F0 b2,Hv e3],Bx (F2 .i64 n)] [Bx (Hu s)]∧br (toB (F0 (decide ((No s.length)>1000)))) (Q [Bx (Hu []),Bx (F0 false)]) (Q [Bx (Hu s),Bx (F0 true)])) (I0 [] [F2 .i64 (Hy .i64 (n+1))]∧M0 [F2 .i64 (Hy .i64 (n+1))]<M0 [F2 .i64 n])) (Q [Bx (Hu []),Bx (F0 false)])):=by kernel_rfl
theorem B8 (p q:Bool) (es fs:List (List D)):wpF CC Gv an0 Tryz.f77 [.ag [.bool p,.sl es,.bool q,.sl fs]] Q=(
 ∃b e1 b1 e2,Gv 76 [Bx (F2 .i64 1),Bx (F2 .i64 1000)] [Dd [F0 b,Hv e1,F0 b1,Hv e2]]∧∃b2 e3 b3 e4,Gv 103 [Dd [F0 p,Hv es,F0 q,Hv fs],Dd [F0 b,Hv e1,F0 b1,Hv e2]] [Dd [F0 b2,Hv e3,F0 b3,Hv e4]]∧Q [Dd [F0 b2,Hv e3,F0 b3,Hv e4]]):=by kernel_rfl
theorem Fb (p q:Bool) (es fs:List (List D)):wpF CC Gv an0 Tryz.f91 [.ag [.bool p,.sl es,.bool q,.sl fs]] Q=(
 ∃b,Gv 108 [Dd [F0 p,Hv es,F0 q,Hv fs]] [Bx (F0 b)]∧br (toB (F0 !b)) (Q [Bx (F0 false)]) (∃b e1 b1 e2,Gv 27 [Bx (F2 .i64 10000000)] [Dd [F0 b,Hv e1,F0 b1,Hv e2]]∧∃n,Gv 171 [Dd [F0 p,Hv es,F0 q,Hv fs],Dd [F0 b,Hv e1,F0 b1,Hv e2]] [Bx (F2 .i64 n)]∧br (toB (F0 (decide (n>0)))) (Q [Bx (F0 false)]) (∃b2 e3 b3 e4,Gv 172 [Dd [F0 p,Hv es,F0 q,Hv fs]] [Dd [F0 b2,Hv e3,F0 b3,Hv e4]]∧∃n,Gv 171 [Dd [F0 b2,Hv e3,F0 b3,Hv e4],Dd [F0 b,Hv e1,F0 b1,Hv e2]] [Bx (F2 .i64 n)]∧br (toB (F0 (decide (n>0)))) (Q [Bx (F0 false)]) (∃b e5 b4 e6,Gv 77 [Dd [F0 p,Hv es,F0 q,Hv fs]] [Dd [F0 b,Hv e5,F0 b4,Hv e6]]∧∃s b5,Gv 75 [Dd [F0 b,Hv e5,F0 b4,Hv e6]] [Bx (Hu s),Bx (F0 b5)]∧Q [Bx (F0 b5)])))):=by kernel_rfl
theorem M5 (c:Int):wpF CC Gv an0 Tryz.f162 [.c (.int .u8 c)] Q=(
 br (toB (F0 (decide (c≥97)))) (br (toB (F0 (decide (c≤122)))) (Q [Bx (F0 true)]) (br (toB (F0 (decide (c≥65)))) (Q [Bx (F0 (decide (c≤90)))]) (Q [Bx (F0 false)]))) (br (toB (F0 (decide (c≥65)))) (Q [Bx (F0 (decide (c≤90)))]) (Q [Bx (F0 false)]))):=by kernel_rfl
theorem PZ (c:Int):wpF CC Gv an0 Tryz.f257 [.c (.int .u8 c)] Q=(
 br (toB (F0 (decide (c≥48)))) (Q [Bx (F0 (decide (c≤57)))]) (Q [Bx (F0 false)])):=by kernel_rfl
theorem B9 (s:List UInt8):wpF CC Gv (fun _=>⟨[.slot 3 (.int .i64 0)],[],I0,M0⟩) Tryz.f163 [.c (.str s)] Q=(
 I0 [] [F2 .i64 0]∧∀(n:Int),I0 [] [F2 .i64 n]→br (toB (F0 (decide (n<(No s.length))))) ((0≤n∧n<(No s.length))∧∃b,Gv 162 [Bx (F2 .u8 (No (aY (nth 0 s (Pl n)))))] [Bx (F0 b)]∧br b (I0 [] [F2 .i64 (Hy .i64 (n+1))]∧M0 [F2 .i64 (Hy .i64 (n+1))]<M0 [F2 .i64 n]) ((0≤n∧n<(No s.length))∧∃b,Gv 257 [Bx (F2 .u8 (No (aY (nth 0 s (Pl n)))))] [Bx (F0 b)]∧br b (I0 [] [F2 .i64 (Hy .i64 (n+1))]∧M0 [F2 .i64 (Hy .i64 (n+1))]<M0 [F2 .i64 n]) ((0≤n∧n<(No s.length))∧br (toB (F0 ((No (aY (nth 0 s (Pl n))))==95))) (I0 [] [F2 .i64 (Hy .i64 (n+1))]∧M0 [F2 .i64 (Hy .i64 (n+1))]<M0 [F2 .i64 n]) ((0≤n∧n<(No s.length))∧br (toB (F0 ((No (aY (nth 0 s (Pl n))))==45))) (I0 [] [F2 .i64 (Hy .i64 (n+1))]∧M0 [F2 .i64 (Hy .i64 (n+1))]<M0 [F2 .i64 n]) (Q [Bx (F2 .i64 n)]))))) (Q [Bx (F2 .i64 n)])):=by kernel_rfl
theorem M6 (s:List UInt8):wpF CC Gv an0 Tryz.f90 [.c (.str s)] Q=(
 br (toB (F0 (decide ((No s.length)>0)))) (br (toB (F0 (decide ((No s.length)≤24)))) (((0:Int)≤(0:Int)∧0<(No s.length))∧∃b,Gv 162 [Bx (F2 .u8 (No (aY (nth 0 s (Pl (0:Int))))))] [Bx (F0 b)]∧br b (∃n,Gv 163 [Bx (Hu s)] [Bx (F2 .i64 n)]∧Q [Bx (F0 (n==(No s.length)))]) (Q [Bx (F0 false)])) (Q [Bx (F0 false)])) (Q [Bx (F0 false)])):=by kernel_rfl
theorem Ra (s:List UInt8) (k d:Int):wpF CC Gv an0 Tryz.f44 [.ag [.str s,.int .i64 k,.int .i64 d]] Q=(
 br (toB (F0 (decide (d≥1)))) (br (toB (F0 (k==1))) (br (toB (F0 (k==1))) (∃b,Gv 90 [Bx (Hu s)] [Bx (F0 b)]∧br b (Q [Bx (F0 (decide (d≤10000000)))]) (Q [Bx (F0 false)])) (br (toB (F0 (k==2))) (br (toB (F0 (k==2))) (∃b,Gv 90 [Bx (Hu s)] [Bx (F0 b)]∧br b (Q [Bx (F0 (d==0))]) (Q [Bx (F0 false)])) (Q [Bx (F0 false)])) (br (toB (F0 (k==4))) (∃b,Gv 90 [Bx (Hu s)] [Bx (F0 b)]∧br b (Q [Bx (F0 (d==0))]) (Q [Bx (F0 false)])) (Q [Bx (F0 false)])))) (br (toB (F0 (k==3))) (∃b,Gv 90 [Bx (Hu s)] [Bx (F0 b)]∧br b (Q [Bx (F0 (decide (d≤10000000)))]) (Q [Bx (F0 false)])) (br (toB (F0 (k==2))) (br (toB (F0 (k==2))) (∃b,Gv 90 [Bx (Hu s)] [Bx (F0 b)]∧br b (Q [Bx (F0 (d==0))]) (Q [Bx (F0 false)])) (Q [Bx (F0 false)])) (br (toB (F0 (k==4))) (∃b,Gv 90 [Bx (Hu s)] [Bx (F0 b)]∧br b (Q [Bx (F0 (d==0))]) (Q [Bx (F0 false)])) (Q [Bx (F0 false)]))))) (br (toB (F0 (k==1))) (br (toB (F0 (k==1))) (∃b,Gv 90 [Bx (Hu s)] [Bx (F0 b)]∧br b (Q [Bx (F0 false)]) (Q [Bx (F0 false)])) (br (toB (F0 (k==2))) (br (toB (F0 (k==2))) (∃b,Gv 90 [Bx (Hu s)] [Bx (F0 b)]∧br b (Q [Bx (F0 (d==0))]) (Q [Bx (F0 false)])) (Q [Bx (F0 false)])) (br (toB (F0 (k==4))) (∃b,Gv 90 [Bx (Hu s)] [Bx (F0 b)]∧br b (Q [Bx (F0 (d==0))]) (Q [Bx (F0 false)])) (Q [Bx (F0 false)])))) (br (toB (F0 (k==3))) (∃b,Gv 90 [Bx (Hu s)] [Bx (F0 b)]∧br b (Q [Bx (F0 false)]) (Q [Bx (F0 false)])) (br (toB (F0 (k==2))) (br (toB (F0 (k==2))) (∃b,Gv 90 [Bx (Hu s)] [Bx (F0 b)]∧br b (Q [Bx (F0 (d==0))]) (Q [Bx (F0 false)])) (Q [Bx (F0 false)])) (br (toB (F0 (k==4))) (∃b,Gv 90 [Bx (Hu s)] [Bx (F0 b)]∧br b (Q [Bx (F0 (d==0))]) (Q [Bx (F0 false)])) (Q [Bx (F0 false)])))))):=by kernel_rfl
theorem BA (es:List (List D)) (s:List UInt8):wpF CC Gv (fun _=>⟨[.slot 5 (.int .i64 0)],[],I0,M0⟩) Tryz.f45 [.c (.sl es),.c (.str s)] Q=(
 I0 [] [F2 .i64 0]∧∀(n:Int),I0 [] [F2 .i64 n]→br (toB (F0 (decide (n<(No es.length))))) ((0≤n∧n<(No es.length)∧W0 (nth [] es (Pl n))=3)∧∃s1,cut (nth [] es (Pl n)) 0 1 [Hu s1]∧br (toB (F0 (s1==s))) (Q [Bx (F2 .i64 n)]) (I0 [] [F2 .i64 (Hy .i64 (n+1))]∧M0 [F2 .i64 (Hy .i64 (n+1))]<M0 [F2 .i64 n])) (Q [Bx (F2 .i64 (-1))])):=by kernel_rfl
theorem M7 (J9:List D→List D→Prop) (k:Int) (s:List UInt8) (ps:List (List D)) (p q:Bool) (l m:List (List D)):wpF CC Gv (wB (fun _=>⟨[.slot 4 (.int .i64 0)],[],I0,M0⟩) 9 ⟨[.slot 3 (.int .i64 0)],[],J9,fun _=>0⟩) Tryz.f46 [.ag [.int .i64 k,.str s,.sl ps,.bool p,.sl l,.bool q,.sl m]] Q=(
 br (toB (F0 (k==1))) (J9 [] [F2 .i64 2]) (br (toB (F0 (k==2))) (J9 [] [F2 .i64 3]) (br (toB (F0 (k==3))) (J9 [] [F2 .i64 1]) (J9 [] [F2 .i64 0])))∧∀(n:Int),J9 [] [F2 .i64 n]→br (toB (F0 (n==0))) (Q [Bx (F0 false)]) (br (toB (F0 ((No ps.length) !=n))) (Q [Bx (F0 false)]) (br (toB (F0 (n==1))) (∃b,Gv 91 [Dd [F0 p,Hv l,F0 q,Hv m]] [Bx (F0 b)]∧br (toB (F0 !b)) (Q [Bx (F0 false)]) (∃n1,Gv 92 [Dd [F0 p,Hv l,F0 q,Hv m]] [Bx (F2 .i64 n1)]∧br (toB (F0 (n1 !=1))) (Q [Bx (F0 false)]) (I0 [] [F2 .i64 0]∧∀(n2:Int),I0 [] [F2 .i64 n2]→br (toB (F0 (decide (n2<n)))) ((0≤n2∧n2<(No ps.length)∧W0 (nth [] ps (Pl n2))=8)∧∃b es b1 e1,cut (nth [] ps (Pl n2)) 0 4 [F0 b,Hv es,F0 b1,Hv e1]∧∃b2,Gv 91 [Dd [F0 b,Hv es,F0 b1,Hv e1]] [Bx (F0 b2)]∧br (toB (F0 !b2)) (Q [Bx (F0 false)]) ((0≤n2∧n2<(No ps.length)∧W0 (nth [] ps (Pl n2))=8)∧∃b es b3 e2,cut (nth [] ps (Pl n2)) 4 4 [F0 b,Hv es,F0 b3,Hv e2]∧∃b4,Gv 91 [Dd [F0 b,Hv es,F0 b3,Hv e2]] [Bx (F0 b4)]∧br (toB (F0 !b4)) (Q [Bx (F0 false)]) (I0 [] [F2 .i64 (Hy .i64 (n2+1))]∧M0 [F2 .i64 (Hy .i64 (n2+1))]<M0 [F2 .i64 n2]))) (Q [Bx (F0 true)])))) (I0 [] [F2 .i64 0]∧∀(n1:Int),I0 [] [F2 .i64 n1]→br (toB (F0 (decide (n1<n)))) ((0≤n1∧n1<(No ps.length)∧W0 (nth [] ps (Pl n1))=8)∧∃b es b1 e1,cut (nth [] ps (Pl n1)) 0 4 [F0 b,Hv es,F0 b1,Hv e1]∧∃b2,Gv 91 [Dd [F0 b,Hv es,F0 b1,Hv e1]] [Bx (F0 b2)]∧br (toB (F0 !b2)) (Q [Bx (F0 false)]) ((0≤n1∧n1<(No ps.length)∧W0 (nth [] ps (Pl n1))=8)∧∃b es b3 e2,cut (nth [] ps (Pl n1)) 4 4 [F0 b,Hv es,F0 b3,Hv e2]∧∃b4,Gv 91 [Dd [F0 b,Hv es,F0 b3,Hv e2]] [Bx (F0 b4)]∧br (toB (F0 !b4)) (Q [Bx (F0 false)]) (I0 [] [F2 .i64 (Hy .i64 (n1+1))]∧M0 [F2 .i64 (Hy .i64 (n1+1))]<M0 [F2 .i64 n1]))) (Q [Bx (F0 true)]))))):=by kernel_rfl
theorem Rb (ls es:List (List D)):wpF CC Gv (JW ⟨[.slot 3 (.int .i64 0)],[],I0,M0⟩ ⟨[.slot 4 (.int .i64 0)],[],I1,M1⟩) Tryz.f16 [.ag [.sl ls,.sl es]] Q=(
 br (toB (F0 (decide ((No ls.length)>20)))) (Q [Bx (F2 .i64 3)]) (br (toB (F0 (decide ((No es.length)>200)))) (Q [Bx (F2 .i64 3)]) (I0 [] [F2 .i64 0]∧∀(n:Int),I0 [] [F2 .i64 n]→br (toB (F0 (decide (n<(No ls.length))))) ((0≤n∧n<(No ls.length)∧W0 (nth [] ls (Pl n))=3)∧∃s n1 n2,cut (nth [] ls (Pl n)) 0 3 [Hu s,F2 .i64 n1,F2 .i64 n2]∧∃b,Gv 44 [Dd [Hu s,F2 .i64 n1,F2 .i64 n2]] [Bx (F0 b)]∧br (toB (F0 !b)) (Q [Bx (F2 .i64 1)]) ((0≤n∧n<(No ls.length)∧W0 (nth [] ls (Pl n))=3)∧∃s,cut (nth [] ls (Pl n)) 0 1 [Hu s]∧∃n3,Gv 45 [Bx (Hv ls),Bx (Hu s)] [Bx (F2 .i64 n3)]∧br (toB (F0 (decide (n3<n)))) (Q [Bx (F2 .i64 5)]) (I0 [] [F2 .i64 (Hy .i64 (n+1))]∧M0 [F2 .i64 (Hy .i64 (n+1))]<M0 [F2 .i64 n]))) (I1 [] [F2 .i64 0]∧∀(n:Int),I1 [] [F2 .i64 n]→br (toB (F0 (decide (n<(No es.length))))) ((0≤n∧n<(No es.length)∧W0 (nth [] es (Pl n))=7)∧∃s,cut (nth [] es (Pl n)) 1 1 [Hu s]∧∃n1,Gv 45 [Bx (Hv ls),Bx (Hu s)] [Bx (F2 .i64 n1)]∧br (toB (F0 (decide (n1<0)))) (Q [Bx (F2 .i64 4)]) ((0≤n∧n<(No es.length)∧W0 (nth [] es (Pl n))=7)∧∃n2 s e1 b e2 b1 e3,cut (nth [] es (Pl n)) 0 7 [F2 .i64 n2,Hu s,Hv e1,F0 b,Hv e2,F0 b1,Hv e3]∧∃b2,Gv 46 [Dd [F2 .i64 n2,Hu s,Hv e1,F0 b,Hv e2,F0 b1,Hv e3]] [Bx (F0 b2)]∧br (toB (F0 !b2)) (Q [Bx (F2 .i64 1)]) (I1 [] [F2 .i64 (Hy .i64 (n+1))]∧M1 [F2 .i64 (Hy .i64 (n+1))]<M1 [F2 .i64 n]))) (Q [Bx (F2 .i64 0)]))))):=by kernel_rfl
theorem Rd (n s:List UInt8) (k d:Int):wpF CC Gv an0 Tryz.f116 [.ag [.str n,.int .i64 k,.int .i64 d],.c (.ptr [.str s])] Q=(
 ∃s1,cut [Hu s] 0 1 [Hu s1]∧Q [Bx (F0 (n==s1))]):=by kernel_rfl
theorem BB (es:List (List D)) (s:List UInt8):wpF CC Gv (fun _=>⟨[.slot 8 (.int .i64 0)],[],I0,M0⟩) Tryz.f115 [.c (.sl es),.c (.clo 116 [.ptr [.str s]])] Q=(
 I0 [] [F2 .i64 0]∧∀(n:Int),I0 [] [F2 .i64 n]→br (toB (F0 (decide (n<(No es.length))))) ((0≤n∧n<(No es.length)∧W0 (nth [] es (Pl n))=3)∧∃s1 n1 n2,cut (nth [] es (Pl n)) 0 3 [Hu s1,F2 .i64 n1,F2 .i64 n2]∧∃b,Gv 116 [Dd [Hu s1,F2 .i64 n1,F2 .i64 n2],Bx (D.ptr [Hu s])] [Bx (F0 b)]∧br b (Q [Bx (F2 .i64 n)]) (I0 [] [F2 .i64 (Hy .i64 (n+1))]∧M0 [F2 .i64 (Hy .i64 (n+1))]<M0 [F2 .i64 n])) (Q [Bx (F2 .i64 (-1))])):=by kernel_rfl
theorem BC (es:List (List D)) (s:List UInt8):wpF CC Gv an0 Tryz.f61 [.c (.sl es),.c (.str s)] Q=(
 ∃n,Gv 115 [Bx (Hv es),Bx (D.clo 116 [D.ptr [Hu s]])] [Bx (F2 .i64 n)]∧Q [Bx (F2 .i64 n)]):=by kernel_rfl
end
end Eng
end

section
namespace Eng
open Go Go.Proofs
set_option maxRecDepth 100000
theorem Xm {c:UInt8}:∀(s:List UInt8) {t:List UInt8},(qB c s).2=some t→(qB c s).1=s.take (qB c s).1.length∧t=s.drop ((qB c s).1.length+1)∧(qB c s).1.length<s.length
 |[],t,h=>by simp[qB]at h
 |a::s,t,h=>by
  rw[qB]at h ⊢;by_cases ha:a=c
  ·rw[if_pos ha]at h ⊢;simp only[Option.some.injEq]at h;subst h;simp
  ·rw[if_neg ha]at h ⊢;obtain⟨h1,h2,h3⟩:=Xm s (t:=t) h;simp only[aw,List.take_succ_cons,List.drop_succ_cons,aJ,true_and];exact⟨h1,h2,by omega⟩
theorem ye {c:UInt8} {s:List UInt8} (h:(qB c s).2=none):(qB c s).1=s:=by
 have:=Vx (c:=c) s;rw[h]at this
 simpa using this.symm
theorem Vr (c:UInt8):∀s,Lm s c=match(qB c s).2 with|none=> -1|some _=>((qB c s).1.length:Int)
 |[]=>rfl
 |a::s=>by
  have ih:=Vr c s;rw[Lm,qB];by_cases ha:a=c
  ·subst ha;simp
  ·rw[if_neg ha];have h1:(a==c)=false:=by simpa using ha
   rw[h1];simp only[Bool.false_eq_true,if_false];rw[ih];cases h:(qB c s).2 with
   |none=>rfl
   |some t=>simp only;rw[if_neg (by simp)];simp
theorem Re (c:UInt8):aV (Pl ((c.toNat:Nat):Int))=c:=by
 rw[P1];simp
theorem Tl (s:List UInt8) (c:UInt8):qf CC 246 [.c (.str s),.c (.int .u8 c.toNat)] [.c (.int .i64 (Lm s c))]:=by
 refine qg (anns:=an0) mixedT Tryz.func246 ?_;rw[B1,Re]
theorem Rf (s:List UInt8) (c:UInt8):qf CC 318 [.c (.str s),.c (.str [c])] [.c (.int .i64 (Lm s c))]:=by
 refine qg (anns:=an0) mixedT Tryz.func318 ?_;rw[EW];refine brb (fun h=>?_) (fun _=>⟨⟨by omega,by omega⟩,_,Tl s c,rfl⟩);have:[c]=s:=by simpa using h
 subst this;simp[Lm]
def AP (p:List UInt8×Option (List UInt8)):List A:=[.c (.str p.1),.c (.str (p.2.getD [])),.c (.bool p.2.isSome)]
theorem Fc {s:List UInt8} (c:UInt8) (hs:s.length≤1073741824):qf CC 321 [.c (.str s),.c (.str [c])] (AP (qB c s)):=by
 refine qg (anns:=an0) mixedT Tryz.func321 ?_;rw[EX];refine⟨_,Rf s c,?_⟩;rw[Vr];cases h:(qB c s).2 with
 |none=>simp only;refine brd (fun h2=>by omega) (fun _=>?_);simp only[AP,h,ye h,Option.getD_none,Option.isSome_none]
 |some t=>
  obtain⟨h1,h2,h3⟩:=Xm s h;simp only;have hw:Hy .i64 (((qB c s).1.length:Int)+1)=(((qB c s).1.length+1:Nat):Int):=by rw[qK (by omega) (by omega)];omega
  rw[hw];simp only[T1,P1,av,aD];refine brd (fun _=>⟨⟨by omega,by omega,by omega⟩,⟨by omega,by omega,by omega⟩,?_⟩) (fun h4=>absurd (by omega) h4);simp only[AP,h,Option.getD_some,Option.isSome_some];rw[←h1,←h2]
theorem Fd {s:List UInt8} (c:UInt8) (hs:s.length≤1073741824):qf CC 248 [.c (.str s),.c (.str [c])] (AP (qB c s)):=by
 refine qg (anns:=an0) mixedT Tryz.func248 ?_;rw[EY];exact⟨_,_,_,Fc c hs,rfl⟩
theorem BD (s:List UInt8):qf CC 333 [.c (.str s),.c (.str [45])] [.c (.bool (qA s).2)]:=by
 refine qg (anns:=an0) mixedT Tryz.func333 ?_;rw[B2];cases s with
 |nil=>exact brd (fun h=>absurd h (by simp)) (fun _=>rfl)
 |cons c s=>
  simp only[T1,aw,az];refine brd (fun h=>⟨⟨by omega,by omega,by omega⟩,?_⟩) (fun h=>absurd h (by omega));have e:W2 0 (W1 (Pl ((0+1:Nat):Int)) (c::s))=[c]:=rfl;rw[e];rw[xj];by_cases hc:c=45
  ·subst hc;simp
  ·rw[if_neg hc];have:([c]==[45])=false:=by simpa using hc
   rw[this]
theorem BE {s:List UInt8} (hs:s.length≤1073741824):qf CC 320 [.c (.str s),.c (.str [45])] [.c (.str (qA s).1),.c (.bool (qA s).2)]:=by
 refine qg (anns:=an0) mixedT Tryz.func320 ?_;rw[B3];refine⟨_,BD s,brb (fun h=>?_) (fun h=>?_)⟩
 ·have h:(qA s).2=false:=by simpa using h
  rw[h];cases s with
  |nil=>rfl
  |cons c s=>
   rw[xj]at h ⊢;by_cases hc:c=45
   ·rw[if_pos hc]at h;simp at h
   ·rw[if_neg hc]
 ·have h:(qA s).2=true:=by simpa using h
  cases s with
  |nil=>simp[qA]at h
  |cons c s=>
   rw[xj]at h ⊢;by_cases hc:c=45
   ·rw[if_pos hc];simp only[T1,aw,az]at hs ⊢;refine⟨⟨by omega,by omega,by omega⟩,?_⟩;have e:W2 (Pl ((0+1:Nat):Int)) (W1 (Pl ((s.length+1:Nat):Int)) (c::s))=s:=by rw[P1,P1];simp
    rw[e]
   ·rw[if_neg hc]at h;simp at h
theorem Tm {s:List UInt8} (hs:s.length≤1073741824):qf CC 247 [.c (.str s),.c (.str [45])] [.c (.str (qA s).1),.c (.bool (qA s).2)]:=by
 refine qg (anns:=an0) mixedT Tryz.func247 ?_;rw[B5];exact⟨_,_,BE hs,rfl⟩
theorem HJ (s:List UInt8):Ro s=if zP (qA s).2 (qA s).1 then some (if(qA s).2 then-(xw (qA s).1:Int)else(xw (qA s).1:Int))else none:=by
 cases s with
 |nil=>rfl
 |cons c s=>
  rw[Q8];rw[xj];by_cases hc:c=45
  ·rw[if_pos hc,if_pos hc];simp
  ·rw[if_neg hc,if_neg hc];simp
theorem BF {u v:Nat} (hu:u≠0) (hv:v<1000000000):J3 (v+1000000000*u)=J3 u++xq 9 v:=by
 obtain⟨m,hm⟩:∃m,Lr u=m+1:=⟨Lr u-1,by have:=xy u;omega⟩;have h1:=Xo u;rw[hm]at h1;have h2:10^m≤u:=by
  rcases aP u (10^m)with h|h
  ·exfalso;rcases m with _|m
   ·rw[aN]at h;omega
   ·have:=(qR m u).2 h;omega
  ·exact h
 have e1:10^(m+9)=10^m*1000000000:=by rw[aX]
 have e2:10^(m+9+1)=10^(m+1)*1000000000:=by rw[show m+9+1=m+1+9 by omega,aX]
 have h3:10^(m+9)≤v+1000000000*u:=by rw[e1];have:=aR 1000000000 h2;omega
 have h4:v+1000000000*u<10^(m+9+1):=by rw[e2];have:(u+1)*1000000000≤10^(m+1)*1000000000:=aR _ h1;omega
 rw[←jb h3 h4,show m+9+1=m+1+9 by omega,jR];have e3:(v+1000000000*u)/10^9=u:=by simp only[aL];omega
 have e4:xq 9 (v+1000000000*u)=xq 9 v:=vL _ _ _ (by simp only[aL];omega);rw[e3,e4,jb h2 h1]
theorem XA {v:Nat} (hv:v<1000000000):Lr v≤9:=(qR 8 v).2 (by simpa using hv)
theorem Tn (c:UInt8):∀n,Ls [c] n=aC n c
 |0=>rfl
 |n+1=>by rw[Ls,Tn c n];rfl
theorem BG {v:Nat} (hv:v<1000000000):Ls [48] (9-(J3 v).length)++J3 v=xq 9 v:=by
 have h1:=XA hv;have h2:=Xo v;rw[Tn,Lv,qZ v];have:=Vu (Lr v) (9-Lr v) v h2;rw[show 9-Lr v+Lr v=9 by omega]at this;exact this.symm
theorem w6 (a b:List UInt8):qp (a++b)=qp a++qp b:=by simp[qp]
theorem qu (a:List UInt8):(qp a).length=a.length:=by simp[qp]
theorem Wh {s:List UInt8} {i:Nat} (h:i<s.length):nth [] (qp s) i=[.int .u8 ((s[i].toNat:Nat):Int)]:=by
 rw[qI];simp[qp,h]
theorem M8 {s:List UInt8} {i:Nat} (h:i<s.length):cut (nth [] (qp s) i) 0 1 [.int .u8 ((s[i].toNat:Nat):Int)]:=by
 rw[Wh h];exact⟨rfl,by simp⟩
theorem Fe {l:List Nat} (hz:l=[]∨l.getLast?≠some 0) {k:Nat} (hk:k<l.length):val (l.drop k)≠0:=by
 have h1:(l.drop k).getLast?≠some 0:=by
  rw[List.getLast?_drop,if_neg (by omega)];rcases hz with h|h
  ·rw[h]at hk;simp at hk
  ·exact h
 have h2:l.drop k≠[]:=fun e=>by have:=congrArg W0 e;rw[aB,az]at this;omega
 have:=Qt (a:=[]) (b:=l.drop k) Limbs.nil h1 h2 (ay.2 h2);have e:val []=0:=rfl;rw[e]at this;omega
theorem Q3 {l:List Nat} {k:Nat} (hk:k<l.length):val (l.drop k)=l[k]+1000000000*val (l.drop (k+1)):=by
 rw[List.drop_eq_getElem_cons hk];rfl
theorem To {l:List Nat} (hl:Limbs l) {k:Nat} (hk:k<l.length):(J3 (val (l.drop k))).length≤9*l.length:=by
 have h1:=qO (hl.drop k);rw[aB,Wj]at h1;obtain⟨m,hm⟩:∃m,9*(l.length-k)=m+1:=⟨9*(l.length-k)-1,by omega⟩;rw[hm]at h1;have:=zh h1;omega
theorem Vs (z:Int):(sgT z).length≤1:=by unfold sgT;split<;>simp
theorem Ff (z:Int) (hz:(lim z.natAbs).length≤10000000):qf CC 237 [qJ z] [.c (.str (z8 z))]:=by
 have a2:=qe z.natAbs;have hlv:=qj z.natAbs;have a5:=vh (n:=z.natAbs);have a1:=zr z.natAbs;rw[qm];generalize hl:lim z.natAbs=l at *;have hsg:=Vs z;refine qg (C:=CC) (anns:=wB (fun _=>⟨[.slot 5 (.int .i64 0),.bld 4 76 45],[],fun _ ds=>∃k:Nat,k<l.length∧ds=[.int .i64 ((k:Int)-1),.sl (qp (sgT z++J3 (val (l.drop k))))],fun ds=>(toI (nth .undef ds 0)+1).toNat⟩)
  7 ⟨[.bld 4 76 46],[],fun _ ds=>ds=[.sl (qp (sgT z))],fun _=>0⟩) mixedT Tryz.func237 ?_
 rw[EZ];simp only[T1,qh];have h0:(((l.length:Nat):Int)==0)=decide (z.natAbs=0):=by rw[Aw];simp only[beq_iff_eq,decide_eq_true_eq];rw[←a5];cases l<;>simp;omega
 rw[h0];refine brd (fun h=>?_) (fun hne=>⟨?_,?_⟩)
 ·have:z=0:=by omega
  subst this;rw[zO (by omega)];exact congrArg (fun s=>[Bx (Hu s)]) dec_0.symm
 ·refine jm (fun h=>⟨by unfold room;omega,?_⟩) (fun h=>?_)
  ·unfold sgT;rw[h];rfl
  ·unfold sgT;rw[h];rfl
 have a6:0<l.length:=by
  rcases aS l.length with h|h
  ·exact absurd (a5.1 (au h)) hne
  ·exact h
 intro es he;simp only[aJ,D.sl.injEq,and_true]at he;subst he;have w1:Hy .i64 ((l.length:Int)-1)=((l.length-1:Nat):Int):=by rw[qK (by omega) (by omega)];omega
 have w2:Hy .i64 ((l.length:Int)-2)=((l.length-1:Nat):Int)-1:=by rw[qK (by omega) (by omega)];omega
 rw[w1,w2,P1];have a0:l.length-1<l.length:=by omega
 have hb1:=a2.get a0;have e0:val (l.drop (l.length-1))=l[l.length-1]:=by rw[Q3 a0,show l.length-1+1=l.length by omega,aH];rfl
 have w3:Hy .u64 ((l[l.length-1]:Nat):Int)=((l[l.length-1]:Nat):Int):=x9 (by omega) (by omega);have hd1:=To a2 a0;rw[e0]at hd1;refine⟨⟨by omega,by omega,qt a0⟩,_,qw a0,?_⟩;rw[w3];refine⟨_,kv _ (by omega),?_,⟨l.length-1,a0,?_⟩,?_⟩
 ·unfold room;rw[qu,qu];omega
 ·rw[e0,w6]
 rintro n es ⟨k,hk,he⟩;simp only[aJ,Hx,D.sl.injEq,true_and,and_true]at he;obtain⟨rfl,rfl⟩:=he;refine brd (fun h=>?_) (fun h=>?_)
 ·obtain⟨j,rfl⟩:∃j,k=j+1:=⟨k-1,by omega⟩;have hj:j<l.length:=by omega
  have a3:=a2.get hj;have wj:(((j+1:Nat):Int)-1)=(j:Int):=by omega
  have wu:Hy .u64 ((l[j]:Nat):Int)=((l[j]:Nat):Int):=x9 (by omega) (by omega);have hdl:(J3 l[j]).length≤9:=by rw[Lv];exact XA a3
  have w9:Hy .i64 (9-((J3 l[j]).length:Int))=((9-(J3 l[j]).length:Nat):Int):=by rw[qK (by omega) (by omega)];omega
  have wn:Hy .i64 ((j:Int)-1)=(j:Int)-1:=qK (by omega) (by omega);rw[wj,P1];refine⟨⟨by omega,by omega,qt hj⟩,_,qw hj,?_⟩;rw[wu];refine⟨_,kv _ (by omega),?_⟩;rw[w9,wn];have hdk:=To a2 hk;have a4:qp (sgT z++J3 (val (l.drop (j+1))))++qp (Ls [48] (9-(J3 l[j]).length))++qp (J3 l[j])=qp (sgT z++J3 (val (l.drop j))):=by rw[←w6,←w6,aF,BG a3,aF,←BF (Fe a1 hk) a3,←Q3 hj]
  have hrl:(Ls [48] (9-(J3 l[j]).length)).length≤9:=by rw[Lib.repeatL_length];simp
  refine⟨_,yC [48] _ (by simp only[aw,az];omega) (by omega),?_,?_,?_,?_⟩
  ·unfold room;rw[qu,qu,ax];omega
  ·unfold room;rw[ax,qu,qu,qu,ax];omega
  ·rw[a4];exact⟨j,hj,rfl⟩
  ·simp only[nth,toI];omega
 ·have hk0:k=0:=by omega
  subst hk0;rw[aD,hlv];refine⟨⟨fun e=>?_,ko _⟩,?_⟩
  ·have:=congrArg W0 e;rw[qu,ax,az]at this;exact kM z.natAbs (au (by omega))
  ·rw[kn];rfl
end Eng
end

section
namespace Eng
open Go Go.Proofs
set_option maxRecDepth 100000
def F9:Option Int→List A
 |none=>[.ag [.bool false,.sl []],.c (.int .i64 2)]
 |some z=>[qJ z,.c (.int .i64 0)]
theorem xI {neg:Bool} {s:List UInt8}:zP neg s=true↔s≠[]∧s.all isD=true∧(nth 0 s 0=48→s.length=1∧neg=false):=by
 cases s with
 |nil=>simp[zP]
 |cons c s=>
  have e:nth 0 (c::s) 0=c:=rfl;simp only[zP,e,Bool.and_eq_true,Bool.or_eq_true,decide_eq_true_eq,List.isEmpty_iff,Bool.not_eq_true',aw,ne_eq,reduceCtorEq,not_false_iff,true_and];refine and_congr_right fun _=>?_
  constructor
  ·rintro(h|h) h2
   ·exact absurd h2 h
   ·exact⟨by simp[h.1],h.2⟩
  ·intro h;by_cases hc:c=48
   ·obtain⟨h1,h2⟩:=h hc;exact .inr ⟨au (by omega),h2⟩
   ·exact .inl hc
theorem Tp {s:List UInt8} (h:¬zP (qA s).2 (qA s).1=true):Ro s=none:=by
 rw[HJ,if_neg h]
theorem AQ (c:UInt8):(((c.toNat:Nat):Int)==48)=decide (c=48):=by
 rw[Aw];simp only[beq_iff_eq,decide_eq_true_eq];constructor
 ·intro h;apply ba.1;have:(48:UInt8).toNat=48:=rfl;omega
 ·rintro rfl;rfl
theorem Q4 {s:List UInt8} {k:Nat} (hk:k<s.length):(s.take (k+1)).all isD=((s.take k).all isD&&isD s[k]):=by
 rw[List.take_succ_eq_append_getElem hk,List.all_append];simp
theorem Vt {s:List UInt8} {k:Nat} (hk:k<s.length) (h:isD s[k]=false):¬s.all isD=true:=fun h2=>by
 have:=aI.1 h2 s[k] (aG hk);rw[h]at this;simp at this
def jW (b:List UInt8) (n:Int):List UInt8:=(b.take n.toNat).drop (n-9).toNat
theorem Rg {b:List UInt8} {n:Int}:(jW b n).length≤9:=by
 unfold jW;rw[aB,aA];omega
theorem Rh {s:List UInt8} (hs:s.length≤60000):qf CC 245 [.c (.str s)] (F9 (Ro s)):=by
 have hbl:=kB s;have ae:=fun h=>Tp (s:=s) h
 have a9:=HJ s;have hcp:=Tm (s:=s) (by omega);generalize (qA s).1=B at *;generalize (qA s).2=neg at *;have a0:¬zP neg B=true→[Dd [F0 false,Hv []],Bx (F2 .i64 2)]=F9 (Ro s):=fun h=>by rw[ae h];rfl
 refine qg (C:=CC) (anns:=wB (Gl
  ⟨[.slot 40 (.int .i64 0)],[],fun _ ds=>∃k:Nat,k≤B.length∧ds=[.int .i64 (k:Int)]∧(B.take k).all isD=true,fun ds=>(B.length-toI (nth .undef ds 0)).toNat⟩
  ⟨[.own 7 87 1,.slot 8 (.int .i64 0)],[],fun _ ds=>∃(l:List Nat) (e:Int),ds=[.sl (raw l),.int .i64 e]∧Limbs l∧e≤B.length∧ -9<e∧val l=xw (B.drop e.toNat)∧(9*l.length:Int)=B.length-e,fun ds=>(toI (nth .undef ds 1)).toNat⟩
  ⟨[.slot 9 (.int .u32 0),.slot 69 (.int .i64 0)],[.own 7 87 1,.slot 8 (.int .i64 0)],fun gs ds=>∃i:Nat,i≤(jW B (toI (nth .undef gs 1))).length∧ds=[.int .u32 ((xw ((jW B (toI (nth .undef gs 1))).take i):Nat):Int),.int .i64 (i:Int)],fun ds=>(9-toI (nth .undef ds 1)).toNat⟩)
  4 ⟨[],[.slot 4 (.string ⟨#[]⟩),.slot 5 (.bool false)],fun _ _=>B≠[]∧(nth 0 B 0=48→B.length=1∧neg=false),fun _=>0⟩) mixedT Tryz.func245 ?_
 rw[PU];simp only[T1];refine⟨_,_,hcp,brb (fun h=>?_) (fun h=>?_),?_⟩
 ·have:B=[]:=by simpa using h
  exact a0 fun h=>(xI.1 h).1 this
 ·have a8:B≠[]:=by simpa using h
  have hpos:=ay.2 a8;refine brd (fun h=>absurd h (by omega)) (fun _=>⟨⟨by omega,by omega⟩,?_⟩);have e0:Pl 0=0:=rfl;rw[e0,AQ];refine brd (fun a6=>brd (fun h1=>?_) (fun h1=>jm (fun hn=>?_) (fun hn=>⟨a8,fun _=>⟨by omega,hn⟩⟩))) (fun a6=>⟨a8,fun h=>absurd h a6⟩)
  ·exact a0 fun h=>by have:=((xI.1 h).2.2 a6).1;omega
  ·exact a0 fun h=>by have:=((xI.1 h).2.2 a6).2;rw[hn]at this;simp at this
 rintro⟨a8,a6⟩;refine⟨⟨0,by omega,rfl,by simp⟩,?_⟩;rintro n ⟨k,hk,he,a5⟩;simp only[aJ,Hx,true_and,and_true]at he;subst he;refine brd (fun h=>?_) (fun h=>?_)
 ·have ad:k<B.length:=by omega
  rw[P1,qn 0 ad];refine⟨⟨by omega,by omega⟩,brd (fun h1=>?_) (fun h1=>⟨⟨by omega,by omega⟩,brd (fun h2=>?_) (fun h2=>⟨⟨k+1,by omega,?_,?_⟩,?_⟩)⟩)⟩
  ·exact a0 fun h=>Vt ad (by simp[isD];omega) (xI.1 h).2.1
  ·exact a0 fun h=>Vt ad (by simp[isD];omega) (xI.1 h).2.1
  ·rw[qK (by omega) (by omega)];rfl
  ·rw[Q4 ad,a5,Bool.true_and,jc];omega
  ·rw[qK (by omega) (by omega)];simp only[nth,toI];omega
 have hk0:k=B.length:=by omega
 subst hk0;rw[av]at a5;have hok:zP neg B=true:=xI.2 ⟨a8,a5,a6⟩;rw[if_pos hok]at a9;refine⟨⟨[],B.length,rfl,Limbs.nil,by omega,by omega,?_,by simp⟩,?_⟩
 ·rw[P1,aH];rfl
 rintro es n ⟨l,e,he,hl,heB,he9,hv,hlen⟩;simp only[aJ,Hx,D.sl.injEq,true_and,and_true]at he;obtain⟨rfl,rfl⟩:=he;refine brd (fun h=>?_) (fun h=>?_)
 ·have w9:Hy .i64 (n-9)=n-9:=qK (by omega) (by omega);rw[w9,AM,P1];have hcl:=Rg (b:=B) (n:=n);have hce:W2 (n-9).toNat (W1 n.toNat B)=jW B n:=rfl;have hcv:val (l++[xw (jW B n)])=xw (B.drop (n-9).toNat):=Rs (e:=n.toNat) (by omega) (by omega) (by omega) hv _ (by omega);have af:(jW B n).all isD=true:=BO (Tu a5 _) _;have hcb:xw (jW B n)<1000000000:=aM (Vw af hcl) (by decide);rw[hce];refine⟨⟨by omega,by omega,by omega⟩,by unfold room;omega,⟨0,by omega,rfl⟩,?_⟩;rintro n1 n2 ⟨i,hi,he⟩;have hI:toI (nth D.undef [Hv (raw l),F2 .i64 n] 1)=n:=rfl;rw[hI]at hi he;simp only[aJ,Hx,true_and,and_true]at he;obtain⟨rfl,rfl⟩:=he;rw[qu];refine brd (fun h2=>?_) (fun h2=>?_)
  ·have a7:i<(jW B n).length:=by omega
   have ah:=aI.1 af _ (aG a7);have hdr:=jc.1 ah;have hx:xw ((jW B n).take i)<100000000:=aM (Vw (n:=8) (Tu af i) (by rw[aA];omega)) (by decide);have hst:=yf a7;rw[P1];refine⟨⟨by omega,by omega,?_⟩,_,M8 a7,⟨i+1,by rw[hI];omega,?_⟩,?_⟩
   ·rw[Wh a7];rfl
   ·rw[hI,hst];have a1:Hy .u32 (10*((xw ((jW B n).take i):Nat):Int))=((10*xw ((jW B n).take i):Nat):Int):=by rw[zR (by omega) (by omega)];omega
    have a2:Hy .u8 (((jW B n)[i].toNat:Int)-48)=((dv (jW B n)[i]:Nat):Int):=by rw[show Hy .u8 (((jW B n)[i].toNat:Int)-48)=(((jW B n)[i].toNat:Int)-48)%256 from rfl];unfold dv;omega
    have a3:=BL ah;have a4:Hy .u32 ((dv (jW B n)[i]:Nat):Int)=((dv (jW B n)[i]:Nat):Int):=zR (by omega) (by omega);rw[a1,a2,a4,zR (by omega) (by omega),qK (by omega) (by omega)];rfl
   ·rw[qK (by omega) (by omega)];simp only[nth,toI];omega
  ·have a7:i=(jW B n).length:=by omega
   subst a7;rw[av];have hra:raw l++[[F2 .u32 ((xw (jW B n):Nat):Int)]]=raw (l++[xw (jW B n)]):=by rw[qV];rfl
   refine⟨⟨by unfold room;rw[qh];omega,?_⟩,⟨l++[xw (jW B n)],n-9,by rw[hra],hl.append (Limbs.cons hcb Limbs.nil),by omega,by omega,hcv,?_⟩,?_⟩
   ·intro e he;simp only[List.mem_cons,List.not_mem_nil,or_false]at he;rw[he];rfl
   ·rw[ax];simp only[aw,az];omega
   ·simp only[nth,toI];omega
 ·have hn0:n.toNat=0:=by omega
  rw[hn0,aD]at hv;have hz:=qU neg hl (by omega) (z:=if neg then-(xw B:Int)else(xw B:Int)) (by rw[hv]);rw[qm]at hz;refine⟨_,_,up hz,?_⟩;rw[a9];rfl
def CJ:Option Rat→List A
 |none=>[.ag [.bool false,.sl [],.bool false,.sl []],.c (.int .i64 2)]
 |some q=>[xk q,.c (.int .i64 0)]
theorem Gf {a b c k:Nat} (h:k=a*b*c):10^k=((10^a)^b)^c:=by rw[h,aW,aW]
theorem AR (k:Nat) (hk:k=9*100*10):JY=10^k:=by
 rw[Gf hk];rfl
theorem CK {z:Int} {n:Nat} (h:z.natAbs<10^n) (hn:n≤8000):Sm z:=by
 obtain⟨k,hk⟩:∃k,k=9*100*10:=⟨_,rfl⟩;unfold Sm;rw[AR k hk];exact aM h (aK (by omega) (by omega))
theorem Fg {s:List UInt8} {z:Int} (h:Ro s=some z) (hs:s.length≤8000):Sm z:=CK (Fi h) hs
end Eng
end

section
namespace Eng
open Go Go.Proofs
set_option maxRecDepth 100000
theorem BH {l:List Nat} (hl:Limbs l) {k:Nat} (hk:k<l.length):xq 9 l[k]++xq (9*k) (val (l.take k))=xq (9*(k+1)) (val (l.take (k+1))):=by
 have h1:val (l.take k)<10^(9*k):=by have:=qO (hl.take k);rw[aA,Nat.min_eq_left (by omega),Wj]at this;exact this
 have h2:val (l.take (k+1))=val (l.take k)+10^(9*k)*l[k]:=by have:=qF l k;rw[Wj,List.getD_eq_getElem?_getD,List.getElem?_eq_getElem hk,Option.getD_some]at this;exact this
 have h3:val (l.take (k+1))/10^(9*k)=l[k]:=by rw[h2,Nat.add_mul_div_left _ _ (aQ (by omega)),aT h1,Nat.zero_add]
 have h4:val (l.take (k+1))%10^(9*k)=val (l.take k)%10^(9*k):=by rw[h2,Nat.add_mul_mod_self_left]
 rw[show 9*(k+1)=9+9*k by omega,jR (9*k) 9,h3,vL _ _ _ h4]
theorem Fh (z:Int) (hz:(lim z.natAbs).length≤10000000):qf CC 238 [qJ z] [.c (.str (z8 z))]:=by
 have a4:=qe z.natAbs;have ad:=qj z.natAbs;have a7:=vh (n:=z.natAbs);generalize hl:lim z.natAbs=l at *;refine qg (anns:=Gl
  ⟨[.slot 3 (.string ⟨#[]⟩),.slot 4 (.int .i64 0)],[],fun _ ds=>∃k:Nat,k≤l.length∧ds=[.str (xq (9*k) (val (l.take k))),.int .i64 (k:Int)],fun ds=>(l.length-toI (nth .undef ds 1)).toNat⟩
  ⟨[.slot 3 (.string ⟨#[]⟩),.slot 5 (.int .u32 0),.slot 6 (.int .i64 0)],[.slot 3 (.string ⟨#[]⟩),.slot 4 (.int .i64 0),.slot 5 (.int .u32 0)],
    fun gs ds=>∃(k j:Nat) (v:Nat),j≤9∧gs=[.str (xq (9*k) (val (l.take k))),.int .i64 (k:Int),.int .u32 (v:Int)]∧ds=[.str (xq j v++xq (9*k) (val (l.take k))),.int .u32 ((v/10^j:Nat):Int),.int .i64 (j:Int)],
    fun ds=>(9-toI (nth .undef ds 2)).toNat⟩
  ⟨[.slot 3 (.string ⟨#[]⟩)],[],fun _ ds=>∃j:Nat,j+1≤9*l.length∧ds=[.str (xq (j+1) z.natAbs)]∧z.natAbs<10^(j+1),fun ds=>(toS (nth .undef ds 0)).length⟩) mixedT Tryz.func238 ?_
 rw[qm,hl,Fa];simp only[T1,qh];have h0:(((l.length:Nat):Int)==0)=decide (z.natAbs=0):=by rw[Aw];simp only[beq_iff_eq,decide_eq_true_eq];rw[←a7];cases l<;>simp;omega
 rw[h0];refine brd (fun h=>?_) (fun hne=>?_)
 ·have:z=0:=by omega
  subst this;rw[zO (by omega)];exact congrArg (fun s=>[Bx (Hu s)]) dec_0.symm
 have a8:0<l.length:=by
  rcases aS l.length with h|h
  ·exact absurd (a7.1 (au h)) hne
  ·exact h
 refine⟨⟨0,by omega,rfl⟩,?_⟩;rintro s n ⟨k,hk,he⟩;simp only[aJ,D.str.injEq,Hx,true_and,and_true]at he;obtain⟨rfl,rfl⟩:=he;refine brd (fun h=>?_) (fun h=>?_)
 ·have a0:k<l.length:=by omega
  have hw:Hy .i64 ((k:Int)+1)=((k+1:Nat):Int):=by rw[qK (by omega) (by omega)];omega
  rw[P1];refine⟨⟨by omega,by omega,qt a0⟩,_,qw a0,⟨k,0,l[k],by omega,rfl,by simp[xq]⟩,?_⟩;rintro s1 n2 n3 ⟨k',j,v,hj,hg,he⟩;simp only[aJ,D.str.injEq,Hx,true_and,and_true]at hg he;obtain⟨_,a6,hv⟩:=hg;have a6:k'=k:=by omega
  have hv:v=l[k]:=by omega
  subst a6 hv;obtain⟨rfl,rfl,rfl⟩:=he;have hvb:l[k']<1000000000:=a4.get a0;refine brd (fun h2=>?_) (fun h2=>?_)
  ·have hq1:l[k']/10^(j+1)=l[k']/10^j/10:=by rw[aO,Nat.div_div_eq_div_mul]
   have hqle:l[k']/10^j≤l[k']:=Nat.div_le_self _ _;have hdc:=zo j l[k'];have a1:∀ds:List D,ds=[.str (xq (j+1) l[k']++xq (9*k') (val (l.take k'))),.int .u32 ((l[k']/10^(j+1):Nat):Int),.int .i64 ((j+1:Nat):Int)]→
    ∃(k j:Nat) (v:Nat),j≤9∧[Hu (xq (9*k') (val (l.take k'))),F2 .i64 (k':Int),F2 .u32 (l[k']:Int)]=[.str (xq (9*k) (val (l.take k))),.int .i64 (k:Int),.int .u32 (v:Int)]∧ds=[.str (xq j v++xq (9*k) (val (l.take k))),.int .u32 ((v/10^j:Nat):Int),.int .i64 (j:Int)]:=
    fun ds h=>⟨k',j+1,l[k'],by omega,rfl,h⟩
   rw[hq1,hdc]at a1;generalize l[k']/10^j=q at *;have e1:U3 (q:Int) 10=((q%10:Nat):Int):=by rw[V1 (by omega)];omega
   have e2:Ts (q:Int) 10=((q/10:Nat):Int):=by rw[U0 (by omega)];omega
   have e3:Hy .u32 (48+((q%10:Nat):Int))=((48+q%10:Nat):Int):=by rw[zR (by omega) (by omega)];omega
   have e4:Hy .i32 ((48+q%10:Nat):Int)=((48+q%10:Nat):Int):=by simp only[Hy,IntKind.bits,IntKind.signed];simp;omega
   have e5:Hy .u32 ((q/10:Nat):Int)=((q/10:Nat):Int):=zR (by omega) (by omega);have e6:Hy .i64 ((j:Int)+1)=((j+1:Nat):Int):=by rw[qK (by omega) (by omega)];omega
   rw[e1,e2,e3,e4,e5,e6,P1];refine⟨by omega,⟨by omega,by omega⟩,?_,by omega,a1 _ rfl,by simp only[nth,toI];omega⟩;unfold room;rw[ax,qN,qN];omega
  ·have:j=9:=by omega
   subst this;rw[hw];refine⟨⟨k'+1,by omega,?_⟩,by simp only[nth,toI];omega⟩;rw[BH a4 a0]
 ·have a0:k=l.length:=by omega
  subst a0;rw[av,ad];have ae:z.natAbs<10^(9*l.length):=by have:=qO a4;rw[ad,Wj]at this;exact this
  obtain⟨m,hm⟩:∃m,9*l.length=m+1:=⟨9*l.length-1,by omega⟩;rw[hm]at ae ⊢;refine⟨⟨m,by omega,rfl,ae⟩,?_⟩;rintro s ⟨j,hj,he,a9⟩;simp only[aJ,D.str.injEq,and_true]at he;subst he;have a3:z.natAbs/10^j%10<10:=Nat.mod_lt _ (by omega);rw[zo];simp only[aw,qN];refine⟨⟨by omega,by omega⟩,?_⟩;have e0:nth (0:UInt8) (aZ (48+z.natAbs/10^j%10)::xq j z.natAbs) (Pl 0)=aZ (48+z.natAbs/10^j%10):=rfl;rw[e0,Q5 a3];have e1:((((48+z.natAbs/10^j%10:Nat)):Int)==48)=decide (z.natAbs/10^j%10=0):=by rw[Aw];simp only[beq_iff_eq,decide_eq_true_eq];omega
  rw[e1];have hq:z.natAbs/10^j<10:=by rw[Nat.div_lt_iff_lt_mul (aQ (by omega)),←Nat.pow_succ'];exact a9
  refine brd (fun h2=>?_) (fun h2=>?_)
  ·have hq0:z.natAbs/10^j=0:=by generalize z.natAbs/10^j=q at *;omega
   have a2:z.natAbs<10^j:=by
    rcases aP z.natAbs (10^j)with h|h
    ·exact h
    ·have:=Nat.div_pos h (aQ (by omega));rw[hq0]at this;omega
   rcases j with _|j
   ·rw[aN]at a2;omega
   refine⟨⟨by omega,by omega,by omega⟩,⟨j,by omega,?_,a2⟩,?_⟩
   ·rw[P1,aE (by simp[qN])];rfl
   ·rw[P1,aE (by simp[qN])];simp[nth,toS,qN]
  ·have hge:10^j≤z.natAbs:=by
    rcases aP z.natAbs (10^j)with h|h
    ·rw[aT h]at h2;omega
    ·exact h
   have a5:=jb hge a9;rw[←zo,a5];have hlen:(J3 z.natAbs).length=j+1:=by rw[←a5,qN]
   refine jm (fun h3=>?_) (fun h3=>?_)
   ·have h3:=of_decide_eq_true h3;refine⟨by unfold room;omega,?_⟩;unfold z8 sgT;rw[decide_eq_true h3];rfl
   ·have h3:=of_decide_eq_false h3;unfold z8 sgT;rw[decide_eq_false h3];rfl
theorem Tq:∀m,pad m 0=aC m 0
 |0=>rfl
 |m+1=>by rw[vN,Nat.zero_mod,Nat.zero_div,Tq m];rfl
theorem BI {l:List Nat} (b:Bool) (hl:Limbs l) (hr:l.length≤1073741824) {z:Int} (hz:z=if b then-(val l:Int)else(val l:Int)):
 qf CC 128 [.c (.bool b),.c (.sl (raw l))] [qJ z]:=by
 have h:=Wc b hl hr;have e1:z.natAbs=val l:=by rw[hz];split<;>omega
 have e2:decide (z<0)=(b&&decide (0<val l)):=by
  rw[hz];cases b
  ·simp
  ·simp
 rw[qm,e1,e2];exact h
theorem M9 (s:List UInt8) (hs:s≠[]):(((nth 0 s 0).toNat:Int)==45)=(qA s).2:=by
 match s,hs with
 |c::s,_=>
  have e:nth 0 (c::s) 0=c:=rfl;rw[e,xj];by_cases hc:c=45
  ·subst hc;rfl
  ·rw[if_neg hc];have:c.toNat≠45:=fun h=>hc (ba.1 h)
   simp only[beq_eq_false_iff_ne,ne_eq];omega
theorem Ri {s:List UInt8} (h:(qA s).2=true):s=45::(qA s).1:=by
 match s,h with
 |c::s,h=>
  rw[xj]at h ⊢;by_cases hc:c=45
  ·rw[if_pos hc,hc]
  ·rw[if_neg hc]at h;simp at h
theorem Rj {s:List UInt8} (h:(qA s).2=false):(qA s).1=s:=by
 match s,h with
 |[],_=>rfl
 |c::s,h=>
  rw[xj]at h ⊢;by_cases hc:c=45
  ·rw[if_pos hc]at h;simp at h
  ·rw[if_neg hc]
theorem Rk {s:List UInt8} (hs:s.length≤60000):qf CC 259 [.c (.str s)] (F9 (Ro s)):=by
 have aj:=kB s;have ai:=fun h=>Tp (s:=s) h
 have ae:=HJ s;have a9:=M9 s;have an:= @Ri s;have af:= @Rj s;generalize hB:(qA s).1=B at *;generalize hN:(qA s).2=neg at *;have a3:¬zP neg B=true→[Dd [F0 false,Hv []],Bx (F2 .i64 2)]=F9 (Ro s):=fun h=>by rw[ai h];rfl
 refine qg (C:=CC) (anns:=wB (wB (JW
  ⟨[.own 5 42 1,.slot 6 (.int .i64 0)],[],fun _ ds=>∃i:Nat,i≤B.length∧ds=[.sl (raw (pad (B.length/9+1) (xw (B.take i)*10^(B.length-i)))),.int .i64 (i:Int)]∧(B.take i).all isD=true,fun ds=>(B.length-toI (nth .undef ds 1)).toNat⟩
  ⟨[.slot 8 (.int .u32 0),.slot 9 (.int .i64 0)],[.own 5 42 1,.slot 6 (.int .i64 0),.slot 7 (.int .i64 0)],fun gs ds=>∃j:Nat,(j:Int)≤toI (nth .undef gs 2)%9∧ds=[.int .u32 ((10^j:Nat):Int),.int .i64 (j:Int)],fun ds=>(9-toI (nth .undef ds 1)).toNat⟩)
  4 ⟨[.slot 4 (.string ⟨#[]⟩)],[],fun _ ds=>ds=[.str B],fun _=>0⟩)
  6 ⟨[],[.slot 4 (.string ⟨#[]⟩)],fun _ _=>B≠[]∧(nth 0 B 0=48→B.length=1∧neg=false),fun _=>0⟩) mixedT Tryz.func259 ?_
 rw[PV];simp only[T1];refine⟨brd (fun h=>⟨⟨by omega,by omega⟩,?_⟩) (fun h=>?_),?_⟩
 ·have a8:s≠[]:=fun e=>by rw[e]at h;simp at h
  have e0:Pl 0=0:=rfl;rw[e0,a9 a8];refine brb (fun h2=>⟨⟨by omega,by omega,by omega⟩,?_⟩) (fun h2=>?_)
  ·have:=an h2;rw[P1,av]
   conv=>lhs;rw[this]
   rfl
  ·rw[af h2]
 ·have:s=[]:=au (by omega);subst this;have:B=[]:=by rw[←hB];rfl
  rw[this]
 intro s1 he;simp only[aJ,D.str.injEq,and_true]at he;subst he;refine⟨brb (fun h=>?_) (fun h=>?_),?_⟩
 ·have:s1=[]:=by simpa using h
  exact a3 fun h=>(xI.1 h).1 this
 ·have a8:s1≠[]:=by simpa using h
  have hlp:=ay.2 a8;refine brd (fun h=>absurd h (by omega)) (fun _=>⟨⟨by omega,by omega⟩,?_⟩);have e0:Pl 0=0:=rfl;rw[e0,AQ];refine brd (fun a0=>brb (fun h1=>?_) (fun h1=>⟨a8,fun _=>?_⟩)) (fun a0=>⟨a8,fun h=>absurd h a0⟩)
  ·have h1:s≠[48]:=by simpa using h1
   refine a3 fun h=>?_
   obtain⟨h2,h3⟩:=(xI.1 h).2.2 a0;have h4:=af h3;refine h1 ?_;rw[←h4]
   match s1,h2,a0 with
   |[c],_,a0=>have:nth 0 [c] 0=c:=rfl;rw[this]at a0;rw[a0]
  ·have h1:s=[48]:=by simpa using h1
   have e1:s1=[48]:=by rw[←hB,h1];rfl
   have e2:neg=false:=by rw[←hN,h1];rfl
   rw[e1,e2];exact⟨rfl,rfl⟩
 rintro⟨a8,a0⟩;have hlp:=ay.2 a8;have e9:Hy .i64 (Hy .i64 (Ts (s1.length:Int) 9)+1)=((s1.length/9+1:Nat):Int):=by rw[U0 (by omega),qK (n:=(s1.length:Int)/9) (by omega) (by omega),qK (by omega) (by omega)];omega
 rw[e9,P1];have hm:s1.length<9*(s1.length/9+1):=by omega
 generalize hM:s1.length/9+1=m at *;refine⟨by omega,⟨by omega,by omega,by unfold room;omega⟩,⟨0,by omega,?_,by simp⟩,?_⟩
 ·have:xw (s1.take 0)=0:=rfl;rw[this,Nat.zero_mul,Tq,←xe];rfl
 rintro es n ⟨i,hi,he,a1⟩;simp only[aJ,Hx,D.sl.injEq,true_and,and_true]at he;obtain⟨rfl,rfl⟩:=he;refine brd (fun h=>?_) (fun h=>?_)
 ·have ad:i<s1.length:=by omega
  rw[P1,qn 0 ad];refine⟨⟨by omega,by omega⟩,brd (fun h1=>?_) (fun h1=>⟨⟨by omega,by omega⟩,brd (fun h2=>?_) (fun h2=>?_)⟩)⟩
  ·exact a3 fun h=>Vt ad (by simp[isD];omega) (xI.1 h).2.1
  ·exact a3 fun h=>Vt ad (by simp[isD];omega) (xI.1 h).2.1
  have ak:isD s1[i]=true:=jc.2 (by omega);have hdr:=jc.1 ak;have hd:=BL ak;have ar:Hy .i64 (Hy .i64 ((s1.length:Int)-1)-(i:Int))=((s1.length-1-i:Nat):Int):=by rw[qK (n:=(s1.length:Int)-1) (by omega) (by omega),qK (by omega) (by omega)];omega
  obtain⟨t,ht⟩:∃t,t=s1.length-1-i:=⟨_,rfl⟩;rw[←ht]at ar;simp only[ar];refine⟨⟨0,?_,rfl⟩,?_⟩
  ·show((0:Nat):Int)≤((t:Nat):Int)%9;omega
  rintro n1 n2 ⟨j,hj,he⟩;have hj:(j:Int)≤((t:Nat):Int)%9:=hj;simp only[aJ,Hx,true_and,and_true]at he;obtain⟨rfl,rfl⟩:=he;have em:U3 (t:Int) 9=((t%9:Nat):Int):=by rw[V1 (by omega)];omega
  simp only[em];refine⟨by omega,brd (fun h3=>?_) (fun h3=>?_)⟩
  ·have hp:10^(j+1)≤10^8:=aK (by omega) (by omega);have hp2:10^(j+1)=10^j*10:=aO ..;simp only[aL]at hp;refine⟨⟨j+1,?_,?_⟩,?_⟩
   ·show((j+1:Nat):Int)≤((t:Nat):Int)%9;omega
   ·rw[hp2,zR (by omega) (by omega),qK (by omega) (by omega)];rfl
   ·rw[qK (by omega) (by omega)];simp only[nth,toI];omega
  ·have hjt:j=t%9:=by omega
   have ed:Hy .i64 (Ts (t:Int) 9)=((t/9:Nat):Int):=by rw[U0 (by omega),qK (by omega) (by omega)];omega
   have hkm:t/9<m:=by omega
   have ev:s1.length-i=t+1:=by omega
   rw[ed,P1,ev];have hpl:=xc m (xw (s1.take i)*10^(t+1));have am:t/9<(pad m (xw (s1.take i)*10^(t+1))).length:=by omega
   have aq:9*(t/9)+j=t:=by omega
   obtain⟨ap,hlt⟩:=Rr (t/9) m (xw (s1.take i)*10^(t+1)) (dv s1[i]) j hkm (by omega) hd (by rw[aq,Nat.mul_mod_left]);have al:=Rq m (xw (s1.take i)*10^(t+1)) (t/9) am;have hst:=yf ad;rw[qh];refine⟨by omega,by omega,⟨by omega,by omega⟩,_,qw am,⟨by omega,by omega⟩,⟨by omega,by omega⟩,by omega,?_⟩;rw[al];generalize xw (s1.take i)*10^(t+1)/1000000000^(t/9)%1000000000=old at *;have hpj:10^j≤10^8:=aK (by omega) (by omega);simp only[aL]at hpj;have hx:dv s1[i]*10^j<1000000000:=by omega
   have a2:Hy .u8 ((s1[i].toNat:Int)-48)=((dv s1[i]:Nat):Int):=by rw[show Hy .u8 ((s1[i].toNat:Int)-48)=((s1[i].toNat:Int)-48)%256 from rfl];unfold dv;omega
   have a4:Hy .u32 ((dv s1[i]:Nat):Int)=((dv s1[i]:Nat):Int):=zR (by omega) (by omega);have a5:((dv s1[i]:Nat):Int)*((10^j:Nat):Int)=((dv s1[i]*10^j:Nat):Int):=by rw[Int.natCast_mul]
   rw[a2,a4,a5];generalize hX:dv s1[i]*10^j=x at *;have a6:Hy .u32 ((x:Nat):Int)=((x:Nat):Int):=zR (by omega) (by omega);have a7:Hy .u32 (((old:Nat):Int)+((x:Nat):Int))=((old+x:Nat):Int):=by rw[zR (by omega) (by omega)];omega
   rw[a6,a7,xG am,ap];have ao:xw (s1.take i)*10^(t+1)+dv s1[i]*10^(9*(t/9)+j)=xw (s1.take (i+1))*10^(s1.length-(i+1)):=by rw[aq,hst,show s1.length-(i+1)=t by omega,aO,Nat.add_mul];congr 1;rw[aU (10^t) 10,←Nat.mul_assoc,aU (xw (s1.take i)) 10]
   rw[ao,qK (by omega) (by omega)];refine⟨⟨i+1,by omega,rfl,?_⟩,by simp only[nth,toI];omega⟩;rw[Q4 ad,a1,ak];rfl
 have ad:i=s1.length:=by omega
 subst ad;rw[av]at a1;rw[av,Nat.sub_self,aN,Nat.mul_one];have hok:zP neg s1=true:=xI.2 ⟨a8,a1,a0⟩;rw[if_pos hok]at ae;have ah:s≠[]:=fun e=>by rw[e]at aj;simp at aj;exact a8 aj
 have hsl:=ay.2 ah;have hv:val (pad m (xw s1))=xw s1:=by rw[js,Wj];exact Nat.mod_eq_of_lt (Vw a1 (by omega))
 have hz:=BI neg (xH m (xw s1)) (by rw[xc];omega) (z:=if neg then-(xw s1:Int)else(xw s1:Int)) (by rw[hv]);rw[qm]at hz;have e0:Pl 0=0:=rfl;rw[e0,a9 ah];refine⟨⟨by omega,by omega⟩,_,_,hz,?_⟩;rw[ae];rfl
end Eng
end
