/- The verification conditions of functions, printed by a program (vcgen.py) and checked by the kernel. -/
import Derived.Test.YtbehlcfelmbmlaaGreatDoorTabA
import Derived.Test.YtbehlcfelmbmlaaGreatDoorLexA
import Derived.Test.YtbehlcfelmbmlaaGreatDoorCtxB
import Derived.Test.YtbehlcfelmbmlaaGreatDoorTxA
import Derived.Test.YtbehlcfelmbmlaaGreatDoorDaB
import Derived.Test.YtbehlcfelmbmlaaGreatDoorTabF
import Derived.KernelRfl
open Bool renaming eq_iff_iff→Aw, true_and→Bx
open Eng.A renaming c→Dd, ag→F0
open Eng.D renaming bool→F2, int→Hu, str→Hv, sl→Hx, fn→Hy
open Eng.D.int renaming injEq→J3
open Go.IntKind renaming wrap→J4, i64→J6, u64→J7
open Go.Lib renaming decDigits→J9, nDigits→Lm, decDigits_length→Lr
open Int renaming ofNat→Ls, toNat→Lv, ofNat_eq_natCast→No, toNat_natCast→Pl, natAbs_natCast→P1, tmod→Ts, tdiv→T1, natCast_mul→U0, natAbs_mul→U3
open List renaming length→V1, take→W0, drop→W1, length_take→W2, length_map→ad, take_length→ae, length_append→af, drop_zero→ah, length_cons→ai, getElem_mem→aj, drop_eq_getElem_cons→ak, drop_of_length_le→am, take_append_drop→an, append_assoc→ao
open List.cons renaming injEq→ap
open Nat renaming pow_lt_pow_right→aq, lt_trans→ar, zero_add→au, pow_succ→av
open Rat renaming divInt→aw, mul_assoc→ax, div_def→ay
open UInt8 renaming toNat→az
section
namespace Eng
open Go Go.Proofs
set_option maxRecDepth 1000000
section
variable (Gv:Nat→List A→List A→Prop) (Q:List A→Prop) (I0 I1 I2 I3:List D→List D→Prop) (M0 M1 M2 M3:List D→Nat)
theorem T3 (c:Int):wpF CC Gv an0 Tryz.f150 [.c (.int .u8 c)] Q=(
 br (toB (F2 (decide (97≤c)))) (br (toB (F2 (decide (c≤122)))) (Q [Dd (F2 true)]) (br (toB (F2 (decide (65≤c)))) (Q [Dd (F2 (decide (c≤90)))]) (Q [Dd (F2 false)]))) (br (toB (F2 (decide (65≤c)))) (Q [Dd (F2 (decide (c≤90)))]) (Q [Dd (F2 false)]))):=by kernel_rfl
theorem MZ (c:Int):wpF CC Gv an0 Tryz.f153 [.c (.int .u8 c)] Q=(
 br (toB (F2 (decide (48≤c)))) (Q [Dd (F2 (decide (c≤57)))]) (Q [Dd (F2 false)])):=by kernel_rfl
theorem T4 (c:Int):wpF CC Gv an0 Tryz.f152 [.c (.int .u8 c)] Q=(
 ∃b,Gv 150 [Dd (Hu .u8 c)] [Dd (F2 b)]∧br b (Q [Dd (F2 true)]) (∃b,Gv 153 [Dd (Hu .u8 c)] [Dd (F2 b)]∧br b (Q [Dd (F2 true)]) (br (toB (F2 (c==95))) (Q [Dd (F2 true)]) (Q [Dd (F2 (c==45))])))):=by kernel_rfl
theorem R4 (s:List UInt8) (n:Int):wpF CC Gv an0 Tryz.f154 [.c (.str s),.c (.int .i64 n)] Q=(
 br (toB (F2 (decide (n<(Ls s.length))))) ((0≤n∧n<(Ls s.length))∧Q [Dd (Hu .u8 (Ls (az (nth 0 s (Lv n)))))]) (Q [Dd (Hu .u8 0)])):=by kernel_rfl
theorem T5 (s:List UInt8) (n:Int):wpF CC Gv an0 Tryz.f155 [.c (.str s),.c (.int .i64 n)] Q=(
 (0≤n∧n<(Ls s.length))∧br (toB (F2 ((Ls (az (nth 0 s (Lv n))))==45))) (∃n1,Gv 151 [Dd (Hv s),Dd (Hu .i64 (J4 .i64 (n+1))),Dd (Hy 153)] [Dd (Hu .i64 n1)]∧∃n,Gv 154 [Dd (Hv s),Dd (Hu .i64 n1)] [Dd (Hu .u8 n)]∧br (toB (F2 (n==46))) (∃n,Gv 154 [Dd (Hv s),Dd (Hu .i64 (J4 .i64 (n1+1)))] [Dd (Hu .u8 n)]∧∃b,Gv 153 [Dd (Hu .u8 n)] [Dd (F2 b)]∧br b (∃n,Gv 151 [Dd (Hv s),Dd (Hu .i64 (J4 .i64 (n1+1))),Dd (Hy 153)] [Dd (Hu .i64 n)]∧Q [Dd (Hu .i64 n)]) (Q [Dd (Hu .i64 n1)])) (Q [Dd (Hu .i64 n1)])) (∃n1,Gv 151 [Dd (Hv s),Dd (Hu .i64 n),Dd (Hy 153)] [Dd (Hu .i64 n1)]∧∃n,Gv 154 [Dd (Hv s),Dd (Hu .i64 n1)] [Dd (Hu .u8 n)]∧br (toB (F2 (n==46))) (∃n,Gv 154 [Dd (Hv s),Dd (Hu .i64 (J4 .i64 (n1+1)))] [Dd (Hu .u8 n)]∧∃b,Gv 153 [Dd (Hu .u8 n)] [Dd (F2 b)]∧br b (∃n,Gv 151 [Dd (Hv s),Dd (Hu .i64 (J4 .i64 (n1+1))),Dd (Hy 153)] [Dd (Hu .i64 n)]∧Q [Dd (Hu .i64 n)]) (Q [Dd (Hu .i64 n1)])) (Q [Dd (Hu .i64 n1)]))):=by kernel_rfl
end
end Eng
end

section
namespace Eng
open Go Go.Proofs
set_option maxRecDepth 100000
theorem yE (c:UInt8):qf CC 153 [.c (.int .u8 c.toNat)] [.c (.bool (isD c))]:=by
 refine qg (anns:=an0) mixedT Tryz.func153 ?_;rw[MZ];unfold isD;have e1:(decide ((48:Int)≤(c.toNat:Int)))=decide (48≤c.toNat):=decide_eq_decide.2 (by omega);have e2:(decide ((c.toNat:Int)≤57))=decide (c.toNat≤57):=decide_eq_decide.2 (by omega);rw[e1,e2];cases decide (48≤c.toNat)<;>cases decide (c.toNat≤57)<;>rfl
theorem yF (c:UInt8):qf CC 150 [.c (.int .u8 c.toNat)] [.c (.bool (ltr c))]:=by
 refine qg (anns:=an0) mixedT Tryz.func150 ?_;rw[T3];unfold ltr;have e1:(decide ((97:Int)≤(c.toNat:Int)))=decide (97≤c.toNat):=decide_eq_decide.2 (by omega);have e2:(decide ((c.toNat:Int)≤122))=decide (c.toNat≤122):=decide_eq_decide.2 (by omega);have e3:(decide ((65:Int)≤(c.toNat:Int)))=decide (65≤c.toNat):=decide_eq_decide.2 (by omega);have e4:(decide ((c.toNat:Int)≤90))=decide (c.toNat≤90):=decide_eq_decide.2 (by omega);rw[e1,e2,e3,e4];cases decide (97≤c.toNat)<;>cases decide (c.toNat≤122)<;>cases decide (65≤c.toNat)<;>cases decide (c.toNat≤90)<;>rfl
theorem Wo (s:List UInt8) (n:Nat):qf CC 154 [.c (.str s),.c (.int .i64 n)] [.c (.int .u8 (nth 0 s n).toNat)]:=by
 refine qg (anns:=an0) mixedT Tryz.func154 ?_;rw[R4];by_cases h:n<s.length
 ·have e:decide ((n:Int)<Ls s.length)=true:=decide_eq_true (by simp only[No];omega);rw[e];exact⟨⟨by omega,by simp only[No];omega⟩,rfl⟩
 ·have e:decide ((n:Int)<Ls s.length)=false:=decide_eq_false (by simp only[No];omega);rw[e];show [Dd (Hu IntKind.u8 0)]=_;rw[kj (by omega)];rfl
end Eng
end

section
open Go Go.Proofs Eng
set_option maxRecDepth 1000000
namespace Eng
section
variable (Gv:Nat→List A→List A→Prop) (Q:List A→Prop) (I0 I1 I2 I3:List D→List D→Prop) (M0 M1 M2 M3:List D→Nat)
theorem Na (n:Int):wpF CC Gv (fun _=>⟨[.slot 8 (.int .i64 0),.box 3 [.bool false,.slice none 0 0]],[],I0,M0⟩) Tryz.f236 [.c (.int .i64 n)] Q=(
 ∃b es,Gv 136 [Dd (Hu .i64 1)] [F0 [F2 b,Hx es]]∧∃b1 e1,Gv 136 [Dd (Hu .i64 10)] [F0 [F2 b1,Hx e1]]∧I0 [] [Hu .i64 0,F2 b,Hx es]∧∀(n1:Int) (b:Bool) (es:List (List D)),I0 [] [Hu .i64 n1,F2 b,Hx es]→br (toB (F2 (decide (n1<n)))) (∃b2 e2,Gv 101 [F0 [F2 b,Hx es],F0 [F2 b1,Hx e1]] [F0 [F2 b2,Hx e2]]∧I0 [] [Hu .i64 (J4 .i64 (n1+1)),F2 b2,Hx e2]∧M0 [Hu .i64 (J4 .i64 (n1+1)),F2 b2,Hx e2]<M0 [Hu .i64 n1,F2 b,Hx es]) (Q [F0 [F2 b,Hx es]])):=by kernel_rfl
theorem Nc (p q:Bool) (es fs:List (List D)) (n:Int):wpF CC Gv an0 Tryz.f139 [.ag [.bool p,.sl es,.bool q,.sl fs],.c (.int .i64 n)] Q=(
 ∃b e1,Gv 236 [Dd (Hu .i64 n)] [F0 [F2 b,Hx e1]]∧∃b1 e2,Gv 136 [Dd (Hu .i64 1)] [F0 [F2 b1,Hx e2]]∧∃b2 e3 b3 e4 n,Gv 124 [F0 [F2 b,Hx e1],F0 [F2 b1,Hx e2]] [F0 [F2 b2,Hx e3,F2 b3,Hx e4],Dd (Hu .i64 n)]∧∃b e5 b4 e6,Gv 50 [F0 [F2 p,Hx es,F2 q,Hx fs],F0 [F2 b2,Hx e3,F2 b3,Hx e4]] [F0 [F2 b,Hx e5,F2 b4,Hx e6]]∧Q [F0 [F2 b,Hx e5,F2 b4,Hx e6]]):=by kernel_rfl
theorem G1 (p:Bool) (es:List (List D)) (n:Int):wpF CC Gv an0 Tryz.f140 [.ag [.bool p,.sl es],.c (.int .i64 n)] Q=(
 ∃s,Gv 237 [F0 [F2 p,Hx es]] [Dd (Hv s)]∧∃n1,Gv 138 [F0 [F2 p,Hx es]] [Dd (Hu .i64 n1)]∧br (toB (F2 (decide (n1<0)))) (((0:Int)≤(1:Int)∧1≤(Ls s.length)∧(Ls s.length)≤(Ls s.length))∧br (toB (F2 (n==0))) (room (1+V1 (W1 1 (W0 (Lv (Ls s.length)) s)))∧Q [Dd (Hv (45::([]++(W1 1 (W0 (Lv (Ls s.length)) s)))))]) (br (toB (F2 (decide ((Ls (V1 (W1 1 (W0 (Lv (Ls s.length)) s))))≤n)))) (∃s1,Gv 161 [Dd (Hv [48]),Dd (Hu .i64 (J4 .i64 (J4 .i64 (n+1)-(Ls (V1 (W1 1 (W0 (Lv (Ls s.length)) s)))))))] [Dd (Hv s1)]∧room (s1.length+V1 (W1 1 (W0 (Lv (Ls s.length)) s)))∧((0:Int)≤(0:Int)∧0≤J4 .i64 ((Ls (V1 (s1++W1 1 (W0 (Lv (Ls s.length)) s))))-n)∧J4 .i64 ((Ls (V1 (s1++W1 1 (W0 (Lv (Ls s.length)) s))))-n)≤(Ls (V1 (s1++W1 1 (W0 (Lv (Ls s.length)) s)))))∧room (1+V1 (W1 0 (W0 (Lv (J4 .i64 ((Ls (V1 (s1++W1 1 (W0 (Lv (Ls s.length)) s))))-n))) (s1++W1 1 (W0 (Lv (Ls s.length)) s)))))∧room (V1 (45::([]++(W1 0 (W0 (Lv (J4 .i64 ((Ls (V1 (s1++W1 1 (W0 (Lv (Ls s.length)) s))))-n))) (s1++W1 1 (W0 (Lv (Ls s.length)) s))))))+1)∧(0≤J4 .i64 ((Ls (V1 (s1++W1 1 (W0 (Lv (Ls s.length)) s))))-n)∧J4 .i64 ((Ls (V1 (s1++W1 1 (W0 (Lv (Ls s.length)) s))))-n)≤(Ls (V1 (s1++W1 1 (W0 (Lv (Ls s.length)) s))))∧(Ls (V1 (s1++W1 1 (W0 (Lv (Ls s.length)) s))))≤(Ls (V1 (s1++W1 1 (W0 (Lv (Ls s.length)) s)))))∧room (V1 (45::((([]++(W1 (Lv (0:Int)) (W0 (Lv (J4 .i64 ((Ls (V1 (s1++W1 1 (W0 (Lv (Ls s.length)) s))))-n))) (s1++W1 1 (W0 (Lv (Ls s.length)) s))))))++[46]))+V1 (W1 (Lv (J4 .i64 ((Ls (V1 (s1++W1 1 (W0 (Lv (Ls s.length)) s))))-n))) (W0 (Lv (Ls (V1 (s1++W1 1 (W0 (Lv (Ls s.length)) s))))) (s1++W1 1 (W0 (Lv (Ls s.length)) s)))))∧Q [Dd (Hv (45::((((([]++(W1 (Lv (0:Int)) (W0 (Lv (J4 .i64 ((Ls (V1 (s1++W1 1 (W0 (Lv (Ls s.length)) s))))-n))) (s1++W1 1 (W0 (Lv (Ls s.length)) s))))))++([46])))++(W1 (Lv (J4 .i64 ((Ls (V1 (s1++W1 1 (W0 (Lv (Ls s.length)) s))))-n))) (W0 (Lv (Ls (V1 (s1++W1 1 (W0 (Lv (Ls s.length)) s))))) (s1++W1 1 (W0 (Lv (Ls s.length)) s)))))))]) (((0:Int)≤(0:Int)∧0≤J4 .i64 ((Ls (V1 (W1 1 (W0 (Lv (Ls s.length)) s))))-n)∧J4 .i64 ((Ls (V1 (W1 1 (W0 (Lv (Ls s.length)) s))))-n)≤(Ls (V1 (W1 1 (W0 (Lv (Ls s.length)) s)))))∧room (1+V1 (W1 0 (W0 (Lv (J4 .i64 ((Ls (V1 (W1 1 (W0 (Lv (Ls s.length)) s))))-n))) (W1 1 (W0 (Lv (Ls s.length)) s)))))∧room (V1 (45::([]++(W1 0 (W0 (Lv (J4 .i64 ((Ls (V1 (W1 1 (W0 (Lv (Ls s.length)) s))))-n))) (W1 1 (W0 (Lv (Ls s.length)) s))))))+1)∧(0≤J4 .i64 ((Ls (V1 (W1 1 (W0 (Lv (Ls s.length)) s))))-n)∧J4 .i64 ((Ls (V1 (W1 1 (W0 (Lv (Ls s.length)) s))))-n)≤(Ls (V1 (W1 1 (W0 (Lv (Ls s.length)) s))))∧(Ls (V1 (W1 1 (W0 (Lv (Ls s.length)) s))))≤(Ls (V1 (W1 1 (W0 (Lv (Ls s.length)) s)))))∧room (V1 (45::((([]++(W1 (Lv (0:Int)) (W0 (Lv (J4 .i64 ((Ls (V1 (W1 1 (W0 (Lv (Ls s.length)) s))))-n))) (W1 1 (W0 (Lv (Ls s.length)) s))))))++[46]))+V1 (W1 (Lv (J4 .i64 ((Ls (V1 (W1 1 (W0 (Lv (Ls s.length)) s))))-n))) (W0 (Lv (Ls (V1 (W1 1 (W0 (Lv (Ls s.length)) s))))) (W1 1 (W0 (Lv (Ls s.length)) s)))))∧Q [Dd (Hv (45::((((([]++(W1 (Lv (0:Int)) (W0 (Lv (J4 .i64 ((Ls (V1 (W1 1 (W0 (Lv (Ls s.length)) s))))-n))) (W1 1 (W0 (Lv (Ls s.length)) s))))))++([46])))++(W1 (Lv (J4 .i64 ((Ls (V1 (W1 1 (W0 (Lv (Ls s.length)) s))))-n))) (W0 (Lv (Ls (V1 (W1 1 (W0 (Lv (Ls s.length)) s))))) (W1 1 (W0 (Lv (Ls s.length)) s)))))))]))) (br (toB (F2 (n==0))) (room (0+s.length)∧Q [Dd (Hv s)]) (br (toB (F2 (decide ((Ls s.length)≤n)))) (∃s1,Gv 161 [Dd (Hv [48]),Dd (Hu .i64 (J4 .i64 (J4 .i64 (n+1)-(Ls s.length))))] [Dd (Hv s1)]∧room (s1.length+s.length)∧((0:Int)≤(0:Int)∧0≤J4 .i64 ((Ls (V1 (s1++s)))-n)∧J4 .i64 ((Ls (V1 (s1++s)))-n)≤(Ls (V1 (s1++s))))∧room (0+V1 (W1 0 (W0 (Lv (J4 .i64 ((Ls (V1 (s1++s)))-n))) (s1++s))))∧room (V1 ([]++W1 0 (W0 (Lv (J4 .i64 ((Ls (V1 (s1++s)))-n))) (s1++s)))+1)∧(0≤J4 .i64 ((Ls (V1 (s1++s)))-n)∧J4 .i64 ((Ls (V1 (s1++s)))-n)≤(Ls (V1 (s1++s)))∧(Ls (V1 (s1++s)))≤(Ls (V1 (s1++s))))∧room (V1 ([]++W1 0 (W0 (Lv (J4 .i64 ((Ls (V1 (s1++s)))-n))) (s1++s))++[46])+V1 (W1 (Lv (J4 .i64 ((Ls (V1 (s1++s)))-n))) (W0 (Lv (Ls (V1 (s1++s)))) (s1++s))))∧Q [Dd (Hv ([]++W1 0 (W0 (Lv (J4 .i64 ((Ls (V1 (s1++s)))-n))) (s1++s))++[46]++W1 (Lv (J4 .i64 ((Ls (V1 (s1++s)))-n))) (W0 (Lv (Ls (V1 (s1++s)))) (s1++s))))]) (((0:Int)≤(0:Int)∧0≤J4 .i64 ((Ls s.length)-n)∧J4 .i64 ((Ls s.length)-n)≤(Ls s.length))∧room (0+V1 (W1 0 (W0 (Lv (J4 .i64 ((Ls s.length)-n))) s)))∧room (V1 ([]++W1 0 (W0 (Lv (J4 .i64 ((Ls s.length)-n))) s))+1)∧(0≤J4 .i64 ((Ls s.length)-n)∧J4 .i64 ((Ls s.length)-n)≤(Ls s.length)∧(Ls s.length)≤(Ls s.length))∧room (V1 ([]++W1 0 (W0 (Lv (J4 .i64 ((Ls s.length)-n))) s)++[46])+V1 (W1 (Lv (J4 .i64 ((Ls s.length)-n))) (W0 (Lv (Ls s.length)) s)))∧Q [Dd (Hv ([]++W1 0 (W0 (Lv (J4 .i64 ((Ls s.length)-n))) s)++[46]++W1 (Lv (J4 .i64 ((Ls s.length)-n))) (W0 (Lv (Ls s.length)) s)))])))):=by kernel_rfl
theorem Nd (s:List UInt8):wpF CC Gv an0 Tryz.f141 [.c (.str s)] Q=(
 br (toB (F2 (decide ((Ls s.length)>1000)))) (Q [Dd (Hv []),Dd (F2 false)]) (Q [Dd (Hv s),Dd (F2 true)])):=by kernel_rfl
theorem Nf (p q:Bool) (es fs:List (List D)):wpF CC Gv (fun _=>⟨[.slot 6 (.int .i64 0),.box 5 [.bool false,.slice none 0 0]],[],I0,M0⟩) Tryz.f73 [.ag [.bool p,.sl es,.bool q,.sl fs]] Q=(
 ∃b e1,Gv 136 [Dd (Hu .i64 1)] [F0 [F2 b,Hx e1]]∧I0 [] [Hu .i64 0,F2 b,Hx e1]∧∀(n:Int) (b:Bool) (e2:List (List D)),I0 [] [Hu .i64 n,F2 b,Hx e2]→br (toB (F2 (decide (n≤30)))) (∃b1 e3 b2 e4 n1,Gv 137 [F0 [F2 b,Hx e2],F0 [F2 q,Hx fs]] [F0 [F2 b1,Hx e3],F0 [F2 b2,Hx e4],Dd (Hu .i64 n1)]∧∃n2,Gv 138 [F0 [F2 b2,Hx e4]] [Dd (Hu .i64 n2)]∧br (toB (F2 (n2==0))) (∃b e5 b3 e6,Gv 139 [F0 [F2 p,Hx es,F2 q,Hx fs],Dd (Hu .i64 n)] [F0 [F2 b,Hx e5,F2 b3,Hx e6]]∧∃s,Gv 140 [F0 [F2 b,Hx e5],Dd (Hu .i64 n)] [Dd (Hv s)]∧∃s1 b,Gv 141 [Dd (Hv s)] [Dd (Hv s1),Dd (F2 b)]∧Q [Dd (Hv s1),Dd (F2 b)]) (∃b3 es,Gv 136 [Dd (Hu .i64 10)] [F0 [F2 b3,Hx es]]∧∃b4 e5,Gv 101 [F0 [F2 b,Hx e2],F0 [F2 b3,Hx es]] [F0 [F2 b4,Hx e5]]∧I0 [] [Hu .i64 (J4 .i64 (n+1)),F2 b4,Hx e5]∧M0 [Hu .i64 (J4 .i64 (n+1)),F2 b4,Hx e5]<M0 [Hu .i64 n,F2 b,Hx e2])) (Q [Dd (Hv []),Dd (F2 false)])):=by kernel_rfl
theorem R5 (m d:Int):wpF CC Gv an0 Tryz.f142 [.c (.int .i64 m),.c (.int .i64 d)] Q=(
 br (toB (F2 (d==0))) (∃b es b1 e1,Gv 121 [Dd (Hu .i64 0)] [F0 [F2 b,Hx es,F2 b1,Hx e1]]∧Q [F0 [F2 b,Hx es,F2 b1,Hx e1]]) (∃b es,Gv 136 [Dd (Hu .i64 m)] [F0 [F2 b,Hx es]]∧∃b1 e1,Gv 136 [Dd (Hu .i64 d)] [F0 [F2 b1,Hx e1]]∧∃b2 e2 b3 e3,Gv 100 [F0 [F2 b,Hx es],F0 [F2 b1,Hx e1]] [F0 [F2 b2,Hx e2,F2 b3,Hx e3]]∧Q [F0 [F2 b2,Hx e2,F2 b3,Hx e3]])):=by kernel_rfl
theorem Ng (p q:Bool) (es fs:List (List D)):wpF CC Gv an0 Tryz.f74 [.ag [.bool p,.sl es,.bool q,.sl fs]] Q=(
 ∃b e1 b1 e2,Gv 142 [Dd (Hu .i64 1),Dd (Hu .i64 1000)] [F0 [F2 b,Hx e1,F2 b1,Hx e2]]∧∃b2 e3 b3 e4,Gv 50 [F0 [F2 p,Hx es,F2 q,Hx fs],F0 [F2 b,Hx e1,F2 b1,Hx e2]] [F0 [F2 b2,Hx e3,F2 b3,Hx e4]]∧Q [F0 [F2 b2,Hx e3,F2 b3,Hx e4]]):=by kernel_rfl
theorem T7 (p q:Bool) (es fs:List (List D)):wpF CC Gv an0 Tryz.f147 [.ag [.bool p,.sl es,.bool q,.sl fs]] Q=(
 ∃b,Gv 241 [F0 [F2 p,Hx es,F2 q,Hx fs]] [Dd (F2 b)]∧br (toB (F2 !b)) (Q [Dd (F2 false)]) (∃b e1 b1 e2,Gv 121 [Dd (Hu .i64 10000000)] [F0 [F2 b,Hx e1,F2 b1,Hx e2]]∧∃n,Gv 98 [F0 [F2 p,Hx es,F2 q,Hx fs],F0 [F2 b,Hx e1,F2 b1,Hx e2]] [Dd (Hu .i64 n)]∧br (toB (F2 (decide (n>0)))) (Q [Dd (F2 false)]) (∃b2 e3 b3 e4,Gv 181 [F0 [F2 b,Hx e1,F2 b1,Hx e2]] [F0 [F2 b2,Hx e3,F2 b3,Hx e4]]∧∃n,Gv 98 [F0 [F2 p,Hx es,F2 q,Hx fs],F0 [F2 b2,Hx e3,F2 b3,Hx e4]] [Dd (Hu .i64 n)]∧br (toB (F2 (decide (n<0)))) (Q [Dd (F2 false)]) (∃b e5 b4 e6,Gv 74 [F0 [F2 p,Hx es,F2 q,Hx fs]] [F0 [F2 b,Hx e5,F2 b4,Hx e6]]∧∃s b5,Gv 73 [F0 [F2 b,Hx e5,F2 b4,Hx e6]] [Dd (Hv s),Dd (F2 b5)]∧Q [Dd (F2 b5)])))):=by kernel_rfl
theorem Nh (p q:Bool) (es fs:List (List D)):wpF CC Gv an0 Tryz.f31 [.ag [.bool p,.sl es,.bool q,.sl fs]] Q=(
 ∃b e1 b1 e2,Gv 74 [F0 [F2 p,Hx es,F2 q,Hx fs]] [F0 [F2 b,Hx e1,F2 b1,Hx e2]]∧∃s b2,Gv 73 [F0 [F2 b,Hx e1,F2 b1,Hx e2]] [Dd (Hv s),Dd (F2 b2)]∧Q [Dd (Hv s)]):=by kernel_rfl
theorem R6 (s:List UInt8) (n:Int):wpF CC Gv (fun _=>⟨[.slot 1 (.int .i64 0)],[],I0,M0⟩) Tryz.f151 [.c (.str s),.c (.int .i64 n),.c (.fn 152)] Q=(
 I0 [] [Hu .i64 n]∧∀(n:Int),I0 [] [Hu .i64 n]→br (toB (F2 (decide (n<(Ls s.length))))) ((0≤n∧n<(Ls s.length))∧∃b,Gv 152 [Dd (Hu .u8 (Ls (az (nth 0 s (Lv n)))))] [Dd (F2 b)]∧br b (I0 [] [Hu .i64 (J4 .i64 (n+1))]∧M0 [Hu .i64 (J4 .i64 (n+1))]<M0 [Hu .i64 n]) (Q [Dd (Hu .i64 n)])) (Q [Dd (Hu .i64 n)])):=by kernel_rfl
theorem R7 (s:List UInt8) (n:Int):wpF CC Gv (fun _=>⟨[.slot 1 (.int .i64 0)],[],I0,M0⟩) Tryz.f151 [.c (.str s),.c (.int .i64 n),.c (.fn 153)] Q=(
 I0 [] [Hu .i64 n]∧∀(n:Int),I0 [] [Hu .i64 n]→br (toB (F2 (decide (n<(Ls s.length))))) ((0≤n∧n<(Ls s.length))∧∃b,Gv 153 [Dd (Hu .u8 (Ls (az (nth 0 s (Lv n)))))] [Dd (F2 b)]∧br b (I0 [] [Hu .i64 (J4 .i64 (n+1))]∧M0 [Hu .i64 (J4 .i64 (n+1))]<M0 [Hu .i64 n]) (Q [Dd (Hu .i64 n)])) (Q [Dd (Hu .i64 n)])):=by kernel_rfl
theorem T8 (s:List UInt8):wpF CC Gv an0 Tryz.f146 [.c (.str s)] Q=(
 br (toB (F2 !s==[])) (br (toB (F2 (decide ((Ls s.length)≤24)))) (((0:Int)≤(0:Int)∧0<(Ls s.length))∧∃b,Gv 150 [Dd (Hu .u8 (Ls (az (nth 0 s (Lv (0:Int))))))] [Dd (F2 b)]∧br b (∃n,Gv 151 [Dd (Hv s),Dd (Hu .i64 0),Dd (Hy 152)] [Dd (Hu .i64 n)]∧Q [Dd (F2 (n==(Ls s.length)))]) (Q [Dd (F2 false)])) (Q [Dd (F2 false)])) (Q [Dd (F2 false)])):=by kernel_rfl
theorem Ni (s:List UInt8) (k d:Int):wpF CC Gv an0 Tryz.f78 [.ag [.str s,.int .i64 k,.int .i64 d]] Q=(
 ∃b,Gv 146 [Dd (Hv s)] [Dd (F2 b)]∧br (toB (F2 !b)) (Q [Dd (F2 false)]) (br (toB (F2 (k==1))) (br (toB (F2 (k==1))) (br (toB (F2 (decide (d≥1)))) (Q [Dd (F2 (decide (d≤10000000)))]) (Q [Dd (F2 false)])) (br (toB (F2 (k==2))) (br (toB (F2 (k==2))) (Q [Dd (F2 (d==0))]) (Q [Dd (F2 false)])) (br (toB (F2 (k==4))) (Q [Dd (F2 (d==0))]) (Q [Dd (F2 false)])))) (br (toB (F2 (k==3))) (br (toB (F2 (decide (d≥1)))) (Q [Dd (F2 (decide (d≤10000000)))]) (Q [Dd (F2 false)])) (br (toB (F2 (k==2))) (br (toB (F2 (k==2))) (Q [Dd (F2 (d==0))]) (Q [Dd (F2 false)])) (br (toB (F2 (k==4))) (Q [Dd (F2 (d==0))]) (Q [Dd (F2 false)])))))):=by kernel_rfl
theorem T9 (k:Int) (s:List UInt8) (ps:List (List D)) (p q:Bool) (l m:List (List D)):wpF CC Gv (fun _=>⟨[.slot 27 (.int .i64 0)],[],I0,M0⟩) Tryz.f79 [.ag [.int .i64 k,.str s,.sl ps,.bool p,.sl l,.bool q,.sl m]] Q=(
 br (toB (F2 (decide (k<1)))) (Q [Dd (F2 false)]) (br (toB (F2 (decide (k>3)))) (Q [Dd (F2 false)]) ((0≤k∧k<4)∧∃n,cut (nth [] [[Hv [],Hu .i64 0],[Hv [108,105,110,101],Hu .i64 2],[Hv [97,114,99],Hu .i64 3],[Hv [99,105,114,99,108,101],Hu .i64 1]] (Lv k)) 1 1 [Hu .i64 n]∧br (toB (F2 ((Ls ps.length) !=n))) (Q [Dd (F2 false)]) (I0 [] [Hu .i64 0]∧∀(n:Int),I0 [] [Hu .i64 n]→br (toB (F2 (decide (n<(Ls ps.length))))) ((0≤n∧n<(Ls ps.length)∧V1 (nth [] ps (Lv n))=8)∧∃b es b1 e1 b2 e2 b3 e3,cut (nth [] ps (Lv n)) 0 8 [F2 b,Hx es,F2 b1,Hx e1,F2 b2,Hx e2,F2 b3,Hx e3]∧∃b4,Gv 147 [F0 [F2 b,Hx es,F2 b1,Hx e1]] [Dd (F2 b4)]∧br (toB (F2 !b4)) (Q [Dd (F2 false)]) (∃b,Gv 147 [F0 [F2 b2,Hx e2,F2 b3,Hx e3]] [Dd (F2 b)]∧br (toB (F2 !b)) (Q [Dd (F2 false)]) (I0 [] [Hu .i64 (J4 .i64 (n+1))]∧M0 [Hu .i64 (J4 .i64 (n+1))]<M0 [Hu .i64 n]))) (br (toB (F2 (k !=3))) (Q [Dd (F2 true)]) (∃b,Gv 147 [F0 [F2 p,Hx l,F2 q,Hx m]] [Dd (F2 b)]∧br b (∃n,Gv 148 [F0 [F2 p,Hx l,F2 q,Hx m]] [Dd (Hu .i64 n)]∧Q [Dd (F2 (decide (n>0)))]) (Q [Dd (F2 false)]))))))):=by kernel_rfl
theorem R8 (ls:List (List D)):wpF CC Gv an0 Tryz.f36 [.c (.sl ls)] Q=(
 (0≤J4 .i64 ((Ls ls.length)-1)∧J4 .i64 ((Ls ls.length)-1)<(Ls ls.length)∧V1 (nth [] ls (Lv (J4 .i64 ((Ls ls.length)-1))))=3)∧∃s n n1,cut (nth [] ls (Lv (J4 .i64 ((Ls ls.length)-1)))) 0 3 [Hv s,Hu .i64 n,Hu .i64 n1]∧∃b,Gv 78 [F0 [Hv s,Hu .i64 n,Hu .i64 n1]] [Dd (F2 b)]∧br (toB (F2 !b)) (Q [Dd (Hu .i64 1)]) (∃n,Gv 61 [Dd (Hx ls),Dd (Hv s)] [Dd (Hu .i64 n)]∧br (toB (F2 (decide (n<J4 .i64 ((Ls ls.length)-1))))) (Q [Dd (Hu .i64 5)]) (Q [Dd (Hu .i64 0)]))):=by kernel_rfl
theorem Nj (ls es:List (List D)) (k:Int) (s:List UInt8) (ps:List (List D)) (p q:Bool) (l m:List (List D)):wpF CC Gv an0 Tryz.f37 [.ag [.sl ls,.sl es],.ag [.int .i64 k,.str s,.sl ps,.bool p,.sl l,.bool q,.sl m]] Q=(
 ∃n,Gv 61 [Dd (Hx ls),Dd (Hv s)] [Dd (Hu .i64 n)]∧br (toB (F2 (decide (n<0)))) (Q [Dd (Hu .i64 4)]) (∃b,Gv 79 [F0 [Hu .i64 k,Hv s,Hx ps,F2 p,Hx l,F2 q,Hx m]] [Dd (F2 b)]∧br (toB (F2 !b)) (Q [Dd (Hu .i64 1)]) (Q [Dd (Hu .i64 0)]))):=by kernel_rfl
theorem Nk (ls es:List (List D)):wpF CC Gv (JW ⟨[.slot 21 (.int .i64 0)],[],I0,M0⟩ ⟨[.slot 37 (.int .i64 0)],[],I1,M1⟩) Tryz.f12 [.ag [.sl ls,.sl es]] Q=(
 br (toB (F2 (decide ((Ls ls.length)>20)))) (Q [Dd (Hu .i64 3)]) (br (toB (F2 (decide ((Ls es.length)>200)))) (Q [Dd (Hu .i64 3)]) (I0 [] [Hu .i64 0]∧∀(n:Int),I0 [] [Hu .i64 n]→br (toB (F2 (decide (n<(Ls ls.length))))) (((0:Int)≤(0:Int)∧0≤J4 .i64 (n+1)∧J4 .i64 (n+1)≤(Ls ls.length)∧lens 3 ls)∧∃n1,Gv 36 [Dd (Hx (W1 0 (W0 (Lv (J4 .i64 (n+1))) ls)))] [Dd (Hu .i64 n1)]∧br (toB (F2 (n1 !=0))) (Q [Dd (Hu .i64 n1)]) (I0 [] [Hu .i64 (J4 .i64 (n+1))]∧M0 [Hu .i64 (J4 .i64 (n+1))]<M0 [Hu .i64 n])) (I1 [] [Hu .i64 0]∧∀(n:Int),I1 [] [Hu .i64 n]→br (toB (F2 (decide (n<(Ls es.length))))) ((0≤n∧n<(Ls es.length)∧V1 (nth [] es (Lv n))=7)∧∃n1 s e1 b e2 b1 e3,cut (nth [] es (Lv n)) 0 7 [Hu .i64 n1,Hv s,Hx e1,F2 b,Hx e2,F2 b1,Hx e3]∧∃n2,Gv 37 [F0 [Hx ls,Hx es],F0 [Hu .i64 n1,Hv s,Hx e1,F2 b,Hx e2,F2 b1,Hx e3]] [Dd (Hu .i64 n2)]∧br (toB (F2 (n2 !=0))) (Q [Dd (Hu .i64 n2)]) (I1 [] [Hu .i64 (J4 .i64 (n+1))]∧M1 [Hu .i64 (J4 .i64 (n+1))]<M1 [Hu .i64 n])) (Q [Dd (Hu .i64 0)]))))):=by kernel_rfl
theorem FL (n:Int):wpF CC Gv an0 Tryz.f30 [.c (.int .i64 n)] Q=(
 br (toB (F2 (decide (n<0)))) ((1000:Int)≠(0:Int)∧∃s,Gv 71 [Dd (Hu .u64 (J4 .u64 (T1 (J4 .u64 (0-J4 .u64 n)) (1000:Int)))),Dd (Hu .i64 10)] [Dd (Hv s)]∧room (1+s.length)∧(1000:Int)≠(0:Int)∧br (toB (F2 (Ts (J4 .u64 (0-J4 .u64 n)) (1000:Int) !=(0:Int)))) ((1000:Int)≠(0:Int)∧∃s1,Gv 71 [Dd (Hu .u64 (J4 .u64 (1000+Ts (J4 .u64 (0-J4 .u64 n)) (1000:Int)))),Dd (Hu .i64 10)] [Dd (Hv s1)]∧((0:Int)≤(1:Int)∧1≤(Ls s1.length)∧(Ls s1.length)≤(Ls s1.length))∧∃s2,Gv 72 [Dd (Hv (W1 1 (W0 (Lv (Ls s1.length)) s1))),Dd (Hv [48])] [Dd (Hv s2)]∧room (1+s2.length)∧room (V1 (45::s)+V1 (46::s2))∧Q [Dd (Hv (45::(s++(46::s2))))]) (Q [Dd (Hv (45::s))])) ((1000:Int)≠(0:Int)∧∃s,Gv 71 [Dd (Hu .u64 (J4 .u64 (T1 (J4 .u64 n) (1000:Int)))),Dd (Hu .i64 10)] [Dd (Hv s)]∧room (0+s.length)∧(1000:Int)≠(0:Int)∧br (toB (F2 (Ts (J4 .u64 n) (1000:Int) !=(0:Int)))) ((1000:Int)≠(0:Int)∧∃s1,Gv 71 [Dd (Hu .u64 (J4 .u64 (1000+Ts (J4 .u64 n) (1000:Int)))),Dd (Hu .i64 10)] [Dd (Hv s1)]∧((0:Int)≤(1:Int)∧1≤(Ls s1.length)∧(Ls s1.length)≤(Ls s1.length))∧∃s2,Gv 72 [Dd (Hv (W1 1 (W0 (Lv (Ls s1.length)) s1))),Dd (Hv [48])] [Dd (Hv s2)]∧room (1+s2.length)∧room (s.length+V1 (46::s2))∧Q [Dd (Hv (s++46::s2))]) (Q [Dd (Hv s)]))):=by kernel_rfl
theorem TB (s:List UInt8):wpF CC Gv (fun _=>⟨[.slot 0 (.string ⟨#[]⟩)],[],I0,M0⟩) Tryz.f132 [.c (.str s),.c (.int .u8 48)] Q=(
 I0 [] [Hv s]∧∀(s:List UInt8),I0 [] [Hv s]→br (toB (F2 (decide ((Ls s.length)>0)))) ((0≤J4 .i64 ((Ls s.length)-1)∧J4 .i64 ((Ls s.length)-1)<(Ls s.length))∧br (toB (F2 ((Ls (az (nth 0 s (Lv (J4 .i64 ((Ls s.length)-1))))))==48))) (((0:Int)≤(0:Int)∧0≤J4 .i64 ((Ls s.length)-1)∧J4 .i64 ((Ls s.length)-1)≤(Ls s.length))∧I0 [] [Hv (W1 0 (W0 (Lv (J4 .i64 ((Ls s.length)-1))) s))]∧M0 [Hv (W1 0 (W0 (Lv (J4 .i64 ((Ls s.length)-1))) s))]<M0 [Hv s]) (Q [Dd (Hv s)])) (Q [Dd (Hv s)])):=by kernel_rfl
theorem Nl (s:List UInt8):wpF CC Gv an0 Tryz.f72 [.c (.str s),.c (.str [48])] Q=(
 br (toB (F2 (s==[]))) (Q [Dd (Hv s)]) (((0:Int)≤(0:Int)∧(0:Int)<(1:Int))∧((0:Int)≤(0:Int)∧(0:Int)<(1:Int))∧∃s1,Gv 132 [Dd (Hv s),Dd (Hu .u8 48)] [Dd (Hv s1)]∧Q [Dd (Hv s1)])):=by kernel_rfl
theorem Nm (s:List UInt8):wpF CC Gv an0 Tryz.f249 [.c (.str s)] Q=(
 br (toB (F2 !s==[])) (∃s1,Gv 322 [Dd (Hv s),Dd (Hv [48,49,50,51,52,53,54,55,56,57])] [Dd (Hv s1)]∧Q [Dd (F2 (s1==[]))]) (Q [Dd (F2 false)])):=by kernel_rfl
theorem TE (s:List UInt8):wpF CC Gv an0 Tryz.f159 [.c (.str s)] Q=(
 br (toB (F2 (decide ((Ls s.length)>65536)))) (Q [Dd (Hv []),Dd (Hu .i64 0),Dd (F2 false)]) (∃s1 b,Gv 247 [Dd (Hv s),Dd (Hv [45])] [Dd (Hv s1),Dd (F2 b)]∧∃s s2 b1,Gv 248 [Dd (Hv s1),Dd (Hv [46])] [Dd (Hv s),Dd (Hv s2),Dd (F2 b1)]∧∃b2,Gv 249 [Dd (Hv s)] [Dd (F2 b2)]∧br (toB (F2 !b2)) (Q [Dd (Hv []),Dd (Hu .i64 0),Dd (F2 false)]) (br (toB (F2 (decide ((Ls s.length)>1)))) (((0:Int)≤(0:Int)∧0<(Ls s.length))∧br (toB (F2 ((Ls (az (nth 0 s (Lv (0:Int)))))==48))) (Q [Dd (Hv []),Dd (Hu .i64 0),Dd (F2 false)]) (br b1 (∃b3,Gv 249 [Dd (Hv s2)] [Dd (F2 b3)]∧br (toB (F2 !b3)) (Q [Dd (Hv []),Dd (Hu .i64 0),Dd (F2 false)]) (br (toB (F2 (decide ((Ls s2.length)>30)))) (Q [Dd (Hv []),Dd (Hu .i64 0),Dd (F2 false)]) (room (s.length+s2.length)∧∃s3,Gv 250 [Dd (Hv (s++s2)),Dd (Hv [48])] [Dd (Hv s3)]∧br (toB (F2 (s3==[]))) (Q [Dd (Hv [48]),Dd (Hu .i64 (Ls s2.length)),Dd (F2 !b)]) (br b (room (1+s3.length)∧Q [Dd (Hv (45::s3)),Dd (Hu .i64 (Ls s2.length)),Dd (F2 true)]) (Q [Dd (Hv s3),Dd (Hu .i64 (Ls s2.length)),Dd (F2 true)]))))) (room (s.length+s2.length)∧∃s3,Gv 250 [Dd (Hv (s++s2)),Dd (Hv [48])] [Dd (Hv s3)]∧br (toB (F2 (s3==[]))) (Q [Dd (Hv [48]),Dd (Hu .i64 (Ls s2.length)),Dd (F2 !b)]) (br b (room (1+s3.length)∧Q [Dd (Hv (45::s3)),Dd (Hu .i64 (Ls s2.length)),Dd (F2 true)]) (Q [Dd (Hv s3),Dd (Hu .i64 (Ls s2.length)),Dd (F2 true)]))))) (br b1 (∃b3,Gv 249 [Dd (Hv s2)] [Dd (F2 b3)]∧br (toB (F2 !b3)) (Q [Dd (Hv []),Dd (Hu .i64 0),Dd (F2 false)]) (br (toB (F2 (decide ((Ls s2.length)>30)))) (Q [Dd (Hv []),Dd (Hu .i64 0),Dd (F2 false)]) (room (s.length+s2.length)∧∃s3,Gv 250 [Dd (Hv (s++s2)),Dd (Hv [48])] [Dd (Hv s3)]∧br (toB (F2 (s3==[]))) (Q [Dd (Hv [48]),Dd (Hu .i64 (Ls s2.length)),Dd (F2 !b)]) (br b (room (1+s3.length)∧Q [Dd (Hv (45::s3)),Dd (Hu .i64 (Ls s2.length)),Dd (F2 true)]) (Q [Dd (Hv s3),Dd (Hu .i64 (Ls s2.length)),Dd (F2 true)]))))) (room (s.length+s2.length)∧∃s3,Gv 250 [Dd (Hv (s++s2)),Dd (Hv [48])] [Dd (Hv s3)]∧br (toB (F2 (s3==[]))) (Q [Dd (Hv [48]),Dd (Hu .i64 (Ls s2.length)),Dd (F2 !b)]) (br b (room (1+s3.length)∧Q [Dd (Hv (45::s3)),Dd (Hu .i64 (Ls s2.length)),Dd (F2 true)]) (Q [Dd (Hv s3),Dd (Hu .i64 (Ls s2.length)),Dd (F2 true)]))))))):=by kernel_rfl
theorem TF (s:List UInt8):wpF CC Gv an0 Tryz.f156 [.c (.str s)] Q=(
 ∃s1 n b,Gv 159 [Dd (Hv s)] [Dd (Hv s1),Dd (Hu .i64 n),Dd (F2 b)]∧br (toB (F2 !b)) (Q [F0 [F2 false,Hx [],F2 false,Hx []],Dd (Hu .i64 2)]) (∃b es n1,Gv 245 [Dd (Hv s1)] [F0 [F2 b,Hx es],Dd (Hu .i64 n1)]∧br (toB (F2 (n1 !=0))) (Q [F0 [F2 false,Hx [],F2 false,Hx []],Dd (Hu .i64 2)]) (∃b1 e1,Gv 236 [Dd (Hu .i64 n)] [F0 [F2 b1,Hx e1]]∧∃b2 e2 b3 e3 n,Gv 124 [F0 [F2 b,Hx es],F0 [F2 b1,Hx e1]] [F0 [F2 b2,Hx e2,F2 b3,Hx e3],Dd (Hu .i64 n)]∧Q [F0 [F2 b2,Hx e2,F2 b3,Hx e3],Dd (Hu .i64 n)]))):=by kernel_rfl
end
end Eng
end

section
open Go Go.Proofs Eng
set_option maxRecDepth 1000000
namespace Eng
section
variable (Gv:Nat→List A→List A→Prop) (Q:List A→Prop) (I0 I1 I2 I3:List D→List D→Prop) (M0 M1 M2 M3:List D→Nat)
theorem R9 (p q:Bool) (es fs:List (List D)):wpF CC Gv an0 Tryz.f124 [.ag [.bool p,.sl es],.ag [.bool q,.sl fs]] Q=(
 ∃n,Gv 138 [F0 [F2 q,Hx fs]] [Dd (Hu .i64 n)]∧br (toB (F2 (n==0))) (Q [F0 [F2 false,Hx [],F2 false,Hx []],Dd (Hu .i64 6)]) (∃b e1 b1 e2,Gv 100 [F0 [F2 p,Hx es],F0 [F2 q,Hx fs]] [F0 [F2 b,Hx e1,F2 b1,Hx e2]]∧Q [F0 [F2 b,Hx e1,F2 b1,Hx e2],Dd (Hu .i64 0)])):=by kernel_rfl
end
end Eng
end

section
namespace Eng
open Go Go.Proofs
set_option maxRecDepth 100000
theorem brn {b:Bool} {X Y:Prop} (h1:b=false→X) (h2:b=true→Y):br (toB (F2 !b)) X Y:=by
 cases b
 ·exact h1 rfl
 ·exact h2 rfl
theorem TG (c:UInt8) (s:List UInt8) (h:s≠[]) (hc:nth 0 s (s.length-1)=c):w7 c s=w7 c (s.take (s.length-1)):=by
 have hl:0<s.length:=by cases s<;>simp_all
 have e:s=s.take (s.length-1)++[nth 0 s (s.length-1)]:=by
  rw[qn _ (by omega)]
  conv=>lhs;rw[←an (s.length-1) s]
  congr 1;rw[ak (by omega),am (by omega)]
 conv=>lhs;rw[e,vM,if_pos hc]
theorem TH (c:UInt8) (s:List UInt8) (h:s≠[]→nth 0 s (s.length-1)≠c):w7 c s=s:=by
 by_cases h0:s=[]
 ·subst h0;rfl
 have hl:0<s.length:=by cases s<;>simp_all
 have e:s=s.take (s.length-1)++[nth 0 s (s.length-1)]:=by
  rw[qn _ (by omega)]
  conv=>lhs;rw[←an (s.length-1) s]
  congr 1;rw[ak (by omega),am (by omega)]
 rw[e,vM,if_neg (h h0)]
theorem TI (s:List UInt8) (hs:s.length≤1073741824):qf CC 132 [.c (.str s),.c (.int .u8 48)] [.c (.str (w7 48 s))]:=by
 refine qg (anns:=fun _=>⟨[.slot 0 (.string ⟨#[]⟩)],[],fun _ ds=>∃t:List UInt8,ds=[.str t]∧t.length≤s.length∧w7 48 t=w7 48 s,fun ds=>(toS (nth .undef ds 0)).length⟩) mixedT Tryz.func132 ?_;rw[TB];simp only[No];refine⟨⟨s,rfl,by omega,rfl⟩,?_⟩;rintro t ⟨t',he,hlen,a0⟩;simp only[ap,D.str.injEq,and_true]at he;subst he;refine brd (fun h=>?_) (fun h=>?_)
 ·have hw:J4 .i64 ((t.length:Int)-1)=((t.length-1:Nat):Int):=by rw[qK (by omega) (by omega)];omega
  rw[hw,Pl];refine⟨⟨by omega,by omega⟩,?_⟩;have hne:t≠[]:=by intro e;subst e;simp at h
  rw[show(48:Int)=((48:Nat):Int)from rfl,CY _ _ (by omega)];refine brd (fun h2=>?_) (fun h2=>?_)
  ·refine⟨⟨by omega,by omega,by omega⟩,⟨_,rfl,?_,?_⟩,?_⟩
   ·simp;omega
   ·rw[ah,←a0];exact(TG 48 t hne h2).symm
   ·simp only[nth,toS,ah,W2];omega
  ·rw[←a0,TH 48 t fun _=>h2]
 ·have:t=[]:=by
   cases t with
   |nil=>rfl
   |cons=>simp at h
  subst this;rw[←a0];rfl
theorem Nn (s:List UInt8) (hs:s.length≤1073741824):qf CC 72 [.c (.str s),.c (.str [48])] [.c (.str (w7 48 s))]:=by
 refine qg (anns:=an0) mixedT Tryz.func72 ?_;rw[Nl];refine brb (fun h=>?_) (fun h=>⟨⟨by omega,by omega⟩,⟨by omega,by omega⟩,_,TI s hs,rfl⟩);have:s=[]:=by simpa using h
 subst this;rfl
theorem FM {n:Int} (h1: -9223372036854775808≤n) (h2:n<9223372036854775808):qf CC 30 [.c (.int .i64 n)] [.c (.str (mm n))]:=by
 refine qg (anns:=an0) mixedT Tryz.func30 ?_;rw[FL];have a1:∀(a0:List UInt8) (u:Nat),u<9223372036854775809→a0.length≤1→mm n=a0++mmU u→
  ((1000:Int)≠(0:Int)∧∃s,qf CC (71:Nat) [Dd (Hu J7 (J4 J7 (T1 (u:Int) (1000:Int)))),Dd (Hu J6 (10:Int))] [Dd (Hv s)]∧
    room (a0.length+V1 s)∧(1000:Int)≠(0:Int)∧
     br (toB (F2 (Ts (u:Int) (1000:Int) !=(0:Int))))
      ((1000:Int)≠(0:Int)∧
        ∃s_1,
         qf CC (71:Nat) [Dd (Hu J7 (J4 J7 ((1000:Int)+Ts (u:Int) (1000:Int)))),Dd (Hu J6 (10:Int))] [Dd (Hv s_1)]∧
          ((0:Int)≤(1:Int)∧(1:Int)≤(Ls (V1 s_1))∧(Ls (V1 s_1))≤(Ls (V1 s_1)))∧
            ∃s_2,
             qf CC (72:Nat) [Dd (Hv (W1 (1:Nat) (W0 (Lv (Ls (V1 s_1))) s_1))),Dd (Hv [(48:UInt8)])] [Dd (Hv s_2)]∧
              room ((1:Nat)+V1 s_2)∧
               room (V1 (a0++s)+V1 ((46:UInt8)::s_2))∧[Dd (Hv (a0++(s++(46:UInt8)::s_2)))]=[Dd (Hv (mm n))])
      ([Dd (Hv (a0++s))]=[Dd (Hv (mm n))])):=by
  intro a0 u hu hpre a2;have e1:T1 (u:Int) 1000=((u/1000:Nat):Int):=by rw[Int.tdiv_eq_ediv_of_nonneg (by omega)];omega
  have e2:Ts (u:Int) 1000=((u%1000:Nat):Int):=by rw[Int.tmod_eq_emod_of_nonneg (by omega)];omega
  have e3:J4 .u64 ((u/1000:Nat):Int)=((u/1000:Nat):Int):=x9 (by omega) (by omega);have e4:J4 .u64 (1000+((u%1000:Nat):Int))=((1000+u%1000:Nat):Int):=by rw[x9 (by omega) (by omega)];omega
  have l1:(J9 (u/1000)).length≤20:=zh (n:=19) (by omega);rw[e1,e2,e3,e4];refine⟨by omega,_,kv _ (by omega),by unfold room;omega,by omega,?_⟩;have e5:(((u%1000:Nat):Int) !=0)=!decide (u%1000=0):=by rw[Aw];simp;omega
  rw[e5];refine brn (fun h=>?_) (fun h=>?_)
  ·have h0:u%1000≠0:=of_decide_eq_false h;have l2:(J9 (1000+u%1000)).length≤4:=zh (n:=3) (by omega);have l3:0<(J9 (1000+u%1000)).length:=by rw[Lr];exact xy _
   have hd:W1 1 (W0 (Lv (Ls (J9 (1000+u%1000)).length)) (J9 (1000+u%1000)))=xq 3 u:=by rw[No,Pl,ae,BJ (by omega)];exact vL 3 _ _ (by omega)
   have l4:=JG 48 (xq 3 u);rw[qN]at l4;refine⟨by omega,_,kv _ (by omega),⟨by omega,by simp only[No];omega,Int.le_refl _⟩,?_⟩;rw[hd];refine⟨_,Nn _ (by rw[qN];omega),by unfold room;omega,by unfold room;simp only[af,ai];omega,?_⟩;rw[a2,mmU,h]
  ·rw[a2,mmU,h,List.append_nil]
 refine brd (fun h=>?_) (fun h=>?_)
 ·have e:J4 .u64 (0-J4 .u64 n)=((n.natAbs:Nat):Int):=by simp only[J4,IntKind.bits,IntKind.signed];simp;omega
  rw[e];have:=a1 [45] n.natAbs (by omega) (by simp) (by unfold mm;rw[decide_eq_true h]);exact this
 ·have e:J4 .u64 n=((n.natAbs:Nat):Int):=by rw[x9 (by omega) (by omega)];omega
  rw[e];have:=a1 [] n.natAbs (by omega) (by simp) (by unfold mm;rw[decide_eq_false h]);exact this
theorem G2 {z:Int} (h:z.natAbs<10^90):Sm z:=ar h (by unfold JY;decide)
theorem VA {k:Nat} (hk:k≤31):qf CC 236 [.c (.int .i64 (k:Int))] [qJ ((10^k:Nat):Int)]:=by
 refine qg (anns:=fun _=>⟨[.slot 8 (.int .i64 0),.box 3 [.bool false,.slice none 0 0]],[],fun _ ds=>∃j:Nat,j≤k∧ds= .int .i64 (j:Int)::cI ((10^j:Nat):Int),fun ds=>(k-toI (nth .undef ds 0)).toNat⟩) mixedT Tryz.func236 ?_;rw[Na];have h1:=up (xb (n:=1) (by omega) (by omega));have a0:=up (xb (n:=10) (by omega) (by omega));rw[qm]at h1 a0;refine⟨_,_,h1,_,_,a0,⟨0,by omega,rfl⟩,?_⟩;rintro n b es ⟨j,hj,he⟩;simp only[ap,J3,true_and]at he;obtain⟨rfl,he⟩:=he;refine brd (fun h=>?_) (fun h=>?_)
 ·have hw:J4 .i64 ((j:Int)+1)=((j+1:Nat):Int):=by rw[qK (by omega) (by omega)];omega
  have hp:10^j<10^32:=aq (by omega) (by omega);have hm:=up (kp (x:=((10^j:Nat):Int)) (y:=10) (G2 (by rw[P1];exact ar hp (by decide))) (G2 (by decide)));have e:((10^j:Nat):Int)*10=((10^(j+1):Nat):Int):=by rw[av,U0];rfl
  rw[e,qJ,←he]at hm;rw[hw];rw[qm ((10^(j+1):Nat):Int)]at hm;exact⟨_,_,hm,⟨j+1,by omega,rfl⟩,by simp only[nth,toI];omega⟩
 ·have:j=k:=by omega
  subst this;rw[he];rfl
theorem HY {x y:Int} (hx:Sm x) (hy:Sm y) (hy0:y≠0):qf CC 124 [qJ x,qJ y] [xk (aw x y),.c (.int .i64 0)]:=by
 refine qg (anns:=an0) mixedT Tryz.func124 ?_;have h1:=kK XC hx hy hy0;have h2:=up (vF y);rw[qm,qm,qb]at h1 ⊢;rw[qm]at h2;rw[R9];refine⟨_,h2,brb (fun h=>?_) (fun _=>⟨_,_,_,_,h1,rfl⟩)⟩;have:sgn y=0:=by simpa using h
 unfold sgn at this;split at this
 ·omega
 ·split at this<;>omega
theorem Np {b:Rat} (hb:Sz 57 b) {k:Nat} (hk:k≤30):qf CC 139 [xk b,.c (.int .i64 (k:Int))] [xk (b*((10^k:Nat):Rat))]:=by
 refine qg (anns:=an0) mixedT Tryz.func139 ?_;have h1:=VA (k:=k) (by omega);have h2:=up (xb (n:=1) (by omega) (by omega));have hp:10^k<10^32:=aq (by omega) (by omega);have h3:=HY (x:=((10^k:Nat):Int)) (y:=1) (G2 (by rw[P1];exact ar hp (by decide))) (G2 (by decide)) (by omega);have e:aw ((10^k:Nat):Int) 1=((10^k:Nat):Rat):=by rw[Rat.divInt_eq_div,Rat.intCast_natCast];show _/(1:Rat)=_;rw[ay,show(1:Rat)⁻¹=1 from by rw[Rat.inv_def];rfl,Rat.mul_one]
 rw[e]at h3;have h4:=Vh XC (hb.sr (by omega)) ((Sz.sz_pow hk).sr (by omega));rw[qb,qb ((10^k:Nat):Rat)]at h4;rw[qm]at h1 h2;rw[qm,qm,qb]at h3;rw[qb b,Nc];rw[qb (b*_)]at h4 ⊢;exact⟨_,_,h1,_,_,h2,_,_,_,_,_,h3,_,_,_,_,h4,rfl⟩
theorem G3 {z:Int} {k:Nat} (hz:z.natAbs<10^90) (hk:k≤30):qf CC 140 [qJ z,.c (.int .i64 (k:Int))] [.c (.str (sgT z++qY z.natAbs k))]:=by
 generalize hU:z.natAbs=U at *;have hL0:Lm U≤90:=(qR 89 U).2 hz;have hLp:=xy U;have a7:U<10^Lm U:=by obtain⟨n,hn⟩:∃n,Lm U=n+1:=⟨Lm U-1,by omega⟩;rw[hn];exact(qR n U).1 (by omega)
 refine qg (anns:=an0) mixedT Tryz.func140 ?_;have hF:=Ff z (by
  have:(lim z.natAbs).length≤10:=qq (by rw[hU];exact Nat.lt_of_lt_of_le hz (by decide));omega)
 have hS:=up (vF z);rw[qm]at hF hS ⊢;rw[G1];simp only[No];have a5:(J9 U).length=Lm U:=Lr U;generalize hR:[Dd (Hv (sgT z++qY U k))]=R
 --the two parts
 have hP:∀(a2 u:List UInt8),a2.length≤1→sgT z=a2→k≠0→u=xq (max (Lm U) (k+1)) U→
  (((0:Int)≤0∧0≤J4 .i64 ((u.length:Int)-k)∧J4 .i64 ((u.length:Int)-k)≤u.length)∧
    room (a2.length+((u.take (J4 .i64 ((u.length:Int)-k)).toNat).drop 0).length)∧
    room ((a2++((u.take (J4 .i64 ((u.length:Int)-k)).toNat).drop 0)).length+1)∧
    (0≤J4 .i64 ((u.length:Int)-k)∧J4 .i64 ((u.length:Int)-k)≤u.length∧(u.length:Int)≤u.length)∧
    room ((a2++((u.take (J4 .i64 ((u.length:Int)-k)).toNat).drop 0)++[46]).length+((u.take (Lv u.length)).drop (J4 .i64 ((u.length:Int)-k)).toNat).length)∧
    [Dd (Hv (a2++((u.take (J4 .i64 ((u.length:Int)-k)).toNat).drop 0)++[46]++((u.take (Lv u.length)).drop (J4 .i64 ((u.length:Int)-k)).toNat)))]=R):=by
  intro a2 u hpre a8 h0 hu;have hul:u.length=max (Lm U) (k+1):=by rw[hu,qN]
  have hw:J4 .i64 ((u.length:Int)-k)=((u.length-k:Nat):Int):=by rw[qK (by omega) (by omega)];omega
  rw[hw,Pl,Pl,ae,ah];have a6:u.take (u.length-k)++46::u.drop (u.length-k)=qY U k:=by
   rw[hul,hu,Gg (u:=U) (k:=k) (L:=max (Lm U) (k+1)) rfl];cases k with
   |zero=>omega
   |succ k=>rfl
  refine⟨⟨by omega,by omega,by omega⟩,?_,?_,⟨by omega,by omega,by omega⟩,?_,?_⟩
  ·unfold room;simp only[W2];omega
  ·unfold room;simp only[af,W2];omega
  ·unfold room;simp only[af,ai,List.length_nil,List.length_drop,W2];omega
  ·rw[←hR,a8,←a6,ao,ao];rfl
 have a4:∀(s:List UInt8),s=J9 U→s.length≤k→∃s1,qf CC 161 [.c (.str [48]),.c (.int .i64 (J4 .i64 (J4 .i64 ((k:Int)+1)-s.length)))] [.c (.str s1)]∧room (s1.length+s.length)∧s1++s=xq (max (Lm U) (k+1)) U:=by
  intro s hs hle;have hsl:s.length=Lm U:=by rw[hs,a5]
  have hw:J4 .i64 (J4 .i64 ((k:Int)+1)-s.length)=((k+1-s.length:Nat):Int):=by rw[qK (n:=(k:Int)+1) (by omega) (by omega),qK (by omega) (by omega)];omega
  rw[hw];refine⟨_,yC [48] (k+1-s.length) (by simp;omega) (by omega),?_,?_⟩
  ·unfold room;rw[Lib.repeatL_length];simp;omega
  ·rw[Tn,hs,a5,qZ,←Vu _ _ _ a7,show k+1-Lm U+Lm U=max (Lm U) (k+1)by omega]
 have e0:((k:Int)==0)=decide (k=0):=by rw[Aw];simp
 rw[e0];have a1:k=0→J9 U=qY U k:=by rintro rfl;rfl
 have a3:∀s:List UInt8,s=J9 U→¬s.length≤k→s=xq (max (Lm U) (k+1)) U:=fun s hs h=>by rw[hs,qZ,show max (Lm U) (k+1)=Lm U by rw[hs,a5]at h;omega]
 by_cases hneg:z<0
 ·have hs:sgT z=[45]:=by unfold sgT;rw[decide_eq_true hneg]
  have a9:z8 z=45::J9 U:=by unfold z8;rw[hs,hU];rfl
  rw[a9]at hF;have a8:sgn z= -1:=by unfold sgn;rw[if_pos hneg]
  rw[a8]at hS;refine⟨_,hF,_,hS,brd (fun _=>?_) (fun h=>absurd h (by omega))⟩;refine⟨⟨by omega,by simp;omega,by omega⟩,?_⟩;have ht:W1 1 (W0 (Lv ((45::J9 U).length:Int)) (45::J9 U))=J9 U:=by rw[Pl,ae];rfl
  simp only[ht];generalize a0:J9 U=s;have a0:=a0.symm;refine brd (fun h=>⟨by unfold room;rw[a0];omega,?_⟩) (fun h=>brd (fun h2=>?_) (fun h2=>?_))
  ·rw[←hR,hs,a0,a1 h];rfl
  ·obtain⟨s1,g1,g2,g3⟩:=a4 s a0 (by omega);exact⟨s1,g1,g2,hP [45] _ (by simp) hs h g3⟩
  ·exact hP [45] _ (by simp) hs h (a3 s a0 (by omega))
 ·have hs:sgT z=[]:=by unfold sgT;rw[decide_eq_false hneg]
  have a9:z8 z=J9 U:=by unfold z8;rw[hs,hU];rfl
  rw[a9]at hF;refine⟨_,hF,_,hS,brd (fun h=>absurd h ?_) (fun _=>?_)⟩
  ·unfold sgn;split
   ·omega
   ·split<;>omega
  generalize a0:J9 U=s;have a0:=a0.symm;refine brd (fun h=>⟨by unfold room;rw[a0];omega,?_⟩) (fun h=>brd (fun h2=>?_) (fun h2=>?_))
  ·rw[←hR,hs,a0,a1 h];rfl
  ·obtain⟨s1,g1,g2,g3⟩:=a4 s a0 (by omega);exact⟨s1,g1,g2,hP [] _ (by simp) hs h g3⟩
  ·exact hP [] _ (by simp) hs h (a3 s a0 (by omega))
end Eng
end

section
namespace Eng
open Go Go.Proofs
set_option maxRecDepth 100000
theorem Da {b:Rat} (hb:Sz 57 b) {j:Nat} (hj30:j≤30) (hd:(b*((10^j:Nat):Rat)).den=1):(b*((10^j:Nat):Rat)).num.natAbs<10^90:=by
 have hq:=Vy hd;have e1:((b*((10^j:Nat):Rat)).num:Rat)=b*((10^j:Nat):Rat):=hq;have hle:(b*((10^j:Nat):Rat)).num.natAbs≤b.num.natAbs*10^j:=by
  have a0:(b*((10^j:Nat):Rat)).num*(b.den:Int)=b.num*((10^j:Nat):Int):=by
   have h2:((b*((10^j:Nat):Rat)).num:Rat)*(b.den:Rat)=(b.num:Rat)*((10^j:Nat):Rat):=by rw[e1,ax,Rat.mul_comm ((10^j:Nat):Rat),←ax,Gy]
   exact_mod_cast h2
  have h3:=congrArg Int.natAbs a0;rw[U3,U3,P1,P1]at h3;have:=b.den_pos
  calc (b*((10^j:Nat):Rat)).num.natAbs≤(b*((10^j:Nat):Rat)).num.natAbs*b.den:=Nat.le_mul_of_pos_right _ this
   _=_:=h3
 have h4:b.num.natAbs*10^j≤10^57*10^30:=Nat.mul_le_mul hb.1 (Nat.pow_le_pow_right (by omega) hj30);omega
theorem RA {m d:Int} (h1: -9223372036854775808≤m) (h2:m<9223372036854775808) (h3: -9223372036854775808≤d) (h4:d<9223372036854775808) (hd:d≠0):qf CC 142 [.c (.int .i64 m),.c (.int .i64 d)] [xk (aw m d)]:=by
 refine qg (anns:=an0) mixedT Tryz.func142 ?_;rw[R5];refine brb (fun h=>absurd (by simpa using h) hd) (fun _=>?_);have g1:=up (xb h1 h2);have g2:=up (xb h3 h4);have g3:=kK XC (Tx h1 h2) (Tx h3 h4) hd;rw[qm]at g1 g2;rw[qm,qm]at g3;rw[qb]at g3 ⊢;exact⟨_,_,g1,_,_,g2,_,_,_,_,g3,rfl⟩
theorem VB {a:Rat} (ha:Sz 54 a):qf CC 74 [xk a] [xk (a/1000)]:=by
 refine qg (anns:=an0) mixedT Tryz.func74 ?_;rw[qb,Ng];have h1:=RA (m:=1) (d:=1000) (by omega) (by omega) (by omega) (by omega) (by omega);have hs:Sz 3 (aw 1 1000):=Sz.divInt (by omega) (by decide) (by decide);have h2:=Vh XC (ha.sr (by omega)) (hs.sr (by omega));have e:a*aw 1 1000=a/1000:=by rw[ay,Wm]
 rw[e]at h2;rw[qb]at h1;rw[qb,qb (aw 1 1000),qb (a/1000)]at h2;rw[qb (a/1000)];exact⟨_,_,_,_,h1,_,_,_,_,h2,rfl⟩
theorem Nq {s:List UInt8} (hs:s.length≤1000):qf CC 141 [.c (.str s)] [.c (.str s),.c (.bool true)]:=by
 refine qg (anns:=an0) mixedT Tryz.func141 ?_;rw[Nd];exact brd (fun h=>absurd h (by simp only[No];omega)) (fun _=>rfl)
theorem VD {b:Rat} (hb:Sz 57 b):qf CC 73 [xk b] [.c (.str (X3 b)),.c (.bool (exq b).isSome)]:=by
 refine qg (anns:=fun _=>⟨[.slot 6 (.int .i64 0),.box 5 [.bool false,.slice none 0 0]],[],fun _ ds=>∃j:Nat,j≤31∧ds= .int .i64 (j:Int)::cI ((10^j:Nat):Int)∧exF b (31-j) j=exq b,fun ds=>(100-toI (nth .undef ds 0)).toNat⟩) mixedT Tryz.func73 ?_;have h1:=up (xb (n:=1) (by omega) (by omega));have a4:=up (xb (n:=10) (by omega) (by omega));rw[qm]at h1 a4;rw[qb,Nf];refine⟨_,_,h1,⟨0,by omega,rfl,rfl⟩,?_⟩;rintro m bb es ⟨j,hj,he,a0⟩;simp only[ap,J3,true_and]at he;obtain⟨rfl,he⟩:=he;refine brd (fun h30=>?_) (fun h=>?_)
 ·have a1:j≤30:=by omega
  have hp:10^j<10^32:=aq (by omega) (by omega);have a5:Sm ((10^j:Nat):Int):=G2 (by rw[P1];exact ar hp (by decide));have a2:Sm (b.den:Int):=(hb.sr (by omega)).2.sm;have hq:=QF XC a5 a2 (by have:=b.den_pos;omega);have hS:=up (vF (((10^j:Nat):Int)%(b.den:Int)));rw[qJ,qm (b.den:Int),←he,qm,qm]at hq;rw[qm]at hS;rw[show 31-j=(30-j)+1 by omega,SX]at a0;have a3:((10^j:Nat):Int)%(b.den:Int)=((10^j%b.den:Nat):Int):=by omega
  have hsg:(sgn (((10^j:Nat):Int)%(b.den:Int))==0)=decide (10^j%b.den=0):=by
   rw[a3,Aw,beq_iff_eq,decide_eq_true_eq];unfold sgn;split
   ·omega
   ·split<;>omega
  refine⟨_,_,_,_,_,hq,_,hS,?_⟩;rw[hsg];refine brd (fun h2=>?_) (fun h2=>?_)
  ·rw[if_pos h2]at a0;have hd:=(H1 b j).2 h2;have hn:=Da hb a1 hd;have hT:=Np hb a1;have hS:=G3 hn a1;have hi:(exq b).isSome=true:=by rw[←a0];rfl
   have ht:X3 b=sgT (b*((10^j:Nat):Rat)).num++qY (b*((10^j:Nat):Rat)).num.natAbs j:=by unfold X3;rw[←a0]
   rw[ht,hi];have hl:(sgT (b*((10^j:Nat):Rat)).num++qY (b*((10^j:Nat):Rat)).num.natAbs j).length≤1000:=by have:=Kf hn a1;have:=Vs (b*((10^j:Nat):Rat)).num;simp only[af];omega
   have hsh:=Nq hl;rw[qb,qb (b*_)]at hT;rw[qm]at hS;exact⟨_,_,_,_,hT,_,hS,_,_,hsh,rfl⟩
  ·rw[if_neg h2]at a0;have hw:J4 .i64 ((j:Int)+1)=((j+1:Nat):Int):=by rw[qK (by omega) (by omega)];omega
   have hm:=up (kp a5 (y:=10) (G2 (by decide)));have e:((10^j:Nat):Int)*10=((10^(j+1):Nat):Int):=by rw[av,U0];rfl
   rw[e,qJ,←he,qm ((10^(j+1):Nat):Int)]at hm;rw[hw];exact⟨_,_,a4,_,_,hm,⟨j+1,by omega,rfl,by rw[show 31-(j+1)=30-j by omega];exact a0⟩,by simp only[nth,toI];omega⟩
 ·have:j=31:=by omega
  subst this;have a0:none=exq b:=a0;have ht:X3 b=[]:=by unfold X3;rw[←a0]
  rw[ht,←a0];rfl
theorem QJ {x:Rw} (hf:x.rd):qf CC 147 [.ag x.cs] [.c (.bool (xU (vr x)))]:=by
 have hu:=MN (p:=x.p) (q:=x.q) hf.1 hf.2.1;refine qg (anns:=an0) mixedT Tryz.func147 ?_;have ec:(F0 x.cs)= .ag [.bool x.p,.sl (raw x.l),.bool x.q,.sl (raw x.m)]:=rfl;rw[ec,T7];refine⟨_,hu,?_⟩;have hok:okQ x.p x.l x.q x.m=x.ok:=rfl;rw[hok];unfold vr;cases h:x.ok with
 |false=>refine brb (fun _=>?_) (fun h=>by simp at h);simp[xU]
 |true=>
  refine brb (fun h=>by simp at h) (fun _=>?_);rw[if_pos rfl];have hc:=Rw.val_cs h;have a4:=Rw.val_sr h hf.1 hf.2.1;have hz:=Rw.rd_sz hf h;have hC:F0 [.bool x.p,.sl (raw x.l),.bool x.q,.sl (raw x.m)]=xk x.val:=by unfold xk;rw[←hc];rfl
  generalize x.val=a at *;have h1:=wz (n:=10000000) (by omega) (by omega);have sM:Sz 8 ((10000000:Int):Rat):=Sz.int (by decide);have a3:=sM.sr (by omega);have a0:=H9 a4 a3;have hn:=HA a3;have a1:=H9 a4 a3.neg;rw[←hC]at a0 a1;rw[qb]at h1 a0 a1;rw[qb,qb (-_)]at hn;have a2:xU (some a)=(decide (-10000000≤a∧a≤10000000)&&(exq (a/1000)).isSome):=rfl;rw[a2];refine⟨_,_,_,_,h1,_,a0,brd (fun hgt=>?_) (fun hgt=>⟨_,_,_,_,hn,_,a1,brd (fun hg2=>?_) (fun hg2=>?_)⟩)⟩
  ·have:=QG.1 hgt;rw[decide_eq_false (fun h=>by have h:=h.2;grind)];rfl
  ·have:=MR.1 hg2;rw[decide_eq_false (fun h=>by have h:=h.1;grind)];rfl
  ·have g1:=fun h=>hgt (QG.2 h)
   have g2:=fun h=>hg2 (MR.2 h)
   have b1: -10000000≤a:=by grind
   have b2:a≤10000000:=by grind
   have ht:=VB (hz b1 b2);have hx:=VD (hz b1 b2).thou;rw[←hC]at ht;rw[qb]at ht hx;refine⟨_,_,_,_,ht,_,_,hx,?_⟩;rw[decide_eq_true (⟨b1,b2⟩: -10000000≤a∧a≤10000000)];rfl
theorem Zj {a:Rat} (ha:Sz 54 a):qf CC 31 [xk a] [.c (.str (X3 (a/1000)))]:=by
 refine qg (anns:=an0) mixedT Tryz.func31 ?_;have ht:=VB ha;have hx:=VD ha.thou;rw[qb]at ht hx ⊢;rw[qb]at ht;rw[Nh];exact⟨_,_,_,_,ht,_,_,hx,rfl⟩
end Eng
end

section
namespace Eng
open Go Go.Proofs
set_option maxRecDepth 100000
theorem Nr (c:UInt8):qf CC 152 [.c (.int .u8 c.toNat)] [.c (.bool (nmc c))]:=by
 refine qg (anns:=an0) mixedT Tryz.func152 ?_;rw[T4];have e95:((c.toNat:Int)==95)=decide (c=95):=u8b c 95 (by omega);have e45:((c.toNat:Int)==45)=decide (c=45):=u8b c 45 (by omega);rw[e95,e45];unfold nmc;refine⟨_,yF c,jm (fun h=>?_) (fun h=>⟨_,yE c,jm (fun h2=>?_) (fun h2=>?_)⟩)⟩
 ·rw[h];rfl
 ·rw[h,h2];rfl
 ·rw[h,h2];cases decide (c=95)<;>cases decide (c=45)<;>rfl
theorem HZ {s:List UInt8} (hs:s.length≤1073741824) {i:Nat} (hi:i≤s.length):qf CC 151 [.c (.str s),.c (.int .i64 (i:Int)),.c (.fn 152)] [.c (.int .i64 ((i+zc nmc (s.drop i):Nat):Int))]:=by
 refine qg (anns:=fun _=>⟨[.slot 1 (.int .i64 0)],[],fun _ ds=>∃k:Nat,k≤s.length∧ds=[.int .i64 (k:Int)]∧i+zc nmc (s.drop i)=k+zc nmc (s.drop k),fun ds=>(s.length-toI (nth .undef ds 0)).toNat⟩) mixedT Tryz.func151 ?_;rw[R6];simp only[No];refine⟨⟨i,hi,rfl,rfl⟩,?_⟩;rintro n ⟨k,hk,he,hl⟩;simp only[ap,J3,true_and,and_true]at he;subst he;refine brd (fun h=>?_) (fun h=>?_)
 ·have hkl:k<s.length:=by omega
  rw[Pl];refine⟨⟨by omega,by omega⟩,_,Nr _,jm (fun hc=>?_) (fun hc=>?_)⟩
  ·have hw:J4 .i64 ((k:Int)+1)=((k+1:Nat):Int):=by rw[qK (by omega) (by omega)];omega
   rw[hw];refine⟨⟨k+1,by omega,rfl,?_⟩,by simp only[nth,toI];omega⟩;rw[hl,vg hkl hc];omega
  ·rw[hl,zm (.inr hc)];simp
 ·rw[hl,zm (.inl (by omega))];simp
theorem Ua {s:List UInt8} (hs:s.length≤1073741824) {i:Nat} (hi:i≤s.length):qf CC 151 [.c (.str s),.c (.int .i64 (i:Int)),.c (.fn 153)] [.c (.int .i64 ((i+zc isD (s.drop i):Nat):Int))]:=by
 refine qg (anns:=fun _=>⟨[.slot 1 (.int .i64 0)],[],fun _ ds=>∃k:Nat,k≤s.length∧ds=[.int .i64 (k:Int)]∧i+zc isD (s.drop i)=k+zc isD (s.drop k),fun ds=>(s.length-toI (nth .undef ds 0)).toNat⟩) mixedT Tryz.func151 ?_;rw[R7];simp only[No];refine⟨⟨i,hi,rfl,rfl⟩,?_⟩;rintro n ⟨k,hk,he,hl⟩;simp only[ap,J3,true_and,and_true]at he;subst he;refine brd (fun h=>?_) (fun h=>?_)
 ·have hkl:k<s.length:=by omega
  rw[Pl];refine⟨⟨by omega,by omega⟩,_,yE _,jm (fun hc=>?_) (fun hc=>?_)⟩
  ·have hw:J4 .i64 ((k:Int)+1)=((k+1:Nat):Int):=by rw[qK (by omega) (by omega)];omega
   rw[hw];refine⟨⟨k+1,by omega,rfl,?_⟩,by simp only[nth,toI];omega⟩;rw[hl,vg hkl hc];omega
  ·rw[hl,zm (.inr hc)];simp
 ·rw[hl,zm (.inl (by omega))];simp
theorem TJ {s:List UInt8} (hs:s.length≤1073741824):qf CC 146 [.c (.str s)] [.c (.bool (kh s))]:=by
 refine qg (anns:=an0) mixedT Tryz.func146 ?_;have hr:=HZ hs (i:=0) (by omega);rw[ah,au]at hr;rw[T8,KT];simp only[No];have hz:Lv 0=0:=rfl;cases s with
 |nil=>refine brb (fun h=>by simp at h) (fun _=>rfl)
 |cons c r=>
  refine brb (fun _=>?_) (fun h=>by simp at h);have a0:(c::r).isEmpty=false:=rfl;refine brd (fun h2=>⟨⟨by omega,by simp only[ai];omega⟩,_,by rw[hz];exact yF _,jm (fun h3=>⟨_,hr,?_⟩) (fun h3=>?_)⟩) (fun h2=>?_)
  ·rw[a0,decide_eq_true (by omega:(c::r).length≤24),h3];have:(((zc nmc (c::r):Nat):Int)==(((c::r).length:Nat):Int))=decide (zc nmc (c::r)=(c::r).length):=by rw[Aw];simp only[beq_iff_eq,decide_eq_true_eq];omega
   rw[this];rfl
  ·rw[a0,decide_eq_true (by omega:(c::r).length≤24),h3];rfl
  ·rw[a0,decide_eq_false (by omega:¬(c::r).length≤24)];rfl
theorem Ns {l:Ly} (hs:l.name.length≤1073741824):qf CC 78 [.ag (vP l)] [.c (.bool (y3 l))]:=by
 have hn:=TJ hs;refine qg (anns:=an0) mixedT Tryz.func78 ?_;have er:F0 (vP l)= .ag [.str l.name,.int .i64 l.kind,.int .i64 l.depth]:=rfl;rw[er,Ni];unfold y3;generalize kh l.name=N at *;generalize l.kind=k at *;generalize l.depth=d at *;refine⟨_,hn,?_⟩;cases N with
 |false=>refine brb (fun _=>by simp) (fun h=>by simp at h)
 |true=>
  refine brb (fun h=>by simp at h) (fun _=>?_);by_cases k1:k=1
  ·subst k1;refine brb (fun _=>?_) (fun h=>by simp at h);refine brb (fun _=>?_) (fun h=>by simp at h);refine brd (fun h=>?_) (fun h=>?_)<;>(congr 3;first|(simp_all;done)|(simp_all;omega))
  ·refine brb (fun h=>by simp at h;exact absurd h k1) (fun _=>?_);by_cases k3:k=3
   ·subst k3;refine brb (fun _=>?_) (fun h=>by simp at h);refine brd (fun h=>?_) (fun h=>?_)<;>(congr 3;first|(simp_all;done)|(simp_all;omega))
   ·refine brb (fun h=>by simp at h;exact absurd h k3) (fun _=>?_);by_cases k2:k=2
    ·subst k2;refine brb (fun _=>?_) (fun h=>by simp at h);refine brb (fun _=>?_) (fun h=>by simp at h);congr 3
    ·refine brb (fun h=>by simp at h;exact absurd h k2) (fun _=>?_);by_cases k4:k=4
     ·subst k4;refine brb (fun _=>?_) (fun h=>by simp at h);congr 3
     ·refine brb (fun h=>by simp at h;exact absurd h k4) (fun _=>?_);congr 3;first|(simp_all;done)|(simp_all;omega)
end Eng
end

section
namespace Eng
open Go Go.Proofs
set_option maxRecDepth 100000
theorem ptab {k:Int} (h1:1≤k) (h2:k≤3):nth [] [[Hv [],Hu J6 (0:Int)],[Hv [(108:UInt8),(105:UInt8),(110:UInt8),(101:UInt8)],Hu J6 (2:Int)],
 [Hv [(97:UInt8),(114:UInt8),(99:UInt8)],Hu J6 (3:Int)],
 [Hv [(99:UInt8),(105:UInt8),(114:UInt8),(99:UInt8),(108:UInt8),(101:UInt8)],Hu J6 (1:Int)]] (Lv k)=[Hv (nth [] [[],[108,105,110,101],[97,114,99],[99,105,114,99,108,101]] k.toNat),Hu .i64 ((wt k:Nat):Int)]:=by
 have:k=1∨k=2∨k=3:=by omega
 rcases this with rfl|rfl|rfl<;>rfl
theorem TK {e:Er} (hf:e.few) (hl:e.pts.length≤1073741824):qf CC 79 [.ag (Zh e)] [.c (.bool (vT e.o))]:=by
 have hE:=e.ok_eq;have a4:=fun(p:Rw×Rw) (hp:p∈e.pts)=>And.intro (QJ (hf.1 p hp).1) (QJ (hf.1 p hp).2)
 have a2:=QJ hf.2;refine qg (anns:=fun _=>⟨[.slot 27 (.int .i64 0)],[],fun _ ds=>∃j:Nat,j≤e.pts.length∧ds=[.int .i64 (j:Int)]∧(e.pts.take j).all Tz=true,fun ds=>(e.pts.length-toI (nth .undef ds 0)).toNat⟩) mixedT Tryz.func79 ?_;have er:F0 (Zh e)= .ag [.int .i64 e.kind,.str e.layer,.sl (e.pts.map Xq),.bool e.rad.p,.sl (raw e.rad.l),.bool e.rad.q,.sl (raw e.rad.m)]:=rfl;rw[er,T9];have a3:F0 e.rad.cs= .ag [.bool e.rad.p,.sl (raw e.rad.l),.bool e.rad.q,.sl (raw e.rad.m)]:=rfl;rw[a3]at a2;simp only[No,ad];generalize vT e.o=R at *;refine brd (fun h=>?_) (fun h=>brd (fun h'=>?_) (fun h'=>⟨⟨by omega,by omega⟩,((wt e.kind:Nat):Int),?_,?_⟩))
 ·rw[hE,decide_eq_false (by omega)];rfl
 ·rw[hE,decide_eq_false (by omega)];rfl
 ·rw[ptab (by omega) (by omega)];exact⟨rfl,by simp⟩
 have hk:1≤e.kind∧e.kind≤3:=⟨by omega,by omega⟩;rw[decide_eq_true hk,Bx]at hE;refine brb (fun h2=>?_) (fun h2=>?_)
 ·have h2:¬e.pts.length=wt e.kind:=by simp at h2;omega
  rw[hE,decide_eq_false h2];rfl
 have h2:e.pts.length=wt e.kind:=by simp at h2;omega
 rw[decide_eq_true h2,Bx]at hE;refine⟨⟨0,by omega,rfl,by simp⟩,?_⟩;rintro n ⟨j,hj,he,a0⟩;simp only[ap,J3,true_and,and_true]at he;subst he;refine brd (fun h=>?_) (fun h=>?_)
 ·have a1:j<e.pts.length:=by omega
  obtain⟨hx,hy⟩:=a4 e.pts[j] (aj a1);rw[Pl,qM a1];refine⟨⟨by omega,by omega,by simp[Xq,Rw.cs]⟩,_,_,_,_,_,_,_,_,⟨rfl,by simp[Xq,Rw.cs]⟩,_,hx,brb (fun h4=>?_) (fun h4=>⟨_,hy,brb (fun h5=>?_) (fun h5=>?_)⟩)⟩
  ·rw[hE,xz a1 (by unfold Tz;simp at h4;rw[h4];rfl)];rfl
  ·rw[hE,xz a1 (by unfold Tz;simp at h5;rw[h5];simp)];rfl
  ·have hw:J4 .i64 ((j:Int)+1)=((j+1:Nat):Int):=by rw[qK (by omega) (by omega)];omega
   rw[hw];refine⟨⟨j+1,by omega,rfl,?_⟩,by simp only[nth,toI];omega⟩;rw[List.take_succ_eq_append_getElem a1,List.all_append,a0];simp at h4 h5;simp[Tz,h4,h5]
 ·have:j=e.pts.length:=by omega
  subst this;rw[ae]at a0;rw[a0,Bx]at hE;refine brb (fun h3=>?_) (fun h3=>?_)
  ·have h3:e.kind≠3:=by simpa using h3
   rw[hE,decide_eq_true h3];rfl
  have h3:e.kind=3:=by simpa using h3
  rw[h3]at hE;simp only[ne_eq,not_true_eq_false,decide_false,Bool.false_or]at hE;refine⟨_,a2,?_⟩;cases hr:xU (vr e.rad)with
  |false=>refine jm (fun h=>by simp at h) (fun _=>?_);rw[hE,hr];rfl
  |true=>
   refine jm (fun _=>?_) (fun h=>by simp at h);obtain⟨ha,_⟩:=jP hr;have a6:e.rad.ok=true:=by
    unfold vr at ha;by_cases h:e.rad.ok=true
    ·exact h
    ·rw[if_neg h]at ha;simp at ha
   have hv:vr e.rad=some e.rad.val:=by unfold vr;rw[if_pos a6]
   have hcs:=Rw.val_cs a6;have a7:=XY e.rad.val;have hC:xk e.rad.val=F0 [.bool e.rad.p,.sl (raw e.rad.l),.bool e.rad.q,.sl (raw e.rad.m)]:=by unfold xk;rw[←hcs];rfl
   rw[hC]at a7;have a5:A3 (vr e.rad)=decide (sgn e.rad.val.num>0):=by
    rw[hv];show decide (0<e.rad.val)=_;rw[decide_eq_decide,←MV];unfold sgn;split
    ·omega
    ·split<;>omega
   rw[hr,a5,Bx]at hE;rw[hE];exact⟨_,a7,rfl⟩
theorem wL {α:Type} {f:α→List D} {n:Nat} (h:∀a,(f a).length=n) (l:List α):lens n (l.map f):=fun e he=>by
 obtain⟨a,_,rfl⟩:=List.mem_map.1 he;exact h a
theorem Ub {ls:List Ly} (hn:∀l∈ls,l.name.length≤1000000) (hl:ls.length≤1000000) {k:Nat} (hk:k+1=ls.length):qf CC 36 [.c (.sl (ls.map vP))] [.c (.int .i64 ((xV (ls.take k) ls[k]:Nat):Int))]:=by
 have a1:k<ls.length:=by omega
 refine qg (anns:=an0) mixedT Tryz.func36 ?_;rw[R8];simp only[No,ad];have hw:J4 .i64 ((ls.length:Int)-1)=(k:Int):=by rw[qK (by omega) (by omega)];omega
 have hly:=Ns (l:=ls[k]) (by have:=hn _ (aj a1);omega);have hfd:=HX (ls:=ls) (s:=ls[k].name) (by omega);rw[hw,Pl,qM a1];refine⟨⟨by omega,by omega,rfl⟩,_,_,_,⟨rfl,by simp[vP]⟩,_,hly,?_⟩;cases hok:y3 ls[k]with
 |false=>refine brb (fun _=>?_) (fun h=>by simp at h);unfold xV;rw[hok];rfl
 |true=>
  refine brb (fun h=>by simp at h) (fun _=>⟨_,hfd,?_⟩);have a0:=QI (s:=ls[k].name) (k:=0) a1 rfl;rw[au]at a0;refine brd (fun h4=>?_) (fun h4=>?_)
  ·unfold xV;rw[if_pos hok,if_pos (a0.1 h4)];rfl
  ·unfold xV;rw[if_pos hok,if_neg (fun h=>h4 (a0.2 h))];rfl
theorem VE {ls:List Ly} {es:List Er} {e:Er} (hl:ls.length≤1000000) (hf:e.few) (hp:e.pts.length≤1000):qf CC 37 [drA ls es,.ag (Zh e)] [.c (.int .i64 ((xD ls e.o:Nat):Int))]:=by
 refine qg (anns:=an0) mixedT Tryz.func37 ?_;have a2:=TK hf (by omega);have hfd:=HX (ls:=ls) (s:=e.layer) (by omega);have a1:=Wn (s:=e.layer) (ls:=ls) (k:=0);have er:F0 (Zh e)= .ag [.int .i64 e.kind,.str e.layer,.sl (e.pts.map Xq),.bool e.rad.p,.sl (raw e.rad.l),.bool e.rad.q,.sl (raw e.rad.m)]:=rfl;rw[er]at a2 ⊢;unfold drA;rw[Nj];have a0:e.o.layer=e.layer:=rfl;refine⟨_,hfd,brd (fun h4=>?_) (fun h4=>⟨_,a2,?_⟩)⟩
 ·unfold xD;rw[a0,if_neg (a1.1 h4)];rfl
 ·have a3:e.layer∈ls.map (·.name):=by
   by_cases h:e.layer∈ls.map (·.name)
   ·exact h
   ·exact absurd (a1.2 h) h4
  cases hok:vT e.o with
  |false=>refine brb (fun _=>?_) (fun h=>by simp at h);unfold xD;rw[a0,if_pos a3,hok];rfl
  |true=>refine brb (fun h=>by simp at h) (fun _=>?_);unfold xD;rw[a0,if_pos a3,if_pos hok];rfl
theorem Zk {ls:List Ly} {es:List Er} (hn:∀l∈ls,l.name.length≤1000) (hf:∀e∈es,e.few∧e.pts.length≤1000):qf CC 12 [drA ls es] [.c (.int .i64 ((JK ls es:Nat):Int))]:=by
 refine qg (anns:=JW
  ⟨[.slot 21 (.int .i64 0)],[],fun _ ds=>∃k:Nat,k≤ls.length∧ds=[.int .i64 (k:Int)]∧xR (ls.take k) (ls.drop k)=xR [] ls,fun ds=>(ls.length-toI (nth .undef ds 0)).toNat⟩
  ⟨[.slot 37 (.int .i64 0)],[],fun _ ds=>∃k:Nat,k≤es.length∧ds=[.int .i64 (k:Int)]∧z7 ls ((es.map Er.o).drop k)=z7 ls (es.map Er.o),fun ds=>(es.length-toI (nth .undef ds 0)).toNat⟩) mixedT Tryz.func12 ?_
 have hkn:=fun(e:Er) (he:e∈es) (hl:ls.length≤20)=>VE (ls:=ls) (es:=es) (e:=e) (by omega) (hf e he).1 (hf e he).2
 unfold drA at *;rw[Nk];simp only[No,ad];have hv:JK ls es=if 20<ls.length∨200<es.length then 3 else match xR [] ls with|0=>z7 ls (es.map Er.o)|e=>e:=by unfold JK wx;rw[ad];generalize xR [] ls=x;cases x<;>rfl
 refine brd (fun h=>?_) (fun h=>brd (fun h2=>?_) (fun h2=>?_))
 ·rw[hv,if_pos (.inl (by omega))];rfl
 ·rw[hv,if_pos (.inr (by omega))];rfl
 rw[if_neg (by omega)]at hv;generalize JK ls es=V at *;refine⟨⟨0,by omega,rfl,rfl⟩,?_⟩;rintro n ⟨k,hk,he,a0⟩;simp only[ap,J3,true_and,and_true]at he;subst he;refine brd (fun h3=>?_) (fun h3=>?_)
 ·have a1:k<ls.length:=by omega
  rw[HW a1]at a0;have hw:J4 .i64 ((k:Int)+1)=((k+1:Nat):Int):=by rw[qK (by omega) (by omega)];omega
  have a2:=Ub (ls:=ls.take (k+1)) (fun l hl=>Nat.le_trans (hn l (List.mem_of_mem_take hl)) (by omega)) (by rw[W2];omega) (k:=k) (by rw[W2];omega);have e1:(ls.take (k+1)).take k=ls.take k:=by rw[List.take_take];congr 1;omega
  rw[e1,List.getElem_take]at a2;rw[hw,Pl,ah,←List.map_take];refine⟨⟨by omega,by omega,by omega,wL (f:=vP) (n:=3) (fun _=>rfl) ls⟩,_,a2,?_⟩;generalize hx:xV (ls.take k) ls[k]=x at *;cases x with
  |zero=>refine brb (fun h=>by simp at h) (fun _=>?_);exact⟨⟨k+1,by omega,rfl,a0⟩,by simp only[nth,toI];omega⟩
  |succ x=>refine brb (fun _=>?_) (fun h=>by simp at h;omega);simp only at a0;rw[←a0]at hv;rw[hv];rfl
 ·have a1:k=ls.length:=by omega
  subst a1;rw[ae,List.drop_length]at a0;have a0:0=xR [] ls:=a0;rw[←a0]at hv;simp only at hv;clear h3 a0;refine⟨⟨0,by omega,rfl,rfl⟩,?_⟩;rintro n ⟨k,hk,he,a0⟩;simp only[ap,J3,true_and,and_true]at he;subst he;refine brd (fun h3=>?_) (fun h3=>?_)
  ·have a1:k<es.length:=by omega
   have hkm:k<(es.map Er.o).length:=by rw[ad];exact a1
   rw[Pl,qM a1];rw[V9 hkm,List.getElem_map]at a0;have hK:=hkn es[k] (aj a1) (by omega);have hw:J4 .i64 ((k:Int)+1)=((k+1:Nat):Int):=by rw[qK (by omega) (by omega)];omega
   rw[hw];refine⟨⟨by omega,by omega,by simp[Zh,Rw.cs]⟩,_,_,_,_,_,_,_,⟨rfl,by simp[Zh,Rw.cs]⟩,_,hK,?_⟩;generalize hx:xD ls es[k].o=x at *;cases x with
   |zero=>refine brb (fun h=>by simp at h) (fun _=>?_);exact⟨⟨k+1,by omega,rfl,a0⟩,by simp only[nth,toI];omega⟩
   |succ x=>refine brb (fun _=>?_) (fun h=>by simp at h;omega);simp only at a0;rw[←a0]at hv;rw[hv]
  ·have a1:k=es.length:=by omega
   subst a1;rw[List.drop_eq_nil_of_le (by rw[ad];exact Nat.le_refl _)]at a0;have a0:0=z7 ls (es.map Er.o):=a0;rw[hv,←a0];rfl
end Eng
end
