/- The verification conditions of functions, printed by a program (vcgen.py) and checked by the kernel. -/
import Derived.Test.YtbehlcfelmbmlaaGreatDoorLibA
import Derived.Test.YtbehlcfelmbmlaaGreatDoorNumA
import Derived.KernelRfl
open Bool renaming false_eq_true→Aa, not_false→Ab, false_and→Ac, true_and→Ad, not_true→Ae
open Eng.A renaming c→Af, ag→Ah
open Eng.D renaming int→Ai, bool→Aj, sl→Ak
open Eng.D.int renaming injEq→Al
open Eng.D.sl renaming injEq→Am
open Eng.Limbs renaming cons→An, nil→Ao
open Go.IntKind renaming wrap→Ap, wrap_u64→Aq
open Int renaming ofNat→Ar, toNat→As, toNat_natCast→At, ofNat_eq_natCast→Au, tdiv→Av, tmod→Aw, tmod_eq_emod_of_nonneg→Ax, tdiv_eq_ediv_of_nonneg→Ay, natCast_mul→Az, natAbs_neg→A0
open List renaming length→A1, replicate→A2, length_take→A3, drop_eq_getElem_cons→A4, take_length→A5, take_of_length_le→A6, take_append_drop→A7, getD→A8, take_succ_eq_append_getElem→A9, take→AA, drop→AB, eq_nil_of_length_eq_zero→AC, drop_zero→AD, mem_or_eq_of_mem_set→AE, getElem?_eq_getElem→AF, set_append_right→AG, replicate_zero→AH, length_append→AI, getLast?_take→AJ, length_drop→AK, drop_length→AL, append_nil→AM
open List.cons renaming injEq→AN
open Nat renaming mul_le_mul_right→AO, mul_add→AP, mul_le_mul_left→AQ, mul_assoc→AR, pow_succ→AS, mul_comm→AT, div_lt_iff_lt_mul→AU, eq_zero_or_pos→AV, add_mul→AW, mod_eq_of_lt→AX, le_refl→AY, add_zero→AZ, lt_of_not_le→Bx, div_add_mod→BP, mul_zero→BQ, pow_le_pow_right→BR, div_mul_le_self→BS, mod_lt→BT, le_of_lt_succ→BU, min_eq_left→BV, sub_self→BW, pow_add→BX, one_mul→BY, mul_one→BZ
section
namespace Eng
open Go Go.Proofs
set_option maxRecDepth 1000000
section
variable (Gv:Nat→List A→List A→Prop) (Q:List A→Prop) (I0 I1 I2 I3:List D→List D→Prop) (M0 M1 M2 M3:List D→Nat)
theorem Pi (es:List (List D)):wpF C0 Gv (fun _=>⟨[.slot 0 (.slice none 0 0)],[],I0,M0⟩) Tryz.f307 [.c (.sl es)] Q=(
 I0 [] [Ak es]∧∀(es:List (List D)),I0 [] [Ak es]→br (toB (Aj (decide ((Ar es.length)>0)))) ((0≤Ap .i64 ((Ar es.length)-1)∧Ap .i64 ((Ar es.length)-1)<(Ar es.length)∧A1 (nth [] es (As (Ap .i64 ((Ar es.length)-1))))=1)∧∃n,cut (nth [] es (As (Ap .i64 ((Ar es.length)-1)))) 0 1 [Ai .u32 n]∧br (toB (Aj (n==0))) (((0:Int)≤(0:Int)∧0≤Ap .i64 ((Ar es.length)-1)∧Ap .i64 ((Ar es.length)-1)≤(Ar es.length)∧lens 1 es)∧I0 [] [Ak (AB 0 (AA (As (Ap .i64 ((Ar es.length)-1))) es))]∧M0 [Ak (AB 0 (AA (As (Ap .i64 ((Ar es.length)-1))) es))]<M0 [Ak es]) (Q [Af (Ak es)])) (Q [Af (Ak es)])):=by kernel_rfl
theorem Gd (es fs:List (List D)):wpF C0 Gv (fun _=>⟨[.slot 5 (.int .i64 0)],[],I0,M0⟩) Tryz.f266 [.c (.sl es),.c (.sl fs)] Q=(
 ∃e1,Gv 307 [Af (Ak es)] [Af (Ak e1)]∧∃es,Gv 307 [Af (Ak fs)] [Af (Ak es)]∧br (toB (Aj ((Ar e1.length) !=(Ar es.length)))) (br (toB (Aj (decide ((Ar e1.length)<(Ar es.length))))) (Q [Af (Ai .i64 (-1))]) (Q [Af (Ai .i64 1)])) (I0 [] [Ai .i64 (Ap .i64 ((Ar e1.length)-1))]∧∀(n:Int),I0 [] [Ai .i64 n]→br (toB (Aj (decide (n≥0)))) ((0≤n∧n<(Ar e1.length)∧A1 (nth [] e1 (As n))=1)∧∃n1,cut (nth [] e1 (As n)) 0 1 [Ai .u32 n1]∧(0≤n∧n<(Ar es.length)∧A1 (nth [] es (As n))=1)∧∃n2,cut (nth [] es (As n)) 0 1 [Ai .u32 n2]∧br (toB (Aj (decide (n1<n2)))) (Q [Af (Ai .i64 (-1))]) ((0≤n∧n<(Ar e1.length)∧A1 (nth [] e1 (As n))=1)∧∃n3,cut (nth [] e1 (As n)) 0 1 [Ai .u32 n3]∧(0≤n∧n<(Ar es.length)∧A1 (nth [] es (As n))=1)∧∃n4,cut (nth [] es (As n)) 0 1 [Ai .u32 n4]∧br (toB (Aj (decide (n3>n4)))) (Q [Af (Ai .i64 1)]) (I0 [] [Ai .i64 (Ap .i64 (n-1))]∧M0 [Ai .i64 (Ap .i64 (n-1))]<M0 [Ai .i64 n]))) (Q [Af (Ai .i64 0)]))):=by kernel_rfl
theorem UD (b:Bool) (es:List (List D)):wpF C0 Gv (fun _=>⟨[.slot 5 (.int .i64 0)],[],I0,M0⟩) Tryz.f189 [.c (.bool b),.c (.sl es)] Q=(
 I0 [] [Ai .i64 (Ar es.length)]∧∀(n:Int),I0 [] [Ai .i64 n]→br (toB (Aj (decide (n>0)))) ((0≤Ap .i64 (n-1)∧Ap .i64 (n-1)<(Ar es.length)∧A1 (nth [] es (As (Ap .i64 (n-1))))=1)∧∃n1,cut (nth [] es (As (Ap .i64 (n-1)))) 0 1 [Ai .u32 n1]∧br (toB (Aj (n1==0))) (I0 [] [Ai .i64 (Ap .i64 (n-1))]∧M0 [Ai .i64 (Ap .i64 (n-1))]<M0 [Ai .i64 n]) (br b (((0:Int)≤(0:Int)∧0≤n∧n≤n∧n≤(Ar es.length)∧lens 1 es)∧Q [Ah [Aj (decide (n>0)),Ak (AB 0 (AA (As n) es))]]) (((0:Int)≤(0:Int)∧0≤n∧n≤n∧n≤(Ar es.length)∧lens 1 es)∧Q [Ah [Aj false,Ak (AB 0 (AA (As n) es))]]))) (br b (((0:Int)≤(0:Int)∧0≤n∧n≤n∧n≤(Ar es.length)∧lens 1 es)∧Q [Ah [Aj (decide (n>0)),Ak (AB 0 (AA (As n) es))]]) (((0:Int)≤(0:Int)∧0≤n∧n≤n∧n≤(Ar es.length)∧lens 1 es)∧Q [Ah [Aj false,Ak (AB 0 (AA (As n) es))]]))):=by kernel_rfl
theorem Mx (n:Int):wpF C0 Gv an0 Tryz.f232 [.c (.int .u64 n)] Q=(
 (1000000000:Int)≠(0:Int)∧(1000000000:Int)≠(0:Int)∧(1000000000:Int)≠(0:Int)∧(1000000000:Int)≠(0:Int)∧(1000000000:Int)≠(0:Int)∧Q [Af (Ak [[Ai .u32 (Ap .u32 (Aw n (1000000000:Int)))],[Ai .u32 (Ap .u32 (Aw (Ap .u64 (Av n (1000000000:Int))) (1000000000:Int)))],[Ai .u32 (Ap .u32 (Ap .u64 (Av (Ap .u64 (Av n (1000000000:Int))) (1000000000:Int))))]])]):=by kernel_rfl
theorem JL (n:Int):wpF C0 Gv an0 Tryz.f136 [.c (.int .i64 n)] Q=(
 br (toB (Aj (decide (n<0)))) (∃es,Gv 232 [Af (Ai .u64 (Ap .u64 (0-Ap .u64 n)))] [Af (Ak es)]∧∃b e1,Gv 189 [Af (Aj (decide (n<0))),Af (Ak es)] [Ah [Aj b,Ak e1]]∧Q [Ah [Aj b,Ak e1]]) (∃es,Gv 232 [Af (Ai .u64 (Ap .u64 n))] [Af (Ak es)]∧∃b e1,Gv 189 [Af (Aj (decide (n<0))),Af (Ak es)] [Ah [Aj b,Ak e1]]∧Q [Ah [Aj b,Ak e1]])):=by kernel_rfl
theorem Pj (p:Bool) (es:List (List D)):wpF C0 Gv an0 Tryz.f268 [.ag [.bool p,.sl es]] Q=(
 br (toB (Aj ((Ar es.length)==0))) (Q [Af (Ai .u64 0),Af (Aj true)]) (br (toB (Aj ((Ar es.length)==1))) (((0:Int)≤(0:Int)∧0<(Ar es.length)∧A1 (nth [] es 0)=1)∧∃n,cut (nth [] es 0) 0 1 [Ai .u32 n]∧Q [Af (Ai .u64 (Ap .u64 n)),Af (Aj true)]) (br (toB (Aj ((Ar es.length)==2))) (((0:Int)≤(1:Int)∧1<(Ar es.length)∧A1 (nth [] es 1)=1)∧∃n,cut (nth [] es 1) 0 1 [Ai .u32 n]∧((0:Int)≤(0:Int)∧0<(Ar es.length)∧A1 (nth [] es 0)=1)∧∃n1,cut (nth [] es 0) 0 1 [Ai .u32 n1]∧Q [Af (Ai .u64 (Ap .u64 (Ap .u64 (Ap .u64 n*1000000000)+Ap .u64 n1))),Af (Aj true)]) (Q [Af (Ai .u64 0),Af (Aj false)])))):=by kernel_rfl
theorem Pk (p:Bool) (es:List (List D)):wpF C0 Gv an0 Tryz.f138 [.ag [.bool p,.sl es]] Q=(
 br p (Q [Af (Ai .i64 (-1))]) (br (toB (Aj (decide ((Ar es.length)>0)))) (Q [Af (Ai .i64 1)]) (Q [Af (Ai .i64 0)]))):=by kernel_rfl
theorem Sb (p q:Bool) (es fs:List (List D)):wpF C0 Gv an0 Tryz.f183 [.ag [.bool p,.sl es],.ag [.bool q,.sl fs]] Q=(
 br (toB (Aj !p==q)) (br p (Q [Af (Ai .i64 (-1))]) (Q [Af (Ai .i64 1)])) (br p (∃n,Gv 266 [Af (Ak fs),Af (Ak es)] [Af (Ai .i64 n)]∧Q [Af (Ai .i64 n)]) (∃n,Gv 266 [Af (Ak es),Af (Ak fs)] [Af (Ai .i64 n)]∧Q [Af (Ai .i64 n)]))):=by kernel_rfl
theorem UE (es fs:List (List D)):wpF C0 Gv (fun _=>⟨[.own 5 53 1,.slot 6 (.int .u32 0),.slot 22 (.int .i64 0)],[],I0,M0⟩) Tryz.f311 [.c (.sl es),.c (.sl fs)] Q=(
 br (toB (Aj (decide ((Ar es.length)<(Ar fs.length))))) (((0:Int)≤(0:Int)∧0≤Ap .i64 ((Ar fs.length)+1)∧room (As (Ap .i64 ((Ar fs.length)+1))))∧I0 [] [Ak [],Ai .u32 0,Ai .i64 0]∧∀(e1:List (List D)) (n n1:Int),I0 [] [Ak e1,Ai .u32 n,Ai .i64 n1]→br (toB (Aj (decide (n1<(Ar fs.length))))) ((0≤n1∧n1<(Ar fs.length)∧A1 (nth [] fs (As n1))=1)∧∃n2,cut (nth [] fs (As n1)) 0 1 [Ai .u32 n2]∧br (toB (Aj (decide (n1<(Ar es.length))))) ((0≤n1∧n1<(Ar es.length)∧A1 (nth [] es (As n1))=1)∧∃n3,cut (nth [] es (As n1)) 0 1 [Ai .u32 n3]∧br (toB (Aj (decide (Ap .u32 (Ap .u32 (n2+n)+n3)≥1000000000)))) ((room (e1.length+1)∧lens 1 [[Ai .u32 (Ap .u32 (Ap .u32 (Ap .u32 (n2+n)+n3)-1000000000))]])∧I0 [] [Ak (e1++[[Ai .u32 (Ap .u32 (Ap .u32 (Ap .u32 (n2+n)+n3)-1000000000))]]),Ai .u32 1,Ai .i64 (Ap .i64 (n1+1))]∧M0 [Ak (e1++[[Ai .u32 (Ap .u32 (Ap .u32 (Ap .u32 (n2+n)+n3)-1000000000))]]),Ai .u32 1,Ai .i64 (Ap .i64 (n1+1))]<M0 [Ak e1,Ai .u32 n,Ai .i64 n1]) ((room (e1.length+1)∧lens 1 [[Ai .u32 (Ap .u32 (Ap .u32 (n2+n)+n3))]])∧I0 [] [Ak (e1++[[Ai .u32 (Ap .u32 (Ap .u32 (n2+n)+n3))]]),Ai .u32 0,Ai .i64 (Ap .i64 (n1+1))]∧M0 [Ak (e1++[[Ai .u32 (Ap .u32 (Ap .u32 (n2+n)+n3))]]),Ai .u32 0,Ai .i64 (Ap .i64 (n1+1))]<M0 [Ak e1,Ai .u32 n,Ai .i64 n1])) (br (toB (Aj (decide (Ap .u32 (n2+n)≥1000000000)))) ((room (e1.length+1)∧lens 1 [[Ai .u32 (Ap .u32 (Ap .u32 (n2+n)-1000000000))]])∧I0 [] [Ak (e1++[[Ai .u32 (Ap .u32 (Ap .u32 (n2+n)-1000000000))]]),Ai .u32 1,Ai .i64 (Ap .i64 (n1+1))]∧M0 [Ak (e1++[[Ai .u32 (Ap .u32 (Ap .u32 (n2+n)-1000000000))]]),Ai .u32 1,Ai .i64 (Ap .i64 (n1+1))]<M0 [Ak e1,Ai .u32 n,Ai .i64 n1]) ((room (e1.length+1)∧lens 1 [[Ai .u32 (Ap .u32 (n2+n))]])∧I0 [] [Ak (e1++[[Ai .u32 (Ap .u32 (n2+n))]]),Ai .u32 0,Ai .i64 (Ap .i64 (n1+1))]∧M0 [Ak (e1++[[Ai .u32 (Ap .u32 (n2+n))]]),Ai .u32 0,Ai .i64 (Ap .i64 (n1+1))]<M0 [Ak e1,Ai .u32 n,Ai .i64 n1]))) ((room (e1.length+1)∧lens 1 [[Ai .u32 n]])∧Q [Af (Ak (e1++[[Ai .u32 n]]))])) (((0:Int)≤(0:Int)∧0≤Ap .i64 ((Ar es.length)+1)∧room (As (Ap .i64 ((Ar es.length)+1))))∧I0 [] [Ak [],Ai .u32 0,Ai .i64 0]∧∀(e1:List (List D)) (n n1:Int),I0 [] [Ak e1,Ai .u32 n,Ai .i64 n1]→br (toB (Aj (decide (n1<(Ar es.length))))) ((0≤n1∧n1<(Ar es.length)∧A1 (nth [] es (As n1))=1)∧∃n2,cut (nth [] es (As n1)) 0 1 [Ai .u32 n2]∧br (toB (Aj (decide (n1<(Ar fs.length))))) ((0≤n1∧n1<(Ar fs.length)∧A1 (nth [] fs (As n1))=1)∧∃n3,cut (nth [] fs (As n1)) 0 1 [Ai .u32 n3]∧br (toB (Aj (decide (Ap .u32 (Ap .u32 (n2+n)+n3)≥1000000000)))) ((room (e1.length+1)∧lens 1 [[Ai .u32 (Ap .u32 (Ap .u32 (Ap .u32 (n2+n)+n3)-1000000000))]])∧I0 [] [Ak (e1++[[Ai .u32 (Ap .u32 (Ap .u32 (Ap .u32 (n2+n)+n3)-1000000000))]]),Ai .u32 1,Ai .i64 (Ap .i64 (n1+1))]∧M0 [Ak (e1++[[Ai .u32 (Ap .u32 (Ap .u32 (Ap .u32 (n2+n)+n3)-1000000000))]]),Ai .u32 1,Ai .i64 (Ap .i64 (n1+1))]<M0 [Ak e1,Ai .u32 n,Ai .i64 n1]) ((room (e1.length+1)∧lens 1 [[Ai .u32 (Ap .u32 (Ap .u32 (n2+n)+n3))]])∧I0 [] [Ak (e1++[[Ai .u32 (Ap .u32 (Ap .u32 (n2+n)+n3))]]),Ai .u32 0,Ai .i64 (Ap .i64 (n1+1))]∧M0 [Ak (e1++[[Ai .u32 (Ap .u32 (Ap .u32 (n2+n)+n3))]]),Ai .u32 0,Ai .i64 (Ap .i64 (n1+1))]<M0 [Ak e1,Ai .u32 n,Ai .i64 n1])) (br (toB (Aj (decide (Ap .u32 (n2+n)≥1000000000)))) ((room (e1.length+1)∧lens 1 [[Ai .u32 (Ap .u32 (Ap .u32 (n2+n)-1000000000))]])∧I0 [] [Ak (e1++[[Ai .u32 (Ap .u32 (Ap .u32 (n2+n)-1000000000))]]),Ai .u32 1,Ai .i64 (Ap .i64 (n1+1))]∧M0 [Ak (e1++[[Ai .u32 (Ap .u32 (Ap .u32 (n2+n)-1000000000))]]),Ai .u32 1,Ai .i64 (Ap .i64 (n1+1))]<M0 [Ak e1,Ai .u32 n,Ai .i64 n1]) ((room (e1.length+1)∧lens 1 [[Ai .u32 (Ap .u32 (n2+n))]])∧I0 [] [Ak (e1++[[Ai .u32 (Ap .u32 (n2+n))]]),Ai .u32 0,Ai .i64 (Ap .i64 (n1+1))]∧M0 [Ak (e1++[[Ai .u32 (Ap .u32 (n2+n))]]),Ai .u32 0,Ai .i64 (Ap .i64 (n1+1))]<M0 [Ak e1,Ai .u32 n,Ai .i64 n1]))) ((room (e1.length+1)∧lens 1 [[Ai .u32 n]])∧Q [Af (Ak (e1++[[Ai .u32 n]]))]))):=by kernel_rfl
theorem My (es fs:List (List D)):wpF C0 Gv (fun _=>⟨[.own 5 45 1,.slot 6 (.int .u32 0),.slot 15 (.int .i64 0)],[],I0,M0⟩) Tryz.f312 [.c (.sl es),.c (.sl fs)] Q=(
 (0≤(Ar es.length)∧(Ar es.length)≤(Ar es.length)∧room (As (Ar es.length)))∧I0 [] [Ak (A2 (As (Ar es.length)) [Ai .u32 0]),Ai .u32 0,Ai .i64 0]∧∀(e1:List (List D)) (n n1:Int),I0 [] [Ak e1,Ai .u32 n,Ai .i64 n1]→br (toB (Aj (decide (n1<(Ar es.length))))) ((0≤n1∧n1<(Ar es.length)∧A1 (nth [] es (As n1))=1)∧∃n2,cut (nth [] es (As n1)) 0 1 [Ai .u32 n2]∧br (toB (Aj (decide (n1<(Ar fs.length))))) ((0≤n1∧n1<(Ar fs.length)∧A1 (nth [] fs (As n1))=1)∧∃n3,cut (nth [] fs (As n1)) 0 1 [Ai .u32 n3]∧br (toB (Aj (decide (n2<Ap .u32 (n+n3))))) ((0≤n1∧n1<(Ar e1.length))∧0<1∧I0 [] [Ak (upd e1 (As n1) (upd (nth [] e1 (As n1)) 0 (Ai .u32 (Ap .u32 (Ap .u32 (n2+1000000000)-Ap .u32 (n+n3)))))),Ai .u32 1,Ai .i64 (Ap .i64 (n1+1))]∧M0 [Ak (upd e1 (As n1) (upd (nth [] e1 (As n1)) 0 (Ai .u32 (Ap .u32 (Ap .u32 (n2+1000000000)-Ap .u32 (n+n3)))))),Ai .u32 1,Ai .i64 (Ap .i64 (n1+1))]<M0 [Ak e1,Ai .u32 n,Ai .i64 n1]) ((0≤n1∧n1<(Ar e1.length))∧0<1∧I0 [] [Ak (upd e1 (As n1) (upd (nth [] e1 (As n1)) 0 (Ai .u32 (Ap .u32 (n2-Ap .u32 (n+n3)))))),Ai .u32 0,Ai .i64 (Ap .i64 (n1+1))]∧M0 [Ak (upd e1 (As n1) (upd (nth [] e1 (As n1)) 0 (Ai .u32 (Ap .u32 (n2-Ap .u32 (n+n3)))))),Ai .u32 0,Ai .i64 (Ap .i64 (n1+1))]<M0 [Ak e1,Ai .u32 n,Ai .i64 n1])) (br (toB (Aj (decide (n2<n)))) ((0≤n1∧n1<(Ar e1.length))∧0<1∧I0 [] [Ak (upd e1 (As n1) (upd (nth [] e1 (As n1)) 0 (Ai .u32 (Ap .u32 (Ap .u32 (n2+1000000000)-n))))),Ai .u32 1,Ai .i64 (Ap .i64 (n1+1))]∧M0 [Ak (upd e1 (As n1) (upd (nth [] e1 (As n1)) 0 (Ai .u32 (Ap .u32 (Ap .u32 (n2+1000000000)-n))))),Ai .u32 1,Ai .i64 (Ap .i64 (n1+1))]<M0 [Ak e1,Ai .u32 n,Ai .i64 n1]) ((0≤n1∧n1<(Ar e1.length))∧0<1∧I0 [] [Ak (upd e1 (As n1) (upd (nth [] e1 (As n1)) 0 (Ai .u32 (Ap .u32 (n2-n))))),Ai .u32 0,Ai .i64 (Ap .i64 (n1+1))]∧M0 [Ak (upd e1 (As n1) (upd (nth [] e1 (As n1)) 0 (Ai .u32 (Ap .u32 (n2-n))))),Ai .u32 0,Ai .i64 (Ap .i64 (n1+1))]<M0 [Ak e1,Ai .u32 n,Ai .i64 n1]))) (Q [Af (Ak e1)])):=by kernel_rfl
theorem Sd (p q:Bool) (es fs:List (List D)):wpF C0 Gv an0 Tryz.f235 [.ag [.bool p,.sl es],.ag [.bool q,.sl fs]] Q=(
 br (toB (Aj (p==q))) (∃e1,Gv 311 [Af (Ak es),Af (Ak fs)] [Af (Ak e1)]∧∃b es,Gv 189 [Af (Aj p),Af (Ak e1)] [Ah [Aj b,Ak es]]∧Q [Ah [Aj b,Ak es]]) (∃n,Gv 266 [Af (Ak es),Af (Ak fs)] [Af (Ai .i64 n)]∧br (toB (Aj (decide (n<0)))) (∃e1,Gv 312 [Af (Ak fs),Af (Ak es)] [Af (Ak e1)]∧∃b es,Gv 189 [Af (Aj q),Af (Ak e1)] [Ah [Aj b,Ak es]]∧Q [Ah [Aj b,Ak es]]) (∃e1,Gv 312 [Af (Ak es),Af (Ak fs)] [Af (Ak e1)]∧∃b es,Gv 189 [Af (Aj p),Af (Ak e1)] [Ah [Aj b,Ak es]]∧Q [Ah [Aj b,Ak es]]))):=by kernel_rfl
theorem Se (p q:Bool) (es fs:List (List D)):wpF C0 Gv an0 Tryz.f234 [.ag [.bool p,.sl es],.ag [.bool q,.sl fs]] Q=(
 br (toB (Aj !q)) (∃b e1,Gv 235 [Ah [Aj p,Ak es],Ah [Aj (decide ((Ar fs.length)>0)),Ak fs]] [Ah [Aj b,Ak e1]]∧Q [Ah [Aj b,Ak e1]]) (∃b e1,Gv 235 [Ah [Aj p,Ak es],Ah [Aj false,Ak fs]] [Ah [Aj b,Ak e1]]∧Q [Ah [Aj b,Ak e1]])):=by kernel_rfl
theorem Sf (p:Bool) (es:List (List D)):wpF C0 Gv an0 Tryz.f185 [.ag [.bool p,.sl es]] Q=(
 (room es.length∧lens 1 es)∧∃b e1,Gv 189 [Af (Aj !p),Af (Ak es)] [Ah [Aj b,Ak e1]]∧Q [Ah [Aj b,Ak e1]]):=by kernel_rfl
theorem Sg (p q:Bool) (es fs:List (List D)):wpF C0 Gv an0 Tryz.f101 [.ag [.bool p,.sl es],.ag [.bool q,.sl fs]] Q=(
 ∃e1,Gv 190 [Af (Ak es),Af (Ak fs)] [Af (Ak e1)]∧∃b es,Gv 189 [Af (Aj !p==q),Af (Ak e1)] [Ah [Aj b,Ak es]]∧Q [Ah [Aj b,Ak es]]):=by kernel_rfl
theorem UF (es:List (List D)) (n:Int):wpF C0 Gv (fun _=>⟨[.own 6 44 1,.slot 7 (.int .u64 0),.slot 8 (.int .i64 0)],[],I0,M0⟩) Tryz.f308 [.c (.sl es),.c (.int .u32 n)] Q=(
 (0≤(Ar es.length)∧(Ar es.length)≤(Ar es.length)∧room (As (Ar es.length)))∧I0 [] [Ak (A2 (As (Ar es.length)) [Ai .u32 0]),Ai .u64 0,Ai .i64 (Ap .i64 ((Ar es.length)-1))]∧∀(e1:List (List D)) (n1 n2:Int),I0 [] [Ak e1,Ai .u64 n1,Ai .i64 n2]→br (toB (Aj (decide (n2≥0)))) ((0≤n2∧n2<(Ar es.length)∧A1 (nth [] es (As n2))=1)∧∃n3,cut (nth [] es (As n2)) 0 1 [Ai .u32 n3]∧Ap .u64 n≠0∧Ap .u64 n≠0∧(0≤n2∧n2<(Ar e1.length))∧0<1∧I0 [] [Ak (upd e1 (As n2) (upd (nth [] e1 (As n2)) 0 (Ai .u32 (Ap .u32 (Ap .u64 (Av (Ap .u64 (Ap .u64 (n1*1000000000)+Ap .u64 n3)) (Ap .u64 n))))))),Ai .u64 (Aw (Ap .u64 (Ap .u64 (n1*1000000000)+Ap .u64 n3)) (Ap .u64 n)),Ai .i64 (Ap .i64 (n2-1))]∧M0 [Ak (upd e1 (As n2) (upd (nth [] e1 (As n2)) 0 (Ai .u32 (Ap .u32 (Ap .u64 (Av (Ap .u64 (Ap .u64 (n1*1000000000)+Ap .u64 n3)) (Ap .u64 n))))))),Ai .u64 (Aw (Ap .u64 (Ap .u64 (n1*1000000000)+Ap .u64 n3)) (Ap .u64 n)),Ai .i64 (Ap .i64 (n2-1))]<M0 [Ak e1,Ai .u64 n1,Ai .i64 n2]) (Q [Af (Ak e1),Af (Ak [[Ai .u32 (Ap .u32 n1)]])])):=by kernel_rfl
end
end Eng
end

section
open Go Go.Proofs Eng
set_option maxRecDepth 1000000
namespace Eng
theorem Mz (Gv:Nat→List A→List A→Prop) (I0:List D→List D→Prop) (M0:List D→Nat) (I1:List D→List D→Prop) (M1:List D→Nat) (es fs:List (List D)) (Q:Nat→List (List D)→Prop):B0 C0 Gv (Vn ⟨[.own 5 68 1,.slot 20 (.int .i64 0)],[],I0,M0⟩ ⟨[.own 5 68 1,.slot 8 (.int .u64 0),.slot 27 (.int .i64 0)],[.slot 6 (.int .i64 0),.slot 7 (.int .u32 0),.own 5 68 1],I1,M1⟩) Tryz.f190 [.c (.sl es),.c (.sl fs)] Q=(
 (0≤Ap .i64 ((Ar es.length)+(Ar fs.length))∧Ap .i64 ((Ar es.length)+(Ar fs.length))≤Ap .i64 ((Ar es.length)+(Ar fs.length))∧room (As (Ap .i64 ((Ar es.length)+(Ar fs.length)))))∧I0 [] [Ak (A2 (As (Ap .i64 ((Ar es.length)+(Ar fs.length)))) [Ai .u32 0]),Ai .i64 0]∧∀(e1:List (List D)) (n:Int),I0 [] [Ak e1,Ai .i64 n]→br (toB (Aj (decide (n<(Ar es.length))))) ((0≤n∧n<(Ar es.length)∧A1 (nth [] es (As n))=1)∧∃n1,cut (nth [] es (As n)) 0 1 [Ai .u32 n1]∧I1 [Ai .i64 n,Ai .u32 n1,Ak e1] [Ak e1,Ai .u64 0,Ai .i64 0]∧∀(es:List (List D)) (n2 n3:Int),I1 [Ai .i64 n,Ai .u32 n1,Ak e1] [Ak es,Ai .u64 n2,Ai .i64 n3]→br (toB (Aj (decide (n3<(Ar fs.length))))) ((0≤n3∧n3<(Ar fs.length)∧A1 (nth [] fs (As n3))=1)∧∃n4,cut (nth [] fs (As n3)) 0 1 [Ai .u32 n4]∧(0≤Ap .i64 (n+n3)∧Ap .i64 (n+n3)<(Ar es.length))∧∃n5,cut (nth [] es (As (Ap .i64 (n+n3)))) 0 1 [Ai .u32 n5]∧(1000000000:Int)≠(0:Int)∧(1000000000:Int)≠(0:Int)∧(0≤Ap .i64 (n+n3)∧Ap .i64 (n+n3)<(Ar es.length))∧0<1∧I1 [Ai .i64 n,Ai .u32 n1,Ak e1] [Ak (upd es (As (Ap .i64 (n+n3))) (upd (nth [] es (As (Ap .i64 (n+n3)))) 0 (Ai .u32 (Ap .u32 (Aw (Ap .u64 (Ap .u64 (Ap .u64 n5+Ap .u64 (Ap .u64 n1*Ap .u64 n4))+n2)) (1000000000:Int)))))),Ai .u64 (Ap .u64 (Av (Ap .u64 (Ap .u64 (Ap .u64 n5+Ap .u64 (Ap .u64 n1*Ap .u64 n4))+n2)) (1000000000:Int))),Ai .i64 (Ap .i64 (n3+1))]∧M1 [Ak (upd es (As (Ap .i64 (n+n3))) (upd (nth [] es (As (Ap .i64 (n+n3)))) 0 (Ai .u32 (Ap .u32 (Aw (Ap .u64 (Ap .u64 (Ap .u64 n5+Ap .u64 (Ap .u64 n1*Ap .u64 n4))+n2)) (1000000000:Int)))))),Ai .u64 (Ap .u64 (Av (Ap .u64 (Ap .u64 (Ap .u64 n5+Ap .u64 (Ap .u64 n1*Ap .u64 n4))+n2)) (1000000000:Int))),Ai .i64 (Ap .i64 (n3+1))]<M1 [Ak es,Ai .u64 n2,Ai .i64 n3]) ((0≤Ap .i64 (n+(Ar fs.length))∧Ap .i64 (n+(Ar fs.length))<(Ar es.length))∧0<1∧I0 [] [Ak (upd es (As (Ap .i64 (n+(Ar fs.length)))) (upd (nth [] es (As (Ap .i64 (n+(Ar fs.length))))) 0 (Ai .u32 (Ap .u32 n2)))),Ai .i64 (Ap .i64 (n+1))]∧M0 [Ak (upd es (As (Ap .i64 (n+(Ar fs.length)))) (upd (nth [] es (As (Ap .i64 (n+(Ar fs.length))))) 0 (Ai .u32 (Ap .u32 n2)))),Ai .i64 (Ap .i64 (n+1))]<M0 [Ak e1,Ai .i64 n])) ((e1≠[]∧kx e1=true)∧Q 1 e1)):=by kernel_rfl
end Eng
end

section
namespace Eng
open Go Go.Proofs
set_option maxRecDepth 100000
theorem kI {l:List Nat} (hl:Limbs l) (hr:l.length≤1073741824):qe C0 307 [.c (.sl (raw l))] [.c (.sl (raw (lim (val l))))]:=by
 refine qf (anns:=fun _=>⟨[.slot 0 (.slice none 0 0)],[],fun _ ds=>∃k,k≤l.length∧ds=[.sl (raw (l.take k))]∧val (l.take k)=val l,fun ds=>(toL (nth .undef ds 0)).length⟩) mixedT Tryz.func307 ?_;rw[Pi];simp only[Au];refine⟨⟨l.length,AY _,by rw[A5],by rw[A5]⟩,?_⟩;rintro es ⟨k,hk,he,hv⟩;simp only[AN,Am,and_true]at he;subst he;have a0:(raw (l.take k)).length=k:=by rw[qh,A3];omega
 have a1:(k=0∨∃h:k-1<l.length,l[k-1]≠0)→[Af (Ak (raw (l.take k)))]=[Af (Ak (raw (lim (val l))))]:=by
  intro h;rw[←hv,jX (hl.take k)];rcases h with rfl|⟨h,hne⟩
  ·exact .inl (by simp)
  ·refine .inr ?_;rw[AJ];split
   ·simp
   ·rw[AF h]
    simpa using hne
 refine brd (fun h=>?_) (fun h=>?_)
 ·rw[a0]at h ⊢;have hk0:0<k:=by omega
  have hw:Ap .i64 ((k:Int)-1)=((k-1:Nat):Int):=by rw[xL (by omega) (by omega)];omega
  rw[hw];have a2:k-1<(l.take k).length:=by rw[A3];omega
  have hg:(l.take k)[k-1]=l[k-1]:=List.getElem_take ..;refine⟨⟨by omega,by omega,qt a2⟩,_,qu a2,brb (fun hz=>?_) (fun hz=>?_)⟩
  ·have hz:l[k-1]=0:=by rw[hg]at hz;simpa using hz
   refine⟨⟨by omega,by omega,by omega,zm _⟩,⟨k-1,by omega,?_,?_⟩,?_⟩
   ·simp only[At,zR,AD,List.take_take];congr 4;omega
   ·have:l.take k=l.take (k-1)++[l[k-1]]:=by have:=A9 (l:=l) (i:=k-1) (by omega);rw[show k-1+1=k by omega]at this;exact this
    rw[←hv,this,hz,qL];simp[val]
   ·simp only[At,nth,toL,AD,A3,a0];omega
  ·exact a1 (.inr ⟨by omega,by rw[hg]at hz;simpa using hz⟩)
 ·rw[a0]at h;exact a1 (.inl (by omega))
def vg (a b:Nat):Int:=if a<b then-1 else if b<a then 1 else 0
theorem jT {a b:List Nat} (ha:Limbs a) (hl:a.length=b.length) {k:Nat} (hk:k<a.length) (hd:a.drop (k+1)=b.drop (k+1)) (h:a[k]<b[k]):val a<val b:=by
 have e1:a=a.take k++a[k]::a.drop (k+1):=by rw[←A4 hk,A7]
 have e2:b=b.take k++b[k]::b.drop (k+1):=by rw[←A4 (by omega),A7]
 rw[e1,e2,qL,qL,hd];have l1:(a.take k).length=k:=by rw[A3];omega
 have l2:(b.take k).length=k:=by rw[A3];omega
 rw[l1,l2];have h1:=qG (ha.take k);rw[l1]at h1;simp only[val];have:1000000000^k*(a[k]+1+1000000000*val (b.drop (k+1)))≤1000000000^k*(b[k]+1000000000*val (b.drop (k+1))):=AQ _ (by omega);have e3:1000000000^k*(a[k]+1+1000000000*val (b.drop (k+1)))=1000000000^k*(a[k]+1000000000*val (b.drop (k+1)))+1000000000^k:=by rw[show a[k]+1+1000000000*val (b.drop (k+1))=(a[k]+1000000000*val (b.drop (k+1)))+1 by omega,AP,BZ]
 omega
theorem jg {a b:List Nat} (ha:Limbs a) (hb:Limbs b) (hra:a.length≤1073741824) (hrb:b.length≤1073741824):qe C0 266 [.c (.sl (raw a)),.c (.sl (raw b))] [.c (.int .i64 (vg (val a) (val b)))]:=by
 generalize hA:lim (val a)=A;generalize hB:lim (val b)=B;have lA:Limbs A:=hA▸qc _;have lB:Limbs B:=hB▸qc _;have vA:val A=val a:=hA▸qj _;have vB:val B=val b:=hB▸qj _;have zA:A=[]∨A.getLast?≠some 0:=hA▸zl _;have zB:B=[]∨B.getLast?≠some 0:=hB▸zl _;have nA:A.length≤a.length:=hA▸qo (qG ha);have nB:B.length≤b.length:=hB▸qo (qG hb);refine qf (anns:=fun _=>⟨[.slot 5 (.int .i64 0)],[],fun _ ds=>∃k:Nat,k≤A.length∧ds=[.int .i64 ((k:Int)-1)]∧A.drop k=B.drop k,fun ds=>(toI (nth .undef ds 0)+1).toNat⟩) mixedT Tryz.func266 ?_;rw[Gd];simp only[Au];refine⟨_,kI ha hra,_,kI hb hrb,?_⟩;rw[hA,hB,qh,qh];refine brb (fun h=>?_) (fun h=>?_)
 ·have h:A.length≠B.length:=by intro e;rw[e]at h;simp at h
  refine brd (fun h1=>?_) (fun h1=>?_)
  ·have a2:B≠[]:=(by intro e;have h0:B.length=0:=(by rw[e];rfl);omega);have:=ya lA (zB.resolve_left a2) a2 (by omega);rw[vg,if_pos (by omega)]
  ·have a2:A≠[]:=(by intro e;have h0:A.length=0:=(by rw[e];rfl);omega);have:=ya lB (zA.resolve_left a2) a2 (by omega);rw[vg,if_neg (by omega),if_pos (by omega)]
 ·have h:A.length=B.length:=by
   have:(A.length:Int)=B.length:=by simpa using h
   omega
  refine⟨⟨A.length,AY _,by rw[xL (by omega) (by omega)],by rw[AL,h,AL]⟩,?_⟩;rintro n ⟨k,hk,he,hd⟩;simp only[AN,Al,true_and,and_true]at he;subst he;refine brd (fun h1=>?_) (fun h1=>?_)
  ·have a0:k-1<A.length:=by omega
   have a1:k-1<B.length:=by omega
   have ht:((k:Int)-1).toNat=k-1:=by omega
   have a3:A.drop (k-1+1)=B.drop (k-1+1):=by rw[show k-1+1=k by omega];exact hd
   rw[ht];refine⟨⟨by omega,by omega,qt a0⟩,_,qu a0,⟨by omega,by omega,qt a1⟩,_,qu a1,brd (fun h2=>?_) (fun h2=>?_)⟩
   ·have:=jT lA h a0 a3 (by omega);rw[vg,if_pos (by omega)]
   ·refine⟨⟨by omega,by omega,qt a0⟩,_,qu a0,⟨by omega,by omega,qt a1⟩,_,qu a1,brd (fun h3=>?_) (fun h3=>?_)⟩
    ·have:=jT lB h.symm a1 a3.symm (by omega);rw[vg,if_neg (by omega),if_pos (by omega)]
    ·have hw:Ap .i64 ((k:Int)-1-1)=((k-1:Nat):Int)-1:=by rw[xL (by omega) (by omega)];omega
     rw[hw];refine⟨⟨k-1,by omega,rfl,?_⟩,?_⟩
     ·rw[A4 a0,A4 a1,a3];congr 1;omega
     ·simp only[nth,toI];omega
  ·have a0:k=0:=by omega
   subst a0;have:A=B:=by simpa using hd
   rw[vg,←vA,←vB,this,if_neg (by omega),if_neg (by omega)]
theorem Xy {l:List Nat} (b:Bool) (hl:Limbs l) (hr:l.length≤1073741824):qe C0 189 [.c (.bool b),.c (.sl (raw l))] [.ag [.bool (b&&decide (0<val l)),.sl (raw (lim (val l)))]]:=by
 refine qf (anns:=fun _=>⟨[.slot 5 (.int .i64 0)],[],fun _ ds=>∃k:Nat,k≤l.length∧ds=[.int .i64 (k:Int)]∧val (l.take k)=val l,fun ds=>(toI (nth .undef ds 0)).toNat⟩) mixedT Tryz.func189 ?_;rw[UD];simp only[Au];refine⟨⟨l.length,AY _,by rw[qh],by rw[A5]⟩,?_⟩;rintro n ⟨k,hk,he,hv⟩;simp only[AN,Al,true_and,and_true]at he;subst he;have a1:(k=0∨∃h:k-1<l.length,l[k-1]≠0)→AB 0 (AA (k:Int).toNat (raw l))=raw (lim (val l))∧(0<val l↔0<k):=by
  intro h;have h0:lim (val l)=l.take k:=by
   rw[←hv,jX (hl.take k)];rcases h with rfl|⟨h,hne⟩
   ·exact .inl (by simp)
   ·refine .inr ?_;rw[AJ];split
    ·simp
    ·rw[AF h]
     simpa using hne
  refine⟨by rw[h0,At,zR,AD],?_⟩;rw[←qz,h0,A3];omega
 have a0:(k=0∨∃h:k-1<l.length,l[k-1]≠0)→
  br b
   (((0:Int)≤0∧(0:Int)≤k∧(k:Int)≤k∧(k:Int)≤(raw l).length∧lens 1 (raw l))∧
     [Ah [Aj (decide ((k:Int)>0)),Ak (AB 0 (AA (k:Int).toNat (raw l)))]]=[.ag [.bool (b&&decide (0<val l)),.sl (raw (lim (val l)))]])
   (((0:Int)≤0∧(0:Int)≤k∧(k:Int)≤k∧(k:Int)≤(raw l).length∧lens 1 (raw l))∧
     [Ah [Aj false,Ak (AB 0 (AA (k:Int).toNat (raw l)))]]=[.ag [.bool (b&&decide (0<val l)),.sl (raw (lim (val l)))]]):=by
  intro h;obtain⟨h1,h2⟩:=a1 h;rw[h1,qh];refine jC (fun hb=>?_) (fun hb=>?_)
  ·subst hb;refine⟨⟨by omega,by omega,by omega,by omega,zm _⟩,?_⟩;have:decide ((k:Int)>0)=decide (0<val l):=by rw[decide_eq_decide];omega
   rw[this,Ad]
  ·subst hb;exact⟨⟨by omega,by omega,by omega,by omega,zm _⟩,by rw[Ac]⟩
 refine brd (fun h=>?_) (fun h=>?_)
 ·have hw:Ap .i64 ((k:Int)-1)=((k-1:Nat):Int):=by rw[xL (by omega) (by omega)];omega
  rw[hw,At];have a2:k-1<l.length:=by omega
  refine⟨⟨by omega,by rw[qh];omega,qt a2⟩,_,qu a2,brb (fun hz=>?_) (fun hz=>?_)⟩
  ·have hz:l[k-1]=0:=by simpa using hz
   refine⟨⟨k-1,by omega,rfl,?_⟩,?_⟩
   ·have:l.take k=l.take (k-1)++[l[k-1]]:=by have:=A9 (l:=l) (i:=k-1) (by omega);rw[show k-1+1=k by omega]at this;exact this
    rw[←hv,this,hz,qL];simp[val]
   ·simp only[nth,toI];omega
  ·exact a0 (.inr ⟨a2,by simpa using hz⟩)
 ·exact a0 (.inl (by omega))
end Eng
end

section
namespace Eng
open Go Go.Proofs
set_option maxRecDepth 100000
theorem qD (l:List Nat) (k:Nat):val (l.take (k+1))=val (l.take k)+1000000000^k*l.getD k 0:=by
 by_cases h:k<l.length
 ·rw[A9 h,qL,A3,BV (by omega)];simp[val,A8,h]
 ·rw[A6 (by omega),A6 (by omega)];simp[A8,h]
theorem Q5 {l:List Nat} {k:Nat} (h:l.length≤k):l.getD k 0=0:=by simp[A8,List.getElem?_eq_none h]
theorem wU (o:List Nat) (d:Nat):val (o++[d])=val o+1000000000^o.length*d:=by rw[qL];simp[val]
theorem Zs {k d c t:Nat} (h:d+1000000000*c=t):1000000000^k*d+1000000000^(k+1)*c=1000000000^k*t:=by
 rw[←h,AP,AS,AR]
theorem zj {x y o:List Nat} {k c d c':Nat} (hk:k<x.length) (ho:o.length=k) (hv:val o+1000000000^k*c=val (x.take k)+val (y.take k)) (ht:d+1000000000*c'=x[k]+c+y.getD k 0):
 val (o++[d])+1000000000^(k+1)*c'=val (x.take (k+1))+val (y.take (k+1)):=by
 rw[wU,ho,qD,qD];have h1:=Zs (k:=k) ht;have h2:x.getD k 0=x[k]:=by simp[A8,hk]
 rw[h2];have h3:1000000000^k*(x[k]+c+y.getD k 0)=1000000000^k*x[k]+1000000000^k*c+1000000000^k*y.getD k 0:=by rw[AP,AP]
 omega
theorem M4 {a b:List Nat} (ha:Limbs a) (hb:Limbs b) (hra:a.length≤1073741823) (hrb:b.length≤1073741823):qe C0 311 [.c (.sl (raw a)),.c (.sl (raw b))] [.c (.sl (raw (pad (max a.length b.length+1) (val a+val b))))]:=by
 by_cases hab:a.length<b.length
 ·refine qf (anns:=fun _=>⟨[.own 5 53 1,.slot 6 (.int .u32 0),.slot 22 (.int .i64 0)],[],fun _ ds=>∃(k:Nat) (o:List Nat) (c:Nat),k≤b.length∧o.length=k∧ds=[.sl (raw o),.int .u32 (c:Int),.int .i64 (k:Int)]∧Limbs o∧c≤1∧val o+1000000000^k*c=val (b.take k)+val (a.take k),fun ds=>b.length-(toI (nth .undef ds 2)).toNat⟩) mixedT Tryz.func311 ?_;rw[UE];simp only[Au,qh];refine brd (fun h0=>?_) (fun h0=>?_)
  ·skip
   refine⟨⟨by omega,by rw[xL (by omega) (by omega)];omega,by rw[xL (by omega) (by omega)];unfold room;omega⟩,⟨0,[],0,by omega,rfl,rfl,Ao,by omega,by simp[val]⟩,?_⟩;rintro es n m ⟨k,o,c,hk,ho,he,lo,hc,hv⟩;simp only[AN,Al,Am,true_and,and_true]at he;obtain⟨rfl,rfl,rfl⟩:=he;refine brd (fun h1=>?_) (fun h1=>?_)
   ·have a0:k<b.length:=by omega
    have hxk:=hb.get a0;have a4:Ap .i64 ((k:Int)+1)=((k+1:Nat):Int):=by rw[xL (by omega) (by omega)];omega
    rw[At,a4,qh,ho];refine⟨⟨by omega,by omega,qt a0⟩,_,qu a0,brd (fun h2=>?_) (fun h2=>?_)⟩
    ·have a2:k<a.length:=by omega
     have hyk:=ha.get a2;have a1:a.getD k 0=a[k]:=by simp[A8,a2]
     refine⟨⟨by omega,by omega,qt a2⟩,_,qu a2,?_⟩;have hw:Ap .u32 (Ap .u32 ((b[k]:Int)+(c:Int))+(a[k]:Int))=((b[k]+c+a[k]:Nat):Int):=by rw[zK (n:=(b[k]:Int)+(c:Int)) (by omega) (by omega),zK (by omega) (by omega)];omega
     rw[hw];refine brd (fun h3=>?_) (fun h3=>?_)
     ·have a3:Ap .u32 (((b[k]+c+a[k]:Nat):Int)-1000000000)=((b[k]+c+a[k]-1000000000:Nat):Int):=by rw[zK (by omega) (by omega)];omega
      rw[a3];refine⟨⟨by unfold room;omega,fun e he=>by simp at he;subst he;rfl⟩,⟨k+1,o++[b[k]+c+a[k]-1000000000],1,by omega,by simp[ho],by rw[qT];rfl,lo.append (An (by omega) Ao),by omega,zj a0 ho hv (by have:=a1;omega)⟩,?_⟩;simp only[nth,toI];omega
     ·refine⟨⟨by unfold room;omega,fun e he=>by simp at he;subst he;rfl⟩,⟨k+1,o++[b[k]+c+a[k]],0,by omega,by simp[ho],by rw[qT];rfl,lo.append (An (by omega) Ao),by omega,zj a0 ho hv (by have:=a1;omega)⟩,?_⟩;simp only[nth,toI];omega
    ·have a1:a.getD k 0=0:=Q5 (by omega);have hw:Ap .u32 ((b[k]:Int)+(c:Int))=((b[k]+c:Nat):Int):=by rw[zK (by omega) (by omega)];omega
     rw[hw];refine brd (fun h3=>?_) (fun h3=>?_)
     ·have a3:Ap .u32 (((b[k]+c:Nat):Int)-1000000000)=((b[k]+c-1000000000:Nat):Int):=by rw[zK (by omega) (by omega)];omega
      rw[a3];refine⟨⟨by unfold room;omega,fun e he=>by simp at he;subst he;rfl⟩,⟨k+1,o++[b[k]+c-1000000000],1,by omega,by simp[ho],by rw[qT];rfl,lo.append (An (by omega) Ao),by omega,zj a0 ho hv (by have:=a1;omega)⟩,?_⟩;simp only[nth,toI];omega
     ·refine⟨⟨by unfold room;omega,fun e he=>by simp at he;subst he;rfl⟩,⟨k+1,o++[b[k]+c],0,by omega,by simp[ho],by rw[qT];rfl,lo.append (An (by omega) Ao),by omega,zj a0 ho hv (by have:=a1;omega)⟩,?_⟩;simp only[nth,toI];omega
   ·have a0:k=b.length:=by omega
    subst a0;rw[qh,ho];refine⟨⟨by unfold room;omega,fun e he=>by simp at he;subst he;rfl⟩,?_⟩;rw[A5,A6 (by omega)]at hv;have e1:raw o++[[Ai .u32 (c:Int)]]=raw (o++[c]):=by rw[qT];rfl
    have l1:Limbs (o++[c]):=lo.append (An (by omega) Ao);have v1:val (o++[c])=val a+val b:=by rw[wU,ho];omega
    have e2:o++[c]=pad (max a.length b.length+1) (val a+val b):=by
     rw[←v1,←jW l1];congr 1
     ·simp[ho];omega
     ·rw[jW l1]
    rw[e1,e2]
  ·omega
 ·refine qf (anns:=fun _=>⟨[.own 5 53 1,.slot 6 (.int .u32 0),.slot 22 (.int .i64 0)],[],fun _ ds=>∃(k:Nat) (o:List Nat) (c:Nat),k≤a.length∧o.length=k∧ds=[.sl (raw o),.int .u32 (c:Int),.int .i64 (k:Int)]∧Limbs o∧c≤1∧val o+1000000000^k*c=val (a.take k)+val (b.take k),fun ds=>a.length-(toI (nth .undef ds 2)).toNat⟩) mixedT Tryz.func311 ?_;rw[UE];simp only[Au,qh];refine brd (fun h0=>?_) (fun h0=>?_)
  ·omega
  ·skip
   refine⟨⟨by omega,by rw[xL (by omega) (by omega)];omega,by rw[xL (by omega) (by omega)];unfold room;omega⟩,⟨0,[],0,by omega,rfl,rfl,Ao,by omega,by simp[val]⟩,?_⟩;rintro es n m ⟨k,o,c,hk,ho,he,lo,hc,hv⟩;simp only[AN,Al,Am,true_and,and_true]at he;obtain⟨rfl,rfl,rfl⟩:=he;refine brd (fun h1=>?_) (fun h1=>?_)
   ·have a0:k<a.length:=by omega
    have hxk:=ha.get a0;have a4:Ap .i64 ((k:Int)+1)=((k+1:Nat):Int):=by rw[xL (by omega) (by omega)];omega
    rw[At,a4,qh,ho];refine⟨⟨by omega,by omega,qt a0⟩,_,qu a0,brd (fun h2=>?_) (fun h2=>?_)⟩
    ·have a2:k<b.length:=by omega
     have hyk:=hb.get a2;have a1:b.getD k 0=b[k]:=by simp[A8,a2]
     refine⟨⟨by omega,by omega,qt a2⟩,_,qu a2,?_⟩;have hw:Ap .u32 (Ap .u32 ((a[k]:Int)+(c:Int))+(b[k]:Int))=((a[k]+c+b[k]:Nat):Int):=by rw[zK (n:=(a[k]:Int)+(c:Int)) (by omega) (by omega),zK (by omega) (by omega)];omega
     rw[hw];refine brd (fun h3=>?_) (fun h3=>?_)
     ·have a3:Ap .u32 (((a[k]+c+b[k]:Nat):Int)-1000000000)=((a[k]+c+b[k]-1000000000:Nat):Int):=by rw[zK (by omega) (by omega)];omega
      rw[a3];refine⟨⟨by unfold room;omega,fun e he=>by simp at he;subst he;rfl⟩,⟨k+1,o++[a[k]+c+b[k]-1000000000],1,by omega,by simp[ho],by rw[qT];rfl,lo.append (An (by omega) Ao),by omega,zj a0 ho hv (by have:=a1;omega)⟩,?_⟩;simp only[nth,toI];omega
     ·refine⟨⟨by unfold room;omega,fun e he=>by simp at he;subst he;rfl⟩,⟨k+1,o++[a[k]+c+b[k]],0,by omega,by simp[ho],by rw[qT];rfl,lo.append (An (by omega) Ao),by omega,zj a0 ho hv (by have:=a1;omega)⟩,?_⟩;simp only[nth,toI];omega
    ·have a1:b.getD k 0=0:=Q5 (by omega);have hw:Ap .u32 ((a[k]:Int)+(c:Int))=((a[k]+c:Nat):Int):=by rw[zK (by omega) (by omega)];omega
     rw[hw];refine brd (fun h3=>?_) (fun h3=>?_)
     ·have a3:Ap .u32 (((a[k]+c:Nat):Int)-1000000000)=((a[k]+c-1000000000:Nat):Int):=by rw[zK (by omega) (by omega)];omega
      rw[a3];refine⟨⟨by unfold room;omega,fun e he=>by simp at he;subst he;rfl⟩,⟨k+1,o++[a[k]+c-1000000000],1,by omega,by simp[ho],by rw[qT];rfl,lo.append (An (by omega) Ao),by omega,zj a0 ho hv (by have:=a1;omega)⟩,?_⟩;simp only[nth,toI];omega
     ·refine⟨⟨by unfold room;omega,fun e he=>by simp at he;subst he;rfl⟩,⟨k+1,o++[a[k]+c],0,by omega,by simp[ho],by rw[qT];rfl,lo.append (An (by omega) Ao),by omega,zj a0 ho hv (by have:=a1;omega)⟩,?_⟩;simp only[nth,toI];omega
   ·have a0:k=a.length:=by omega
    subst a0;rw[qh,ho];refine⟨⟨by unfold room;omega,fun e he=>by simp at he;subst he;rfl⟩,?_⟩;rw[A5,A6 (by omega)]at hv;have e1:raw o++[[Ai .u32 (c:Int)]]=raw (o++[c]):=by rw[qT];rfl
    have l1:Limbs (o++[c]):=lo.append (An (by omega) Ao);have v1:val (o++[c])=val a+val b:=by rw[wU,ho];omega
    have e2:o++[c]=pad (max a.length b.length+1) (val a+val b):=by
     rw[←v1,←jW l1];congr 1
     ·simp[ho];omega
     ·rw[jW l1]
    rw[e1,e2]
theorem x9 {l:List Nat} {i x:Nat} (h:i<l.length):upd (raw l) i (upd (nth [] (raw l) i) 0 (.int .u32 (x:Int)))=raw (l.set i x):=by
 rw[Wx h];exact Pq l i x
theorem jU {o:List Nat} {k m d:Nat} (ho:o.length=k) (hm:0<m):(o++A2 m 0).set k d=(o++[d])++A2 (m-1) 0:=by
 obtain⟨m,rfl⟩:∃m',m=m'+1:=⟨m-1,by omega⟩;rw[List.replicate_succ,AG _ _ (by omega),ho];simp
theorem xZ {x y o:List Nat} {k c d c':Nat} (hk:k<x.length) (ho:o.length=k) (hv:val o+val (y.take k)=val (x.take k)+1000000000^k*c) (ht:d+c+y.getD k 0=x[k]+1000000000*c'):
 val (o++[d])+val (y.take (k+1))=val (x.take (k+1))+1000000000^(k+1)*c':=by
 rw[wU,ho,qD,qD];have h2:x.getD k 0=x[k]:=by simp[A8,hk]
 rw[h2];have h3:1000000000^k*(d+c+y.getD k 0)=1000000000^k*d+1000000000^k*c+1000000000^k*y.getD k 0:=by rw[AP,AP]
 have h4:1000000000^k*(x[k]+1000000000*c')=1000000000^k*x[k]+1000000000^(k+1)*c':=by rw[AP,AS,AR]
 rw[ht]at h3;omega
theorem JM {a b:List Nat} (ha:Limbs a) (hb:Limbs b) (hra:a.length≤1073741824) (hab:val b≤val a):qe C0 312 [.c (.sl (raw a)),.c (.sl (raw b))] [.c (.sl (raw (pad a.length (val a-val b))))]:=by
 refine qf (anns:=fun _=>⟨[.own 5 45 1,.slot 6 (.int .u32 0),.slot 15 (.int .i64 0)],[],fun _ ds=>∃(k:Nat) (o:List Nat) (c:Nat),k≤a.length∧o.length=k∧ds=[.sl (raw (o++A2 (a.length-k) 0)),.int .u32 (c:Int),.int .i64 (k:Int)]∧Limbs o∧c≤1∧val o+val (b.take k)=val (a.take k)+1000000000^k*c,fun ds=>a.length-(toI (nth .undef ds 2)).toNat⟩) mixedT Tryz.func312 ?_;rw[My];simp only[Au,qh];refine⟨⟨by omega,by omega,by unfold room;omega⟩,⟨0,[],0,by omega,rfl,by rw[At,xg];rfl,Ao,by omega,by simp[val]⟩,?_⟩;rintro es n m ⟨k,o,c,hk,ho,he,lo,hc,hv⟩;simp only[AN,Al,Am,true_and,and_true]at he;obtain⟨rfl,rfl,rfl⟩:=he;have hol:(o++A2 (a.length-k) 0).length=a.length:=by simp[ho];omega
 refine brd (fun h1=>?_) (fun h1=>?_)
 ·have a0:k<a.length:=by omega
  have hxk:=ha.get a0;have hk1:Ap .i64 ((k:Int)+1)=((k+1:Nat):Int):=by rw[xL (by omega) (by omega)];omega
  rw[At,hk1,qh,hol];refine⟨⟨by omega,by omega,qt a0⟩,_,qu a0,brd (fun h2=>?_) (fun h2=>?_)⟩
  ·have a3:k<b.length:=by omega
   have hyk:=hb.get a3;have a2:b.getD k 0=b[k]:=by simp[A8,a3]
   refine⟨⟨by omega,by omega,qt a3⟩,_,qu a3,?_⟩;have hw:Ap .u32 ((c:Int)+(b[k]:Int))=((c+b[k]:Nat):Int):=by rw[zK (by omega) (by omega)];omega
   rw[hw];refine brd (fun h3=>?_) (fun h3=>?_)
   ·have a1:Ap .u32 (Ap .u32 ((a[k]:Int)+1000000000)-((c+b[k]:Nat):Int))=((a[k]+1000000000-(c+b[k]):Nat):Int):=by rw[zK (n:=(a[k]:Int)+1000000000) (by omega) (by omega),zK (by omega) (by omega)];omega
    rw[a1,x9 (by simp[ho];omega),jU ho (by omega)];refine⟨⟨by omega,by omega⟩,by omega,⟨k+1,o++[a[k]+1000000000-(c+b[k])],1,by omega,by simp[ho],by rw[show a.length-k-1=a.length-(k+1)by omega];rfl,lo.append (An (by omega) Ao),by omega,xZ a0 ho hv (by have:=a2;omega)⟩,?_⟩;simp only[nth,toI];omega
   ·have a1:Ap .u32 ((a[k]:Int)-((c+b[k]:Nat):Int))=((a[k]-(c+b[k]):Nat):Int):=by rw[zK (by omega) (by omega)];omega
    rw[a1,x9 (by simp[ho];omega),jU ho (by omega)];refine⟨⟨by omega,by omega⟩,by omega,⟨k+1,o++[a[k]-(c+b[k])],0,by omega,by simp[ho],by rw[show a.length-k-1=a.length-(k+1)by omega];rfl,lo.append (An (by omega) Ao),by omega,xZ a0 ho hv (by have:=a2;omega)⟩,?_⟩;simp only[nth,toI];omega
  ·have a2:b.getD k 0=0:=Q5 (by omega);refine brd (fun h3=>?_) (fun h3=>?_)
   ·have a1:Ap .u32 (Ap .u32 ((a[k]:Int)+1000000000)-(c:Int))=((a[k]+1000000000-(c):Nat):Int):=by rw[zK (n:=(a[k]:Int)+1000000000) (by omega) (by omega),zK (by omega) (by omega)];omega
    rw[a1,x9 (by simp[ho];omega),jU ho (by omega)];refine⟨⟨by omega,by omega⟩,by omega,⟨k+1,o++[a[k]+1000000000-(c)],1,by omega,by simp[ho],by rw[show a.length-k-1=a.length-(k+1)by omega];rfl,lo.append (An (by omega) Ao),by omega,xZ a0 ho hv (by have:=a2;omega)⟩,?_⟩;simp only[nth,toI];omega
   ·have a1:Ap .u32 ((a[k]:Int)-(c:Int))=((a[k]-(c):Nat):Int):=by rw[zK (by omega) (by omega)];omega
    rw[a1,x9 (by simp[ho];omega),jU ho (by omega)];refine⟨⟨by omega,by omega⟩,by omega,⟨k+1,o++[a[k]-(c)],0,by omega,by simp[ho],by rw[show a.length-k-1=a.length-(k+1)by omega];rfl,lo.append (An (by omega) Ao),by omega,xZ a0 ho hv (by have:=a2;omega)⟩,?_⟩;simp only[nth,toI];omega
 ·have a0:k=a.length:=by omega
  subst a0;rw[A5]at hv;rw[BW,AH,AM];have h2:=qG lo;rw[ho]at h2;have h3:val b=val (b.take a.length)+1000000000^(b.take a.length).length*val (b.drop a.length):=by rw[←qL,A7]
  have h4:=qG ha;have h5:val (b.take a.length)=val b:=by
   rcases Nat.lt_or_ge b.length a.length with hl|hl
   ·rw[A6 (by omega)]
   ·rw[A3,BV hl]at h3;rcases AV (val (b.drop a.length))with h6|h6
    ·rw[h6]at h3;omega
    ·have:=AQ (1000000000^a.length) h6;omega
  have h6:c=0:=by
   rcases AV c with h6|h6
   ·exact h6
   ·have:=AQ (1000000000^a.length) h6;omega
  subst h6;have h7:o=pad a.length (val a-val b):=by rw[show val a-val b=val o by omega];have:=jW lo;rw[ho]at this;exact this.symm
  rw[h7]
end Eng
end

section
namespace Eng
open Go Go.Proofs
set_option maxRecDepth 100000
theorem JN {C:Cx} {f s:Nat} {args:List A} {es:List (List D)} (h:jr C f args s es):qe C f args [.c (.sl es)]:=by
 intro w F vs hb hi ha;refine(h w F vs hb hi ha).mono fun e w' he=>?_
 obtain⟨a0,b,c,cs,t,rfl,h1,h2,h3,h4,h5,h6,h7,h8,h9,h10⟩:=he;refine⟨a0,_,rfl,?_⟩;have a1:Row w' (fun b=>F b∨(w.heap.size≤b∧b<w'.heap.size)) es b 0 s:=⟨h8,.inr ⟨h1,h2⟩,fun j hj=>by
  obtain⟨v,q1,q2⟩:=h10 j hj;refine⟨v,?_,q2 _ _⟩;rw[Nat.zero_add,xU h3];exact q1⟩
 exact a1.CD h5.1
theorem Q6:∀{o:List Nat} {j:Nat} (d:Nat),j<o.length→val (o.set j d)+1000000000^j*o.getD j 0=val o+1000000000^j*d
 |[],_,_,h=>absurd h (by simp)
 |x::o,0,d,_=>by simp[val];omega
 |x::o,j+1,d,h=>by have ih:=Q6 (o:=o) (j:=j) d (by simpa using h);simp only[List.set_cons_succ,val,List.getD_cons_succ];rw[AS,AT (1000000000^j) 1000000000,AR,AR];omega
theorem wV {o:List Nat} (h:Limbs o) {j d:Nat} (hd:d<1000000000):Limbs (o.set j d):=fun y hy=>by
 rcases AE hy with hy|rfl
 ·exact h y hy
 ·exact hd
theorem zw {o:List Nat} {i j d:Nat} (h:i≠j):(o.set i d).getD j 0=o.getD j 0:=by simp[A8,List.getElem?_set_ne h]
theorem xf {o:List Nat} {j:Nat} (h:j<o.length):o.getD j 0=o[j]:=by simp[A8,h]
theorem Ge (t:Nat):Aw (t:Int) 1000000000=((t%1000000000:Nat):Int):=by rw[Ax (by omega)];omega
theorem Gf (t:Nat):Av (t:Int) 1000000000=((t/1000000000:Nat):Int):=by rw[Ay (by omega)];omega
set_option maxHeartbeats 1000000 in
theorem Xz {a b:List Nat} (ha:Limbs a) (hb:Limbs b) (hra:a.length≤536870912) (hrb:b.length≤536870912) (hne:0<a.length+b.length):
 jr C0 190 [.c (.sl (raw a)),.c (.sl (raw b))] 1 (raw (pad (a.length+b.length) (val a*val b))):=by
 refine OE (anns:=Vn
  ⟨[.own 5 68 1,.slot 20 (.int .i64 0)],[],fun _ ds=>∃(i:Nat) (o:List Nat),i≤a.length∧ds=[.sl (raw o),.int .i64 (i:Int)]∧o.length=a.length+b.length∧Limbs o∧(∀j,i+b.length≤j→o.getD j 0=0)∧val o=val (a.take i)*val b,fun ds=>a.length-(toI (nth .undef ds 1)).toNat⟩
  ⟨[.own 5 68 1,.slot 8 (.int .u64 0),.slot 27 (.int .i64 0)],[.slot 6 (.int .i64 0),.slot 7 (.int .u32 0),.own 5 68 1],fun g ds=>∃(i k c:Nat) (o0 o:List Nat),g=[.int .i64 (i:Int),.int .u32 ((a.getD i 0:Nat):Int),.sl (raw o0)]∧i<a.length∧k≤b.length∧c<1000000000∧ds=[.sl (raw o),.int .u64 (c:Int),.int .i64 (k:Int)]∧o.length=a.length+b.length∧Limbs o∧(∀j,i+b.length≤j→o.getD j 0=0)∧val o+1000000000^(i+k)*c=val o0+1000000000^i*(a.getD i 0*val (b.take k)),fun ds=>b.length-(toI (nth .undef ds 2)).toNat⟩) mixedT Tryz.func190 ?_
 rw[Mz];simp only[Au,qh];have hab:Ap .i64 ((a.length:Int)+(b.length:Int))=((a.length+b.length:Nat):Int):=by rw[xL (by omega) (by omega)];omega
 rw[hab,At,xg];refine⟨⟨by omega,by omega,by unfold room;omega⟩,⟨0,A2 (a.length+b.length) 0,by omega,rfl,by simp,fun y hy=>by rw[List.eq_of_mem_replicate hy];omega,fun j _=>by simp[A8,List.getElem?_replicate];split<;>rfl,by simp[jZ,val]⟩,?_⟩;rintro es n ⟨i,o0,hi,he,a9,lo,hz,hv⟩;simp only[AN,Al,Am,true_and,and_true]at he;obtain⟨rfl,rfl⟩:=he;refine brd (fun h1=>?_) (fun h1=>?_)
 ·have a0:i<a.length:=by omega
  have hai:=ha.get a0;rw[At];refine⟨⟨by omega,by omega,qt a0⟩,_,qu a0,⟨i,0,0,o0,o0,by rw[xf a0],a0,by omega,by omega,rfl,a9,lo,hz,by simp[val]⟩,?_⟩;rintro es m k' ⟨i',k,c,o0',o,hg,_,hk,hc,he,a2,a8,a7,aa⟩;simp only[AN,Al,Am,true_and,and_true]at hg he;obtain⟨hi',hx',a5⟩:=hg;obtain⟨rfl,rfl,rfl⟩:=he;have a3:i'=i:=by omega
  subst a3;have a5:=Zv a5;subst a5;rw[xf a0]at aa;refine brd (fun h2=>?_) (fun h2=>?_)
  ·have a1:k<b.length:=by omega
   have hbk:=hb.get a1;have hj:i'+k<o.length:=by omega
   have hoj:=a8.get hj;have hw:Ap .i64 ((i':Int)+(k:Int))=((i'+k:Nat):Int):=by rw[xL (by omega) (by omega)];omega
   have a4:Ap .i64 ((k:Int)+1)=((k+1:Nat):Int):=by rw[xL (by omega) (by omega)];omega
   rw[hw,a4,At,At,qh];refine⟨⟨by omega,by omega,qt a1⟩,_,qu a1,⟨by omega,by omega⟩,_,qu hj,by omega,by omega,⟨by omega,by omega⟩,by omega,?_⟩;have hp:a[i']*b[k]≤999999999*999999999:=Nat.mul_le_mul (by omega) (by omega);obtain⟨p,a6⟩:∃p,p=a[i']*b[k]:=⟨_,rfl⟩;rw[←a6]at hp;have hpi:(a[i']:Int)*(b[k]:Int)=(p:Int):=by rw[a6];exact(Az _ _).symm
   obtain⟨t,hte⟩:∃t,t=o[i'+k]+p+c:=⟨_,rfl⟩;have ht:Ap .u64 (Ap .u64 (Ap .u64 (o[i'+k]:Int)+Ap .u64 (Ap .u64 (a[i']:Int)*Ap .u64 (b[k]:Int)))+(c:Int))=(t:Int):=by rw[x6 (n:=(o[i'+k]:Int)) (by omega) (by omega),x6 (n:=(a[i']:Int)) (by omega) (by omega),x6 (n:=(b[k]:Int)) (by omega) (by omega),hpi,x6 (n:=(p:Int)) (by omega) (by omega),x6 (n:=(o[i'+k]:Int)+(p:Int)) (by omega) (by omega),x6 (by omega) (by omega)];omega
   rw[ht,Ge,Gf,zK (n:=((t%1000000000:Nat):Int)) (by omega) (by omega),x6 (n:=((t/1000000000:Nat):Int)) (by omega) (by omega),x9 hj];refine⟨⟨i',k+1,t/1000000000,o0,o.set (i'+k) (t%1000000000),by rw[xf a0],a0,by omega,by omega,rfl,by simp[a2],wV a8 (by omega),fun j hjj=>by rw[zw (by omega)];exact a7 j hjj,?_⟩,?_⟩
   ·have h3:=Q6 (t%1000000000) hj;rw[xf hj]at h3;rw[xf a0,qD,xf a1];have h4:=Zs (k:=i'+k) (show t%1000000000+1000000000*(t/1000000000)=t by omega);rw[show i'+(k+1)=i'+k+1 by omega];have h5:1000000000^(i'+k)*t=1000000000^(i'+k)*o[i'+k]+1000000000^(i'+k)*p+1000000000^(i'+k)*c:=by rw[hte,AP,AP]
    have h6:1000000000^i'*(a[i']*(val (b.take k)+1000000000^k*b[k]))=1000000000^i'*(a[i']*val (b.take k))+1000000000^(i'+k)*p:=by rw[AP,AP,a6,BX];congr 1;simp only[AR,Nat.mul_left_comm]
    omega
   ·simp only[nth,toI];omega
  ·have a1:k=b.length:=by omega
   subst a1;have hj:i'+b.length<o.length:=by omega
   have hw:Ap .i64 ((i':Int)+(b.length:Int))=((i'+b.length:Nat):Int):=by rw[xL (by omega) (by omega)];omega
   have a4:Ap .i64 ((i':Int)+1)=((i'+1:Nat):Int):=by rw[xL (by omega) (by omega)];omega
   rw[hw,a4,At,qh,zK (n:=(c:Int)) (by omega) (by omega),x9 hj];refine⟨⟨by omega,by omega⟩,by omega,⟨i'+1,o.set (i'+b.length) c,by omega,rfl,by simp[a2],wV a8 hc,fun j hjj=>by rw[zw (by omega)];exact a7 j (by omega),?_⟩,?_⟩
   ·have h3:=Q6 c hj;rw[a7 _ (AY _)]at h3;rw[A5]at aa;rw[qD,xf a0,AW,←hv,AR];omega
   ·simp only[nth,toI];omega
 ·have a0:i=a.length:=by omega
  subst a0;rw[A5]at hv;refine⟨⟨fun e=>?_,VP _⟩,trivial,?_⟩
  ·have h0:=congrArg A1 e;rw[qh]at h0;have h0:o0.length=0:=h0;omega
  ·rw[←hv,←a9,jW lo]
theorem UG {a b:List Nat} (ha:Limbs a) (hb:Limbs b) (hra:a.length≤536870912) (hrb:b.length≤536870912):
 qe C0 190 [.c (.sl (raw a)),.c (.sl (raw b))] [.c (.sl (raw (pad (a.length+b.length) (val a*val b))))]:=by
 rcases AV (a.length+b.length)with h|h
 ·have h1:a=[]:=AC (by omega);have h2:b=[]:=AC (by omega);subst h1 h2;exact Qt (lim:=100) (n:=5) (tab:=noT) mixedT (fun _ _ _ h=>by simp[noT]at h) _ _ _ (by kernel_rfl)
 ·exact JN (Xz ha hb hra hrb h)
theorem X0 {a:List Nat} {d:Nat} (ha:Limbs a) (hd0:0<d) (hd:d<1000000000) (hra:a.length≤1073741824):
 qe C0 308 [.c (.sl (raw a)),.c (.int .u32 (d:Int))] [.c (.sl (raw (pad a.length (val a/d)))),.c (.sl (raw [val a%d]))]:=by
 refine qf (anns:=fun _=>⟨[.own 6 44 1,.slot 7 (.int .u64 0),.slot 8 (.int .i64 0)],[],fun _ ds=>∃(k r:Nat) (h:List Nat),k≤a.length∧r<d∧h.length=a.length-k∧Limbs h∧ds=[.sl (raw (A2 k 0++h)),.int .u64 (r:Int),.int .i64 ((k:Int)-1)]∧val (a.drop k)=val h*d+r,fun ds=>(toI (nth .undef ds 2)+1).toNat⟩) mixedT Tryz.func308 ?_;rw[UF];simp only[Au,qh,At,xg];refine⟨⟨by omega,by omega,by unfold room;omega⟩,⟨a.length,0,[],AY _,hd0,by simp,Ao,by rw[xL (by omega) (by omega),AM];rfl,by simp[val]⟩,?_⟩;rintro es m n ⟨k,r,h,hk,hr,hl,lh,he,hv⟩;simp only[AN,Al,Am,true_and,and_true]at he;obtain⟨rfl,rfl,rfl⟩:=he;refine brd (fun h1=>?_) (fun h1=>?_)
 ·have a0:k-1<a.length:=by omega
  have hak:=ha.get a0;have ht0:((k:Int)-1).toNat=k-1:=by omega
  have hk1:Ap .i64 ((k:Int)-1-1)=((k-1:Nat):Int)-1:=by rw[xL (by omega) (by omega)];omega
  have hdw:Ap .u64 (d:Int)=(d:Int):=x6 (by omega) (by omega);have a1:(A2 k 0++h).length=a.length:=by simp[hl];omega
  rw[ht0,hk1,hdw,qh,a1];refine⟨⟨by omega,by omega,qt a0⟩,_,qu a0,by omega,by omega,⟨by omega,by omega⟩,by omega,?_⟩;have hrr:r*1000000000≤999999998*1000000000:=AO _ (by omega);obtain⟨t,hte⟩:∃t,t=r*1000000000+a[k-1]:=⟨_,rfl⟩;have ht:Ap .u64 (Ap .u64 ((r:Int)*1000000000)+Ap .u64 (a[k-1]:Int))=(t:Int):=by rw[x6 (n:=(r:Int)*1000000000) (by omega) (by omega),x6 (n:=(a[k-1]:Int)) (by omega) (by omega),x6 (by omega) (by omega)];omega
  have hq:t/d<1000000000:=by rw[AU hd0];have:(r+1)*1000000000≤d*1000000000:=AO _ hr;omega
  have hm:t%d<d:=BT _ hd0;have e1:Av (t:Int) (d:Int)=((t/d:Nat):Int):=by rw[Ay (by omega)];rfl
  have e2:Aw (t:Int) (d:Int)=((t%d:Nat):Int):=by rw[Ax (by omega)];rfl
  have hdm:=BP t d;rw[ht,e1,e2];obtain⟨q,a3⟩:∃q,q=t/d:=⟨_,rfl⟩;obtain⟨m,a2⟩:∃m,m=t%d:=⟨_,rfl⟩;rw[←a3,←a2]at hdm ⊢;rw[←a3]at hq;rw[←a2]at hm;rw[x6 (n:=(q:Int)) (by omega) (by omega),zK (n:=(q:Int)) (by omega) (by omega),x9 (by omega)];refine⟨⟨k-1,m,q::h,by omega,hm,by simp[hl];omega,An hq lh,?_,?_⟩,?_⟩
  ·have:(A2 k 0++h).set (k-1) q=A2 (k-1) 0++q::h:=by obtain⟨k',rfl⟩:∃k',k=k'+1:=⟨k-1,by omega⟩;rw[List.replicate_succ',List.append_assoc,Nat.add_sub_cancel,AG _ _ (by simp)];simp
   rw[this]
  ·rw[A4 a0,show k-1+1=k by omega];simp only[val];rw[hv];have h5:(q+1000000000*val h)*d=d*q+1000000000*(val h*d):=by rw[AW,AT q d,AR]
   omega
  ·simp only[nth,toI];omega
 ·have a0:k=0:=by omega
  subst a0;simp only[AD,AH,List.nil_append]at hv ⊢;have e1:val a/d=val h:=by rw[hv,AT,Nat.mul_add_div hd0,Nat.div_eq_of_lt hr,AZ]
  have e2:val a%d=r:=by rw[hv,AT,Nat.mul_add_mod,AX hr]
  rw[e1,e2,zK (by omega) (by omega)];have:=jW lh;rw[hl,Nat.sub_zero]at this;rw[this];rfl
end Eng
end

section
namespace Eng
open Go
theorem mlt {a b c:Nat} (h:a<b) (hc:0<c):a*c<b*c:=Nat.mul_lt_mul_of_pos_right h hc
theorem val2 {v:List Nat} {p:Nat}:val (v.take (p+2))=(v.getD (p+1) 0*1000000000+v.getD p 0)*1000000000^p+val (v.take p):=by
 rw[qD v (p+1),qD v p,AS]
 grind
theorem val3 {u:List Nat} {p:Nat}:val (u.take (p+3))=((u.getD (p+2) 0*1000000000+u.getD (p+1) 0)*1000000000+u.getD p 0)*1000000000^p+val (u.take p):=by
 rw[qD u (p+2),qD u (p+1),qD u p,AS,AS]
 grind
theorem Gg {o:List Nat} (h:Limbs o) {j d:Nat} (hd:d<1000000000):Limbs (o.set j d):=fun y hy=>by
 rcases AE hy with hy|rfl
 ·exact h y hy
 ·exact hd
structure DInv (n m V U0 kk:Nat) (ul ql:List Nat):Prop where
 hk:kk≤m
 lu:ul.length=n+m
 lq:ql.length=m
 Lu:Limbs ul
 Lq:Limbs ql
 hlt:val ul<V*1000000000^kk
 heq:U0=val (ql.drop kk)*(V*1000000000^kk)+val ul
theorem UH {V' V X B W lo md h qv:Nat} (hW:W=V'*B) (hV:V<V') (hlo:lo<X) (hlt:lo+X*(md+W*h)<V*(X*B)) (hV0:0<V):
 h=0∧md<V*B∧lo+X*(md%V)<V*X∧qv*(V*(X*B))+(lo+X*(md+W*h))=(md/V+B*qv)*(V*X)+(lo+X*(md%V)):=by
 have h0:h=0:=by
  rcases AV h with h0|h0
  ·exact h0
  ·exfalso;have h1:W≤W*h:=Nat.le_mul_of_pos_right W h0;have h2:X*W≤X*(md+W*h):=AQ X (by omega);have h3:V*(X*B)=X*(V*B):=by grind
   have h4:X*(V*B)≤X*W:=AQ X (by rw[hW];exact AO B (by omega));omega
 subst h0;rw[BQ,AZ]at hlt ⊢;have h3:V*(X*B)=X*(V*B):=by grind
 have hm:md<V*B:=by apply Bx;intro hle;have:=AQ X hle;omega
 have a0:=BT md hV0;have hdm:=BP md V;refine⟨rfl,hm,?_,?_⟩
 ·have:X*(md%V+1)≤X*V:=AQ X a0;rw[AP,BZ]at this;rw[AT V X];omega
 ·have e1:(md/V+B*qv)*(V*X)=X*(V*(md/V))+qv*(V*(X*B)):=by grind
  have e2:X*md=X*(V*(md/V))+X*(md%V):=by rw[←AP,hdm]
  omega
theorem DInv.mid {n m V U0 k:Nat} {ul ql:List Nat} (h:DInv n m V U0 (k+1) ul ql) (hV:V<1000000000^n) (hV0:0<V):
 val ((ul.drop k).take (n+1))<V*1000000000∧∀r:List Nat,Limbs r→r.length=n+1→val r=val ((ul.drop k).take (n+1))%V→
  DInv n m V U0 k (ul.take k++r++ul.drop (k+(n+1))) (ql.set k (val ((ul.drop k).take (n+1))/V)):=by
 have hk:=h.hk;have lu:=h.lu;have lq:=h.lq;have e0:ul=ul.take k++((ul.drop k).take (n+1)++ul.drop (k+(n+1))):=by rw[←List.drop_drop,A7,A7]
 have l1:(ul.take k).length=k:=by rw[A3];omega
 have l2:((ul.drop k).take (n+1)).length=n+1:=by rw[A3,AK];omega
 have hv:val ul=val (ul.take k)+1000000000^k*(val ((ul.drop k).take (n+1))+1000000000^(n+1)*val (ul.drop (k+(n+1)))):=by
  conv=>lhs;rw[e0]
  rw[qL,qL,l1,l2]
 have a6:=qG (h.Lu.take k);rw[l1]at a6;have a5:=h.hlt;have a0:=h.heq;rw[hv]at a5 a0;have hp:1000000000^(k+1)=1000000000^k*1000000000:=AS ..;rw[hp]at a5 a0;obtain⟨a1,a2,a3,a4⟩:=UH (V':=1000000000^n) (W:=1000000000^(n+1)) (B:=1000000000) (qv:=val (ql.drop (k+1))) (AS ..) hV a6 a5 hV0;have hq:val ((ul.drop k).take (n+1))/V<1000000000:=by rw[AU hV0,AT];exact a2
 refine⟨a2,fun r Lr lr vr=>⟨by omega,?_,by rw[List.length_set];exact lq,?_,Gg h.Lq hq,?_,?_⟩⟩
 ·rw[AI,AI,l1,lr,AK];omega
 ·exact((h.Lu.take k).append Lr).append (h.Lu.drop _)
 ·rw[qL,qL,l1,a1,vr,BQ,AZ];exact a3
 ·have e5:(ql.set k (val ((ul.drop k).take (n+1))/V)).drop k=(val ((ul.drop k).take (n+1))/V)::ql.drop (k+1):=by rw[List.drop_set,if_neg (Nat.lt_irrefl k),BW,A4 (show k<ql.length by omega),List.set_cons_zero]
  rw[e5,qL,qL,l1,a1,vr,BQ,AZ,a0,a4];rfl
theorem Ws {V P v1 t3 t2 md r0:Nat} (hV:V<(v1+1)*P) (hV2:v1*P≤V) (hv:500000000≤v1) (hmd:md=(t3*1000000000+t2)*P+r0) (hr0:r0<P) (ht2:t2<1000000000) (hlt:md<V*1000000000) (_hV0:0<V):
 md/V≤(t3*1000000000+t2)/v1∧(t3*1000000000+t2)/v1≤1000000001∧t3≤v1:=by
 have hP:0<P:=by omega
 have ht3:t3<v1+1:=by
  apply Bx;intro h;have h1:(v1+1)*1000000000*P≤t3*1000000000*P:=AO P (AO _ h);have h2:t3*1000000000*P≤(t3*1000000000+t2)*P:=AO P (by omega);have h3:(v1+1)*1000000000*P=(v1+1)*P*1000000000:=by grind
  have h4:V*1000000000<(v1+1)*P*1000000000:=mlt hV (Nat.zero_lt_of_ne_zero (by decide));omega
 refine⟨?_,?_,by omega⟩
 ·rw[Nat.le_div_iff_mul_le (by omega)];have h1:md/V*V≤md:=BS md V;have h2:md/V*(v1*P)≤md/V*V:=AQ _ hV2;have h3:md/V*(v1*P)=md/V*v1*P:=(AR ..).symm;apply BU;apply Bx;intro h;have h4:((t3*1000000000+t2)+1)*P≤md/V*v1*P:=AO P h;rw[AW,BY]at h4;omega
 ·apply BU;rw[AU (by omega)];omega
theorem Pm {g v1 r t0 v2 B:Nat} (h:r*B+t0<g*v2):(g*v1+r)*B+t0<g*(v1*B+v2):=by
 rw[AP,←AR,AW];omega
theorem Pn {g v1 r t0 v2 B:Nat} (h:g*v2≤r*B+t0):g*(v1*B+v2)≤(g*v1+r)*B+t0:=by
 rw[AP,←AR,AW];omega
theorem Sh {g v1 r t0 v2:Nat} (h:r*1000000000+t0<g*v2):(g*v1+r)*1000000000+t0<g*(v1*1000000000+v2):=Pm h
theorem Si {g v1 r t0 v2:Nat} (h:g*v2≤r*1000000000+t0):g*(v1*1000000000+v2)≤(g*v1+r)*1000000000+t0:=Pn h
theorem Gh {P v1 v2 vl V t0 ul U g r top:Nat} (hV:V=(v1*1000000000+v2)*P+vl) (hU:U=(top*1000000000+t0)*P+ul) (hul:ul<P) (htop:top=g*v1+r) (h:r*1000000000+t0<g*v2) (hV0:0<V):U/V<g:=by
 rw[AU hV0];refine MB (V1:=v1*1000000000+v2) (U3:=top*1000000000+t0) hV hU hul ?_;rw[htop];exact Sh h
theorem Gi {P v1 v2 vl V t0 ul U g r top:Nat} (hV:V=(v1*1000000000+v2)*P+vl) (hU:U=(top*1000000000+t0)*P+ul) (hvl:vl<P) (htop:top=g*v1+r) (h:g*v2≤r*1000000000+t0) (hg:g≤1000000000) (hv1:1≤v1):g*V≤U+V:=by
 refine MA (V1:=v1*1000000000+v2) (U3:=top*1000000000+t0) hV hU hvl ?_ hg ?_
 ·rw[htop];exact Si h
 ·rw[hV];have:1000000000*P≤(v1*1000000000+v2)*P:=AO P (by omega);exact Nat.le_trans this (Nat.le_add_right _ _)
theorem UI {us vs:List Nat} {V g:Nat} (hu:Limbs us) (hv:Limbs vs) (hl:vs.length≤us.length) (hV:val vs=V) (hV0:0<V) (hVu:V≤1000000000^us.length) (hq:val us/V≤g) (hg:g≤1000000000) (hgV:g*V≤val us+V):
 ∃(r:List Nat) (c b:Nat),jw (g:Int) (kf us) (kf vs) 0 0=(kf r,(c:Int),(b:Int))∧Limbs r∧r.length=us.length∧
  ((c=0∧b=0∧g=val us/V∧val r=val us%V)∨((c≠0∨b≠0)∧g=val us/V+1∧∃r2:List Nat,QG (kf r) (kf vs) 0=kf r2∧Limbs r2∧r2.length=us.length∧val r2=val us%V)):=by
 obtain⟨r,c,b,h1,h2,h3,h4,h5,h6⟩:=Zw (by_:=g) hg (us:=us) (vs:=vs) (c:=0) (b:=0) hu hv hl (by omega) (by omega);have hr:=qG h2;have a3:=qG hu;rw[h3]at hr;have hd:=BP (val us) V;have hm:=BT (val us) hV0;have a0:val us<(val us/V+1)*V:=by rw[AW,BY,AT];omega
 have a1:val us/V*V≤val us:=BS _ _;have he:val us-val us/V*V=val us%V:=by rw[AT];omega
 refine⟨r,c,b,h1,h2,h3,?_⟩;rw[hV]at h6;by_cases hs:c+b=0
 ·obtain⟨e1,e2⟩:=US (V:=V) (g:=g) (s:=c+b) a1 hq a3 hr (by omega) hs a0;exact .inl ⟨by omega,by omega,e1,by rw[e2,he]⟩
 ·obtain⟨r2,c2,g1,g2,g3,g4,g5⟩:=Zx (us:=r) (vs:=vs) (c:=0) h2 hv (by omega) (by omega);have a2:=qG g2;rw[g3,h3]at a2;rw[h3,hV]at g5;obtain⟨e1,e2⟩:=UT (V:=V) (g:=g) (s:=c+b) (r':=val r2) (c:=c2) a1 hgV a3 hr hVu (by omega) hs a2 g4 (by omega) a0 hq;exact .inr ⟨by omega,e1,r2,g1,g2,by omega,by rw[e2,he]⟩
end Eng
end

section
namespace Eng
open Go Go.Proofs
set_option maxRecDepth 100000
def cI (z:Int):List D:=[.bool (decide (z<0)),.sl (raw (lim z.natAbs))]
def qH (z:Int):A:= .ag (cI z)
def X1:Nat:=(1000000000^100)^10
def Sm (z:Int):Prop:=z.natAbs<X1
theorem wu {n j k:Nat} (h:n<(1000000000^j)^k):(lim n).length≤j*k:=qo (by rw[Nat.pow_mul];exact h)
theorem Sm.len {z:Int} (h:Sm z):(lim z.natAbs).length≤1000:=wu (j:=100) (k:=10) h
theorem qS {l:List Nat} (b:Bool) (hl:Limbs l) (hr:l.length≤1073741824) {z:Int} (hz:z=if b then-(val l:Int)else(val l:Int)):
 qe C0 189 [.c (.bool b),.c (.sl (raw l))] [qH z]:=by
 have h:=Xy b hl hr;have e1:z.natAbs=val l:=by rw[hz];split<;>omega
 have e2:decide (z<0)=(b&&decide (0<val l)):=by
  rw[hz];cases b
  ·simp only[Aa,if_false,Ac,decide_eq_false_iff_not];omega
  ·simp only[if_true,Ad,decide_eq_decide];omega
 unfold qH cI;rw[e1,e2];exact h
theorem JO {u:Nat} (hu:u<18446744073709551616):qe C0 232 [.c (.int .u64 (u:Int))] [.c (.sl (raw [u%1000000000,u/1000000000%1000000000,u/1000000000/1000000000]))]:=by
 refine qf (anns:=an0) mixedT Tryz.func232 ?_;rw[Mx];refine⟨by omega,by omega,by omega,by omega,by omega,?_⟩;rw[Ge,Gf,x6 (n:=((u/1000000000:Nat):Int)) (by omega) (by omega),Ge,Gf,zK (n:=((u%1000000000:Nat):Int)) (by omega) (by omega),zK (n:=((u/1000000000%1000000000:Nat):Int)) (by omega) (by omega),
  x6 (n:=((u/1000000000/1000000000:Nat):Int)) (by omega) (by omega),zK (n:=((u/1000000000/1000000000:Nat):Int)) (by omega) (by omega)]
 rfl
theorem Q7 {u:Nat} (hu:u<18446744073709551616):Limbs [u%1000000000,u/1000000000%1000000000,u/1000000000/1000000000]∧val [u%1000000000,u/1000000000%1000000000,u/1000000000/1000000000]=u:=by
 refine⟨An (by omega) (An (by omega) (An (by omega) Ao)),?_⟩;simp only[val];omega
theorem zk {n:Int} (h1: -9223372036854775808≤n) (h2:n<9223372036854775808):qe C0 136 [.c (.int .i64 n)] [qH n]:=by
 refine qf (anns:=an0) mixedT Tryz.func136 ?_;rw[JL];have hu:n.natAbs<18446744073709551616:=by omega
 obtain⟨hl,hv⟩:=Q7 hu;have hs:=JO hu;refine brd (fun h=>?_) (fun h=>?_)
 ·have e:Ap .u64 ((0:Int)-Ap .u64 n)=((n.natAbs:Nat):Int):=by simp only[Aq];omega
  rw[e];refine⟨_,hs,_,_,qS _ hl (by simp) (z:=n) ?_,rfl⟩;rw[hv,decide_eq_true h,if_pos rfl];omega
 ·have e:Ap .u64 n=((n.natAbs:Nat):Int):=by simp only[Aq];omega
  rw[e];refine⟨_,hs,_,_,qS _ hl (by simp) (z:=n) ?_,rfl⟩;rw[hv,decide_eq_false h,if_neg (by simp)];omega
def sgn (z:Int):Int:=if z<0 then-1 else if 0<z then 1 else 0
def vH (x y:Int):Int:=if x<y then-1 else if y<x then 1 else 0
theorem VI (z:Int):qe C0 138 [qH z] [.c (.int .i64 (sgn z))]:=by
 refine qf (anns:=an0) mixedT Tryz.func138 ?_;unfold qH cI;rw[Pk];simp only[Au,qh];refine jC (fun h=>?_) (fun h=>brd (fun h1=>?_) (fun h1=>?_))
 ·have h:=of_decide_eq_true h;rw[sgn,if_pos h]
 ·have h:=of_decide_eq_false h;have:0<z.natAbs:=qz.1 (by omega);rw[sgn,if_neg h,if_pos (by omega)]
 ·have h:=of_decide_eq_false h;have:¬0<z.natAbs:=fun h2=>h1 (by have:=qz.2 h2;omega)
  rw[sgn,if_neg h,if_neg (by omega)]
theorem vI {x y:Int} (hx:Sm x) (hy:Sm y):qe C0 183 [qH x,qH y] [.c (.int .i64 (vH x y))]:=by
 refine qf (anns:=an0) mixedT Tryz.func183 ?_;unfold qH cI;rw[Sb];have lx:=hx.len;have ly:=hy.len;refine brb (fun h=>?_) (fun h=>?_)
 ·have h:decide (x<0)≠decide (y<0):=by simpa using h
  have h:¬(x<0↔y<0):=fun e=>h (by rw[decide_eq_decide];exact e)
  refine jC (fun h1=>?_) (fun h1=>?_)
  ·have h1:=of_decide_eq_true h1;rw[vH,if_pos (by omega)]
  ·have h1:=of_decide_eq_false h1;rw[vH,if_neg (by omega),if_pos (by omega)]
 ·have h:decide (x<0)=decide (y<0):=by simpa using h
  have h:x<0↔y<0:=by rw[decide_eq_decide]at h;exact h
  refine jC (fun h1=>?_) (fun h1=>?_)
  ·have h1:=of_decide_eq_true h1;refine⟨_,jg (qc _) (qc _) (by omega) (by omega),?_⟩;rw[qj,qj,vg,vH];have e1:(y.natAbs<x.natAbs)=(x<y):=by rw[eq_iff_iff];omega
   have e2:(x.natAbs<y.natAbs)=(y<x):=by rw[eq_iff_iff];omega
   simp only[e1,e2]
  ·have h1:=of_decide_eq_false h1;refine⟨_,jg (qc _) (qc _) (by omega) (by omega),?_⟩;rw[qj,qj,vg,vH];have e1:(x.natAbs<y.natAbs)=(x<y):=by rw[eq_iff_iff];omega
   have e2:(y.natAbs<x.natAbs)=(y<x):=by rw[eq_iff_iff];omega
   simp only[e1,e2]
theorem Wt {x:Int} (hx:Sm x):qe C0 185 [qH x] [qH (-x)]:=by
 refine qf (anns:=an0) mixedT Tryz.func185 ?_;have lx:=hx.len;rw[show qH x= .ag (cI x)from rfl,cI,Sf,qh];refine⟨⟨by unfold room;omega,zm _⟩,_,_,qS _ (qc _) (by omega) (z:= -x) ?_,rfl⟩;rw[qj];by_cases h:x<0
 ·rw[decide_eq_true h];simp;omega
 ·rw[decide_eq_false h];simp;omega
theorem jh {x y:Int} (hx:Sm x) (hy:Sm y):qe C0 101 [qH x,qH y] [qH (x*y)]:=by
 refine qf (anns:=an0) mixedT Tryz.func101 ?_;have lx:=hx.len;have ly:=hy.len;rw[show qH x= .ag (cI x)from rfl,show qH y= .ag (cI y)from rfl,cI,cI,Sg];refine⟨_,UG (qc _) (qc _) (by omega) (by omega),_,_,qS _ (xA _ _) (by rw[xh];omega) (z:=x*y) ?_,rfl⟩;have hv:val (pad ((lim x.natAbs).length+(lim y.natAbs).length) (val (lim x.natAbs)*val (lim y.natAbs)))=x.natAbs*y.natAbs:=by rw[ji,qj,qj];refine AX ?_;have h1:=qG (qc x.natAbs);have h2:=qG (qc y.natAbs);rw[qj]at h1 h2;rw[BX];exact Nat.mul_lt_mul'' h1 h2
 rw[hv];obtain⟨a,ha⟩:∃a,a=x.natAbs:=⟨_,rfl⟩;obtain⟨b,hb⟩:∃b,b=y.natAbs:=⟨_,rfl⟩;rw[←ha,←hb,Az];by_cases h1:x<0<;>by_cases h2:y<0
 ·have ex:x= -(a:Int):=by omega
  have ey:y= -(b:Int):=by omega
  rw[decide_eq_true h1,decide_eq_true h2,ex,ey];simp only[Ae,beq_self_eq_true,Aa,if_false];rw[Int.neg_mul_neg]
 ·have ex:x= -(a:Int):=by omega
  have ey:y=(b:Int):=by omega
  rw[decide_eq_true h1,decide_eq_false h2,ex,ey];simp only[Ae,Ab,beq_false,if_true];rw[Int.neg_mul]
 ·have ex:x=(a:Int):=by omega
  have ey:y= -(b:Int):=by omega
  rw[decide_eq_false h1,decide_eq_true h2,ex,ey];simp only[Ab,beq_true,if_true];rw[Int.mul_neg]
 ·have ex:x=(a:Int):=by omega
  have ey:y=(b:Int):=by omega
  rw[decide_eq_false h1,decide_eq_false h2,ex,ey];simp
theorem vJ {x y:Int} (hx:Sm x) (hy:Sm y):qe C0 235 [qH x,qH y] [qH (x+y)]:=by
 refine qf (anns:=an0) mixedT Tryz.func235 ?_;have lx:=hx.len;have ly:=hy.len;rw[show qH x= .ag (cI x)from rfl,show qH y= .ag (cI y)from rfl,cI,cI,Sd];have hpv:∀(a b:List Nat),Limbs a→Limbs b→val (pad (max a.length b.length+1) (val a+val b))=val a+val b:=by intro a b ha hb;rw[ji];refine AX ?_;have h1:=qG ha;have h2:=qG hb;have h3:1000000000^a.length≤1000000000^max a.length b.length:=BR (by omega) (by omega);have h4:1000000000^b.length≤1000000000^max a.length b.length:=BR (by omega) (by omega);rw[AS];omega
 have a0:∀(a b:List Nat),Limbs a→val b≤val a→val (pad a.length (val a-val b))=val a-val b:=by intro a b ha hb;rw[ji];exact AX (by have:=qG ha;omega)
 refine brb (fun h=>?_) (fun h=>?_)
 ·have h:decide (x<0)=decide (y<0):=by simpa using h
  have h':x<0↔y<0:=by rw[decide_eq_decide]at h;exact h
  refine⟨_,M4 (qc _) (qc _) (by omega) (by omega),_,_,qS _ (xA _ _) (by rw[xh];omega) (z:=x+y) ?_,rfl⟩;rw[hpv _ _ (qc _) (qc _),qj,qj];by_cases h:x<0
  ·rw[decide_eq_true h,if_pos rfl];omega
  ·rw[decide_eq_false h,if_neg (by simp)];omega
 ·have h:decide (x<0)≠decide (y<0):=by simpa using h
  have h':¬(x<0↔y<0):=fun e=>h (by rw[decide_eq_decide];exact e)
  refine⟨_,jg (qc _) (qc _) (by omega) (by omega),?_⟩;rw[qj,qj];have hc:vg x.natAbs y.natAbs<0↔x.natAbs<y.natAbs:=by
   unfold vg;split
   ·simp;assumption
   ·split<;>simp<;>omega
  refine brd (fun h1=>?_) (fun h1=>?_)
  ·have h1:=hc.1 h1;refine⟨_,JM (qc _) (qc _) (by omega) (by rw[qj,qj];omega),_,_,qS _ (xA _ _) (by rw[xh];omega) (z:=x+y) ?_,rfl⟩;rw[a0 _ _ (qc _) (by rw[qj,qj];omega),qj,qj];by_cases h:y<0
   ·rw[decide_eq_true h,if_pos rfl];omega
   ·rw[decide_eq_false h,if_neg (by simp)];omega
  ·have h1:¬x.natAbs<y.natAbs:=fun h2=>h1 (hc.2 h2)
   refine⟨_,JM (qc _) (qc _) (by omega) (by rw[qj,qj];omega),_,_,qS _ (xA _ _) (by rw[xh];omega) (z:=x+y) ?_,rfl⟩;rw[a0 _ _ (qc _) (by rw[qj,qj];omega),qj,qj];by_cases h:x<0
   ·rw[decide_eq_true h,if_pos rfl];omega
   ·rw[decide_eq_false h,if_neg (by simp)];omega
theorem UJ {x y:Int} (hx:Sm x) (hy:Sm y):qe C0 234 [qH x,qH y] [qH (x-y)]:=by
 refine qf (anns:=an0) mixedT Tryz.func234 ?_;have hn:Sm (-y):=by unfold Sm at *;rw[A0];exact hy
 have ha:=vJ hx hn;rw[show qH x= .ag (cI x)from rfl,show qH y= .ag (cI y)from rfl,cI,cI,Se];simp only[Au,qh];have e1:(-y).natAbs=y.natAbs:=A0 y;refine brb (fun h=>?_) (fun h=>?_)
 ·have h:¬y<0:=by simpa using h
  refine⟨_,_,?_,rfl⟩;have e2:decide (((lim y.natAbs).length:Int)>0)=decide (-y<0):=by rw[decide_eq_decide];have:=qz (n:=y.natAbs);omega
  rw[e2,←e1];exact ha
 ·have h:y<0:=by simpa using h
  refine⟨_,_,?_,rfl⟩;have e2:false=decide (-y<0):=by rw[eq_comm,decide_eq_false_iff_not];omega
  rw[e2,←e1];exact ha
theorem VJ {x:Int} (hx:Sm x):qe C0 268 [qH x] (if x.natAbs<1000000000000000000 then [.c (.int .u64 (x.natAbs:Int)),.c (.bool true)]else [.c (.int .u64 0),.c (.bool false)]):=by
 refine qf (anns:=an0) mixedT Tryz.func268 ?_;have lx:=hx.len;rw[show qH x= .ag (cI x)from rfl,cI,Pj];simp only[Au,qh];generalize hl:lim x.natAbs=l at *;have a0:Limbs l:=hl▸qc _;have hv:val l=x.natAbs:=hl▸qj _;have hge:1000000000000000000≤x.natAbs→2<l.length:=fun h=>hl▸zJ (k:=2) (by omega)
 have hlt:=qG a0;refine brb (fun h=>?_) (fun h=>brb (fun h1=>?_) (fun h1=>brb (fun h2=>?_) (fun h2=>?_)))
 ·have h:l.length=0:=by have:(l.length:Int)=0:=by simpa using h
                        omega
  have:l=[]:=AC h;subst this;simp only[val]at hv;rw[if_pos (by omega),←hv];rfl
 ·have h1:l.length=1:=by have:(l.length:Int)=1:=by simpa using h1
                         omega
  obtain⟨a,rfl⟩:∃a,l=[a]:=List.length_eq_one_iff.1 h1;have ha:=(a0.of_cons).1;simp only[val]at hv;refine⟨⟨by omega,by rw[h1];omega,rfl⟩,_,qu (l:=[a]) (i:=0) (by simp),?_⟩;rw[if_pos (by omega)];have:Ap .u64 (([a][0]:Nat):Int)=(x.natAbs:Int):=by show Ap .u64 (a:Int)=_;rw[x6 (by omega) (by omega)];omega
  rw[this]
 ·have h2:l.length=2:=by have:(l.length:Int)=2:=by simpa using h2
                         omega
  obtain⟨a,b,rfl⟩:∃a b,l=[a,b]:=(match l,h2 with|[a,b],_=>⟨a,b,rfl⟩);have ha:=(a0.of_cons).1;have hb:=((a0.of_cons).2.of_cons).1;simp only[val]at hv;refine⟨⟨by omega,by rw[h2];omega,rfl⟩,_,qu (l:=[a,b]) (i:=1) (by simp),⟨by omega,by rw[h2];omega,rfl⟩,_,qu (l:=[a,b]) (i:=0) (by simp),?_⟩;rw[if_pos (by omega)];have:Ap .u64 (Ap .u64 (Ap .u64 (([a,b][1]:Nat):Int)*1000000000)+Ap .u64 (([a,b][0]:Nat):Int))=(x.natAbs:Int):=by show Ap .u64 (Ap .u64 (Ap .u64 (b:Int)*1000000000)+Ap .u64 (a:Int))=_;rw[x6 (n:=(b:Int)) (by omega) (by omega),x6 (n:=(a:Int)) (by omega) (by omega),x6 (n:=(b:Int)*1000000000) (by omega) (by omega),x6 (by omega) (by omega)];omega
  rw[this]
 ·have h:(l.length:Int)≠0:=by simpa using h
  have h1:(l.length:Int)≠1:=by simpa using h1
  have h2:(l.length:Int)≠2:=by simpa using h2
  have:¬x.natAbs<1000000000000000000:=by intro hc;have h5:=qo (n:=x.natAbs) (k:=2) (by omega);rw[hl]at h5;omega
  rw[if_neg this]
end Eng
end
