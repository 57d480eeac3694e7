/- The verification conditions of functions, printed by a program (vcgen.py) and checked by the kernel. -/
import Derived.Test.YtbehlcfelmbmlaaGreatDoorCtxB
import Derived.KernelRfl
open Decidable renaming byContradiction→Aa
open Eng.A renaming c→Ab, ag→Ac
open Eng.D renaming int→Ad, bool→Ae, sl→Af
open Eng.D.int renaming injEq→Ah
open Eng.D.sl renaming injEq→Ai
open Eng.Limbs renaming nil→Aj, cons→Ak
open Go.IntKind renaming wrap→Al
open Int renaming ofNat→Am, toNat→An, toNat_natCast→Ao, ofNat_eq_natCast→Ap, tmod→Aq, tdiv→Ar, natAbs_natCast→As, natAbs_neg→At
open List renaming replicate→Au, length→Av, take_length→Aw, drop_eq_getElem_cons→Ax, length_take→Ay, drop_length→Az, drop_zero→A0, take_of_length_le→A1, getD→A2, append_nil→A3, take→A4, drop→A5
open List.cons renaming injEq→A6
open Nat renaming le_refl→A7, mul_add→A8, pow_le_pow_right→A9, mul_le_mul_left→AA, lt_of_lt_of_le→AB, eq_zero_or_pos→AC, mul_assoc→AD, pow_add→AE
section
namespace Eng
open Go Go.Proofs
set_option maxRecDepth 1000000
section
variable (Gv:Nat→List A→List A→Prop) (Q:List A→Prop) (I0 I1 I2 I3:List D→List D→Prop) (M0 M1 M2 M3:List D→Nat)
theorem MJ (es:List (List D)):wpF CC Gv (fun _=>⟨[.slot 0 (.slice none 0 0)],[],I0,M0⟩) Tryz.f224 [.c (.sl es)] Q=(
 I0 [] [Af es]∧∀(es:List (List D)),I0 [] [Af es]→br (toB (Ae (decide ((Am es.length)>0)))) ((0≤Al .i64 ((Am es.length)-1)∧Al .i64 ((Am es.length)-1)<(Am es.length)∧Av (nth [] es (An (Al .i64 ((Am es.length)-1))))=1)∧∃n,cut (nth [] es (An (Al .i64 ((Am es.length)-1)))) 0 1 [Ad .u32 n]∧br (toB (Ae (n==0))) (((0:Int)≤(0:Int)∧0≤Al .i64 ((Am es.length)-1)∧Al .i64 ((Am es.length)-1)≤(Am es.length)∧lens 1 es)∧I0 [] [Af (A5 0 (A4 (An (Al .i64 ((Am es.length)-1))) es))]∧M0 [Af (A5 0 (A4 (An (Al .i64 ((Am es.length)-1))) es))]<M0 [Af es]) (Q [Ab (Af es)])) (Q [Ab (Af es)])):=by kernel_rfl
theorem Gn (b:Bool) (es:List (List D)):wpF CC Gv an0 Tryz.f128 [.c (.bool b),.c (.sl es)] Q=(
 ∃e1,Gv 224 [Ab (Af es)] [Ab (Af e1)]∧br b (Q [Ac [Ae (decide ((Am e1.length)>0)),Af e1]]) (Q [Ac [Ae false,Af e1]])):=by kernel_rfl
theorem UX (n:Int):wpF CC Gv (fun _=>⟨[.own 3 15 1,.slot 0 (.int .u64 0)],[],I0,M0⟩) Tryz.f129 [.c (.int .u64 n)] Q=(
 I0 [] [Af [],Ad .u64 n]∧∀(es:List (List D)) (n:Int),I0 [] [Af es,Ad .u64 n]→br (toB (Ae (decide (n>0)))) ((1000000000:Int)≠(0:Int)∧(room (es.length+1)∧lens 1 [[Ad .u32 (Al .u32 (Aq n (1000000000:Int)))]])∧(1000000000:Int)≠(0:Int)∧I0 [] [Af (es++[[Ad .u32 (Al .u32 (Aq n (1000000000:Int)))]]),Ad .u64 (Al .u64 (Ar n (1000000000:Int)))]∧M0 [Af (es++[[Ad .u32 (Al .u32 (Aq n (1000000000:Int)))]]),Ad .u64 (Al .u64 (Ar n (1000000000:Int)))]<M0 [Af es,Ad .u64 n]) (Q [Ab (Af es)])):=by kernel_rfl
theorem Z3 (n:Int):wpF CC Gv an0 Tryz.f68 [.c (.int .i64 n)] Q=(
 br (toB (Ae (decide (n<0)))) (∃es,Gv 129 [Ab (Ad .u64 (Al .u64 (0-Al .u64 n)))] [Ab (Af es)]∧∃b e1,Gv 128 [Ab (Ae true),Ab (Af es)] [Ac [Ae b,Af e1]]∧Q [Ac [Ae b,Af e1]]) (∃es,Gv 129 [Ab (Ad .u64 (Al .u64 n))] [Ab (Af es)]∧∃b e1,Gv 128 [Ab (Ae false),Ab (Af es)] [Ac [Ae b,Af e1]]∧Q [Ac [Ae b,Af e1]])):=by kernel_rfl
theorem UY (es:List (List D)):wpF CC Gv (fun _=>⟨[.slot 3 (.int .u64 0),.slot 4 (.int .i64 0)],[],I0,M0⟩) Tryz.f275 [.c (.sl es)] Q=(
 I0 [] [Ad .u64 0,Ad .i64 (Al .i64 ((Am es.length)-1))]∧∀(n n1:Int),I0 [] [Ad .u64 n,Ad .i64 n1]→br (toB (Ae (decide (n1≥0)))) ((0≤n1∧n1<(Am es.length)∧Av (nth [] es (An n1))=1)∧∃n2,cut (nth [] es (An n1)) 0 1 [Ad .u32 n2]∧I0 [] [Ad .u64 (Al .u64 (Al .u64 (n*1000000000)+Al .u64 n2)),Ad .i64 (Al .i64 (n1-1))]∧M0 [Ad .u64 (Al .u64 (Al .u64 (n*1000000000)+Al .u64 n2)),Ad .i64 (Al .i64 (n1-1))]<M0 [Ad .u64 n,Ad .i64 n1]) (Q [Ab (Ad .u64 n)])):=by kernel_rfl
theorem MK (p:Bool) (es:List (List D)):wpF CC Gv an0 Tryz.f173 [.ag [.bool p,.sl es]] Q=(
 br (toB (Ae ((Am es.length)==0))) (Q [Ab (Ad .i64 0)]) (br p (Q [Ab (Ad .i64 (-1))]) (Q [Ab (Ad .i64 1)]))):=by kernel_rfl
theorem Wz (es fs:List (List D)):wpF CC Gv (fun _=>⟨[.slot 5 (.int .i64 0)],[],I0,M0⟩) Tryz.f127 [.c (.sl es),.c (.sl fs)] Q=(
 br (toB (Ae ((Am es.length) !=(Am fs.length)))) (br (toB (Ae (decide ((Am es.length)<(Am fs.length))))) (Q [Ab (Ad .i64 (-1))]) (Q [Ab (Ad .i64 1)])) (I0 [] [Ad .i64 (Al .i64 ((Am es.length)-1))]∧∀(n:Int),I0 [] [Ad .i64 n]→br (toB (Ae (decide (n≥0)))) ((0≤n∧n<(Am es.length)∧Av (nth [] es (An n))=1)∧∃n1,cut (nth [] es (An n)) 0 1 [Ad .u32 n1]∧(0≤n∧n<(Am fs.length)∧Av (nth [] fs (An n))=1)∧∃n2,cut (nth [] fs (An n)) 0 1 [Ad .u32 n2]∧br (toB (Ae (decide (n1<n2)))) (Q [Ab (Ad .i64 (-1))]) ((0≤n∧n<(Am es.length)∧Av (nth [] es (An n))=1)∧∃n3,cut (nth [] es (An n)) 0 1 [Ad .u32 n3]∧(0≤n∧n<(Am fs.length)∧Av (nth [] fs (An n))=1)∧∃n4,cut (nth [] fs (An n)) 0 1 [Ad .u32 n4]∧br (toB (Ae (decide (n3>n4)))) (Q [Ab (Ad .i64 1)]) (I0 [] [Ad .i64 (Al .i64 (n-1))]∧M0 [Ad .i64 (Al .i64 (n-1))]<M0 [Ad .i64 n]))) (Q [Ab (Ad .i64 0)]))):=by kernel_rfl
theorem Py (p q:Bool) (es fs:List (List D)):wpF CC Gv an0 Tryz.f263 [.ag [.bool p,.sl es],.ag [.bool q,.sl fs]] Q=(
 br (toB (Ae !p==q)) (br p (Q [Ab (Ad .i64 (-1))]) (Q [Ab (Ad .i64 1)])) (br p (∃n,Gv 127 [Ab (Af fs),Ab (Af es)] [Ab (Ad .i64 n)]∧Q [Ab (Ad .i64 n)]) (∃n,Gv 127 [Ab (Af es),Ab (Af fs)] [Ab (Ad .i64 n)]∧Q [Ab (Ad .i64 n)]))):=by kernel_rfl
end
def VV (Gv:Nat→List A→List A→Prop) (I0:List D→List D→Prop) (M0:List D→Nat) (Q:List A→Prop) (es fs:List (List D)):Prop:=((0≤Al .i64 ((Am es.length)+1)∧Al .i64 ((Am es.length)+1)≤Al .i64 ((Am es.length)+1)∧room (An (Al .i64 ((Am es.length)+1))))∧I0 [] [Af (Au (An (Al .i64 ((Am es.length)+1))) [Ad .u32 0]),Ad .u32 0,Ad .i64 0]∧∀(e1:List (List D)) (n n1:Int),I0 [] [Af e1,Ad .u32 n,Ad .i64 n1]→br (toB (Ae (decide (n1<(Am es.length))))) ((0≤n1∧n1<(Am es.length)∧Av (nth [] es (An n1))=1)∧∃n2,cut (nth [] es (An n1)) 0 1 [Ad .u32 n2]∧br (toB (Ae (decide (n1<(Am fs.length))))) ((0≤n1∧n1<(Am fs.length)∧Av (nth [] fs (An n1))=1)∧∃n3,cut (nth [] fs (An n1)) 0 1 [Ad .u32 n3]∧(1000000000:Int)≠(0:Int)∧(0≤n1∧n1<(Am e1.length))∧0<1∧(1000000000:Int)≠(0:Int)∧I0 [] [Af (upd e1 (An n1) (upd (nth [] e1 (An n1)) 0 (Ad .u32 (Aq (Al .u32 (Al .u32 (n+n2)+n3)) (1000000000:Int))))),Ad .u32 (Al .u32 (Ar (Al .u32 (Al .u32 (n+n2)+n3)) (1000000000:Int))),Ad .i64 (Al .i64 (n1+1))]∧M0 [Af (upd e1 (An n1) (upd (nth [] e1 (An n1)) 0 (Ad .u32 (Aq (Al .u32 (Al .u32 (n+n2)+n3)) (1000000000:Int))))),Ad .u32 (Al .u32 (Ar (Al .u32 (Al .u32 (n+n2)+n3)) (1000000000:Int))),Ad .i64 (Al .i64 (n1+1))]<M0 [Af e1,Ad .u32 n,Ad .i64 n1]) ((1000000000:Int)≠(0:Int)∧(0≤n1∧n1<(Am e1.length))∧0<1∧(1000000000:Int)≠(0:Int)∧I0 [] [Af (upd e1 (An n1) (upd (nth [] e1 (An n1)) 0 (Ad .u32 (Aq (Al .u32 (n+n2)) (1000000000:Int))))),Ad .u32 (Al .u32 (Ar (Al .u32 (n+n2)) (1000000000:Int))),Ad .i64 (Al .i64 (n1+1))]∧M0 [Af (upd e1 (An n1) (upd (nth [] e1 (An n1)) 0 (Ad .u32 (Aq (Al .u32 (n+n2)) (1000000000:Int))))),Ad .u32 (Al .u32 (Ar (Al .u32 (n+n2)) (1000000000:Int))),Ad .i64 (Al .i64 (n1+1))]<M0 [Af e1,Ad .u32 n,Ad .i64 n1])) ((0≤(Am es.length)∧(Am es.length)<(Am e1.length))∧0<1∧∃e2,Gv 224 [Ab (Af (upd e1 (An (Am es.length)) (upd (nth [] e1 (An (Am es.length))) 0 (Ad .u32 n))))] [Ab (Af e2)]∧Q [Ab (Af e2)]))
section
variable (Gv:Nat→List A→List A→Prop) (Q:List A→Prop) (I0 I1 I2 I3:List D→List D→Prop) (M0 M1 M2 M3:List D→Nat)
theorem VW (es fs:List (List D)):wpF CC Gv (fun _=>⟨[.own 5 55 1,.slot 6 (.int .u32 0),.slot 7 (.int .i64 0)],[],I0,M0⟩) Tryz.f368 [.c (.sl es),.c (.sl fs)] Q=(
 br (toB (Ae (decide ((Am es.length)<(Am fs.length))))) (VV Gv I0 M0 Q fs es) (VV Gv I0 M0 Q es fs)):=by kernel_rfl
theorem UZ (es fs:List (List D)):wpF CC Gv (fun _=>⟨[.own 5 45 1,.slot 6 (.int .u32 0),.slot 7 (.int .i64 0)],[],I0,M0⟩) Tryz.f338 [.c (.sl es),.c (.sl fs)] Q=(
 (0≤(Am es.length)∧(Am es.length)≤(Am es.length)∧room (An (Am es.length)))∧I0 [] [Af (Au (An (Am es.length)) [Ad .u32 0]),Ad .u32 0,Ad .i64 0]∧∀(e1:List (List D)) (n n1:Int),I0 [] [Af e1,Ad .u32 n,Ad .i64 n1]→br (toB (Ae (decide (n1<(Am es.length))))) ((0≤n1∧n1<(Am es.length)∧Av (nth [] es (An n1))=1)∧∃n2,cut (nth [] es (An n1)) 0 1 [Ad .u32 n2]∧br (toB (Ae (decide (n1<(Am fs.length))))) ((0≤n1∧n1<(Am fs.length)∧Av (nth [] fs (An n1))=1)∧∃n3,cut (nth [] fs (An n1)) 0 1 [Ad .u32 n3]∧br (toB (Ae (decide (Al .u32 (Al .u32 (Al .u32 (n2+1000000000)-n)-n3)≥1000000000)))) ((0≤n1∧n1<(Am e1.length))∧0<1∧I0 [] [Af (upd e1 (An n1) (upd (nth [] e1 (An n1)) 0 (Ad .u32 (Al .u32 (Al .u32 (Al .u32 (Al .u32 (n2+1000000000)-n)-n3)-1000000000))))),Ad .u32 0,Ad .i64 (Al .i64 (n1+1))]∧M0 [Af (upd e1 (An n1) (upd (nth [] e1 (An n1)) 0 (Ad .u32 (Al .u32 (Al .u32 (Al .u32 (Al .u32 (n2+1000000000)-n)-n3)-1000000000))))),Ad .u32 0,Ad .i64 (Al .i64 (n1+1))]<M0 [Af e1,Ad .u32 n,Ad .i64 n1]) ((0≤n1∧n1<(Am e1.length))∧0<1∧I0 [] [Af (upd e1 (An n1) (upd (nth [] e1 (An n1)) 0 (Ad .u32 (Al .u32 (Al .u32 (Al .u32 (n2+1000000000)-n)-n3))))),Ad .u32 1,Ad .i64 (Al .i64 (n1+1))]∧M0 [Af (upd e1 (An n1) (upd (nth [] e1 (An n1)) 0 (Ad .u32 (Al .u32 (Al .u32 (Al .u32 (n2+1000000000)-n)-n3))))),Ad .u32 1,Ad .i64 (Al .i64 (n1+1))]<M0 [Af e1,Ad .u32 n,Ad .i64 n1])) (br (toB (Ae (decide (Al .u32 (Al .u32 (n2+1000000000)-n)≥1000000000)))) ((0≤n1∧n1<(Am e1.length))∧0<1∧I0 [] [Af (upd e1 (An n1) (upd (nth [] e1 (An n1)) 0 (Ad .u32 (Al .u32 (Al .u32 (Al .u32 (n2+1000000000)-n)-1000000000))))),Ad .u32 0,Ad .i64 (Al .i64 (n1+1))]∧M0 [Af (upd e1 (An n1) (upd (nth [] e1 (An n1)) 0 (Ad .u32 (Al .u32 (Al .u32 (Al .u32 (n2+1000000000)-n)-1000000000))))),Ad .u32 0,Ad .i64 (Al .i64 (n1+1))]<M0 [Af e1,Ad .u32 n,Ad .i64 n1]) ((0≤n1∧n1<(Am e1.length))∧0<1∧I0 [] [Af (upd e1 (An n1) (upd (nth [] e1 (An n1)) 0 (Ad .u32 (Al .u32 (Al .u32 (n2+1000000000)-n))))),Ad .u32 1,Ad .i64 (Al .i64 (n1+1))]∧M0 [Af (upd e1 (An n1) (upd (nth [] e1 (An n1)) 0 (Ad .u32 (Al .u32 (Al .u32 (n2+1000000000)-n))))),Ad .u32 1,Ad .i64 (Al .i64 (n1+1))]<M0 [Af e1,Ad .u32 n,Ad .i64 n1]))) (∃es,Gv 224 [Ab (Af e1)] [Ab (Af es)]∧Q [Ab (Af es)])):=by kernel_rfl
theorem Ta (es fs:List (List D)):wpF CC Gv (Vn ⟨[.own 5 68 1,.slot 6 (.int .i64 0)],[],I0,M0⟩ ⟨[.own 5 68 1,.slot 7 (.int .u64 0),.slot 8 (.int .i64 0)],[.slot 6 (.int .i64 0),.own 5 68 1],I1,M1⟩) Tryz.f271 [.c (.sl es),.c (.sl fs)] Q=(
 (0≤Al .i64 ((Am es.length)+(Am fs.length))∧Al .i64 ((Am es.length)+(Am fs.length))≤Al .i64 ((Am es.length)+(Am fs.length))∧room (An (Al .i64 ((Am es.length)+(Am fs.length)))))∧I0 [] [Af (Au (An (Al .i64 ((Am es.length)+(Am fs.length)))) [Ad .u32 0]),Ad .i64 0]∧∀(e1:List (List D)) (n:Int),I0 [] [Af e1,Ad .i64 n]→br (toB (Ae (decide (n<(Am es.length))))) (I1 [Ad .i64 n,Af e1] [Af e1,Ad .u64 0,Ad .i64 0]∧∀(e2:List (List D)) (n1 n2:Int),I1 [Ad .i64 n,Af e1] [Af e2,Ad .u64 n1,Ad .i64 n2]→br (toB (Ae (decide (n2<(Am fs.length))))) ((0≤Al .i64 (n+n2)∧Al .i64 (n+n2)<(Am e2.length))∧∃n3,cut (nth [] e2 (An (Al .i64 (n+n2)))) 0 1 [Ad .u32 n3]∧(0≤n∧n<(Am es.length)∧Av (nth [] es (An n))=1)∧∃n4,cut (nth [] es (An n)) 0 1 [Ad .u32 n4]∧(0≤n2∧n2<(Am fs.length)∧Av (nth [] fs (An n2))=1)∧∃n5,cut (nth [] fs (An n2)) 0 1 [Ad .u32 n5]∧(1000000000:Int)≠(0:Int)∧(0≤Al .i64 (n+n2)∧Al .i64 (n+n2)<(Am e2.length))∧0<1∧(1000000000:Int)≠(0:Int)∧I1 [Ad .i64 n,Af e1] [Af (upd e2 (An (Al .i64 (n+n2))) (upd (nth [] e2 (An (Al .i64 (n+n2)))) 0 (Ad .u32 (Al .u32 (Aq (Al .u64 (Al .u64 (n1+Al .u64 n3)+Al .u64 (Al .u64 n4*Al .u64 n5))) (1000000000:Int)))))),Ad .u64 (Al .u64 (Ar (Al .u64 (Al .u64 (n1+Al .u64 n3)+Al .u64 (Al .u64 n4*Al .u64 n5))) (1000000000:Int))),Ad .i64 (Al .i64 (n2+1))]∧M1 [Af (upd e2 (An (Al .i64 (n+n2))) (upd (nth [] e2 (An (Al .i64 (n+n2)))) 0 (Ad .u32 (Al .u32 (Aq (Al .u64 (Al .u64 (n1+Al .u64 n3)+Al .u64 (Al .u64 n4*Al .u64 n5))) (1000000000:Int)))))),Ad .u64 (Al .u64 (Ar (Al .u64 (Al .u64 (n1+Al .u64 n3)+Al .u64 (Al .u64 n4*Al .u64 n5))) (1000000000:Int))),Ad .i64 (Al .i64 (n2+1))]<M1 [Af e2,Ad .u64 n1,Ad .i64 n2]) ((0≤Al .i64 (n+(Am fs.length))∧Al .i64 (n+(Am fs.length))<(Am e2.length))∧0<1∧I0 [] [Af (upd e2 (An (Al .i64 (n+(Am fs.length)))) (upd (nth [] e2 (An (Al .i64 (n+(Am fs.length))))) 0 (Ad .u32 (Al .u32 n1)))),Ad .i64 (Al .i64 (n+1))]∧M0 [Af (upd e2 (An (Al .i64 (n+(Am fs.length)))) (upd (nth [] e2 (An (Al .i64 (n+(Am fs.length))))) 0 (Ad .u32 (Al .u32 n1)))),Ad .i64 (Al .i64 (n+1))]<M0 [Af e1,Ad .i64 n])) (∃es,Gv 224 [Ab (Af e1)] [Ab (Af es)]∧Q [Ab (Af es)])):=by kernel_rfl
theorem Sw (es:List (List D)) (n:Int):wpF CC Gv an0 Tryz.f337 [.c (.sl es),.c (.int .u32 n)] Q=(
 ∃e1,Gv 224 [Ab (Af [[Ad .u32 n]])] [Ab (Af e1)]∧∃e2,Gv 271 [Ab (Af es),Ab (Af e1)] [Ab (Af e2)]∧Q [Ab (Af e2)]):=by kernel_rfl
theorem Pz (p:Bool) (es:List (List D)):wpF CC Gv an0 Tryz.f239 [.ag [.bool p,.sl es]] Q=(
 ∃b e1,Gv 128 [Ab (Ae !p),Ab (Af es)] [Ac [Ae b,Af e1]]∧Q [Ac [Ae b,Af e1]]):=by kernel_rfl
theorem P0 (p q:Bool) (es fs:List (List D)):wpF CC Gv an0 Tryz.f314 [.ag [.bool p,.sl es],.ag [.bool q,.sl fs]] Q=(
 br (toB (Ae (p==q))) (∃e1,Gv 368 [Ab (Af es),Ab (Af fs)] [Ab (Af e1)]∧∃b es,Gv 128 [Ab (Ae p),Ab (Af e1)] [Ac [Ae b,Af es]]∧Q [Ac [Ae b,Af es]]) (∃n,Gv 127 [Ab (Af es),Ab (Af fs)] [Ab (Ad .i64 n)]∧br (toB (Ae (decide (n≥0)))) (∃e1,Gv 338 [Ab (Af es),Ab (Af fs)] [Ab (Af e1)]∧∃b es,Gv 128 [Ab (Ae p),Ab (Af e1)] [Ac [Ae b,Af es]]∧Q [Ac [Ae b,Af es]]) (∃e1,Gv 338 [Ab (Af fs),Ab (Af es)] [Ab (Af e1)]∧∃b es,Gv 128 [Ab (Ae q),Ab (Af e1)] [Ac [Ae b,Af es]]∧Q [Ac [Ae b,Af es]]))):=by kernel_rfl
theorem P2 (p q:Bool) (es fs:List (List D)):wpF CC Gv an0 Tryz.f313 [.ag [.bool p,.sl es],.ag [.bool q,.sl fs]] Q=(
 ∃b e1,Gv 239 [Ac [Ae q,Af fs]] [Ac [Ae b,Af e1]]∧∃b1 e2,Gv 314 [Ac [Ae p,Af es],Ac [Ae b,Af e1]] [Ac [Ae b1,Af e2]]∧Q [Ac [Ae b1,Af e2]]):=by kernel_rfl
theorem P3 (p q:Bool) (es fs:List (List D)):wpF CC Gv an0 Tryz.f193 [.ag [.bool p,.sl es],.ag [.bool q,.sl fs]] Q=(
 ∃e1,Gv 271 [Ab (Af es),Ab (Af fs)] [Ab (Af e1)]∧∃b es,Gv 128 [Ab (Ae !p==q),Ab (Af e1)] [Ac [Ae b,Af es]]∧Q [Ac [Ae b,Af es]]):=by kernel_rfl
theorem P4 (p q:Bool) (es fs:List (List D)):wpF CC Gv (Vn ⟨[.slot 5 (.slice none 0 0),.slot 6 (.slice none 0 0)],[],I0,M0⟩ ⟨[.slot 9 (.int .u64 0),.slot 10 (.int .u64 0)],[],I1,M1⟩) Tryz.f201 [.ag [.bool p,.sl es],.ag [.bool q,.sl fs]] Q=(
 I0 [] [Af es,Af fs]∧∀(es e1:List (List D)),I0 [] [Af es,Af e1]→br (toB (Ae (decide ((Am e1.length)>0)))) (br (toB (Ae (decide ((Am es.length)>2)))) (∃e2 e3,Gv 274 [Ab (Af es),Ab (Af e1)] [Ab (Af e2),Ab (Af e3)]∧I0 [] [Af e1,Af e3]∧M0 [Af e1,Af e3]<M0 [Af es,Af e1]) (br (toB (Ae (decide ((Am e1.length)>2)))) (∃e2 e3,Gv 274 [Ab (Af es),Ab (Af e1)] [Ab (Af e2),Ab (Af e3)]∧I0 [] [Af e1,Af e3]∧M0 [Af e1,Af e3]<M0 [Af es,Af e1]) (br (toB (Ae ((Am e1.length)==0))) (∃b e2,Gv 128 [Ab (Ae false),Ab (Af es)] [Ac [Ae b,Af e2]]∧Q [Ac [Ae b,Af e2]]) (∃n,Gv 275 [Ab (Af es)] [Ab (Ad .u64 n)]∧∃n1,Gv 275 [Ab (Af e1)] [Ab (Ad .u64 n1)]∧I1 [] [Ad .u64 n,Ad .u64 n1]∧∀(n n2:Int),I1 [] [Ad .u64 n,Ad .u64 n2]→br (toB (Ae (decide (n2>0)))) (n2≠0∧I1 [] [Ad .u64 n2,Ad .u64 (Aq n n2)]∧M1 [Ad .u64 n2,Ad .u64 (Aq n n2)]<M1 [Ad .u64 n,Ad .u64 n2]) (∃es,Gv 129 [Ab (Ad .u64 n)] [Ab (Af es)]∧∃b e2,Gv 128 [Ab (Ae false),Ab (Af es)] [Ac [Ae b,Af e2]]∧Q [Ac [Ae b,Af e2]]))))) (br (toB (Ae ((Am e1.length)==0))) (∃b e2,Gv 128 [Ab (Ae false),Ab (Af es)] [Ac [Ae b,Af e2]]∧Q [Ac [Ae b,Af e2]]) (∃n,Gv 275 [Ab (Af es)] [Ab (Ad .u64 n)]∧∃n1,Gv 275 [Ab (Af e1)] [Ab (Ad .u64 n1)]∧I1 [] [Ad .u64 n,Ad .u64 n1]∧∀(n n2:Int),I1 [] [Ad .u64 n,Ad .u64 n2]→br (toB (Ae (decide (n2>0)))) (n2≠0∧I1 [] [Ad .u64 n2,Ad .u64 (Aq n n2)]∧M1 [Ad .u64 n2,Ad .u64 (Aq n n2)]<M1 [Ad .u64 n,Ad .u64 n2]) (∃es,Gv 129 [Ab (Ad .u64 n)] [Ab (Af es)]∧∃b e2,Gv 128 [Ab (Ae false),Ab (Af es)] [Ac [Ae b,Af e2]]∧Q [Ac [Ae b,Af e2]])))):=by kernel_rfl
theorem Gp (p q:Bool) (es fs:List (List D)):wpF CC Gv an0 Tryz.f240 [.ag [.bool p,.sl es],.ag [.bool q,.sl fs]] Q=(
 br (toB (Ae ((Am fs.length)==0))) (Q [Ac [Ae false,Af []],Ac [Ae false,Af []],Ab (Ad .i64 6)]) (∃e1 e2,Gv 274 [Ab (Af es),Ab (Af fs)] [Ab (Af e1),Ab (Af e2)]∧∃b es,Gv 128 [Ab (Ae !p==q),Ab (Af e1)] [Ac [Ae b,Af es]]∧∃b1 e3,Gv 128 [Ab (Ae p),Ab (Af e2)] [Ac [Ae b1,Af e3]]∧br (toB (Ae (decide ((Am e2.length)>0)))) (br (toB (Ae !p==q)) (∃b2 e4,Gv 68 [Ab (Ad .i64 1)] [Ac [Ae b2,Af e4]]∧∃b3 e5,Gv 313 [Ac [Ae b,Af es],Ac [Ae b2,Af e4]] [Ac [Ae b3,Af e5]]∧∃b es,Gv 314 [Ac [Ae b1,Af e3],Ac [Ae q,Af fs]] [Ac [Ae b,Af es]]∧Q [Ac [Ae b3,Af e5],Ac [Ae b,Af es],Ab (Ad .i64 0)]) (Q [Ac [Ae b,Af es],Ac [Ae b1,Af e3],Ab (Ad .i64 0)])) (Q [Ac [Ae b,Af es],Ac [Ae b1,Af e3],Ab (Ad .i64 0)]))):=by kernel_rfl
end
end Eng
end

section
namespace Eng
open Go Go.Proofs
set_option maxRecDepth 100000
theorem Z4 {n:Nat} (h:0<n):lim n=n%1000000000::lim (n/1000000000):=by
 have e:n=val (n%1000000000::lim (n/1000000000)):=by simp only[val,qj];omega
 conv=>lhs;rw[e]
 refine jX (Ak (Nat.mod_lt _ (by omega)) (qc _)) (.inr ?_);rw[List.getLast?_cons];rcases zl (n/1000000000)with h1|h1
 ·rw[h1];have:n/1000000000=0:=jY.1 h1;simp;omega
 ·cases hh:(lim (n/1000000000)).getLast? with
  |none=>have:n/1000000000=0:=jY.1 (List.getLast?_eq_none_iff.1 hh);simp;omega
  |some x=>rw[hh]at h1;simpa using h1
theorem qw (z:Int):qH z= .ag [.bool (decide (z<0)),.sl (raw (lim z.natAbs))]:=rfl
theorem zT {l:List Nat} (hl:Limbs l) (hr:l.length≤1073741824):qe CC 224 [.c (.sl (raw l))] [.c (.sl (raw (lim (val l))))]:=by
 refine qf (anns:=fun _=>⟨[.slot 0 (.slice none 0 0)],[],fun _ ds=>∃k,k≤l.length∧ds=[.sl (raw (l.take k))]∧val (l.take k)=val l,fun ds=>(toL (nth .undef ds 0)).length⟩) mixedT Tryz.func224 ?_;rw[MJ];simp only[Ap];refine⟨⟨l.length,A7 _,by rw[Aw],by rw[Aw]⟩,?_⟩;rintro es ⟨k,hk,he,hv⟩;simp only[A6,Ai,and_true]at he;subst he;have a0:(raw (l.take k)).length=k:=by rw[qh,Ay];omega
 have a1:(k=0∨∃h:k-1<l.length,l[k-1]≠0)→[Ab (Af (raw (l.take k)))]=[Ab (Af (raw (lim (val l))))]:=by
  intro h;rw[←hv,jX (hl.take k)];rcases h with rfl|⟨h,hne⟩
  ·exact .inl (by simp)
  ·refine .inr ?_;rw[List.getLast?_take];split
   ·simp
   ·rw[List.getElem?_eq_getElem h]
    simpa using hne
 refine brd (fun h=>?_) (fun h=>?_)
 ·rw[a0]at h ⊢;have hk0:0<k:=by omega
  have hw:Al .i64 ((k:Int)-1)=((k-1:Nat):Int):=by rw[xL (by omega) (by omega)];omega
  rw[hw];have a2:k-1<(l.take k).length:=by rw[Ay];omega
  have hg:(l.take k)[k-1]=l[k-1]:=List.getElem_take ..;refine⟨⟨by omega,by omega,qt a2⟩,_,qu a2,brb (fun hz=>?_) (fun hz=>?_)⟩
  ·have hz:l[k-1]=0:=by rw[hg]at hz;simpa using hz
   refine⟨⟨by omega,by omega,by omega,zm _⟩,⟨k-1,by omega,?_,?_⟩,?_⟩
   ·simp only[Ao,zR,A0,List.take_take];congr 4;omega
   ·have:l.take k=l.take (k-1)++[l[k-1]]:=by have:=List.take_succ_eq_append_getElem (l:=l) (i:=k-1) (by omega);rw[show k-1+1=k by omega]at this;exact this
    rw[←hv,this,hz,qL];simp[val]
   ·simp only[Ao,nth,toL,A0,Ay,a0];omega
  ·exact a1 (.inr ⟨by omega,by rw[hg]at hz;simpa using hz⟩)
 ·rw[a0]at h;exact a1 (.inl (by omega))
theorem Gq {l:List Nat} (b:Bool) (hl:Limbs l) (hr:l.length≤1073741824):qe CC 128 [.c (.bool b),.c (.sl (raw l))] [.ag [.bool (b&&decide (0<val l)),.sl (raw (lim (val l)))]]:=by
 refine qf (anns:=an0) mixedT Tryz.func128 ?_;rw[Gn];refine⟨_,zT hl hr,?_⟩;have hd:decide ((Am (Av (raw (lim (val l)))))>(0:Int))=decide (0<val l):=by rw[decide_eq_decide,qh,←qz (n:=val l)];simp only[Ap];omega
 rw[hd];refine jC (fun hb=>?_) (fun hb=>?_)
 ·subst hb;rw[Bool.true_and]
 ·subst hb;rw[Bool.false_and]
theorem qU {l:List Nat} (b:Bool) (hl:Limbs l) (hr:l.length≤1073741824) {z:Int} (hz:z=if b then-(val l:Int)else(val l:Int)):
 qe CC 128 [.c (.bool b),.c (.sl (raw l))] [qH z]:=by
 have h:=Gq b hl hr;have e:qH z= .ag [.bool (b&&decide (0<val l)),.sl (raw (lim (val l)))]:=by
  unfold qH cI;cases b with
  |false=>simp only[Bool.false_eq_true,if_false]at hz;subst hz;rw[As,Bool.false_and,decide_eq_false (by omega)]
  |true=>simp only[if_true]at hz;subst hz;rw[At,As,Bool.true_and];congr 3;rw[decide_eq_decide];omega
 rw[e];exact h
theorem k6 {u:Nat} (hu:u<18446744073709551616):qe CC 129 [.c (.int .u64 (u:Int))] [.c (.sl (raw (lim u)))]:=by
 have h3:(lim u).length≤3:=qo (AB hu (by decide));refine qf (anns:=fun _=>⟨[.own 3 15 1,.slot 0 (.int .u64 0)],[],fun _ ds=>∃(h:List Nat) (v:Nat),ds=[.sl (raw h),.int .u64 (v:Int)]∧v≤u∧lim u=h++lim v,fun ds=>(toI (nth .undef ds 1)).toNat⟩) mixedT Tryz.func129 ?_;rw[UX];refine⟨⟨[],u,rfl,A7 _,rfl⟩,?_⟩;rintro es n ⟨h,v,he,hv,hl⟩;simp only[A6,Ai,Ah,true_and,and_true]at he;obtain⟨rfl,rfl⟩:=he;have hlen:h.length≤3:=by have:=congrArg Av hl;rw[List.length_append]at this;omega
 refine brd (fun h0=>?_) (fun h0=>?_)
 ·have a0:0<v:=by omega
  rw[Ge,Gf,zK (by omega) (by omega),x6 (by omega) (by omega)];refine⟨by omega,⟨by rw[qh];unfold room;omega,zm [v%1000000000]⟩,by omega,⟨h++[v%1000000000],v/1000000000,?_,by omega,?_⟩,?_⟩
  ·rw[qT];rfl
  ·rw[hl,Z4 a0,List.append_assoc];rfl
  ·simp only[nth,toI,Ao];omega
 ·have a0:v=0:=by omega
  subst a0;rw[hl,Zu,A3]
theorem xn {n:Int} (h1: -9223372036854775808≤n) (h2:n<9223372036854775808):qe CC 68 [.c (.int .i64 n)] [qH n]:=by
 refine qf (anns:=an0) mixedT Tryz.func68 ?_;rw[Z3];have hl:∀u:Nat,u<18446744073709551616→(lim u).length≤1073741824:=fun u hu=>by have:(lim u).length≤3:=qo (AB hu (by decide));omega
 refine brd (fun h=>?_) (fun h=>?_)
 ·obtain⟨u,rfl⟩:∃u:Nat,n= -(u:Int):=⟨n.natAbs,by omega⟩;have e:Al .u64 (0-Al .u64 (-(u:Int)))=(u:Int):=by simp[Al,IntKind.bits,IntKind.signed];omega
  rw[e];exact⟨_,k6 (by omega),_,_,qU true (qc u) (hl u (by omega)) (z:= -(u:Int)) (by simp[qj]),rfl⟩
 ·obtain⟨u,rfl⟩:∃u:Nat,n=(u:Int):=⟨n.natAbs,by omega⟩;rw[x6 (by omega) (by omega)];exact⟨_,k6 (by omega),_,_,qU false (qc u) (hl u (by omega)) (z:=(u:Int)) (by simp[qj]),rfl⟩
theorem vc {l:List Nat} (hl:Limbs l) (h2:l.length≤2):qe CC 275 [.c (.sl (raw l))] [.c (.int .u64 (val l:Int))]:=by
 refine qf (anns:=fun _=>⟨[.slot 3 (.int .u64 0),.slot 4 (.int .i64 0)],[],fun _ ds=>∃k:Nat,k≤l.length∧ds=[.int .u64 (val (l.drop k):Int),.int .i64 ((k:Int)-1)],fun ds=>(toI (nth .undef ds 1)+1).toNat⟩) mixedT Tryz.func275 ?_;rw[UY];simp only[Ap,qh];refine⟨⟨l.length,A7 _,by rw[Az,xL (by omega) (by omega)];rfl⟩,?_⟩;rintro n m ⟨k,hk,he⟩;simp only[A6,Ah,true_and,and_true]at he;obtain⟨rfl,rfl⟩:=he;refine brd (fun h=>?_) (fun h=>?_)
 ·have a0:k-1<l.length:=by omega
  have ht:((k:Int)-1).toNat=k-1:=by omega
  rw[ht];have hd:val (l.drop (k-1))=l[k-1]+1000000000*val (l.drop k):=by rw[Ax a0,show k-1+1=k by omega];rfl
  have hlt:=qG (hl.drop k);have hdl:(l.drop k).length≤1:=by rw[List.length_drop];omega
  have hlt2:val (l.drop k)<1000000000:=by have:1000000000^(l.drop k).length≤1000000000^1:=A9 (by omega) hdl;omega
  have hx:=hl.get a0;have hw:Al .u64 (Al .u64 ((val (l.drop k):Int)*1000000000)+Al .u64 (l[k-1]:Int))=(val (l.drop (k-1)):Int):=by rw[x6 (n:=(val (l.drop k):Int)*1000000000) (by omega) (by omega),x6 (n:=(l[k-1]:Int)) (by omega) (by omega),x6 (by omega) (by omega)];omega
  have a1:Al .i64 ((k:Int)-1-1)=((k-1:Nat):Int)-1:=by rw[xL (by omega) (by omega)];omega
  refine⟨⟨by omega,by omega,qt a0⟩,_,qu a0,⟨k-1,by omega,by rw[hw,a1]⟩,?_⟩;rw[a1];simp only[nth,toI];omega
 ·have a0:k=0:=by omega
  subst a0;rw[A0]
theorem vd (z:Int):qe CC 173 [qH z] [.c (.int .i64 (sgn z))]:=by
 refine qf (anns:=an0) mixedT Tryz.func173 ?_;rw[qw,MK];simp only[Ap,qh];unfold sgn;refine brb (fun h=>?_) (fun h=>?_)
 ·have h0:(lim z.natAbs).length=0:=by simpa using h
  have:z.natAbs=0:=jY.1 (List.eq_nil_of_length_eq_zero h0);rw[if_neg (by omega),if_neg (by omega)]
 ·have h0:(lim z.natAbs).length≠0:=by simpa using h
  have:0<z.natAbs:=qz.1 (by omega);refine jC (fun h=>?_) (fun h=>?_)
  ·rw[if_pos (by simpa using h)]
  ·have:¬z<0:=by simpa using h
   rw[if_neg this,if_pos (by omega)]
theorem jj {x y:Nat} (hra:(lim x).length≤1073741824) (hrb:(lim y).length≤1073741824):qe CC 127 [.c (.sl (raw (lim x))),.c (.sl (raw (lim y)))] [.c (.int .i64 (vg x y))]:=by
 generalize hA:lim x=A at *;generalize hB:lim y=B at *;have lA:Limbs A:=hA▸qc _;have lB:Limbs B:=hB▸qc _;have vA:val A=x:=hA▸qj _;have vB:val B=y:=hB▸qj _;have zA:A=[]∨A.getLast?≠some 0:=hA▸zl _;have zB:B=[]∨B.getLast?≠some 0:=hB▸zl _;refine qf (anns:=fun _=>⟨[.slot 5 (.int .i64 0)],[],fun _ ds=>∃k:Nat,k≤A.length∧ds=[.int .i64 ((k:Int)-1)]∧A.drop k=B.drop k,fun ds=>(toI (nth .undef ds 0)+1).toNat⟩) mixedT Tryz.func127 ?_;rw[Wz];simp only[Ap,qh];refine brb (fun h=>?_) (fun h=>?_)
 ·have h:A.length≠B.length:=by intro e;rw[e]at h;simp at h
  refine brd (fun h1=>?_) (fun h1=>?_)
  ·have a2:B≠[]:=(by intro e;have h0:B.length=0:=(by rw[e];rfl);omega);have:=ya lA (zB.resolve_left a2) a2 (by omega);rw[vg,if_pos (by omega)]
  ·have a2:A≠[]:=(by intro e;have h0:A.length=0:=(by rw[e];rfl);omega);have:=ya lB (zA.resolve_left a2) a2 (by omega);rw[vg,if_neg (by omega),if_pos (by omega)]
 ·have h:A.length=B.length:=by
   have:(A.length:Int)=B.length:=by simpa using h
   omega
  refine⟨⟨A.length,A7 _,by rw[xL (by omega) (by omega)],by rw[Az,h,Az]⟩,?_⟩;rintro n ⟨k,hk,he,hd⟩;simp only[A6,Ah,true_and,and_true]at he;subst he;refine brd (fun h1=>?_) (fun h1=>?_)
  ·have a0:k-1<A.length:=by omega
   have a1:k-1<B.length:=by omega
   have ht:((k:Int)-1).toNat=k-1:=by omega
   have a3:A.drop (k-1+1)=B.drop (k-1+1):=by rw[show k-1+1=k by omega];exact hd
   rw[ht];refine⟨⟨by omega,by omega,qt a0⟩,_,qu a0,⟨by omega,by omega,qt a1⟩,_,qu a1,brd (fun h2=>?_) (fun h2=>?_)⟩
   ·have:=jT lA h a0 a3 (by omega);rw[vg,if_pos (by omega)]
   ·refine⟨⟨by omega,by omega,qt a0⟩,_,qu a0,⟨by omega,by omega,qt a1⟩,_,qu a1,brd (fun h3=>?_) (fun h3=>?_)⟩
    ·have:=jT lB h.symm a1 a3.symm (by omega);rw[vg,if_neg (by omega),if_pos (by omega)]
    ·have hw:Al .i64 ((k:Int)-1-1)=((k-1:Nat):Int)-1:=by rw[xL (by omega) (by omega)];omega
     rw[hw];refine⟨⟨k-1,by omega,rfl,?_⟩,?_⟩
     ·rw[Ax a0,Ax a1,a3];congr 1;omega
     ·simp only[nth,toI];omega
  ·have a0:k=0:=by omega
   subst a0;have:A=B:=by simpa using hd
   rw[vg,←vA,←vB,this,if_neg (by omega),if_neg (by omega)]
theorem W3 {x y:Int} (hx:Sm x) (hy:Sm y):qe CC 263 [qH x,qH y] [.c (.int .i64 (vH x y))]:=by
 refine qf (anns:=an0) mixedT Tryz.func263 ?_;have lx:=hx.len;have ly:=hy.len;rw[qw x,qw y,Py];have c1:=jj (x:=x.natAbs) (y:=y.natAbs) (by omega) (by omega);have c2:=jj (x:=y.natAbs) (y:=x.natAbs) (by omega) (by omega);refine brb (fun h=>?_) (fun h=>?_)
 ·refine jC (fun h1=>?_) (fun h1=>?_)
  ·have h1:x<0:=by simpa using h1
   have h2:¬y<0:=by intro h2;rw[decide_eq_true h1,decide_eq_true h2]at h;simp at h
   rw[vH,if_pos (by omega)]
  ·have h1:¬x<0:=by simpa using h1
   have h2:y<0:=by apply Aa;intro h2;rw[decide_eq_false h1,decide_eq_false h2]at h;simp at h
   rw[vH,if_neg (by omega),if_pos (by omega)]
 ·refine jC (fun h1=>?_) (fun h1=>?_)
  ·have h1:x<0:=by simpa using h1
   have h2:y<0:=by apply Aa;intro h2;rw[decide_eq_true h1,decide_eq_false h2]at h;simp at h
   refine⟨_,c2,?_⟩;have:vg y.natAbs x.natAbs=vH x y:=by
    unfold vg vH;by_cases h3:x<y
    ·rw[if_pos h3,if_pos (by omega)]
    ·rw[if_neg h3,if_neg (by omega)];by_cases h4:y<x
     ·rw[if_pos h4,if_pos (by omega)]
     ·rw[if_neg h4,if_neg (by omega)]
   rw[this]
  ·have h1:¬x<0:=by simpa using h1
   have h2:¬y<0:=by intro h2;rw[decide_eq_false h1,decide_eq_true h2]at h;simp at h
   refine⟨_,c1,?_⟩;have:vg x.natAbs y.natAbs=vH x y:=by
    unfold vg vH;by_cases h3:x<y
    ·rw[if_pos h3,if_pos (by omega)]
    ·rw[if_neg h3,if_neg (by omega)];by_cases h4:y<x
     ·rw[if_pos h4,if_pos (by omega)]
     ·rw[if_neg h4,if_neg (by omega)]
   rw[this]
theorem ML {o:List Nat} {k c:Nat} (ho:o.length=k):(o++[0]).set k c=o++[c]:=by
 rw[List.set_append_right _ _ (by omega),ho];simp
def qpI (a b:List Nat):List D→List D→Prop:=fun _ ds=>∃(k:Nat) (o:List Nat) (c:Nat),k≤a.length∧o.length=k∧ds=[.sl (raw (o++Au (a.length+1-k) 0)),.int .u32 (c:Int),.int .i64 (k:Int)]∧Limbs o∧c≤1∧val o+1000000000^k*c=val (a.take k)+val (b.take k)
def qpM (a:List Nat):List D→Nat:=fun ds=>a.length-(toI (nth .undef ds 2)).toNat
theorem X7 {a b:List Nat} (ha:Limbs a) (hb:Limbs b) (hra:a.length≤1073741823) (hab:b.length≤a.length):
 VV (qe CC) (qpI a b) (qpM a)
  (fun r=>r=[.c (.sl (raw (lim (val a+val b))))]) (raw a) (raw b):=by
 unfold VV qpI qpM;simp only[Ap,qh];have hn:Al .i64 ((a.length:Int)+1)=((a.length+1:Nat):Int):=by rw[xL (by omega) (by omega)];omega
 rw[hn,Ao];refine⟨⟨by omega,by omega,by unfold room;omega⟩,⟨0,[],0,by omega,rfl,by rw[xg];rfl,Aj,by omega,by simp[val]⟩,?_⟩;rintro es n m ⟨k,o,c,hk,ho,he,lo,hc,hv⟩;simp only[A6,Ah,Ai,true_and,and_true]at he;obtain⟨rfl,rfl,rfl⟩:=he;have a1:(o++Au (a.length+1-k) 0).length=a.length+1:=by simp[ho];omega
 refine brd (fun h1=>?_) (fun h1=>?_)
 ·have a0:k<a.length:=by omega
  have hxk:=ha.get a0;have hk1:Al .i64 ((k:Int)+1)=((k+1:Nat):Int):=by rw[xL (by omega) (by omega)];omega
  rw[Ao,hk1,qh,a1];have a3:∀(t:Nat),t≤1999999999→t=a[k]+c+b.getD k 0→
   (((0:Int)≤(k:Int)∧(k:Int)<((a.length+1:Nat):Int))∧0<1∧(1000000000:Int)≠0∧
     (∃(k':Nat) (o':List Nat) (c':Nat),k'≤a.length∧o'.length=k'∧[Af (upd (raw (o++Au (a.length+1-k) 0)) k (upd (nth [] (raw (o++Au (a.length+1-k) 0)) k) 0 (Ad .u32 (Aq (t:Int) 1000000000)))),Ad .u32 (Al .u32 (Ar (t:Int) 1000000000)),Ad .i64 ((k+1:Nat):Int)]=
        [.sl (raw (o'++Au (a.length+1-k') 0)),.int .u32 (c':Int),.int .i64 (k':Int)]∧Limbs o'∧c'≤1∧val o'+1000000000^k'*c'=val (a.take k')+val (b.take k'))∧
     a.length-(toI (nth .undef [Af (upd (raw (o++Au (a.length+1-k) 0)) k (upd (nth [] (raw (o++Au (a.length+1-k) 0)) k) 0 (Ad .u32 (Aq (t:Int) 1000000000)))),Ad .u32 (Al .u32 (Ar (t:Int) 1000000000)),Ad .i64 ((k+1:Nat):Int)] 2)).toNat<
      a.length-(toI (nth .undef [Af (raw (o++Au (a.length+1-k) 0)),Ad .u32 (c:Int),Ad .i64 (k:Int)] 2)).toNat):=by
   intro t ht hte;rw[Ge,Gf,zK (by omega) (by omega),x9 (by rw[a1];omega),jU ho (by omega)];refine⟨⟨by omega,by omega⟩,by omega,by omega,⟨k+1,o++[t%1000000000],t/1000000000,by omega,by simp[ho],by rw[show a.length+1-k-1=a.length+1-(k+1)by omega],lo.append (Ak (by omega) Aj),by omega,zj a0 ho hv (by omega)⟩,?_⟩;simp only[nth,toI];omega
  refine⟨⟨by omega,by omega,qt a0⟩,_,qu a0,brd (fun h2=>?_) (fun h2=>?_)⟩
  ·have a2:k<b.length:=by omega
   have hyk:=hb.get a2;have hgd:b.getD k 0=b[k]:=by simp[A2,a2]
   have hw:Al .u32 (Al .u32 ((c:Int)+(a[k]:Int))+(b[k]:Int))=((a[k]+c+b[k]:Nat):Int):=by rw[zK (n:=(c:Int)+(a[k]:Int)) (by omega) (by omega),zK (by omega) (by omega)];omega
   refine⟨⟨by omega,by omega,qt a2⟩,_,qu a2,by omega,?_⟩;rw[hw];exact a3 _ (by omega) (by omega)
  ·have hgd:b.getD k 0=0:=Q5 (by omega);have hw:Al .u32 ((c:Int)+(a[k]:Int))=((a[k]+c:Nat):Int):=by rw[zK (by omega) (by omega)];omega
   rw[hw];exact⟨by omega,a3 _ (by omega) (by omega)⟩
 ·have a0:k=a.length:=by omega
  subst a0;rw[Aw,A1 hab]at hv;have e1:a.length+1-a.length=1:=by omega
  rw[e1]at a1 ⊢;rw[Ao,qh,a1,x9 (by rw[a1];omega),List.replicate_one,ML ho];have hg:=zT (l:=o++[c]) (lo.append (Ak (by omega) Aj)) (by simp[ho];omega);rw[wU,ho,hv]at hg;exact⟨⟨by omega,by omega⟩,by omega,_,hg,rfl⟩
theorem MM {a b:List Nat} (ha:Limbs a) (hb:Limbs b) (hra:a.length≤1073741823) (hrb:b.length≤1073741823):qe CC 368 [.c (.sl (raw a)),.c (.sl (raw b))] [.c (.sl (raw (lim (val a+val b))))]:=by
 by_cases hab:a.length<b.length
 ·refine qf (anns:=fun _=>⟨[.own 5 55 1,.slot 6 (.int .u32 0),.slot 7 (.int .i64 0)],[],qpI b a,qpM b⟩) mixedT Tryz.func368 ?_;have h:=X7 hb ha hrb (by omega);rw[VW];simp only[Ap,qh];refine brd (fun _=>?_) (fun h0=>by omega);rw[Nat.add_comm (val b)]at h;exact h
 ·refine qf (anns:=fun _=>⟨[.own 5 55 1,.slot 6 (.int .u32 0),.slot 7 (.int .i64 0)],[],qpI a b,qpM a⟩) mixedT Tryz.func368 ?_;have h:=X7 ha hb hra (by omega);rw[VW];simp only[Ap,qh];exact brd (fun h0=>by omega) (fun _=>h)
end Eng
end

section
namespace Eng
open Go Go.Proofs
set_option maxRecDepth 100000
theorem ve {a b:List Nat} (ha:Limbs a) (hb:Limbs b) (hra:a.length≤1073741824) (hab:val b≤val a):qe CC 338 [.c (.sl (raw a)),.c (.sl (raw b))] [.c (.sl (raw (lim (val a-val b))))]:=by
 refine qf (anns:=fun _=>⟨[.own 5 45 1,.slot 6 (.int .u32 0),.slot 7 (.int .i64 0)],[],fun _ ds=>∃(k:Nat) (o:List Nat) (c:Nat),k≤a.length∧o.length=k∧ds=[.sl (raw (o++Au (a.length-k) 0)),.int .u32 (c:Int),.int .i64 (k:Int)]∧Limbs o∧c≤1∧val o+val (b.take k)=val (a.take k)+1000000000^k*c,fun ds=>a.length-(toI (nth .undef ds 2)).toNat⟩) mixedT Tryz.func338 ?_;rw[UZ];simp only[Ap,qh];refine⟨⟨by omega,by omega,by unfold room;omega⟩,⟨0,[],0,by omega,rfl,by rw[Ao,xg];rfl,Aj,by omega,by simp[val]⟩,?_⟩;rintro es n m ⟨k,o,c,hk,ho,he,lo,hc,hv⟩;simp only[A6,Ah,Ai,true_and,and_true]at he;obtain⟨rfl,rfl,rfl⟩:=he;have hol:(o++Au (a.length-k) 0).length=a.length:=by simp[ho];omega
 refine brd (fun h1=>?_) (fun h1=>?_)
 ·have a0:k<a.length:=by omega
  have hxk:=ha.get a0;have hk1:Al .i64 ((k:Int)+1)=((k+1:Nat):Int):=by rw[xL (by omega) (by omega)];omega
  rw[Ao,hk1,qh,hol];have hw0:Al .u32 (Al .u32 ((a[k]:Int)+1000000000)-(c:Int))=((a[k]+1000000000-c:Nat):Int):=by rw[zK (n:=(a[k]:Int)+1000000000) (by omega) (by omega),zK (by omega) (by omega)];omega
  refine⟨⟨by omega,by omega,qt a0⟩,_,qu a0,?_⟩;rw[hw0];refine brd (fun h2=>?_) (fun h2=>?_)
  ·have a2:k<b.length:=by omega
   have hyk:=hb.get a2;have a1:b.getD k 0=b[k]:=by simp[A2,a2]
   refine⟨⟨by omega,by omega,qt a2⟩,_,qu a2,?_⟩;have hw:Al .u32 (((a[k]+1000000000-c:Nat):Int)-(b[k]:Int))=((a[k]+1000000000-c-b[k]:Nat):Int):=by rw[zK (by omega) (by omega)];omega
   rw[hw];refine brd (fun h3=>?_) (fun h3=>?_)
   ·have a3:Al .u32 (((a[k]+1000000000-c-b[k]:Nat):Int)-1000000000)=((a[k]-(c+b[k]):Nat):Int):=by rw[zK (by omega) (by omega)];omega
    rw[a3,x9 (by simp[ho];omega),jU ho (by omega)];refine⟨⟨by omega,by omega⟩,by omega,⟨k+1,o++[a[k]-(c+b[k])],0,by omega,by simp[ho],by rw[show a.length-k-1=a.length-(k+1)by omega];rfl,lo.append (Ak (by omega) Aj),by omega,xZ a0 ho hv (by have:=a1;omega)⟩,?_⟩;simp only[nth,toI];omega
   ·rw[x9 (by simp[ho];omega),jU ho (by omega)];refine⟨⟨by omega,by omega⟩,by omega,⟨k+1,o++[a[k]+1000000000-c-b[k]],1,by omega,by simp[ho],by rw[show a.length-k-1=a.length-(k+1)by omega];rfl,lo.append (Ak (by omega) Aj),by omega,xZ a0 ho hv (by have:=a1;omega)⟩,?_⟩;simp only[nth,toI];omega
  ·have a1:b.getD k 0=0:=Q5 (by omega);refine brd (fun h3=>?_) (fun h3=>?_)
   ·have a3:Al .u32 (((a[k]+1000000000-c:Nat):Int)-1000000000)=((a[k]-c:Nat):Int):=by rw[zK (by omega) (by omega)];omega
    rw[a3,x9 (by simp[ho];omega),jU ho (by omega)];refine⟨⟨by omega,by omega⟩,by omega,⟨k+1,o++[a[k]-c],0,by omega,by simp[ho],by rw[show a.length-k-1=a.length-(k+1)by omega];rfl,lo.append (Ak (by omega) Aj),by omega,xZ a0 ho hv (by have:=a1;omega)⟩,?_⟩;simp only[nth,toI];omega
   ·rw[x9 (by simp[ho];omega),jU ho (by omega)];refine⟨⟨by omega,by omega⟩,by omega,⟨k+1,o++[a[k]+1000000000-c],1,by omega,by simp[ho],by rw[show a.length-k-1=a.length-(k+1)by omega];rfl,lo.append (Ak (by omega) Aj),by omega,xZ a0 ho hv (by have:=a1;omega)⟩,?_⟩;simp only[nth,toI];omega
 ·have a0:k=a.length:=by omega
  subst a0;rw[Aw]at hv;rw[Nat.sub_self,List.replicate_zero,A3];have h2:=qG lo;rw[ho]at h2;have h3:val b=val (b.take a.length)+1000000000^(b.take a.length).length*val (b.drop a.length):=by rw[←qL,List.take_append_drop]
  have h4:=qG ha;have h5:val (b.take a.length)=val b:=by
   rcases Nat.lt_or_ge b.length a.length with hl|hl
   ·rw[A1 (by omega)]
   ·rw[Ay,Nat.min_eq_left hl]at h3;rcases AC (val (b.drop a.length))with h6|h6
    ·rw[h6]at h3;omega
    ·have:=AA (1000000000^a.length) h6;omega
  have h6:c=0:=by
   rcases AC c with h6|h6
   ·exact h6
   ·have:=AA (1000000000^a.length) h6;omega
  subst h6;have hg:=zT lo (by omega);rw[show val o=val a-val b by omega]at hg;exact⟨_,hg,rfl⟩
set_option maxHeartbeats 1000000 in
theorem JY {a b:List Nat} (ha:Limbs a) (hb:Limbs b) (hra:a.length≤536870912) (hrb:b.length≤536870912):
 qe CC 271 [.c (.sl (raw a)),.c (.sl (raw b))] [.c (.sl (raw (lim (val a*val b))))]:=by
 refine qf (anns:=Vn
  ⟨[.own 5 68 1,.slot 6 (.int .i64 0)],[],fun _ ds=>∃(i:Nat) (o:List Nat),i≤a.length∧ds=[.sl (raw o),.int .i64 (i:Int)]∧o.length=a.length+b.length∧Limbs o∧(∀j,i+b.length≤j→o.getD j 0=0)∧val o=val (a.take i)*val b,fun ds=>a.length-(toI (nth .undef ds 1)).toNat⟩
  ⟨[.own 5 68 1,.slot 7 (.int .u64 0),.slot 8 (.int .i64 0)],[.slot 6 (.int .i64 0),.own 5 68 1],fun g ds=>∃(i k c:Nat) (o0 o:List Nat),g=[.int .i64 (i:Int),.sl (raw o0)]∧i<a.length∧k≤b.length∧c<1000000000∧ds=[.sl (raw o),.int .u64 (c:Int),.int .i64 (k:Int)]∧o.length=a.length+b.length∧Limbs o∧(∀j,i+b.length≤j→o.getD j 0=0)∧val o+1000000000^(i+k)*c=val o0+1000000000^i*(a.getD i 0*val (b.take k)),fun ds=>b.length-(toI (nth .undef ds 2)).toNat⟩) mixedT Tryz.func271 ?_
 rw[Ta];simp only[Ap,qh];have hab:Al .i64 ((a.length:Int)+(b.length:Int))=((a.length+b.length:Nat):Int):=by rw[xL (by omega) (by omega)];omega
 rw[hab,Ao,xg];refine⟨⟨by omega,by omega,by unfold room;omega⟩,⟨0,Au (a.length+b.length) 0,by omega,rfl,by simp,fun y hy=>by rw[List.eq_of_mem_replicate hy];omega,fun j _=>by simp[A2,List.getElem?_replicate];split<;>rfl,by simp[jZ,val]⟩,?_⟩;rintro es n ⟨i,o0,hi,he,hol,lo,hz,hv⟩;simp only[A6,Ah,Ai,true_and,and_true]at he;obtain⟨rfl,rfl⟩:=he;refine brd (fun h1=>?_) (fun h1=>?_)
 ·have a0:i<a.length:=by omega
  have hai:=ha.get a0;refine⟨⟨i,0,0,o0,o0,rfl,a0,by omega,by omega,rfl,hol,lo,hz,by simp[val]⟩,?_⟩;rintro es m k' ⟨i',k,c,o0',o,hg,_,hk,hc,he,a2,a8,a7,a9⟩;simp only[A6,Ah,Ai,true_and,and_true]at hg he;obtain⟨hi',a5⟩:=hg;obtain⟨rfl,rfl,rfl⟩:=he;have a3:i'=i:=by omega
  subst a3;have a5:=Zv a5;subst a5;rw[xf a0]at a9;refine brd (fun h2=>?_) (fun h2=>?_)
  ·have a1:k<b.length:=by omega
   have hbk:=hb.get a1;have hj:i'+k<o.length:=by omega
   have hoj:=a8.get hj;have hw:Al .i64 ((i':Int)+(k:Int))=((i'+k:Nat):Int):=by rw[xL (by omega) (by omega)];omega
   have a4:Al .i64 ((k:Int)+1)=((k+1:Nat):Int):=by rw[xL (by omega) (by omega)];omega
   rw[hw,a4,Ao,Ao,Ao,qh];refine⟨⟨by omega,by omega⟩,_,qu hj,⟨by omega,by omega,qt a0⟩,_,qu a0,⟨by omega,by omega,qt a1⟩,_,qu a1,by omega,⟨by omega,by omega⟩,by omega,by omega,?_⟩;have hp:a[i']*b[k]≤999999999*999999999:=Nat.mul_le_mul (by omega) (by omega);obtain⟨p,a6⟩:∃p,p=a[i']*b[k]:=⟨_,rfl⟩;rw[←a6]at hp;have hpi:(a[i']:Int)*(b[k]:Int)=(p:Int):=by rw[a6];exact(Int.natCast_mul _ _).symm
   obtain⟨t,hte⟩:∃t,t=o[i'+k]+p+c:=⟨_,rfl⟩;have ht:Al .u64 (Al .u64 ((c:Int)+Al .u64 (o[i'+k]:Int))+Al .u64 (Al .u64 (a[i']:Int)*Al .u64 (b[k]:Int)))=(t:Int):=by rw[x6 (n:=(o[i'+k]:Int)) (by omega) (by omega),x6 (n:=(a[i']:Int)) (by omega) (by omega),x6 (n:=(b[k]:Int)) (by omega) (by omega),hpi,x6 (n:=(p:Int)) (by omega) (by omega),x6 (n:=(c:Int)+(o[i'+k]:Int)) (by omega) (by omega),x6 (by omega) (by omega)];omega
   rw[ht,Ge,Gf,zK (n:=((t%1000000000:Nat):Int)) (by omega) (by omega),x6 (n:=((t/1000000000:Nat):Int)) (by omega) (by omega),x9 hj];refine⟨⟨i',k+1,t/1000000000,o0,o.set (i'+k) (t%1000000000),rfl,a0,by omega,by omega,rfl,by simp[a2],wV a8 (by omega),fun j hjj=>by rw[zw (by omega)];exact a7 j hjj,?_⟩,?_⟩
   ·have h3:=Q6 (t%1000000000) hj;rw[xf hj]at h3;rw[xf a0,qD,xf a1];have h4:=Zs (k:=i'+k) (show t%1000000000+1000000000*(t/1000000000)=t by omega);rw[show i'+(k+1)=i'+k+1 by omega];have h5:1000000000^(i'+k)*t=1000000000^(i'+k)*o[i'+k]+1000000000^(i'+k)*p+1000000000^(i'+k)*c:=by rw[hte,A8,A8]
    have h6:1000000000^i'*(a[i']*(val (b.take k)+1000000000^k*b[k]))=1000000000^i'*(a[i']*val (b.take k))+1000000000^(i'+k)*p:=by rw[A8,A8,a6,AE];congr 1;simp only[AD,Nat.mul_left_comm]
    omega
   ·simp only[nth,toI];omega
  ·have a1:k=b.length:=by omega
   subst a1;have hj:i'+b.length<o.length:=by omega
   have hw:Al .i64 ((i':Int)+(b.length:Int))=((i'+b.length:Nat):Int):=by rw[xL (by omega) (by omega)];omega
   have a4:Al .i64 ((i':Int)+1)=((i'+1:Nat):Int):=by rw[xL (by omega) (by omega)];omega
   rw[hw,a4,Ao,qh,zK (n:=(c:Int)) (by omega) (by omega),x9 hj];refine⟨⟨by omega,by omega⟩,by omega,⟨i'+1,o.set (i'+b.length) c,by omega,rfl,by simp[a2],wV a8 hc,fun j hjj=>by rw[zw (by omega)];exact a7 j (by omega),?_⟩,?_⟩
   ·have h3:=Q6 c hj;rw[a7 _ (A7 _)]at h3;rw[Aw]at a9;rw[qD,xf a0,Nat.add_mul,←hv,AD];omega
   ·simp only[nth,toI];omega
 ·have a0:i=a.length:=by omega
  subst a0;rw[Aw]at hv;have hg:=zT lo (by omega);rw[hv]at hg;exact⟨_,hg,rfl⟩
theorem Tb {a:List Nat} {d:Nat} (ha:Limbs a) (hd:d<1000000000) (hra:a.length≤536870912):qe CC 337 [.c (.sl (raw a)),.c (.int .u32 (d:Int))] [.c (.sl (raw (lim (val a*d))))]:=by
 refine qf (anns:=an0) mixedT Tryz.func337 ?_;rw[Sw];have h1:=zT (l:=[d]) (Ak hd Aj) (by simp);have hv:val [d]=d:=by simp[val]
 rw[hv]at h1;have hl:(lim d).length≤536870912:=by have:(lim d).length≤1:=qo (by omega);omega
 have h2:=JY ha (qc d) hra hl;rw[qj]at h2;exact⟨_,h1,_,h2,rfl⟩
theorem Z5 {x:Int} (hx:Sm x):qe CC 239 [qH x] [qH (-x)]:=by
 refine qf (anns:=an0) mixedT Tryz.func239 ?_;have lx:=hx.len;rw[qw x,Pz];refine⟨_,_,qU (!decide (x<0)) (qc x.natAbs) (by omega) (z:= -x) ?_,rfl⟩;rw[qj];by_cases h:x<0
 ·simp[h];omega
 ·simp[h];omega
theorem W4 {x y n:Nat} (hx:(lim x).length≤n) (hy:(lim y).length≤n):(lim (x+y)).length≤n+1:=by
 refine qo ?_;have h1:=qG (qc x);have h2:=qG (qc y);rw[qj]at h1 h2;have hB:∀{i j:Nat},i≤j→(1000000000:Nat)^i≤1000000000^j:=fun h=>A9 (by decide) h
 have h3:=hB hx;have h4:=hB hy;rw[Nat.pow_succ];generalize (1000000000:Nat)^n=T at *;omega
theorem QD {x y:Int} (hx:Sm x) (hy:Sm y):qe CC 314 [qH x,qH y] [qH (x+y)]:=by
 refine qf (anns:=an0) mixedT Tryz.func314 ?_;have lx:=hx.len;have ly:=hy.len;have a2:(lim (x.natAbs+y.natAbs)).length≤1073741824:=by have:=W4 (n:=1000) lx ly;omega
 have a0:∀{m n:Nat},m≤n→(lim m).length≤(lim n).length:=fun{m n} h=>qo (Nat.lt_of_le_of_lt h (by have:=qG (qc n);rw[qj]at this;exact this))
 rw[qw x,qw y,P0];have hp:=MM (qc x.natAbs) (qc y.natAbs) (by omega) (by omega);rw[qj,qj]at hp;have hc:=jj (x:=x.natAbs) (y:=y.natAbs) (by omega) (by omega);refine brb (fun h=>?_) (fun h=>?_)
 ·have hs:(x<0)↔(y<0):=by
   have:decide (x<0)=decide (y<0):=by simpa using h
   rw[decide_eq_decide]at this;exact this
  refine⟨_,hp,_,_,qU (decide (x<0)) (qc _) a2 (z:=x+y) ?_,rfl⟩;rw[qj];by_cases h1:x<0
  ·have:=hs.1 h1;simp[h1];omega
  ·have:¬y<0:=fun h2=>h1 (hs.2 h2)
   simp[h1];omega
 ·have hs:(x<0)↔¬(y<0):=by
   have h2:¬(decide (x<0)=decide (y<0)):=by simpa using h
   rw[decide_eq_decide]at h2;constructor
   ·intro a b;exact h2 ⟨fun _=>b,fun _=>a⟩
   ·intro b;apply Aa;intro a;exact h2 ⟨fun c=>absurd c a,fun c=>absurd c b⟩
  refine⟨_,hc,brd (fun h1=>?_) (fun h1=>?_)⟩
  ·have a1:y.natAbs≤x.natAbs:=by
    unfold vg at h1;split at h1
    ·omega
    ·omega
   have hm:=ve (qc x.natAbs) (qc y.natAbs) (by omega) (by rw[qj,qj];exact a1);rw[qj,qj]at hm;refine⟨_,hm,_,_,qU (decide (x<0)) (qc _) (by have:=a0 (show x.natAbs-y.natAbs≤x.natAbs by omega);omega) (z:=x+y) ?_,rfl⟩;rw[qj];by_cases h2:x<0
   ·have:=hs.1 h2;simp[h2];omega
   ·have:y<0:=by apply Aa;intro h3;exact h2 (hs.2 h3)
    simp[h2];omega
  ·have a1:x.natAbs≤y.natAbs:=by
    unfold vg at h1;split at h1
    ·omega
    ·split at h1<;>omega
   have hm:=ve (qc y.natAbs) (qc x.natAbs) (by omega) (by rw[qj,qj];exact a1);rw[qj,qj]at hm;refine⟨_,hm,_,_,qU (decide (y<0)) (qc _) (by have:=a0 (show y.natAbs-x.natAbs≤y.natAbs by omega);omega) (z:=x+y) ?_,rfl⟩;rw[qj];by_cases h2:y<0
   ·have:¬x<0:=fun h3=>(hs.1 h3) h2
    simp[h2];omega
   ·have:=hs.2 h2;simp[h2];omega
theorem P5 {x:Int} (h:Sm x):Sm (-x):=by unfold Sm at *;rw[At];exact h
theorem Tc {x y:Int} (hx:Sm x) (hy:Sm y):qe CC 313 [qH x,qH y] [qH (x-y)]:=by
 refine qf (anns:=an0) mixedT Tryz.func313 ?_;have h1:=Z5 hy;have h2:=QD hx (P5 hy);rw[qw y]at h1;rw[qw x]at h2;rw[qw x,qw y,P2];exact⟨_,_,h1,_,_,h2,rfl⟩
theorem zy {x y:Int} (hx:Sm x) (hy:Sm y):qe CC 193 [qH x,qH y] [qH (x*y)]:=by
 refine qf (anns:=an0) mixedT Tryz.func193 ?_;have lx:=hx.len;have ly:=hy.len;have ht:=JY (qc x.natAbs) (qc y.natAbs) (by omega) (by omega);rw[qj,qj]at ht;have lp:(lim (x.natAbs*y.natAbs)).length≤1073741824:=by
  have h1:=qG (qc x.natAbs);have h2:=qG (qc y.natAbs);rw[qj]at h1 h2;have h3:x.natAbs*y.natAbs<1000000000^((lim x.natAbs).length+(lim y.natAbs).length):=by rw[AE];exact Nat.mul_lt_mul'' h1 h2
  have:=qo h3;omega
 rw[qw x,qw y,P3];refine⟨_,ht,_,_,qU (!(decide (x<0)==decide (y<0))) (qc _) lp (z:=x*y) ?_,rfl⟩;rw[qj];have hm:(x*y).natAbs=x.natAbs*y.natAbs:=Int.natAbs_mul x y;by_cases h1:x<0<;>by_cases h2:y<0
 ·have:=Int.mul_pos_of_neg_of_neg h1 h2;simp[h1,h2];omega
 ·have:x*y≤0:=Int.mul_nonpos_of_nonpos_of_nonneg (by omega) (by omega);simp[h1,h2];omega
 ·have:x*y≤0:=Int.mul_nonpos_of_nonneg_of_nonpos (by omega) (by omega);simp[h1,h2];omega
 ·have:0≤x*y:=Int.mul_nonneg (by omega) (by omega);simp[h1,h2];omega
end Eng
end
