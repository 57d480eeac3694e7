/- The verification conditions of functions, printed by a program (vcgen.py) and checked by the kernel. -/
import Derived.Test.YtbehlcfelmbmlaaGreatDoorCtxB
import Derived.KernelRfl
open Decidable renaming byContradiction→Aw
open Eng.A renaming c→Bx, ag→Dd
open Eng.D renaming int→F0, bool→F2, sl→Hu
open Eng.D.int renaming injEq→Hv
open Eng.D.sl renaming injEq→Hx
open Eng.Limbs renaming nil→Hy, cons→J3
open Go.IntKind renaming wrap→J4
open Int renaming ofNat→J6, toNat→J7, toNat_natCast→J9, ofNat_eq_natCast→Lm, tmod→Lr, tdiv→Ls, natAbs_natCast→Lv, natAbs_neg→No
open List renaming replicate→Pl, length→P1, take_length→Ts, drop_eq_getElem_cons→T1, length_take→U0, drop_length→U3, drop_zero→V1, take_of_length_le→W0, getD→W1, append_nil→W2, take→ad, drop→ae
open List.cons renaming injEq→af
open Nat renaming le_refl→ah, mul_add→ai, pow_le_pow_right→aj, mul_le_mul_left→ak, lt_of_lt_of_le→am, eq_zero_or_pos→an, mul_assoc→ao, pow_add→ap
section
namespace Eng
open Go Go.Proofs
set_option maxRecDepth 1000000
section
variable (Gv:Nat→List A→List A→Prop) (Q:List A→Prop) (I0 I1 I2 I3:List D→List D→Prop) (M0 M1 M2 M3:List D→Nat)
theorem Bn (es:List (List D)):wpF CC Gv (fun _=>⟨[.slot 0 (.slice none 0 0)],[],I0,M0⟩) Tryz.f224 [.c (.sl es)] Q=(
 I0 [] [Hu es]∧∀(es:List (List D)),I0 [] [Hu es]→br (toB (F2 (decide ((J6 es.length)>0)))) ((0≤J4 .i64 ((J6 es.length)-1)∧J4 .i64 ((J6 es.length)-1)<(J6 es.length)∧P1 (nth [] es (J7 (J4 .i64 ((J6 es.length)-1))))=1)∧∃n,cut (nth [] es (J7 (J4 .i64 ((J6 es.length)-1)))) 0 1 [F0 .u32 n]∧br (toB (F2 (n==0))) (((0:Int)≤(0:Int)∧0≤J4 .i64 ((J6 es.length)-1)∧J4 .i64 ((J6 es.length)-1)≤(J6 es.length)∧lens 1 es)∧I0 [] [Hu (ae 0 (ad (J7 (J4 .i64 ((J6 es.length)-1))) es))]∧M0 [Hu (ae 0 (ad (J7 (J4 .i64 ((J6 es.length)-1))) es))]<M0 [Hu es]) (Q [Bx (Hu es)])) (Q [Bx (Hu es)])):=by kernel_rfl
theorem Mz (b:Bool) (es:List (List D)):wpF CC Gv an0 Tryz.f128 [.c (.bool b),.c (.sl es)] Q=(
 ∃e1,Gv 224 [Bx (Hu es)] [Bx (Hu e1)]∧br b (Q [Dd [F2 (decide ((J6 e1.length)>0)),Hu e1]]) (Q [Dd [F2 false,Hu e1]])):=by kernel_rfl
theorem PI (n:Int):wpF CC Gv (fun _=>⟨[.own 3 15 1,.slot 0 (.int .u64 0)],[],I0,M0⟩) Tryz.f129 [.c (.int .u64 n)] Q=(
 I0 [] [Hu [],F0 .u64 n]∧∀(es:List (List D)) (n:Int),I0 [] [Hu es,F0 .u64 n]→br (toB (F2 (decide (n>0)))) ((1000000000:Int)≠(0:Int)∧(room (es.length+1)∧lens 1 [[F0 .u32 (J4 .u32 (Lr n (1000000000:Int)))]])∧(1000000000:Int)≠(0:Int)∧I0 [] [Hu (es++[[F0 .u32 (J4 .u32 (Lr n (1000000000:Int)))]]),F0 .u64 (J4 .u64 (Ls n (1000000000:Int)))]∧M0 [Hu (es++[[F0 .u32 (J4 .u32 (Lr n (1000000000:Int)))]]),F0 .u64 (J4 .u64 (Ls n (1000000000:Int)))]<M0 [Hu es,F0 .u64 n]) (Q [Bx (Hu es)])):=by kernel_rfl
theorem Vi (n:Int):wpF CC Gv an0 Tryz.f68 [.c (.int .i64 n)] Q=(
 br (toB (F2 (decide (n<0)))) (∃es,Gv 129 [Bx (F0 .u64 (J4 .u64 (0-J4 .u64 n)))] [Bx (Hu es)]∧∃b e1,Gv 128 [Bx (F2 true),Bx (Hu es)] [Dd [F2 b,Hu e1]]∧Q [Dd [F2 b,Hu e1]]) (∃es,Gv 129 [Bx (F0 .u64 (J4 .u64 n))] [Bx (Hu es)]∧∃b e1,Gv 128 [Bx (F2 false),Bx (Hu es)] [Dd [F2 b,Hu e1]]∧Q [Dd [F2 b,Hu e1]])):=by kernel_rfl
theorem YZ (es:List (List D)):wpF CC Gv (fun _=>⟨[.slot 3 (.int .u64 0),.slot 4 (.int .i64 0)],[],I0,M0⟩) Tryz.f275 [.c (.sl es)] Q=(
 I0 [] [F0 .u64 0,F0 .i64 (J4 .i64 ((J6 es.length)-1))]∧∀(n n1:Int),I0 [] [F0 .u64 n,F0 .i64 n1]→br (toB (F2 (decide (n1≥0)))) ((0≤n1∧n1<(J6 es.length)∧P1 (nth [] es (J7 n1))=1)∧∃n2,cut (nth [] es (J7 n1)) 0 1 [F0 .u32 n2]∧I0 [] [F0 .u64 (J4 .u64 (J4 .u64 (n*1000000000)+J4 .u64 n2)),F0 .i64 (J4 .i64 (n1-1))]∧M0 [F0 .u64 (J4 .u64 (J4 .u64 (n*1000000000)+J4 .u64 n2)),F0 .i64 (J4 .i64 (n1-1))]<M0 [F0 .u64 n,F0 .i64 n1]) (Q [Bx (F0 .u64 n)])):=by kernel_rfl
theorem Bo (p:Bool) (es:List (List D)):wpF CC Gv an0 Tryz.f173 [.ag [.bool p,.sl es]] Q=(
 br (toB (F2 ((J6 es.length)==0))) (Q [Bx (F0 .i64 0)]) (br p (Q [Bx (F0 .i64 (-1))]) (Q [Bx (F0 .i64 1)]))):=by kernel_rfl
theorem HB (es fs:List (List D)):wpF CC Gv (fun _=>⟨[.slot 5 (.int .i64 0)],[],I0,M0⟩) Tryz.f127 [.c (.sl es),.c (.sl fs)] Q=(
 br (toB (F2 ((J6 es.length) !=(J6 fs.length)))) (br (toB (F2 (decide ((J6 es.length)<(J6 fs.length))))) (Q [Bx (F0 .i64 (-1))]) (Q [Bx (F0 .i64 1)])) (I0 [] [F0 .i64 (J4 .i64 ((J6 es.length)-1))]∧∀(n:Int),I0 [] [F0 .i64 n]→br (toB (F2 (decide (n≥0)))) ((0≤n∧n<(J6 es.length)∧P1 (nth [] es (J7 n))=1)∧∃n1,cut (nth [] es (J7 n)) 0 1 [F0 .u32 n1]∧(0≤n∧n<(J6 fs.length)∧P1 (nth [] fs (J7 n))=1)∧∃n2,cut (nth [] fs (J7 n)) 0 1 [F0 .u32 n2]∧br (toB (F2 (decide (n1<n2)))) (Q [Bx (F0 .i64 (-1))]) ((0≤n∧n<(J6 es.length)∧P1 (nth [] es (J7 n))=1)∧∃n3,cut (nth [] es (J7 n)) 0 1 [F0 .u32 n3]∧(0≤n∧n<(J6 fs.length)∧P1 (nth [] fs (J7 n))=1)∧∃n4,cut (nth [] fs (J7 n)) 0 1 [F0 .u32 n4]∧br (toB (F2 (decide (n3>n4)))) (Q [Bx (F0 .i64 1)]) (I0 [] [F0 .i64 (J4 .i64 (n-1))]∧M0 [F0 .i64 (J4 .i64 (n-1))]<M0 [F0 .i64 n]))) (Q [Bx (F0 .i64 0)]))):=by kernel_rfl
theorem E8 (p q:Bool) (es fs:List (List D)):wpF CC Gv an0 Tryz.f263 [.ag [.bool p,.sl es],.ag [.bool q,.sl fs]] Q=(
 br (toB (F2 !p==q)) (br p (Q [Bx (F0 .i64 (-1))]) (Q [Bx (F0 .i64 1)])) (br p (∃n,Gv 127 [Bx (Hu fs),Bx (Hu es)] [Bx (F0 .i64 n)]∧Q [Bx (F0 .i64 n)]) (∃n,Gv 127 [Bx (Hu es),Bx (Hu fs)] [Bx (F0 .i64 n)]∧Q [Bx (F0 .i64 n)]))):=by kernel_rfl
end
def Ta (Gv:Nat→List A→List A→Prop) (I0:List D→List D→Prop) (M0:List D→Nat) (Q:List A→Prop) (es fs:List (List D)):Prop:=((0≤J4 .i64 ((J6 es.length)+1)∧J4 .i64 ((J6 es.length)+1)≤J4 .i64 ((J6 es.length)+1)∧room (J7 (J4 .i64 ((J6 es.length)+1))))∧I0 [] [Hu (Pl (J7 (J4 .i64 ((J6 es.length)+1))) [F0 .u32 0]),F0 .u32 0,F0 .i64 0]∧∀(e1:List (List D)) (n n1:Int),I0 [] [Hu e1,F0 .u32 n,F0 .i64 n1]→br (toB (F2 (decide (n1<(J6 es.length))))) ((0≤n1∧n1<(J6 es.length)∧P1 (nth [] es (J7 n1))=1)∧∃n2,cut (nth [] es (J7 n1)) 0 1 [F0 .u32 n2]∧br (toB (F2 (decide (n1<(J6 fs.length))))) ((0≤n1∧n1<(J6 fs.length)∧P1 (nth [] fs (J7 n1))=1)∧∃n3,cut (nth [] fs (J7 n1)) 0 1 [F0 .u32 n3]∧(1000000000:Int)≠(0:Int)∧(0≤n1∧n1<(J6 e1.length))∧0<1∧(1000000000:Int)≠(0:Int)∧I0 [] [Hu (upd e1 (J7 n1) (upd (nth [] e1 (J7 n1)) 0 (F0 .u32 (Lr (J4 .u32 (J4 .u32 (n+n2)+n3)) (1000000000:Int))))),F0 .u32 (J4 .u32 (Ls (J4 .u32 (J4 .u32 (n+n2)+n3)) (1000000000:Int))),F0 .i64 (J4 .i64 (n1+1))]∧M0 [Hu (upd e1 (J7 n1) (upd (nth [] e1 (J7 n1)) 0 (F0 .u32 (Lr (J4 .u32 (J4 .u32 (n+n2)+n3)) (1000000000:Int))))),F0 .u32 (J4 .u32 (Ls (J4 .u32 (J4 .u32 (n+n2)+n3)) (1000000000:Int))),F0 .i64 (J4 .i64 (n1+1))]<M0 [Hu e1,F0 .u32 n,F0 .i64 n1]) ((1000000000:Int)≠(0:Int)∧(0≤n1∧n1<(J6 e1.length))∧0<1∧(1000000000:Int)≠(0:Int)∧I0 [] [Hu (upd e1 (J7 n1) (upd (nth [] e1 (J7 n1)) 0 (F0 .u32 (Lr (J4 .u32 (n+n2)) (1000000000:Int))))),F0 .u32 (J4 .u32 (Ls (J4 .u32 (n+n2)) (1000000000:Int))),F0 .i64 (J4 .i64 (n1+1))]∧M0 [Hu (upd e1 (J7 n1) (upd (nth [] e1 (J7 n1)) 0 (F0 .u32 (Lr (J4 .u32 (n+n2)) (1000000000:Int))))),F0 .u32 (J4 .u32 (Ls (J4 .u32 (n+n2)) (1000000000:Int))),F0 .i64 (J4 .i64 (n1+1))]<M0 [Hu e1,F0 .u32 n,F0 .i64 n1])) ((0≤(J6 es.length)∧(J6 es.length)<(J6 e1.length))∧0<1∧∃e2,Gv 224 [Bx (Hu (upd e1 (J7 (J6 es.length)) (upd (nth [] e1 (J7 (J6 es.length))) 0 (F0 .u32 n))))] [Bx (Hu e2)]∧Q [Bx (Hu e2)]))
section
variable (Gv:Nat→List A→List A→Prop) (Q:List A→Prop) (I0 I1 I2 I3:List D→List D→Prop) (M0 M1 M2 M3:List D→Nat)
theorem Tb (es fs:List (List D)):wpF CC Gv (fun _=>⟨[.own 5 55 1,.slot 6 (.int .u32 0),.slot 7 (.int .i64 0)],[],I0,M0⟩) Tryz.f368 [.c (.sl es),.c (.sl fs)] Q=(
 br (toB (F2 (decide ((J6 es.length)<(J6 fs.length))))) (Ta Gv I0 M0 Q fs es) (Ta Gv I0 M0 Q es fs)):=by kernel_rfl
theorem PJ (es fs:List (List D)):wpF CC Gv (fun _=>⟨[.own 5 45 1,.slot 6 (.int .u32 0),.slot 7 (.int .i64 0)],[],I0,M0⟩) Tryz.f338 [.c (.sl es),.c (.sl fs)] Q=(
 (0≤(J6 es.length)∧(J6 es.length)≤(J6 es.length)∧room (J7 (J6 es.length)))∧I0 [] [Hu (Pl (J7 (J6 es.length)) [F0 .u32 0]),F0 .u32 0,F0 .i64 0]∧∀(e1:List (List D)) (n n1:Int),I0 [] [Hu e1,F0 .u32 n,F0 .i64 n1]→br (toB (F2 (decide (n1<(J6 es.length))))) ((0≤n1∧n1<(J6 es.length)∧P1 (nth [] es (J7 n1))=1)∧∃n2,cut (nth [] es (J7 n1)) 0 1 [F0 .u32 n2]∧br (toB (F2 (decide (n1<(J6 fs.length))))) ((0≤n1∧n1<(J6 fs.length)∧P1 (nth [] fs (J7 n1))=1)∧∃n3,cut (nth [] fs (J7 n1)) 0 1 [F0 .u32 n3]∧br (toB (F2 (decide (J4 .u32 (J4 .u32 (J4 .u32 (n2+1000000000)-n)-n3)≥1000000000)))) ((0≤n1∧n1<(J6 e1.length))∧0<1∧I0 [] [Hu (upd e1 (J7 n1) (upd (nth [] e1 (J7 n1)) 0 (F0 .u32 (J4 .u32 (J4 .u32 (J4 .u32 (J4 .u32 (n2+1000000000)-n)-n3)-1000000000))))),F0 .u32 0,F0 .i64 (J4 .i64 (n1+1))]∧M0 [Hu (upd e1 (J7 n1) (upd (nth [] e1 (J7 n1)) 0 (F0 .u32 (J4 .u32 (J4 .u32 (J4 .u32 (J4 .u32 (n2+1000000000)-n)-n3)-1000000000))))),F0 .u32 0,F0 .i64 (J4 .i64 (n1+1))]<M0 [Hu e1,F0 .u32 n,F0 .i64 n1]) ((0≤n1∧n1<(J6 e1.length))∧0<1∧I0 [] [Hu (upd e1 (J7 n1) (upd (nth [] e1 (J7 n1)) 0 (F0 .u32 (J4 .u32 (J4 .u32 (J4 .u32 (n2+1000000000)-n)-n3))))),F0 .u32 1,F0 .i64 (J4 .i64 (n1+1))]∧M0 [Hu (upd e1 (J7 n1) (upd (nth [] e1 (J7 n1)) 0 (F0 .u32 (J4 .u32 (J4 .u32 (J4 .u32 (n2+1000000000)-n)-n3))))),F0 .u32 1,F0 .i64 (J4 .i64 (n1+1))]<M0 [Hu e1,F0 .u32 n,F0 .i64 n1])) (br (toB (F2 (decide (J4 .u32 (J4 .u32 (n2+1000000000)-n)≥1000000000)))) ((0≤n1∧n1<(J6 e1.length))∧0<1∧I0 [] [Hu (upd e1 (J7 n1) (upd (nth [] e1 (J7 n1)) 0 (F0 .u32 (J4 .u32 (J4 .u32 (J4 .u32 (n2+1000000000)-n)-1000000000))))),F0 .u32 0,F0 .i64 (J4 .i64 (n1+1))]∧M0 [Hu (upd e1 (J7 n1) (upd (nth [] e1 (J7 n1)) 0 (F0 .u32 (J4 .u32 (J4 .u32 (J4 .u32 (n2+1000000000)-n)-1000000000))))),F0 .u32 0,F0 .i64 (J4 .i64 (n1+1))]<M0 [Hu e1,F0 .u32 n,F0 .i64 n1]) ((0≤n1∧n1<(J6 e1.length))∧0<1∧I0 [] [Hu (upd e1 (J7 n1) (upd (nth [] e1 (J7 n1)) 0 (F0 .u32 (J4 .u32 (J4 .u32 (n2+1000000000)-n))))),F0 .u32 1,F0 .i64 (J4 .i64 (n1+1))]∧M0 [Hu (upd e1 (J7 n1) (upd (nth [] e1 (J7 n1)) 0 (F0 .u32 (J4 .u32 (J4 .u32 (n2+1000000000)-n))))),F0 .u32 1,F0 .i64 (J4 .i64 (n1+1))]<M0 [Hu e1,F0 .u32 n,F0 .i64 n1]))) (∃es,Gv 224 [Bx (Hu e1)] [Bx (Hu es)]∧Q [Bx (Hu es)])):=by kernel_rfl
theorem PK (es fs:List (List D)):wpF CC Gv (JW ⟨[.own 5 68 1,.slot 6 (.int .i64 0)],[],I0,M0⟩ ⟨[.own 5 68 1,.slot 7 (.int .u64 0),.slot 8 (.int .i64 0)],[.slot 6 (.int .i64 0),.own 5 68 1],I1,M1⟩) Tryz.f271 [.c (.sl es),.c (.sl fs)] Q=(
 (0≤J4 .i64 ((J6 es.length)+(J6 fs.length))∧J4 .i64 ((J6 es.length)+(J6 fs.length))≤J4 .i64 ((J6 es.length)+(J6 fs.length))∧room (J7 (J4 .i64 ((J6 es.length)+(J6 fs.length)))))∧I0 [] [Hu (Pl (J7 (J4 .i64 ((J6 es.length)+(J6 fs.length)))) [F0 .u32 0]),F0 .i64 0]∧∀(e1:List (List D)) (n:Int),I0 [] [Hu e1,F0 .i64 n]→br (toB (F2 (decide (n<(J6 es.length))))) (I1 [F0 .i64 n,Hu e1] [Hu e1,F0 .u64 0,F0 .i64 0]∧∀(e2:List (List D)) (n1 n2:Int),I1 [F0 .i64 n,Hu e1] [Hu e2,F0 .u64 n1,F0 .i64 n2]→br (toB (F2 (decide (n2<(J6 fs.length))))) ((0≤J4 .i64 (n+n2)∧J4 .i64 (n+n2)<(J6 e2.length))∧∃n3,cut (nth [] e2 (J7 (J4 .i64 (n+n2)))) 0 1 [F0 .u32 n3]∧(0≤n∧n<(J6 es.length)∧P1 (nth [] es (J7 n))=1)∧∃n4,cut (nth [] es (J7 n)) 0 1 [F0 .u32 n4]∧(0≤n2∧n2<(J6 fs.length)∧P1 (nth [] fs (J7 n2))=1)∧∃n5,cut (nth [] fs (J7 n2)) 0 1 [F0 .u32 n5]∧(1000000000:Int)≠(0:Int)∧(0≤J4 .i64 (n+n2)∧J4 .i64 (n+n2)<(J6 e2.length))∧0<1∧(1000000000:Int)≠(0:Int)∧I1 [F0 .i64 n,Hu e1] [Hu (upd e2 (J7 (J4 .i64 (n+n2))) (upd (nth [] e2 (J7 (J4 .i64 (n+n2)))) 0 (F0 .u32 (J4 .u32 (Lr (J4 .u64 (J4 .u64 (n1+J4 .u64 n3)+J4 .u64 (J4 .u64 n4*J4 .u64 n5))) (1000000000:Int)))))),F0 .u64 (J4 .u64 (Ls (J4 .u64 (J4 .u64 (n1+J4 .u64 n3)+J4 .u64 (J4 .u64 n4*J4 .u64 n5))) (1000000000:Int))),F0 .i64 (J4 .i64 (n2+1))]∧M1 [Hu (upd e2 (J7 (J4 .i64 (n+n2))) (upd (nth [] e2 (J7 (J4 .i64 (n+n2)))) 0 (F0 .u32 (J4 .u32 (Lr (J4 .u64 (J4 .u64 (n1+J4 .u64 n3)+J4 .u64 (J4 .u64 n4*J4 .u64 n5))) (1000000000:Int)))))),F0 .u64 (J4 .u64 (Ls (J4 .u64 (J4 .u64 (n1+J4 .u64 n3)+J4 .u64 (J4 .u64 n4*J4 .u64 n5))) (1000000000:Int))),F0 .i64 (J4 .i64 (n2+1))]<M1 [Hu e2,F0 .u64 n1,F0 .i64 n2]) ((0≤J4 .i64 (n+(J6 fs.length))∧J4 .i64 (n+(J6 fs.length))<(J6 e2.length))∧0<1∧I0 [] [Hu (upd e2 (J7 (J4 .i64 (n+(J6 fs.length)))) (upd (nth [] e2 (J7 (J4 .i64 (n+(J6 fs.length))))) 0 (F0 .u32 (J4 .u32 n1)))),F0 .i64 (J4 .i64 (n+1))]∧M0 [Hu (upd e2 (J7 (J4 .i64 (n+(J6 fs.length)))) (upd (nth [] e2 (J7 (J4 .i64 (n+(J6 fs.length))))) 0 (F0 .u32 (J4 .u32 n1)))),F0 .i64 (J4 .i64 (n+1))]<M0 [Hu e1,F0 .i64 n])) (∃es,Gv 224 [Bx (Hu e1)] [Bx (Hu es)]∧Q [Bx (Hu es)])):=by kernel_rfl
theorem AB (es:List (List D)) (n:Int):wpF CC Gv an0 Tryz.f337 [.c (.sl es),.c (.int .u32 n)] Q=(
 ∃e1,Gv 224 [Bx (Hu [[F0 .u32 n]])] [Bx (Hu e1)]∧∃e2,Gv 271 [Bx (Hu es),Bx (Hu e1)] [Bx (Hu e2)]∧Q [Bx (Hu e2)]):=by kernel_rfl
theorem E9 (p:Bool) (es:List (List D)):wpF CC Gv an0 Tryz.f239 [.ag [.bool p,.sl es]] Q=(
 ∃b e1,Gv 128 [Bx (F2 !p),Bx (Hu es)] [Dd [F2 b,Hu e1]]∧Q [Dd [F2 b,Hu e1]]):=by kernel_rfl
theorem EA (p q:Bool) (es fs:List (List D)):wpF CC Gv an0 Tryz.f314 [.ag [.bool p,.sl es],.ag [.bool q,.sl fs]] Q=(
 br (toB (F2 (p==q))) (∃e1,Gv 368 [Bx (Hu es),Bx (Hu fs)] [Bx (Hu e1)]∧∃b es,Gv 128 [Bx (F2 p),Bx (Hu e1)] [Dd [F2 b,Hu es]]∧Q [Dd [F2 b,Hu es]]) (∃n,Gv 127 [Bx (Hu es),Bx (Hu fs)] [Bx (F0 .i64 n)]∧br (toB (F2 (decide (n≥0)))) (∃e1,Gv 338 [Bx (Hu es),Bx (Hu fs)] [Bx (Hu e1)]∧∃b es,Gv 128 [Bx (F2 p),Bx (Hu e1)] [Dd [F2 b,Hu es]]∧Q [Dd [F2 b,Hu es]]) (∃e1,Gv 338 [Bx (Hu fs),Bx (Hu es)] [Bx (Hu e1)]∧∃b es,Gv 128 [Bx (F2 q),Bx (Hu e1)] [Dd [F2 b,Hu es]]∧Q [Dd [F2 b,Hu es]]))):=by kernel_rfl
theorem EB (p q:Bool) (es fs:List (List D)):wpF CC Gv an0 Tryz.f313 [.ag [.bool p,.sl es],.ag [.bool q,.sl fs]] Q=(
 ∃b e1,Gv 239 [Dd [F2 q,Hu fs]] [Dd [F2 b,Hu e1]]∧∃b1 e2,Gv 314 [Dd [F2 p,Hu es],Dd [F2 b,Hu e1]] [Dd [F2 b1,Hu e2]]∧Q [Dd [F2 b1,Hu e2]]):=by kernel_rfl
theorem EC (p q:Bool) (es fs:List (List D)):wpF CC Gv an0 Tryz.f193 [.ag [.bool p,.sl es],.ag [.bool q,.sl fs]] Q=(
 ∃e1,Gv 271 [Bx (Hu es),Bx (Hu fs)] [Bx (Hu e1)]∧∃b es,Gv 128 [Bx (F2 !p==q),Bx (Hu e1)] [Dd [F2 b,Hu es]]∧Q [Dd [F2 b,Hu es]]):=by kernel_rfl
theorem ED (p q:Bool) (es fs:List (List D)):wpF CC Gv (JW ⟨[.slot 5 (.slice none 0 0),.slot 6 (.slice none 0 0)],[],I0,M0⟩ ⟨[.slot 9 (.int .u64 0),.slot 10 (.int .u64 0)],[],I1,M1⟩) Tryz.f201 [.ag [.bool p,.sl es],.ag [.bool q,.sl fs]] Q=(
 I0 [] [Hu es,Hu fs]∧∀(es e1:List (List D)),I0 [] [Hu es,Hu e1]→br (toB (F2 (decide ((J6 e1.length)>0)))) (br (toB (F2 (decide ((J6 es.length)>2)))) (∃e2 e3,Gv 274 [Bx (Hu es),Bx (Hu e1)] [Bx (Hu e2),Bx (Hu e3)]∧I0 [] [Hu e1,Hu e3]∧M0 [Hu e1,Hu e3]<M0 [Hu es,Hu e1]) (br (toB (F2 (decide ((J6 e1.length)>2)))) (∃e2 e3,Gv 274 [Bx (Hu es),Bx (Hu e1)] [Bx (Hu e2),Bx (Hu e3)]∧I0 [] [Hu e1,Hu e3]∧M0 [Hu e1,Hu e3]<M0 [Hu es,Hu e1]) (br (toB (F2 ((J6 e1.length)==0))) (∃b e2,Gv 128 [Bx (F2 false),Bx (Hu es)] [Dd [F2 b,Hu e2]]∧Q [Dd [F2 b,Hu e2]]) (∃n,Gv 275 [Bx (Hu es)] [Bx (F0 .u64 n)]∧∃n1,Gv 275 [Bx (Hu e1)] [Bx (F0 .u64 n1)]∧I1 [] [F0 .u64 n,F0 .u64 n1]∧∀(n n2:Int),I1 [] [F0 .u64 n,F0 .u64 n2]→br (toB (F2 (decide (n2>0)))) (n2≠0∧I1 [] [F0 .u64 n2,F0 .u64 (Lr n n2)]∧M1 [F0 .u64 n2,F0 .u64 (Lr n n2)]<M1 [F0 .u64 n,F0 .u64 n2]) (∃es,Gv 129 [Bx (F0 .u64 n)] [Bx (Hu es)]∧∃b e2,Gv 128 [Bx (F2 false),Bx (Hu es)] [Dd [F2 b,Hu e2]]∧Q [Dd [F2 b,Hu e2]]))))) (br (toB (F2 ((J6 e1.length)==0))) (∃b e2,Gv 128 [Bx (F2 false),Bx (Hu es)] [Dd [F2 b,Hu e2]]∧Q [Dd [F2 b,Hu e2]]) (∃n,Gv 275 [Bx (Hu es)] [Bx (F0 .u64 n)]∧∃n1,Gv 275 [Bx (Hu e1)] [Bx (F0 .u64 n1)]∧I1 [] [F0 .u64 n,F0 .u64 n1]∧∀(n n2:Int),I1 [] [F0 .u64 n,F0 .u64 n2]→br (toB (F2 (decide (n2>0)))) (n2≠0∧I1 [] [F0 .u64 n2,F0 .u64 (Lr n n2)]∧M1 [F0 .u64 n2,F0 .u64 (Lr n n2)]<M1 [F0 .u64 n,F0 .u64 n2]) (∃es,Gv 129 [Bx (F0 .u64 n)] [Bx (Hu es)]∧∃b e2,Gv 128 [Bx (F2 false),Bx (Hu es)] [Dd [F2 b,Hu e2]]∧Q [Dd [F2 b,Hu e2]])))):=by kernel_rfl
theorem qq0 (p q:Bool) (es fs:List (List D)):wpF CC Gv an0 Tryz.f240 [.ag [.bool p,.sl es],.ag [.bool q,.sl fs]] Q=(
 br (toB (F2 ((J6 fs.length)==0))) (Q [Dd [F2 false,Hu []],Dd [F2 false,Hu []],Bx (F0 .i64 6)]) (∃e1 e2,Gv 274 [Bx (Hu es),Bx (Hu fs)] [Bx (Hu e1),Bx (Hu e2)]∧∃b es,Gv 128 [Bx (F2 !p==q),Bx (Hu e1)] [Dd [F2 b,Hu es]]∧∃b1 e3,Gv 128 [Bx (F2 p),Bx (Hu e2)] [Dd [F2 b1,Hu e3]]∧br (toB (F2 (decide ((J6 e2.length)>0)))) (br (toB (F2 !p==q)) (∃b2 e4,Gv 68 [Bx (F0 .i64 1)] [Dd [F2 b2,Hu e4]]∧∃b3 e5,Gv 313 [Dd [F2 b,Hu es],Dd [F2 b2,Hu e4]] [Dd [F2 b3,Hu e5]]∧∃b es,Gv 314 [Dd [F2 b1,Hu e3],Dd [F2 q,Hu fs]] [Dd [F2 b,Hu es]]∧Q [Dd [F2 b3,Hu e5],Dd [F2 b,Hu es],Bx (F0 .i64 0)]) (Q [Dd [F2 b,Hu es],Dd [F2 b1,Hu e3],Bx (F0 .i64 0)])) (Q [Dd [F2 b,Hu es],Dd [F2 b1,Hu e3],Bx (F0 .i64 0)]))):=by kernel_rfl
end
end Eng
end

section
namespace Eng
open Go Go.Proofs
set_option maxRecDepth 100000
theorem Vj {n:Nat} (h:0<n):lim n=n%1000000000::lim (n/1000000000):=by
 have e:n=val (n%1000000000::lim (n/1000000000)):=by simp only[val,qj];omega
 conv=>lhs;rw[e]
 refine vJ (J3 (Nat.mod_lt _ (by omega)) (qe _)) (.inr ?_);rw[List.getLast?_cons];rcases zr (n/1000000000)with h1|h1
 ·rw[h1];have:n/1000000000=0:=vh.1 h1;simp;omega
 ·cases hh:(lim (n/1000000000)).getLast? with
  |none=>have:n/1000000000=0:=vh.1 (List.getLast?_eq_none_iff.1 hh);simp;omega
  |some x=>rw[hh]at h1;simpa using h1
theorem qy (z:Int):qJ z= .ag [.bool (decide (z<0)),.sl (raw (lim z.natAbs))]:=rfl
theorem j7 {l:List Nat} (hl:Limbs l) (hr:l.length≤1073741824):qf CC 224 [.c (.sl (raw l))] [.c (.sl (raw (lim (val l))))]:=by
 refine qg (anns:=fun _=>⟨[.slot 0 (.slice none 0 0)],[],fun _ ds=>∃k,k≤l.length∧ds=[.sl (raw (l.take k))]∧val (l.take k)=val l,fun ds=>(toL (nth .undef ds 0)).length⟩) mixedT Tryz.func224 ?_;rw[Bn];simp only[Lm];refine⟨⟨l.length,ah _,by rw[Ts],by rw[Ts]⟩,?_⟩;rintro es ⟨k,hk,he,hv⟩;simp only[af,Hx,and_true]at he;subst he;have a0:(raw (l.take k)).length=k:=by rw[qh,U0];omega
 have a1:(k=0∨∃h:k-1<l.length,l[k-1]≠0)→[Bx (Hu (raw (l.take k)))]=[Bx (Hu (raw (lim (val l))))]:=by
  intro h;rw[←hv,vJ (hl.take k)];rcases h with rfl|⟨h,hne⟩
  ·exact .inl (by simp)
  ·refine .inr ?_;rw[List.getLast?_take];split
   ·simp
   ·rw[List.getElem?_eq_getElem h]
    simpa using hne
 refine brd (fun h=>?_) (fun h=>?_)
 ·rw[a0]at h ⊢;have hk0:0<k:=by omega
  have hw:J4 .i64 ((k:Int)-1)=((k-1:Nat):Int):=by rw[qK (by omega) (by omega)];omega
  rw[hw];have a2:k-1<(l.take k).length:=by rw[U0];omega
  have hg:(l.take k)[k-1]=l[k-1]:=List.getElem_take ..;refine⟨⟨by omega,by omega,qt a2⟩,_,qw a2,brb (fun hz=>?_) (fun hz=>?_)⟩
  ·have hz:l[k-1]=0:=by rw[hg]at hz;simpa using hz
   refine⟨⟨by omega,by omega,by omega,zL _⟩,⟨k-1,by omega,?_,?_⟩,?_⟩
   ·simp only[J9,j6,V1,List.take_take];congr 4;omega
   ·have:l.take k=l.take (k-1)++[l[k-1]]:=by have:=List.take_succ_eq_append_getElem (l:=l) (i:=k-1) (by omega);rw[show k-1+1=k by omega]at this;exact this
    rw[←hv,this,hz,qS];simp[val]
   ·simp only[J9,nth,toL,V1,U0,a0];omega
  ·exact a1 (.inr ⟨by omega,by rw[hg]at hz;simpa using hz⟩)
 ·rw[a0]at h;exact a1 (.inl (by omega))
theorem Wc {l:List Nat} (b:Bool) (hl:Limbs l) (hr:l.length≤1073741824):qf CC 128 [.c (.bool b),.c (.sl (raw l))] [.ag [.bool (b&&decide (0<val l)),.sl (raw (lim (val l)))]]:=by
 refine qg (anns:=an0) mixedT Tryz.func128 ?_;rw[Mz];refine⟨_,j7 hl hr,?_⟩;have hd:decide ((J6 (P1 (raw (lim (val l)))))>(0:Int))=decide (0<val l):=by rw[decide_eq_decide,qh,←qG (n:=val l)];simp only[Lm];omega
 rw[hd];refine jm (fun hb=>?_) (fun hb=>?_)
 ·subst hb;rw[Bool.true_and]
 ·subst hb;rw[Bool.false_and]
theorem xd {l:List Nat} (b:Bool) (hl:Limbs l) (hr:l.length≤1073741824) {z:Int} (hz:z=if b then-(val l:Int)else(val l:Int)):
 qf CC 128 [.c (.bool b),.c (.sl (raw l))] [qJ z]:=by
 have h:=Wc b hl hr;have e:qJ z= .ag [.bool (b&&decide (0<val l)),.sl (raw (lim (val l)))]:=by
  unfold qJ cI;cases b with
  |false=>simp only[Bool.false_eq_true,if_false]at hz;subst hz;rw[Lv,Bool.false_and,decide_eq_false (by omega)]
  |true=>simp only[if_true]at hz;subst hz;rw[No,Lv,Bool.true_and];congr 3;rw[decide_eq_decide];omega
 rw[e];exact h
theorem vi {u:Nat} (hu:u<18446744073709551616):qf CC 129 [.c (.int .u64 (u:Int))] [.c (.sl (raw (lim u)))]:=by
 have h3:(lim u).length≤3:=qq (am hu (by decide));refine qg (anns:=fun _=>⟨[.own 3 15 1,.slot 0 (.int .u64 0)],[],fun _ ds=>∃(h:List Nat) (v:Nat),ds=[.sl (raw h),.int .u64 (v:Int)]∧v≤u∧lim u=h++lim v,fun ds=>(toI (nth .undef ds 1)).toNat⟩) mixedT Tryz.func129 ?_;rw[PI];refine⟨⟨[],u,rfl,ah _,rfl⟩,?_⟩;rintro es n ⟨h,v,he,hv,hl⟩;simp only[af,Hx,Hv,true_and,and_true]at he;obtain⟨rfl,rfl⟩:=he;have hlen:h.length≤3:=by have:=congrArg P1 hl;rw[List.length_append]at this;omega
 refine brd (fun h0=>?_) (fun h0=>?_)
 ·have a0:0<v:=by omega
  rw[Mi,Mj,zR (by omega) (by omega),x9 (by omega) (by omega)];refine⟨by omega,⟨by rw[qh];unfold room;omega,zL [v%1000000000]⟩,by omega,⟨h++[v%1000000000],v/1000000000,?_,by omega,?_⟩,?_⟩
  ·rw[qV];rfl
  ·rw[hl,Vj a0,List.append_assoc];rfl
  ·simp only[nth,toI,J9];omega
 ·have a0:v=0:=by omega
  subst a0;rw[hl,Va,W2]
theorem xv {n:Int} (h1: -9223372036854775808≤n) (h2:n<9223372036854775808):qf CC 68 [.c (.int .i64 n)] [qJ n]:=by
 refine qg (anns:=an0) mixedT Tryz.func68 ?_;rw[Vi];have hl:∀u:Nat,u<18446744073709551616→(lim u).length≤1073741824:=fun u hu=>by have:(lim u).length≤3:=qq (am hu (by decide));omega
 refine brd (fun h=>?_) (fun h=>?_)
 ·obtain⟨u,rfl⟩:∃u:Nat,n= -(u:Int):=⟨n.natAbs,by omega⟩;have e:J4 .u64 (0-J4 .u64 (-(u:Int)))=(u:Int):=by simp[J4,IntKind.bits,IntKind.signed];omega
  rw[e];exact⟨_,vi (by omega),_,_,xd true (qe u) (hl u (by omega)) (z:= -(u:Int)) (by simp[qj]),rfl⟩
 ·obtain⟨u,rfl⟩:∃u:Nat,n=(u:Int):=⟨n.natAbs,by omega⟩;rw[x9 (by omega) (by omega)];exact⟨_,vi (by omega),_,_,xd false (qe u) (hl u (by omega)) (z:=(u:Int)) (by simp[qj]),rfl⟩
theorem Qz {l:List Nat} (hl:Limbs l) (h2:l.length≤2):qf CC 275 [.c (.sl (raw l))] [.c (.int .u64 (val l:Int))]:=by
 refine qg (anns:=fun _=>⟨[.slot 3 (.int .u64 0),.slot 4 (.int .i64 0)],[],fun _ ds=>∃k:Nat,k≤l.length∧ds=[.int .u64 (val (l.drop k):Int),.int .i64 ((k:Int)-1)],fun ds=>(toI (nth .undef ds 1)+1).toNat⟩) mixedT Tryz.func275 ?_;rw[YZ];simp only[Lm,qh];refine⟨⟨l.length,ah _,by rw[U3,qK (by omega) (by omega)];rfl⟩,?_⟩;rintro n m ⟨k,hk,he⟩;simp only[af,Hv,true_and,and_true]at he;obtain⟨rfl,rfl⟩:=he;refine brd (fun h=>?_) (fun h=>?_)
 ·have a0:k-1<l.length:=by omega
  have ht:((k:Int)-1).toNat=k-1:=by omega
  rw[ht];have hd:val (l.drop (k-1))=l[k-1]+1000000000*val (l.drop k):=by rw[T1 a0,show k-1+1=k by omega];rfl
  have hlt:=qO (hl.drop k);have hdl:(l.drop k).length≤1:=by rw[List.length_drop];omega
  have hlt2:val (l.drop k)<1000000000:=by have:1000000000^(l.drop k).length≤1000000000^1:=aj (by omega) hdl;omega
  have hx:=hl.get a0;have hw:J4 .u64 (J4 .u64 ((val (l.drop k):Int)*1000000000)+J4 .u64 (l[k-1]:Int))=(val (l.drop (k-1)):Int):=by rw[x9 (n:=(val (l.drop k):Int)*1000000000) (by omega) (by omega),x9 (n:=(l[k-1]:Int)) (by omega) (by omega),x9 (by omega) (by omega)];omega
  have a1:J4 .i64 ((k:Int)-1-1)=((k-1:Nat):Int)-1:=by rw[qK (by omega) (by omega)];omega
  refine⟨⟨by omega,by omega,qt a0⟩,_,qw a0,⟨k-1,by omega,by rw[hw,a1]⟩,?_⟩;rw[a1];simp only[nth,toI];omega
 ·have a0:k=0:=by omega
  subst a0;rw[V1]
theorem Q0 (z:Int):qf CC 173 [qJ z] [.c (.int .i64 (sgn z))]:=by
 refine qg (anns:=an0) mixedT Tryz.func173 ?_;rw[qy,Bo];simp only[Lm,qh];unfold sgn;refine brb (fun h=>?_) (fun h=>?_)
 ·have h0:(lim z.natAbs).length=0:=by simpa using h
  have:z.natAbs=0:=vh.1 (List.eq_nil_of_length_eq_zero h0);rw[if_neg (by omega),if_neg (by omega)]
 ·have h0:(lim z.natAbs).length≠0:=by simpa using h
  have:0<z.natAbs:=qG.1 (by omega);refine jm (fun h=>?_) (fun h=>?_)
  ·rw[if_pos (by simpa using h)]
  ·have:¬z<0:=by simpa using h
   rw[if_neg this,if_pos (by omega)]
theorem jQ {x y:Nat} (hra:(lim x).length≤1073741824) (hrb:(lim y).length≤1073741824):qf CC 127 [.c (.sl (raw (lim x))),.c (.sl (raw (lim y)))] [.c (.int .i64 (Q9 x y))]:=by
 generalize hA:lim x=A at *;generalize hB:lim y=B at *;have lA:Limbs A:=hA▸qe _;have lB:Limbs B:=hB▸qe _;have vA:val A=x:=hA▸qj _;have vB:val B=y:=hB▸qj _;have zA:A=[]∨A.getLast?≠some 0:=hA▸zr _;have zB:B=[]∨B.getLast?≠some 0:=hB▸zr _;refine qg (anns:=fun _=>⟨[.slot 5 (.int .i64 0)],[],fun _ ds=>∃k:Nat,k≤A.length∧ds=[.int .i64 ((k:Int)-1)]∧A.drop k=B.drop k,fun ds=>(toI (nth .undef ds 0)+1).toNat⟩) mixedT Tryz.func127 ?_;rw[HB];simp only[Lm,qh];refine brb (fun h=>?_) (fun h=>?_)
 ·have h:A.length≠B.length:=by intro e;rw[e]at h;simp at h
  refine brd (fun h1=>?_) (fun h1=>?_)
  ·have a2:B≠[]:=(by intro e;have h0:B.length=0:=(by rw[e];rfl);omega);have:=Qt lA (zB.resolve_left a2) a2 (by omega);rw[Q9,if_pos (by omega)]
  ·have a2:A≠[]:=(by intro e;have h0:A.length=0:=(by rw[e];rfl);omega);have:=Qt lB (zA.resolve_left a2) a2 (by omega);rw[Q9,if_neg (by omega),if_pos (by omega)]
 ·have h:A.length=B.length:=by
   have:(A.length:Int)=B.length:=by simpa using h
   omega
  refine⟨⟨A.length,ah _,by rw[qK (by omega) (by omega)],by rw[U3,h,U3]⟩,?_⟩;rintro n ⟨k,hk,he,hd⟩;simp only[af,Hv,true_and,and_true]at he;subst he;refine brd (fun h1=>?_) (fun h1=>?_)
  ·have a0:k-1<A.length:=by omega
   have a1:k-1<B.length:=by omega
   have ht:((k:Int)-1).toNat=k-1:=by omega
   have a3:A.drop (k-1+1)=B.drop (k-1+1):=by rw[show k-1+1=k by omega];exact hd
   rw[ht];refine⟨⟨by omega,by omega,qt a0⟩,_,qw a0,⟨by omega,by omega,qt a1⟩,_,qw a1,brd (fun h2=>?_) (fun h2=>?_)⟩
   ·have:=wi lA h a0 a3 (by omega);rw[Q9,if_pos (by omega)]
   ·refine⟨⟨by omega,by omega,qt a0⟩,_,qw a0,⟨by omega,by omega,qt a1⟩,_,qw a1,brd (fun h3=>?_) (fun h3=>?_)⟩
    ·have:=wi lB h.symm a1 a3.symm (by omega);rw[Q9,if_neg (by omega),if_pos (by omega)]
    ·have hw:J4 .i64 ((k:Int)-1-1)=((k-1:Nat):Int)-1:=by rw[qK (by omega) (by omega)];omega
     rw[hw];refine⟨⟨k-1,by omega,rfl,?_⟩,?_⟩
     ·rw[T1 a0,T1 a1,a3];congr 1;omega
     ·simp only[nth,toI];omega
  ·have a0:k=0:=by omega
   subst a0;have:A=B:=by simpa using hd
   rw[Q9,←vA,←vB,this,if_neg (by omega),if_neg (by omega)]
theorem Vk {x y:Int} (hx:Sm x) (hy:Sm y):qf CC 263 [qJ x,qJ y] [.c (.int .i64 (yz x y))]:=by
 refine qg (anns:=an0) mixedT Tryz.func263 ?_;have lx:=hx.len;have ly:=hy.len;rw[qy x,qy y,E8];have c1:=jQ (x:=x.natAbs) (y:=y.natAbs) (by omega) (by omega);have c2:=jQ (x:=y.natAbs) (y:=x.natAbs) (by omega) (by omega);refine brb (fun h=>?_) (fun h=>?_)
 ·refine jm (fun h1=>?_) (fun h1=>?_)
  ·have h1:x<0:=by simpa using h1
   have h2:¬y<0:=by intro h2;rw[decide_eq_true h1,decide_eq_true h2]at h;simp at h
   rw[yz,if_pos (by omega)]
  ·have h1:¬x<0:=by simpa using h1
   have h2:y<0:=by apply Aw;intro h2;rw[decide_eq_false h1,decide_eq_false h2]at h;simp at h
   rw[yz,if_neg (by omega),if_pos (by omega)]
 ·refine jm (fun h1=>?_) (fun h1=>?_)
  ·have h1:x<0:=by simpa using h1
   have h2:y<0:=by apply Aw;intro h2;rw[decide_eq_true h1,decide_eq_false h2]at h;simp at h
   refine⟨_,c2,?_⟩;have:Q9 y.natAbs x.natAbs=yz x y:=by
    unfold Q9 yz;by_cases h3:x<y
    ·rw[if_pos h3,if_pos (by omega)]
    ·rw[if_neg h3,if_neg (by omega)];by_cases h4:y<x
     ·rw[if_pos h4,if_pos (by omega)]
     ·rw[if_neg h4,if_neg (by omega)]
   rw[this]
  ·have h1:¬x<0:=by simpa using h1
   have h2:¬y<0:=by intro h2;rw[decide_eq_false h1,decide_eq_true h2]at h;simp at h
   refine⟨_,c1,?_⟩;have:Q9 x.natAbs y.natAbs=yz x y:=by
    unfold Q9 yz;by_cases h3:x<y
    ·rw[if_pos h3,if_pos (by omega)]
    ·rw[if_neg h3,if_neg (by omega)];by_cases h4:y<x
     ·rw[if_pos h4,if_pos (by omega)]
     ·rw[if_neg h4,if_neg (by omega)]
   rw[this]
theorem Bp {o:List Nat} {k c:Nat} (ho:o.length=k):(o++[0]).set k c=o++[c]:=by
 rw[List.set_append_right _ _ (by omega),ho];simp
def qpI (a b:List Nat):List D→List D→Prop:=fun _ ds=>∃(k:Nat) (o:List Nat) (c:Nat),k≤a.length∧o.length=k∧ds=[.sl (raw (o++Pl (a.length+1-k) 0)),.int .u32 (c:Int),.int .i64 (k:Int)]∧Limbs o∧c≤1∧val o+1000000000^k*c=val (a.take k)+val (b.take k)
def qpM (a:List Nat):List D→Nat:=fun ds=>a.length-(toI (nth .undef ds 2)).toNat
theorem We {a b:List Nat} (ha:Limbs a) (hb:Limbs b) (hra:a.length≤1073741823) (hab:b.length≤a.length):
 Ta (qf CC) (qpI a b) (qpM a)
  (fun r=>r=[.c (.sl (raw (lim (val a+val b))))]) (raw a) (raw b):=by
 unfold Ta qpI qpM;simp only[Lm,qh];have hn:J4 .i64 ((a.length:Int)+1)=((a.length+1:Nat):Int):=by rw[qK (by omega) (by omega)];omega
 rw[hn,J9];refine⟨⟨by omega,by omega,by unfold room;omega⟩,⟨0,[],0,by omega,rfl,by rw[xe];rfl,Hy,by omega,by simp[val]⟩,?_⟩;rintro es n m ⟨k,o,c,hk,ho,he,lo,hc,hv⟩;simp only[af,Hv,Hx,true_and,and_true]at he;obtain⟨rfl,rfl,rfl⟩:=he;have a1:(o++Pl (a.length+1-k) 0).length=a.length+1:=by simp[ho];omega
 refine brd (fun h1=>?_) (fun h1=>?_)
 ·have a0:k<a.length:=by omega
  have hxk:=ha.get a0;have hk1:J4 .i64 ((k:Int)+1)=((k+1:Nat):Int):=by rw[qK (by omega) (by omega)];omega
  rw[J9,hk1,qh,a1];have a3:∀(t:Nat),t≤1999999999→t=a[k]+c+b.getD k 0→
   (((0:Int)≤(k:Int)∧(k:Int)<((a.length+1:Nat):Int))∧0<1∧(1000000000:Int)≠0∧
     (∃(k':Nat) (o':List Nat) (c':Nat),k'≤a.length∧o'.length=k'∧[Hu (upd (raw (o++Pl (a.length+1-k) 0)) k (upd (nth [] (raw (o++Pl (a.length+1-k) 0)) k) 0 (F0 .u32 (Lr (t:Int) 1000000000)))),F0 .u32 (J4 .u32 (Ls (t:Int) 1000000000)),F0 .i64 ((k+1:Nat):Int)]=
        [.sl (raw (o'++Pl (a.length+1-k') 0)),.int .u32 (c':Int),.int .i64 (k':Int)]∧Limbs o'∧c'≤1∧val o'+1000000000^k'*c'=val (a.take k')+val (b.take k'))∧
     a.length-(toI (nth .undef [Hu (upd (raw (o++Pl (a.length+1-k) 0)) k (upd (nth [] (raw (o++Pl (a.length+1-k) 0)) k) 0 (F0 .u32 (Lr (t:Int) 1000000000)))),F0 .u32 (J4 .u32 (Ls (t:Int) 1000000000)),F0 .i64 ((k+1:Nat):Int)] 2)).toNat<
      a.length-(toI (nth .undef [Hu (raw (o++Pl (a.length+1-k) 0)),F0 .u32 (c:Int),F0 .i64 (k:Int)] 2)).toNat):=by
   intro t ht hte;rw[Mi,Mj,zR (by omega) (by omega),xG (by rw[a1];omega),wk ho (by omega)];refine⟨⟨by omega,by omega⟩,by omega,by omega,⟨k+1,o++[t%1000000000],t/1000000000,by omega,by simp[ho],by rw[show a.length+1-k-1=a.length+1-(k+1)by omega],lo.append (J3 (by omega) Hy),by omega,zJ a0 ho hv (by omega)⟩,?_⟩;simp only[nth,toI];omega
  refine⟨⟨by omega,by omega,qt a0⟩,_,qw a0,brd (fun h2=>?_) (fun h2=>?_)⟩
  ·have a2:k<b.length:=by omega
   have hyk:=hb.get a2;have hgd:b.getD k 0=b[k]:=by simp[W1,a2]
   have hw:J4 .u32 (J4 .u32 ((c:Int)+(a[k]:Int))+(b[k]:Int))=((a[k]+c+b[k]:Nat):Int):=by rw[zR (n:=(c:Int)+(a[k]:Int)) (by omega) (by omega),zR (by omega) (by omega)];omega
   refine⟨⟨by omega,by omega,qt a2⟩,_,qw a2,by omega,?_⟩;rw[hw];exact a3 _ (by omega) (by omega)
  ·have hgd:b.getD k 0=0:=Jo (by omega);have hw:J4 .u32 ((c:Int)+(a[k]:Int))=((a[k]+c:Nat):Int):=by rw[zR (by omega) (by omega)];omega
   rw[hw];exact⟨by omega,a3 _ (by omega) (by omega)⟩
 ·have a0:k=a.length:=by omega
  subst a0;rw[Ts,W0 hab]at hv;have e1:a.length+1-a.length=1:=by omega
  rw[e1]at a1 ⊢;rw[J9,qh,a1,xG (by rw[a1];omega),List.replicate_one,Bp ho];have hg:=j7 (l:=o++[c]) (lo.append (J3 (by omega) Hy)) (by simp[ho];omega);rw[vE,ho,hv]at hg;exact⟨⟨by omega,by omega⟩,by omega,_,hg,rfl⟩
theorem Bq {a b:List Nat} (ha:Limbs a) (hb:Limbs b) (hra:a.length≤1073741823) (hrb:b.length≤1073741823):qf CC 368 [.c (.sl (raw a)),.c (.sl (raw b))] [.c (.sl (raw (lim (val a+val b))))]:=by
 by_cases hab:a.length<b.length
 ·refine qg (anns:=fun _=>⟨[.own 5 55 1,.slot 6 (.int .u32 0),.slot 7 (.int .i64 0)],[],qpI b a,qpM b⟩) mixedT Tryz.func368 ?_;have h:=We hb ha hrb (by omega);rw[Tb];simp only[Lm,qh];refine brd (fun _=>?_) (fun h0=>by omega);rw[Nat.add_comm (val b)]at h;exact h
 ·refine qg (anns:=fun _=>⟨[.own 5 55 1,.slot 6 (.int .u32 0),.slot 7 (.int .i64 0)],[],qpI a b,qpM a⟩) mixedT Tryz.func368 ?_;have h:=We ha hb hra (by omega);rw[Tb];simp only[Lm,qh];exact brd (fun h0=>by omega) (fun _=>h)
end Eng
end

section
namespace Eng
open Go Go.Proofs
set_option maxRecDepth 100000
theorem Q1 {a b:List Nat} (ha:Limbs a) (hb:Limbs b) (hra:a.length≤1073741824) (hab:val b≤val a):qf CC 338 [.c (.sl (raw a)),.c (.sl (raw b))] [.c (.sl (raw (lim (val a-val b))))]:=by
 refine qg (anns:=fun _=>⟨[.own 5 45 1,.slot 6 (.int .u32 0),.slot 7 (.int .i64 0)],[],fun _ ds=>∃(k:Nat) (o:List Nat) (c:Nat),k≤a.length∧o.length=k∧ds=[.sl (raw (o++Pl (a.length-k) 0)),.int .u32 (c:Int),.int .i64 (k:Int)]∧Limbs o∧c≤1∧val o+val (b.take k)=val (a.take k)+1000000000^k*c,fun ds=>a.length-(toI (nth .undef ds 2)).toNat⟩) mixedT Tryz.func338 ?_;rw[PJ];simp only[Lm,qh];refine⟨⟨by omega,by omega,by unfold room;omega⟩,⟨0,[],0,by omega,rfl,by rw[J9,xe];rfl,Hy,by omega,by simp[val]⟩,?_⟩;rintro es n m ⟨k,o,c,hk,ho,he,lo,hc,hv⟩;simp only[af,Hv,Hx,true_and,and_true]at he;obtain⟨rfl,rfl,rfl⟩:=he;have hol:(o++Pl (a.length-k) 0).length=a.length:=by simp[ho];omega
 refine brd (fun h1=>?_) (fun h1=>?_)
 ·have a0:k<a.length:=by omega
  have hxk:=ha.get a0;have hk1:J4 .i64 ((k:Int)+1)=((k+1:Nat):Int):=by rw[qK (by omega) (by omega)];omega
  rw[J9,hk1,qh,hol];have hw0:J4 .u32 (J4 .u32 ((a[k]:Int)+1000000000)-(c:Int))=((a[k]+1000000000-c:Nat):Int):=by rw[zR (n:=(a[k]:Int)+1000000000) (by omega) (by omega),zR (by omega) (by omega)];omega
  refine⟨⟨by omega,by omega,qt a0⟩,_,qw a0,?_⟩;rw[hw0];refine brd (fun h2=>?_) (fun h2=>?_)
  ·have a2:k<b.length:=by omega
   have hyk:=hb.get a2;have a1:b.getD k 0=b[k]:=by simp[W1,a2]
   refine⟨⟨by omega,by omega,qt a2⟩,_,qw a2,?_⟩;have hw:J4 .u32 (((a[k]+1000000000-c:Nat):Int)-(b[k]:Int))=((a[k]+1000000000-c-b[k]:Nat):Int):=by rw[zR (by omega) (by omega)];omega
   rw[hw];refine brd (fun h3=>?_) (fun h3=>?_)
   ·have a3:J4 .u32 (((a[k]+1000000000-c-b[k]:Nat):Int)-1000000000)=((a[k]-(c+b[k]):Nat):Int):=by rw[zR (by omega) (by omega)];omega
    rw[a3,xG (by simp[ho];omega),wk ho (by omega)];refine⟨⟨by omega,by omega⟩,by omega,⟨k+1,o++[a[k]-(c+b[k])],0,by omega,by simp[ho],by rw[show a.length-k-1=a.length-(k+1)by omega];rfl,lo.append (J3 (by omega) Hy),by omega,z6 a0 ho hv (by have:=a1;omega)⟩,?_⟩;simp only[nth,toI];omega
   ·rw[xG (by simp[ho];omega),wk ho (by omega)];refine⟨⟨by omega,by omega⟩,by omega,⟨k+1,o++[a[k]+1000000000-c-b[k]],1,by omega,by simp[ho],by rw[show a.length-k-1=a.length-(k+1)by omega];rfl,lo.append (J3 (by omega) Hy),by omega,z6 a0 ho hv (by have:=a1;omega)⟩,?_⟩;simp only[nth,toI];omega
  ·have a1:b.getD k 0=0:=Jo (by omega);refine brd (fun h3=>?_) (fun h3=>?_)
   ·have a3:J4 .u32 (((a[k]+1000000000-c:Nat):Int)-1000000000)=((a[k]-c:Nat):Int):=by rw[zR (by omega) (by omega)];omega
    rw[a3,xG (by simp[ho];omega),wk ho (by omega)];refine⟨⟨by omega,by omega⟩,by omega,⟨k+1,o++[a[k]-c],0,by omega,by simp[ho],by rw[show a.length-k-1=a.length-(k+1)by omega];rfl,lo.append (J3 (by omega) Hy),by omega,z6 a0 ho hv (by have:=a1;omega)⟩,?_⟩;simp only[nth,toI];omega
   ·rw[xG (by simp[ho];omega),wk ho (by omega)];refine⟨⟨by omega,by omega⟩,by omega,⟨k+1,o++[a[k]+1000000000-c],1,by omega,by simp[ho],by rw[show a.length-k-1=a.length-(k+1)by omega];rfl,lo.append (J3 (by omega) Hy),by omega,z6 a0 ho hv (by have:=a1;omega)⟩,?_⟩;simp only[nth,toI];omega
 ·have a0:k=a.length:=by omega
  subst a0;rw[Ts]at hv;rw[Nat.sub_self,List.replicate_zero,W2];have h2:=qO lo;rw[ho]at h2;have h3:val b=val (b.take a.length)+1000000000^(b.take a.length).length*val (b.drop a.length):=by rw[←qS,List.take_append_drop]
  have h4:=qO ha;have h5:val (b.take a.length)=val b:=by
   rcases Nat.lt_or_ge b.length a.length with hl|hl
   ·rw[W0 (by omega)]
   ·rw[U0,Nat.min_eq_left hl]at h3;rcases an (val (b.drop a.length))with h6|h6
    ·rw[h6]at h3;omega
    ·have:=ak (1000000000^a.length) h6;omega
  have h6:c=0:=by
   rcases an c with h6|h6
   ·exact h6
   ·have:=ak (1000000000^a.length) h6;omega
  subst h6;have hg:=j7 lo (by omega);rw[show val o=val a-val b by omega]at hg;exact⟨_,hg,rfl⟩
set_option maxHeartbeats 1000000 in
theorem Ga {a b:List Nat} (ha:Limbs a) (hb:Limbs b) (hra:a.length≤536870912) (hrb:b.length≤536870912):
 qf CC 271 [.c (.sl (raw a)),.c (.sl (raw b))] [.c (.sl (raw (lim (val a*val b))))]:=by
 refine qg (anns:=JW
  ⟨[.own 5 68 1,.slot 6 (.int .i64 0)],[],fun _ ds=>∃(i:Nat) (o:List Nat),i≤a.length∧ds=[.sl (raw o),.int .i64 (i:Int)]∧o.length=a.length+b.length∧Limbs o∧(∀j,i+b.length≤j→o.getD j 0=0)∧val o=val (a.take i)*val b,fun ds=>a.length-(toI (nth .undef ds 1)).toNat⟩
  ⟨[.own 5 68 1,.slot 7 (.int .u64 0),.slot 8 (.int .i64 0)],[.slot 6 (.int .i64 0),.own 5 68 1],fun g ds=>∃(i k c:Nat) (o0 o:List Nat),g=[.int .i64 (i:Int),.sl (raw o0)]∧i<a.length∧k≤b.length∧c<1000000000∧ds=[.sl (raw o),.int .u64 (c:Int),.int .i64 (k:Int)]∧o.length=a.length+b.length∧Limbs o∧(∀j,i+b.length≤j→o.getD j 0=0)∧val o+1000000000^(i+k)*c=val o0+1000000000^i*(a.getD i 0*val (b.take k)),fun ds=>b.length-(toI (nth .undef ds 2)).toNat⟩) mixedT Tryz.func271 ?_
 rw[PK];simp only[Lm,qh];have hab:J4 .i64 ((a.length:Int)+(b.length:Int))=((a.length+b.length:Nat):Int):=by rw[qK (by omega) (by omega)];omega
 rw[hab,J9,xe];refine⟨⟨by omega,by omega,by unfold room;omega⟩,⟨0,Pl (a.length+b.length) 0,by omega,rfl,by simp,fun y hy=>by rw[List.eq_of_mem_replicate hy];omega,fun j _=>by simp[W1,List.getElem?_replicate];split<;>rfl,by simp[Qv,val]⟩,?_⟩;rintro es n ⟨i,o0,hi,he,hol,lo,hz,hv⟩;simp only[af,Hv,Hx,true_and,and_true]at he;obtain⟨rfl,rfl⟩:=he;refine brd (fun h1=>?_) (fun h1=>?_)
 ·have a0:i<a.length:=by omega
  have hai:=ha.get a0;refine⟨⟨i,0,0,o0,o0,rfl,a0,by omega,by omega,rfl,hol,lo,hz,by simp[val]⟩,?_⟩;rintro es m k' ⟨i',k,c,o0',o,hg,_,hk,hc,he,a2,a8,a7,a9⟩;simp only[af,Hv,Hx,true_and,and_true]at hg he;obtain⟨hi',a5⟩:=hg;obtain⟨rfl,rfl,rfl⟩:=he;have a3:i'=i:=by omega
  subst a3;have a5:=Vb a5;subst a5;rw[xu a0]at a9;refine brd (fun h2=>?_) (fun h2=>?_)
  ·have a1:k<b.length:=by omega
   have hbk:=hb.get a1;have hj:i'+k<o.length:=by omega
   have hoj:=a8.get hj;have hw:J4 .i64 ((i':Int)+(k:Int))=((i'+k:Nat):Int):=by rw[qK (by omega) (by omega)];omega
   have a4:J4 .i64 ((k:Int)+1)=((k+1:Nat):Int):=by rw[qK (by omega) (by omega)];omega
   rw[hw,a4,J9,J9,J9,qh];refine⟨⟨by omega,by omega⟩,_,qw hj,⟨by omega,by omega,qt a0⟩,_,qw a0,⟨by omega,by omega,qt a1⟩,_,qw a1,by omega,⟨by omega,by omega⟩,by omega,by omega,?_⟩;have hp:a[i']*b[k]≤999999999*999999999:=Nat.mul_le_mul (by omega) (by omega);obtain⟨p,a6⟩:∃p,p=a[i']*b[k]:=⟨_,rfl⟩;rw[←a6]at hp;have hpi:(a[i']:Int)*(b[k]:Int)=(p:Int):=by rw[a6];exact(Int.natCast_mul _ _).symm
   obtain⟨t,hte⟩:∃t,t=o[i'+k]+p+c:=⟨_,rfl⟩;have ht:J4 .u64 (J4 .u64 ((c:Int)+J4 .u64 (o[i'+k]:Int))+J4 .u64 (J4 .u64 (a[i']:Int)*J4 .u64 (b[k]:Int)))=(t:Int):=by rw[x9 (n:=(o[i'+k]:Int)) (by omega) (by omega),x9 (n:=(a[i']:Int)) (by omega) (by omega),x9 (n:=(b[k]:Int)) (by omega) (by omega),hpi,x9 (n:=(p:Int)) (by omega) (by omega),x9 (n:=(c:Int)+(o[i'+k]:Int)) (by omega) (by omega),x9 (by omega) (by omega)];omega
   rw[ht,Mi,Mj,zR (n:=((t%1000000000:Nat):Int)) (by omega) (by omega),x9 (n:=((t/1000000000:Nat):Int)) (by omega) (by omega),xG hj];refine⟨⟨i',k+1,t/1000000000,o0,o.set (i'+k) (t%1000000000),rfl,a0,by omega,by omega,rfl,by simp[a2],Qj a8 (by omega),fun j hjj=>by rw[zY (by omega)];exact a7 j hjj,?_⟩,?_⟩
   ·have h3:=Jp (t%1000000000) hj;rw[xu hj]at h3;rw[xu a0,qF,xu a1];have h4:=WR (k:=i'+k) (show t%1000000000+1000000000*(t/1000000000)=t by omega);rw[show i'+(k+1)=i'+k+1 by omega];have h5:1000000000^(i'+k)*t=1000000000^(i'+k)*o[i'+k]+1000000000^(i'+k)*p+1000000000^(i'+k)*c:=by rw[hte,ai,ai]
    have h6:1000000000^i'*(a[i']*(val (b.take k)+1000000000^k*b[k]))=1000000000^i'*(a[i']*val (b.take k))+1000000000^(i'+k)*p:=by rw[ai,ai,a6,ap];congr 1;simp only[ao,Nat.mul_left_comm]
    omega
   ·simp only[nth,toI];omega
  ·have a1:k=b.length:=by omega
   subst a1;have hj:i'+b.length<o.length:=by omega
   have hw:J4 .i64 ((i':Int)+(b.length:Int))=((i'+b.length:Nat):Int):=by rw[qK (by omega) (by omega)];omega
   have a4:J4 .i64 ((i':Int)+1)=((i'+1:Nat):Int):=by rw[qK (by omega) (by omega)];omega
   rw[hw,a4,J9,qh,zR (n:=(c:Int)) (by omega) (by omega),xG hj];refine⟨⟨by omega,by omega⟩,by omega,⟨i'+1,o.set (i'+b.length) c,by omega,rfl,by simp[a2],Qj a8 hc,fun j hjj=>by rw[zY (by omega)];exact a7 j (by omega),?_⟩,?_⟩
   ·have h3:=Jp c hj;rw[a7 _ (ah _)]at h3;rw[Ts]at a9;rw[qF,xu a0,Nat.add_mul,←hv,ao];omega
   ·simp only[nth,toI];omega
 ·have a0:i=a.length:=by omega
  subst a0;rw[Ts]at hv;have hg:=j7 lo (by omega);rw[hv]at hg;exact⟨_,hg,rfl⟩
theorem PL {a:List Nat} {d:Nat} (ha:Limbs a) (hd:d<1000000000) (hra:a.length≤536870912):qf CC 337 [.c (.sl (raw a)),.c (.int .u32 (d:Int))] [.c (.sl (raw (lim (val a*d))))]:=by
 refine qg (anns:=an0) mixedT Tryz.func337 ?_;rw[AB];have h1:=j7 (l:=[d]) (J3 hd Hy) (by simp);have hv:val [d]=d:=by simp[val]
 rw[hv]at h1;have hl:(lim d).length≤536870912:=by have:(lim d).length≤1:=qq (by omega);omega
 have h2:=Ga ha (qe d) hra hl;rw[qj]at h2;exact⟨_,h1,_,h2,rfl⟩
theorem Vl {x:Int} (hx:Sm x):qf CC 239 [qJ x] [qJ (-x)]:=by
 refine qg (anns:=an0) mixedT Tryz.func239 ?_;have lx:=hx.len;rw[qy x,E9];refine⟨_,_,xd (!decide (x<0)) (qe x.natAbs) (by omega) (z:= -x) ?_,rfl⟩;rw[qj];by_cases h:x<0
 ·simp[h];omega
 ·simp[h];omega
theorem HC {x y n:Nat} (hx:(lim x).length≤n) (hy:(lim y).length≤n):(lim (x+y)).length≤n+1:=by
 refine qq ?_;have h1:=qO (qe x);have h2:=qO (qe y);rw[qj]at h1 h2;have hB:∀{i j:Nat},i≤j→(1000000000:Nat)^i≤1000000000^j:=fun h=>aj (by decide) h
 have h3:=hB hx;have h4:=hB hy;rw[Nat.pow_succ];generalize (1000000000:Nat)^n=T at *;omega
theorem Vm {x y:Int} (hx:Sm x) (hy:Sm y):qf CC 314 [qJ x,qJ y] [qJ (x+y)]:=by
 refine qg (anns:=an0) mixedT Tryz.func314 ?_;have lx:=hx.len;have ly:=hy.len;have a2:(lim (x.natAbs+y.natAbs)).length≤1073741824:=by have:=HC (n:=1000) lx ly;omega
 have a0:∀{m n:Nat},m≤n→(lim m).length≤(lim n).length:=fun{m n} h=>qq (Nat.lt_of_le_of_lt h (by have:=qO (qe n);rw[qj]at this;exact this))
 rw[qy x,qy y,EA];have hp:=Bq (qe x.natAbs) (qe y.natAbs) (by omega) (by omega);rw[qj,qj]at hp;have hc:=jQ (x:=x.natAbs) (y:=y.natAbs) (by omega) (by omega);refine brb (fun h=>?_) (fun h=>?_)
 ·have hs:(x<0)↔(y<0):=by
   have:decide (x<0)=decide (y<0):=by simpa using h
   rw[decide_eq_decide]at this;exact this
  refine⟨_,hp,_,_,xd (decide (x<0)) (qe _) a2 (z:=x+y) ?_,rfl⟩;rw[qj];by_cases h1:x<0
  ·have:=hs.1 h1;simp[h1];omega
  ·have:¬y<0:=fun h2=>h1 (hs.2 h2)
   simp[h1];omega
 ·have hs:(x<0)↔¬(y<0):=by
   have h2:¬(decide (x<0)=decide (y<0)):=by simpa using h
   rw[decide_eq_decide]at h2;constructor
   ·intro a b;exact h2 ⟨fun _=>b,fun _=>a⟩
   ·intro b;apply Aw;intro a;exact h2 ⟨fun c=>absurd c a,fun c=>absurd c b⟩
  refine⟨_,hc,brd (fun h1=>?_) (fun h1=>?_)⟩
  ·have a1:y.natAbs≤x.natAbs:=by
    unfold Q9 at h1;split at h1
    ·omega
    ·omega
   have hm:=Q1 (qe x.natAbs) (qe y.natAbs) (by omega) (by rw[qj,qj];exact a1);rw[qj,qj]at hm;refine⟨_,hm,_,_,xd (decide (x<0)) (qe _) (by have:=a0 (show x.natAbs-y.natAbs≤x.natAbs by omega);omega) (z:=x+y) ?_,rfl⟩;rw[qj];by_cases h2:x<0
   ·have:=hs.1 h2;simp[h2];omega
   ·have:y<0:=by apply Aw;intro h3;exact h2 (hs.2 h3)
    simp[h2];omega
  ·have a1:x.natAbs≤y.natAbs:=by
    unfold Q9 at h1;split at h1
    ·omega
    ·split at h1<;>omega
   have hm:=Q1 (qe y.natAbs) (qe x.natAbs) (by omega) (by rw[qj,qj];exact a1);rw[qj,qj]at hm;refine⟨_,hm,_,_,xd (decide (y<0)) (qe _) (by have:=a0 (show y.natAbs-x.natAbs≤y.natAbs by omega);omega) (z:=x+y) ?_,rfl⟩;rw[qj];by_cases h2:y<0
   ·have:¬x<0:=fun h3=>(hs.1 h3) h2
    simp[h2];omega
   ·have:=hs.2 h2;simp[h2];omega
theorem EE {x:Int} (h:Sm x):Sm (-x):=by unfold Sm at *;rw[No];exact h
theorem PM {x y:Int} (hx:Sm x) (hy:Sm y):qf CC 313 [qJ x,qJ y] [qJ (x-y)]:=by
 refine qg (anns:=an0) mixedT Tryz.func313 ?_;have h1:=Vl hy;have h2:=Vm hx (EE hy);rw[qy y]at h1;rw[qy x]at h2;rw[qy x,qy y,EB];exact⟨_,_,h1,_,_,h2,rfl⟩
theorem ju {x y:Int} (hx:Sm x) (hy:Sm y):qf CC 193 [qJ x,qJ y] [qJ (x*y)]:=by
 refine qg (anns:=an0) mixedT Tryz.func193 ?_;have lx:=hx.len;have ly:=hy.len;have ht:=Ga (qe x.natAbs) (qe y.natAbs) (by omega) (by omega);rw[qj,qj]at ht;have lp:(lim (x.natAbs*y.natAbs)).length≤1073741824:=by
  have h1:=qO (qe x.natAbs);have h2:=qO (qe y.natAbs);rw[qj]at h1 h2;have h3:x.natAbs*y.natAbs<1000000000^((lim x.natAbs).length+(lim y.natAbs).length):=by rw[ap];exact Nat.mul_lt_mul'' h1 h2
  have:=qq h3;omega
 rw[qy x,qy y,EC];refine⟨_,ht,_,_,xd (!(decide (x<0)==decide (y<0))) (qe _) lp (z:=x*y) ?_,rfl⟩;rw[qj];have hm:(x*y).natAbs=x.natAbs*y.natAbs:=Int.natAbs_mul x y;by_cases h1:x<0<;>by_cases h2:y<0
 ·have:=Int.mul_pos_of_neg_of_neg h1 h2;simp[h1,h2];omega
 ·have:x*y≤0:=Int.mul_nonpos_of_nonpos_of_nonneg (by omega) (by omega);simp[h1,h2];omega
 ·have:x*y≤0:=Int.mul_nonpos_of_nonneg_of_nonpos (by omega) (by omega);simp[h1,h2];omega
 ·have:0≤x*y:=Int.mul_nonneg (by omega) (by omega);simp[h1,h2];omega
end Eng
end
