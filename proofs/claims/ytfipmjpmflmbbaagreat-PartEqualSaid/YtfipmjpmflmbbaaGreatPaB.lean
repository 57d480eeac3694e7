/- The verification conditions of functions, printed by a program (vcgen.py) and checked by the kernel. -/
import Derived.Test.YtfipmjpmflmbbaaGreatPaA
import Derived.Test.YtfipmjpmflmbbaaGreatEngA
import Derived.KernelRfl
open Decidable renaming byContradiction→Aw
open Eng.A renaming c→Bx
open Eng.D renaming int→Dd, sl→F0, bool→F2
open Eng.D.int renaming injEq→Hu
open Eng.D.sl renaming injEq→Hv
open Eng.Limbs renaming cons→Hx, nil→Hy
open Go.IntKind renaming wrap→J3, u64→J7
open Int renaming ofNat→J8, toNat→J9, natAbs_natCast→Lm, ofNat_eq_natCast→Lr, toNat_natCast→Ls, tdiv→Lv, tmod→No, natAbs_mul→Pl, natAbs_neg→P1, natAbs_ediv_le_natAbs→Ts, natCast_mul→T1, mul_pos→U0, tmod_eq_emod_of_nonneg→W0, ediv_emod_unique→W1, mul_one→W2, mul_neg→an
open List renaming replicate→ap, length→ba, take_length→bb, eq_nil_of_length_eq_zero→bc, drop_eq_getElem_cons→bd, length_take→be, length_cons→bh, drop_length→bm, drop_zero→bs, take_of_length_le→bv, mem_of_mem_tail→bw, take→bx, length_tail→b4, getD→b5, append_nil→b6, tail_cons→b7, range→b8, drop→b9
open List.cons renaming injEq→ca
open Nat renaming lt_of_le_of_lt→cb, mul_le_mul→cc, pow_le_pow_right→cg, le_refl→cp, mul_comm→cv, mul_assoc→c0, mul_le_mul_right→c3, mul_add→c4, lt_of_not_le→c5, eq_zero_or_pos→c9, mul_self_lt_mul_self_iff→cH, pow_succ→cL, le_trans→dc, pow_add→dk, gcd→dl, zero_le→dn, add_mul→ea, mul_le_mul_left→eb, mod_lt→ed, gcd_comm→el, exists_eq_add_of_le→en, one_mul→ey, lt_of_lt_of_le→ez, gcd_zero_right→eH, mul_left_comm→fg, div_le_self→ft, div_add_mod→fx, lt_or_ge→fz, pow_pos→fR, gcd_rec→fS
open Option.some renaming injEq→gb
open Quotient renaming liftOn₂→gm, liftOn→gp
open Rat renaming mul_nonneg→gz, num_divInt_den→g0, divInt→g4, div_def→g5, le_of_lt→g7, divInt_mul_divInt→g8, inv_pos→h7, num_eq_zero→h8, divInt_add_divInt→h9, mul_pos→hC, intCast_natCast→hD, sub_eq_add_neg→hE, neg_divInt_neg→hH, mul_inv_cancel→hP, num_intCast→hQ, natCast_mul→hR, den_intCast→hT, inv_divInt→hW, mul_assoc→hX, one_mul→hY, neg_num→ia
set_option maxRecDepth 1000000
section
namespace Eng
open Go Go.Proofs
section
variable (Gv:Nat→List A→List A→Prop) (I0:List D→List D→Prop) (M0:List D→Nat) (I1:List D→List D→Prop) (M1:List D→Nat) (I2:List D→List D→Prop) (M2:List D→Nat) (I3:List D→List D→Prop) (M3:List D→Nat) (Q:List A→Prop)
theorem EF (es:List (List D)):wpF CC Gv (fun _=>⟨[.slot 0 (.slice none 0 0)],[],I0,M0⟩) Tryz.f142 [.c (.sl es)] Q=(I0 [] [F0 es]∧∀(es:List (List D)),I0 [] [F0 es]→bB (decide ((J8 es.length)>0)) ((0≤J3 .i64 ((J8 es.length)-1)∧J3 .i64 ((J8 es.length)-1)<(J8 es.length)∧ba (nth [] es (J9 (J3 .i64 ((J8 es.length)-1))))=1)∧∃n,cut (nth [] es (J9 (J3 .i64 ((J8 es.length)-1)))) 0 1 [Dd .u32 n]∧bB (n==0) (((0:Int)≤(0:Int)∧0≤J3 .i64 ((J8 es.length)-1)∧J3 .i64 ((J8 es.length)-1)≤(J8 es.length)∧lens 1 es)∧I0 [] [F0 (b9 0 (bx (J9 (J3 .i64 ((J8 es.length)-1))) es))]∧M0 [F0 (b9 0 (bx (J9 (J3 .i64 ((J8 es.length)-1))) es))]<M0 [F0 es]) (Q [aL es])) (Q [aL es])):=by kernel_rfl
theorem Pf (b:Bool) (es:List (List D)):wpF CC Gv an0 Tryz.f80 [.c (.bool b),.c (.sl es)] Q=(∃e1,Gv 142 [aL es] [aL e1]∧br b (Q [aZ (decide ((J8 e1.length)>0)) e1]) (Q [aZ false e1])):=by kernel_rfl
theorem SJ (n:Int):wpF CC Gv (fun _=>⟨[.own 3 15 1,.slot 0 (.int .u64 0)],[],I0,M0⟩) Tryz.f81 [.c (.int .u64 n)] Q=(I0 [] [F0 [],Dd .u64 n]∧∀(es:List (List D)) (n:Int),I0 [] [F0 es,Dd .u64 n]→bB (decide (n>0)) ((1000000000:Int)≠(0:Int)∧(room (es.length+1)∧lens 1 [[Dd .u32 (J3 .u32 (No n (1000000000:Int)))]])∧(1000000000:Int)≠(0:Int)∧I0 [] [F0 (es++[[Dd .u32 (J3 .u32 (No n (1000000000:Int)))]]),Dd .u64 (J3 .u64 (Lv n (1000000000:Int)))]∧M0 [F0 (es++[[Dd .u32 (J3 .u32 (No n (1000000000:Int)))]]),Dd .u64 (J3 .u64 (Lv n (1000000000:Int)))]<M0 [F0 es,Dd .u64 n]) (Q [aL es])):=by kernel_rfl
theorem Y4 (n:Int):wpF CC Gv an0 Tryz.f43 [.c (.int .i64 n)] Q=(bB (decide (n<0)) (∃es,Gv 81 [Bx (Dd .u64 (J3 .u64 (0-J3 .u64 n)))] [aL es]∧∃b e1,Gv 80 [aB true,aL es] [aZ b e1]∧Q [aZ b e1]) (∃es,Gv 81 [Bx (Dd .u64 (J3 .u64 n))] [aL es]∧∃b e1,Gv 80 [aB false,aL es] [aZ b e1]∧Q [aZ b e1])):=by kernel_rfl
theorem SK (es:List (List D)):wpF CC Gv (fun _=>⟨[.slot 3 (.int .u64 0),.slot 4 (.int .i64 0)],[],I0,M0⟩) Tryz.f166 [.c (.sl es)] Q=(I0 [] [Dd .u64 0,dI (J3 .i64 ((J8 es.length)-1))]∧∀(n n1:Int),I0 [] [Dd .u64 n,dI n1]→bB (decide (n1≥0)) ((0≤n1∧n1<(J8 es.length)∧ba (nth [] es (J9 n1))=1)∧∃n2,cut (nth [] es (J9 n1)) 0 1 [Dd .u32 n2]∧I0 [] [Dd .u64 (J3 .u64 (J3 .u64 (n*1000000000)+J3 .u64 n2)),dI (J3 .i64 (n1-1))]∧M0 [Dd .u64 (J3 .u64 (J3 .u64 (n*1000000000)+J3 .u64 n2)),dI (J3 .i64 (n1-1))]<M0 [Dd .u64 n,dI n1]) (Q [Bx (Dd .u64 n)])):=by kernel_rfl
theorem EG (p:Bool) (es:List (List D)):wpF CC Gv an0 Tryz.f107 [.ag [.bool p,.sl es]] Q=(bB ((J8 es.length)==0) (Q [aI (0:Int)]) (br p (Q [aI (-1:Int)]) (Q [aI (1:Int)]))):=by kernel_rfl
theorem TQ (es fs:List (List D)):wpF CC Gv (fun _=>⟨[.slot 5 (.int .i64 0)],[],I0,M0⟩) Tryz.f197 [.c (.sl es),.c (.sl fs)] Q=(bB ((J8 es.length) !=(J8 fs.length)) (bB (decide ((J8 es.length)<(J8 fs.length))) (Q [aI (-1:Int)]) (Q [aI (1:Int)])) (I0 [] [dI (J3 .i64 ((J8 es.length)-1))]∧∀(n:Int),I0 [] [dI n]→bB (decide (n≥0)) ((0≤n∧n<(J8 es.length)∧ba (nth [] es (J9 n))=1)∧∃n1,cut (nth [] es (J9 n)) 0 1 [Dd .u32 n1]∧(0≤n∧n<(J8 fs.length)∧ba (nth [] fs (J9 n))=1)∧∃n2,cut (nth [] fs (J9 n)) 0 1 [Dd .u32 n2]∧bB (decide (n1<n2)) (Q [aI (-1:Int)]) ((0≤n∧n<(J8 es.length)∧ba (nth [] es (J9 n))=1)∧∃n3,cut (nth [] es (J9 n)) 0 1 [Dd .u32 n3]∧(0≤n∧n<(J8 fs.length)∧ba (nth [] fs (J9 n))=1)∧∃n4,cut (nth [] fs (J9 n)) 0 1 [Dd .u32 n4]∧bB (decide (n3>n4)) (Q [aI (1:Int)]) (I0 [] [dI (J3 .i64 (n-1))]∧M0 [dI (J3 .i64 (n-1))]<M0 [dI n]))) (Q [aI (0:Int)]))):=by kernel_rfl
theorem bC (p q:Bool) (es fs:List (List D)):wpF CC Gv an0 Tryz.f144 [.ag [.bool p,.sl es],.ag [.bool q,.sl fs]] Q=(bB (!p==q) (br p (Q [aI (-1:Int)]) (Q [aI (1:Int)])) (br p (∃n,Gv 197 [aL fs,aL es] [aI n]∧Q [aI n]) (∃n,Gv 197 [aL es,aL fs] [aI n]∧Q [aI n]))):=by kernel_rfl
end
def Nf (Gv:Nat→List A→List A→Prop) (I0:List D→List D→Prop) (M0:List D→Nat) (Q:List A→Prop) (es fs:List (List D)):Prop:=((0≤J3 .i64 ((J8 es.length)+1)∧J3 .i64 ((J8 es.length)+1)≤J3 .i64 ((J8 es.length)+1)∧room (J9 (J3 .i64 ((J8 es.length)+1))))∧I0 [] [F0 (ap (J9 (J3 .i64 ((J8 es.length)+1))) [Dd .u32 0]),Dd .u32 0,Dd .i64 0]∧∀(e1:List (List D)) (n n1:Int),I0 [] [F0 e1,Dd .u32 n,Dd .i64 n1]→br (toB (F2 (decide (n1<(J8 es.length))))) ((0≤n1∧n1<(J8 es.length)∧ba (nth [] es (J9 n1))=1)∧∃n2,cut (nth [] es (J9 n1)) 0 1 [Dd .u32 n2]∧br (toB (F2 (decide (n1<(J8 fs.length))))) ((0≤n1∧n1<(J8 fs.length)∧ba (nth [] fs (J9 n1))=1)∧∃n3,cut (nth [] fs (J9 n1)) 0 1 [Dd .u32 n3]∧(1000000000:Int)≠(0:Int)∧(0≤n1∧n1<(J8 e1.length))∧0<1∧(1000000000:Int)≠(0:Int)∧I0 [] [F0 (upd e1 (J9 n1) (upd (nth [] e1 (J9 n1)) 0 (Dd .u32 (No (J3 .u32 (J3 .u32 (n+n2)+n3)) (1000000000:Int))))),Dd .u32 (J3 .u32 (Lv (J3 .u32 (J3 .u32 (n+n2)+n3)) (1000000000:Int))),Dd .i64 (J3 .i64 (n1+1))]∧M0 [F0 (upd e1 (J9 n1) (upd (nth [] e1 (J9 n1)) 0 (Dd .u32 (No (J3 .u32 (J3 .u32 (n+n2)+n3)) (1000000000:Int))))),Dd .u32 (J3 .u32 (Lv (J3 .u32 (J3 .u32 (n+n2)+n3)) (1000000000:Int))),Dd .i64 (J3 .i64 (n1+1))]<M0 [F0 e1,Dd .u32 n,Dd .i64 n1]) ((1000000000:Int)≠(0:Int)∧(0≤n1∧n1<(J8 e1.length))∧0<1∧(1000000000:Int)≠(0:Int)∧I0 [] [F0 (upd e1 (J9 n1) (upd (nth [] e1 (J9 n1)) 0 (Dd .u32 (No (J3 .u32 (n+n2)) (1000000000:Int))))),Dd .u32 (J3 .u32 (Lv (J3 .u32 (n+n2)) (1000000000:Int))),Dd .i64 (J3 .i64 (n1+1))]∧M0 [F0 (upd e1 (J9 n1) (upd (nth [] e1 (J9 n1)) 0 (Dd .u32 (No (J3 .u32 (n+n2)) (1000000000:Int))))),Dd .u32 (J3 .u32 (Lv (J3 .u32 (n+n2)) (1000000000:Int))),Dd .i64 (J3 .i64 (n1+1))]<M0 [F0 e1,Dd .u32 n,Dd .i64 n1])) ((0≤(J8 es.length)∧(J8 es.length)<(J8 e1.length))∧0<1∧∃e2,Gv 142 [Bx (F0 (upd e1 (J9 (J8 es.length)) (upd (nth [] e1 (J9 (J8 es.length))) 0 (Dd .u32 n))))] [Bx (F0 e2)]∧Q [Bx (F0 e2)]))
section
variable (Gv:Nat→List A→List A→Prop) (I0:List D→List D→Prop) (M0:List D→Nat) (I1:List D→List D→Prop) (M1:List D→Nat) (I2:List D→List D→Prop) (M2:List D→Nat) (I3:List D→List D→Prop) (M3:List D→Nat) (Q:List A→Prop)
theorem Ng (es fs:List (List D)):wpF CC Gv (fun _=>⟨[.own 5 55 1,.slot 6 (.int .u32 0),.slot 7 (.int .i64 0)],[],I0,M0⟩) Tryz.f224 [.c (.sl es),.c (.sl fs)] Q=(bB (decide ((J8 es.length)<(J8 fs.length))) (Nf Gv I0 M0 Q fs es) (Nf Gv I0 M0 Q es fs)):=by kernel_rfl
theorem SL (es fs:List (List D)):wpF CC Gv (fun _=>⟨[.own 5 45 1,.slot 6 (.int .u32 0),.slot 7 (.int .i64 0)],[],I0,M0⟩) Tryz.f223 [.c (.sl es),.c (.sl fs)] Q=((0≤(J8 es.length)∧(J8 es.length)≤(J8 es.length)∧room (J9 (J8 es.length)))∧I0 [] [F0 (ap (J9 (J8 es.length)) [Dd .u32 0]),Dd .u32 0,dI (0:Int)]∧∀(e1:List (List D)) (n n1:Int),I0 [] [F0 e1,Dd .u32 n,dI n1]→bB (decide (n1<(J8 es.length))) ((0≤n1∧n1<(J8 es.length)∧ba (nth [] es (J9 n1))=1)∧∃n2,cut (nth [] es (J9 n1)) 0 1 [Dd .u32 n2]∧bB (decide (n1<(J8 fs.length))) ((0≤n1∧n1<(J8 fs.length)∧ba (nth [] fs (J9 n1))=1)∧∃n3,cut (nth [] fs (J9 n1)) 0 1 [Dd .u32 n3]∧bB (decide (J3 .u32 (J3 .u32 (J3 .u32 (n2+1000000000)-n)-n3)≥1000000000)) ((0≤n1∧n1<(J8 e1.length))∧0<1∧I0 [] [F0 (upd e1 (J9 n1) (upd (nth [] e1 (J9 n1)) 0 (Dd .u32 (J3 .u32 (J3 .u32 (J3 .u32 (J3 .u32 (n2+1000000000)-n)-n3)-1000000000))))),Dd .u32 0,dI (J3 .i64 (n1+1))]∧M0 [F0 (upd e1 (J9 n1) (upd (nth [] e1 (J9 n1)) 0 (Dd .u32 (J3 .u32 (J3 .u32 (J3 .u32 (J3 .u32 (n2+1000000000)-n)-n3)-1000000000))))),Dd .u32 0,dI (J3 .i64 (n1+1))]<M0 [F0 e1,Dd .u32 n,dI n1]) ((0≤n1∧n1<(J8 e1.length))∧0<1∧I0 [] [F0 (upd e1 (J9 n1) (upd (nth [] e1 (J9 n1)) 0 (Dd .u32 (J3 .u32 (J3 .u32 (J3 .u32 (n2+1000000000)-n)-n3))))),Dd .u32 1,dI (J3 .i64 (n1+1))]∧M0 [F0 (upd e1 (J9 n1) (upd (nth [] e1 (J9 n1)) 0 (Dd .u32 (J3 .u32 (J3 .u32 (J3 .u32 (n2+1000000000)-n)-n3))))),Dd .u32 1,dI (J3 .i64 (n1+1))]<M0 [F0 e1,Dd .u32 n,dI n1])) (bB (decide (J3 .u32 (J3 .u32 (n2+1000000000)-n)≥1000000000)) ((0≤n1∧n1<(J8 e1.length))∧0<1∧I0 [] [F0 (upd e1 (J9 n1) (upd (nth [] e1 (J9 n1)) 0 (Dd .u32 (J3 .u32 (J3 .u32 (J3 .u32 (n2+1000000000)-n)-1000000000))))),Dd .u32 0,dI (J3 .i64 (n1+1))]∧M0 [F0 (upd e1 (J9 n1) (upd (nth [] e1 (J9 n1)) 0 (Dd .u32 (J3 .u32 (J3 .u32 (J3 .u32 (n2+1000000000)-n)-1000000000))))),Dd .u32 0,dI (J3 .i64 (n1+1))]<M0 [F0 e1,Dd .u32 n,dI n1]) ((0≤n1∧n1<(J8 e1.length))∧0<1∧I0 [] [F0 (upd e1 (J9 n1) (upd (nth [] e1 (J9 n1)) 0 (Dd .u32 (J3 .u32 (J3 .u32 (n2+1000000000)-n))))),Dd .u32 1,dI (J3 .i64 (n1+1))]∧M0 [F0 (upd e1 (J9 n1) (upd (nth [] e1 (J9 n1)) 0 (Dd .u32 (J3 .u32 (J3 .u32 (n2+1000000000)-n))))),Dd .u32 1,dI (J3 .i64 (n1+1))]<M0 [F0 e1,Dd .u32 n,dI n1]))) (∃es,Gv 142 [aL e1] [aL es]∧Q [aL es])):=by kernel_rfl
theorem SM (es fs:List (List D)):wpF CC Gv (Vd ⟨[.own 5 68 1,.slot 6 (.int .i64 0)],[],I0,M0⟩ ⟨[.own 5 68 1,.slot 7 (.int .u64 0),.slot 8 (.int .i64 0)],[.slot 6 (.int .i64 0),.own 5 68 1],I1,M1⟩) Tryz.f206 [.c (.sl es),.c (.sl fs)] Q=((0≤J3 .i64 ((J8 es.length)+(J8 fs.length))∧J3 .i64 ((J8 es.length)+(J8 fs.length))≤J3 .i64 ((J8 es.length)+(J8 fs.length))∧room (J9 (J3 .i64 ((J8 es.length)+(J8 fs.length)))))∧I0 [] [F0 (ap (J9 (J3 .i64 ((J8 es.length)+(J8 fs.length)))) [Dd .u32 0]),dI (0:Int)]∧∀(e1:List (List D)) (n:Int),I0 [] [F0 e1,dI n]→bB (decide (n<(J8 es.length))) (I1 [dI n,F0 e1] [F0 e1,Dd .u64 0,dI (0:Int)]∧∀(e2:List (List D)) (n1 n2:Int),I1 [dI n,F0 e1] [F0 e2,Dd .u64 n1,dI n2]→bB (decide (n2<(J8 fs.length))) ((0≤J3 .i64 (n+n2)∧J3 .i64 (n+n2)<(J8 e2.length))∧∃n3,cut (nth [] e2 (J9 (J3 .i64 (n+n2)))) 0 1 [Dd .u32 n3]∧(0≤n∧n<(J8 es.length)∧ba (nth [] es (J9 n))=1)∧∃n4,cut (nth [] es (J9 n)) 0 1 [Dd .u32 n4]∧(0≤n2∧n2<(J8 fs.length)∧ba (nth [] fs (J9 n2))=1)∧∃n5,cut (nth [] fs (J9 n2)) 0 1 [Dd .u32 n5]∧(1000000000:Int)≠(0:Int)∧(0≤J3 .i64 (n+n2)∧J3 .i64 (n+n2)<(J8 e2.length))∧0<1∧(1000000000:Int)≠(0:Int)∧I1 [dI n,F0 e1] [F0 (upd e2 (J9 (J3 .i64 (n+n2))) (upd (nth [] e2 (J9 (J3 .i64 (n+n2)))) 0 (Dd .u32 (J3 .u32 (No (J3 .u64 (J3 .u64 (n1+J3 .u64 n3)+J3 .u64 (J3 .u64 n4*J3 .u64 n5))) (1000000000:Int)))))),Dd .u64 (J3 .u64 (Lv (J3 .u64 (J3 .u64 (n1+J3 .u64 n3)+J3 .u64 (J3 .u64 n4*J3 .u64 n5))) (1000000000:Int))),dI (J3 .i64 (n2+1))]∧M1 [F0 (upd e2 (J9 (J3 .i64 (n+n2))) (upd (nth [] e2 (J9 (J3 .i64 (n+n2)))) 0 (Dd .u32 (J3 .u32 (No (J3 .u64 (J3 .u64 (n1+J3 .u64 n3)+J3 .u64 (J3 .u64 n4*J3 .u64 n5))) (1000000000:Int)))))),Dd .u64 (J3 .u64 (Lv (J3 .u64 (J3 .u64 (n1+J3 .u64 n3)+J3 .u64 (J3 .u64 n4*J3 .u64 n5))) (1000000000:Int))),dI (J3 .i64 (n2+1))]<M1 [F0 e2,Dd .u64 n1,dI n2]) ((0≤J3 .i64 (n+(J8 fs.length))∧J3 .i64 (n+(J8 fs.length))<(J8 e2.length))∧0<1∧I0 [] [F0 (upd e2 (J9 (J3 .i64 (n+(J8 fs.length)))) (upd (nth [] e2 (J9 (J3 .i64 (n+(J8 fs.length))))) 0 (Dd .u32 (J3 .u32 n1)))),dI (J3 .i64 (n+1))]∧M0 [F0 (upd e2 (J9 (J3 .i64 (n+(J8 fs.length)))) (upd (nth [] e2 (J9 (J3 .i64 (n+(J8 fs.length))))) 0 (Dd .u32 (J3 .u32 n1)))),dI (J3 .i64 (n+1))]<M0 [F0 e1,dI n])) (∃es,Gv 142 [aL e1] [aL es]∧Q [aL es])):=by kernel_rfl
theorem iL (es:List (List D)) (n:Int):wpF CC Gv an0 Tryz.f222 [.c (.sl es),.c (.int .u32 n)] Q=(∃e1,Gv 142 [aL [[Dd .u32 n]]] [aL e1]∧∃e2,Gv 206 [aL es,aL e1] [aL e2]∧Q [aL e2]):=by kernel_rfl
theorem bD (p:Bool) (es:List (List D)):wpF CC Gv an0 Tryz.f108 [.ag [.bool p,.sl es]] Q=(∃b e1,Gv 80 [aB (!p),aL es] [aZ b e1]∧Q [aZ b e1]):=by kernel_rfl
theorem bE (p q:Bool) (es fs:List (List D)):wpF CC Gv an0 Tryz.f168 [.ag [.bool p,.sl es],.ag [.bool q,.sl fs]] Q=(bB (p==q) (∃e1,Gv 224 [aL es,aL fs] [aL e1]∧∃b es,Gv 80 [aB p,aL e1] [aZ b es]∧Q [aZ b es]) (∃n,Gv 197 [aL es,aL fs] [aI n]∧bB (decide (n≥0)) (∃e1,Gv 223 [aL es,aL fs] [aL e1]∧∃b es,Gv 80 [aB p,aL e1] [aZ b es]∧Q [aZ b es]) (∃e1,Gv 223 [aL fs,aL es] [aL e1]∧∃b es,Gv 80 [aB q,aL e1] [aZ b es]∧Q [aZ b es]))):=by kernel_rfl
theorem bF (p q:Bool) (es fs:List (List D)):wpF CC Gv an0 Tryz.f167 [.ag [.bool p,.sl es],.ag [.bool q,.sl fs]] Q=(∃b e1,Gv 108 [aZ q fs] [aZ b e1]∧∃b1 e2,Gv 168 [aZ p es,aZ b e1] [aZ b1 e2]∧Q [aZ b1 e2]):=by kernel_rfl
theorem bG (p q:Bool) (es fs:List (List D)):wpF CC Gv an0 Tryz.f145 [.ag [.bool p,.sl es],.ag [.bool q,.sl fs]] Q=(∃e1,Gv 206 [aL es,aL fs] [aL e1]∧∃b es,Gv 80 [Bx (F2 !p==q),aL e1] [aZ b es]∧Q [aZ b es]):=by kernel_rfl
theorem bH (p q:Bool) (es fs:List (List D)):wpF CC Gv (Vd ⟨[.slot 5 (.slice none 0 0),.slot 6 (.slice none 0 0)],[],I0,M0⟩ ⟨[.slot 9 (.int .u64 0),.slot 10 (.int .u64 0)],[],I1,M1⟩) Tryz.f109 [.ag [.bool p,.sl es],.ag [.bool q,.sl fs]] Q=(I0 [] [F0 es,F0 fs]∧∀(es e1:List (List D)),I0 [] [F0 es,F0 e1]→bB (decide ((J8 e1.length)>0)) (bB (decide ((J8 es.length)>2)) (∃e2 e3,Gv 165 [aL es,aL e1] [aL e2,aL e3]∧I0 [] [F0 e1,F0 e3]∧M0 [F0 e1,F0 e3]<M0 [F0 es,F0 e1]) (bB (decide ((J8 e1.length)>2)) (∃e2 e3,Gv 165 [aL es,aL e1] [aL e2,aL e3]∧I0 [] [F0 e1,F0 e3]∧M0 [F0 e1,F0 e3]<M0 [F0 es,F0 e1]) (bB ((J8 e1.length)==0) (∃b e2,Gv 80 [aB false,aL es] [aZ b e2]∧Q [aZ b e2]) (∃n,Gv 166 [aL es] [Bx (Dd .u64 n)]∧∃n1,Gv 166 [aL e1] [Bx (Dd .u64 n1)]∧I1 [] [Dd .u64 n,Dd .u64 n1]∧∀(n n2:Int),I1 [] [Dd .u64 n,Dd .u64 n2]→bB (decide (n2>0)) (n2≠0∧I1 [] [Dd .u64 n2,Dd .u64 (No n n2)]∧M1 [Dd .u64 n2,Dd .u64 (No n n2)]<M1 [Dd .u64 n,Dd .u64 n2]) (∃es,Gv 81 [Bx (Dd .u64 n)] [aL es]∧∃b e2,Gv 80 [aB false,aL es] [aZ b e2]∧Q [aZ b e2]))))) (bB ((J8 e1.length)==0) (∃b e2,Gv 80 [aB false,aL es] [aZ b e2]∧Q [aZ b e2]) (∃n,Gv 166 [aL es] [Bx (Dd .u64 n)]∧∃n1,Gv 166 [aL e1] [Bx (Dd .u64 n1)]∧I1 [] [Dd .u64 n,Dd .u64 n1]∧∀(n n2:Int),I1 [] [Dd .u64 n,Dd .u64 n2]→bB (decide (n2>0)) (n2≠0∧I1 [] [Dd .u64 n2,Dd .u64 (No n n2)]∧M1 [Dd .u64 n2,Dd .u64 (No n n2)]<M1 [Dd .u64 n,Dd .u64 n2]) (∃es,Gv 81 [Bx (Dd .u64 n)] [aL es]∧∃b e2,Gv 80 [aB false,aL es] [aZ b e2]∧Q [aZ b e2])))):=by kernel_rfl
theorem Pg (p q:Bool) (es fs:List (List D)):wpF CC Gv an0 Tryz.f110 [.ag [.bool p,.sl es],.ag [.bool q,.sl fs]] Q=(bB ((J8 fs.length)==0) (Q [aZ false [],aZ false [],aI (6:Int)]) (∃e1 e2,Gv 165 [aL es,aL fs] [aL e1,aL e2]∧∃b es,Gv 80 [Bx (F2 !p==q),aL e1] [aZ b es]∧∃b1 e3,Gv 80 [aB p,aL e2] [aZ b1 e3]∧bB (decide ((J8 e2.length)>0)) (bB (!p==q) (∃b2 e4,Gv 43 [aI (1:Int)] [aZ b2 e4]∧∃b3 e5,Gv 167 [aZ b es,aZ b2 e4] [aZ b3 e5]∧∃b es,Gv 168 [aZ b1 e3,aZ q fs] [aZ b es]∧Q [aZ b3 e5,aZ b es,aI (0:Int)]) (Q [aZ b es,aZ b1 e3,aI (0:Int)])) (Q [aZ b es,aZ b1 e3,aI (0:Int)]))):=by kernel_rfl
end
end Eng
end
section
namespace Eng
open Go Go.Proofs
set_option maxRecDepth 100000
theorem Y5 {n:Nat} (h:0<n):lim n=n%1000000000::lim (n/1000000000):=by
 have e:n=val (n%1000000000::lim (n/1000000000)):=by simp only[val,qj];omega
 conv=>lhs;rw[e]
 refine yN (Hx (ed _ (by omega)) (qh _)) (.inr ?_);rw[List.getLast?_cons];rcases jV (n/1000000000)with h1|h1
 ·rw[h1];have:n/1000000000=0:=Qx.1 h1;simp;omega
 ·cases hh:(lim (n/1000000000)).getLast? with
  |none=>have:n/1000000000=0:=Qx.1 (List.getLast?_eq_none_iff.1 hh);simp;omega
  |some x=>rw[hh]at h1;simpa using h1
theorem qH (z:Int):qS z= .ag [.bool (decide (z<0)),.sl (raw (lim z.natAbs))]:=rfl
theorem jY {l:List Nat} (hl:Limbs l) (hr:l.length≤1073741824):qe CC 142 [.c (.sl (raw l))] [.c (.sl (raw (lim (val l))))]:=by
 refine qw (anns:=fun _=>⟨[.slot 0 (.slice none 0 0)],[],fun _ ds=>∃k,k≤l.length∧ds=[.sl (raw (l.take k))]∧val (l.take k)=val l,fun ds=>(toL (nth .undef ds 0)).length⟩) mixedT Tryz.func142 ?_;rw[EF];simp only[Lr];refine⟨⟨l.length,cp _,by rw[bb],by rw[bb]⟩,?_⟩;rintro es ⟨k,hk,he,hv⟩;simp only[ca,Hv,and_true]at he;subst he;have a3:(raw (l.take k)).length=k:=by rw[qi,be];omega
 have a4:(k=0∨∃h:k-1<l.length,l[k-1]≠0)→[Bx (F0 (raw (l.take k)))]=[Bx (F0 (raw (lim (val l))))]:=by
  intro h;rw[←hv,yN (hl.take k)];rcases h with rfl|⟨h,hne⟩
  ·exact .inl (by simp)
  ·refine .inr ?_;rw[List.getLast?_take];split
   ·simp
   ·rw[List.getElem?_eq_getElem h]
    simpa using hne
 refine brd (fun h=>?_) (fun h=>?_)
 ·rw[a3]at h ⊢;have hk0:0<k:=by omega
  have hw:J3 .i64 ((k:Int)-1)=((k-1:Nat):Int):=by rw[zJ];omega
  rw[hw];have a5:k-1<(l.take k).length:=by rw[be];omega
  have hg:(l.take k)[k-1]=l[k-1]:=List.getElem_take ..;refine⟨⟨by omega,by omega,qC a5⟩,_,qG a5,brb (fun hz=>?_) (fun hz=>?_)⟩
  ·have hz:l[k-1]=0:=by rw[hg]at hz;simpa using hz
   refine⟨⟨by omega,by omega,by omega,jd _⟩,⟨k-1,by omega,?_,?_⟩,?_⟩
   ·simp only[Ls,jW,bs,List.take_take];congr 4;omega
   ·have:l.take k=l.take (k-1)++[l[k-1]]:=by have:=List.take_succ_eq_append_getElem (l:=l) (i:=k-1) (by omega);rw[show k-1+1=k by omega]at this;exact this
    rw[←hv,this,hz,qU];simp[val]
   ·simp only[Ls,nth,toL,bs,be,a3];omega
  ·exact a4 (.inr ⟨by omega,by rw[hg]at hz;simpa using hz⟩)
 ·rw[a3]at h;exact a4 (.inl (by omega))
theorem Ph {l:List Nat} (b:Bool) (hl:Limbs l) (hr:l.length≤1073741824):qe CC 80 [.c (.bool b),.c (.sl (raw l))] [.ag [.bool (b&&decide (0<val l)),.sl (raw (lim (val l)))]]:=by
 refine qw (anns:=an0) mixedT Tryz.func80 ?_;rw[Pf];refine⟨_,jY hl hr,?_⟩;have hd:decide ((J8 (ba (raw (lim (val l)))))>(0:Int))=decide (0<val l):=by rw[decide_eq_decide,qi,←qK (n:=val l)];simp only[Lr];omega
 rw[hd];refine zQ (fun hb=>?_) (fun hb=>?_)
 ·subst hb;rw[Bool.true_and]
 ·subst hb;rw[Bool.false_and]
theorem xh {l:List Nat} (b:Bool) (hl:Limbs l) (hr:l.length≤1073741824) {z:Int} (hz:z=if b then-(val l:Int)else(val l:Int)):
 qe CC 80 [.c (.bool b),.c (.sl (raw l))] [qS z]:=by
 have h:=Ph b hl hr;have e:qS z= .ag [.bool (b&&decide (0<val l)),.sl (raw (lim (val l)))]:=by
  unfold qS cI;cases b with
  |false=>simp only[Bool.false_eq_true,if_false]at hz;subst hz;rw[Lm,Bool.false_and,decide_eq_false (by omega)]
  |true=>simp only[if_true]at hz;subst hz;rw[P1,Lm,Bool.true_and];congr 3;rw[decide_eq_decide];omega
 rw[e];exact h
theorem yl {u:Nat} (hu:u<18446744073709551616):qe CC 81 [.c (.int .u64 (u:Int))] [.c (.sl (raw (lim u)))]:=by
 have h3:(lim u).length≤3:=qy (ez hu (by decide));refine qw (anns:=fun _=>⟨[.own 3 15 1,.slot 0 (.int .u64 0)],[],fun _ ds=>∃(h:List Nat) (v:Nat),ds=[.sl (raw h),.int .u64 (v:Int)]∧v≤u∧lim u=h++lim v,fun ds=>(toI (nth .undef ds 1)).toNat⟩) mixedT Tryz.func81 ?_;rw[SJ];refine⟨⟨[],u,rfl,cp _,rfl⟩,?_⟩;rintro es n ⟨h,v,he,hv,hl⟩;simp only[ca,Hv,Hu,true_and,and_true]at he;obtain⟨rfl,rfl⟩:=he;have hlen:h.length≤3:=by have:=congrArg ba hl;rw[List.length_append]at this;omega
 refine brd (fun h0=>?_) (fun h0=>?_)
 ·have a3:0<v:=by omega
  rw[Pd,Pe,jX,xO];refine⟨by omega,⟨by rw[qi];unfold room;omega,jd [v%1000000000]⟩,by omega,⟨h++[v%1000000000],v/1000000000,?_,by omega,?_⟩,?_⟩
  ·rw[xc];rfl
  ·rw[hl,Y5 a3,List.append_assoc];rfl
  ·simp only[nth,toI,Ls];omega
 ·have a3:v=0:=by omega
  subst a3;rw[hl,Yw,b6]
theorem zc {n:Int} (h1: -9223372036854775808≤n) (h2:n<9223372036854775808):qe CC 43 [.c (.int .i64 n)] [qS n]:=by
 refine qw (anns:=an0) mixedT Tryz.func43 ?_;rw[Y4];have hl:∀u:Nat,u<18446744073709551616→(lim u).length≤1073741824:=fun u hu=>by have:(lim u).length≤3:=qy (ez hu (by decide));omega
 refine brd (fun h=>?_) (fun h=>?_)
 ·obtain⟨u,rfl⟩:∃u:Nat,n= -(u:Int):=⟨n.natAbs,by omega⟩;have e:J3 .u64 (0-J3 .u64 (-(u:Int)))=(u:Int):=by simp[J3,IntKind.bits,IntKind.signed];omega
  rw[e];exact⟨_,yl (by omega),_,_,xh true (qh u) (hl u (by omega)) (z:= -(u:Int)) (by simp[qj]),rfl⟩
 ·obtain⟨u,rfl⟩:∃u:Nat,n=(u:Int):=⟨n.natAbs,by omega⟩;rw[xO];exact⟨_,yl (by omega),_,_,xh false (qh u) (hl u (by omega)) (z:=(u:Int)) (by simp[qj]),rfl⟩
theorem Xo {l:List Nat} (hl:Limbs l) (h2:l.length≤2):qe CC 166 [.c (.sl (raw l))] [.c (.int .u64 (val l:Int))]:=by
 refine qw (anns:=fun _=>⟨[.slot 3 (.int .u64 0),.slot 4 (.int .i64 0)],[],fun _ ds=>∃k:Nat,k≤l.length∧ds=[.int .u64 (val (l.drop k):Int),.int .i64 ((k:Int)-1)],fun ds=>(toI (nth .undef ds 1)+1).toNat⟩) mixedT Tryz.func166 ?_;rw[SK];simp only[Lr,qi];refine⟨⟨l.length,cp _,by rw[bm,zJ];rfl⟩,?_⟩;rintro n m ⟨k,hk,he⟩;simp only[ca,Hu,true_and,and_true]at he;obtain⟨rfl,rfl⟩:=he;refine brd (fun h=>?_) (fun h=>?_)
 ·have a3:k-1<l.length:=by omega
  have ht:((k:Int)-1).toNat=k-1:=by omega
  rw[ht];have hd:val (l.drop (k-1))=l[k-1]+1000000000*val (l.drop k):=by rw[bd a3,show k-1+1=k by omega];rfl
  have hlt:=qW (hl.drop k);have hdl:(l.drop k).length≤1:=by rw[List.length_drop];omega
  have hlt2:val (l.drop k)<1000000000:=by have:1000000000^(l.drop k).length≤1000000000^1:=cg (by omega) hdl;omega
  have hx:=hl.get a3;have hw:J3 .u64 (J3 .u64 ((val (l.drop k):Int)*1000000000)+J3 .u64 (l[k-1]:Int))=(val (l.drop (k-1)):Int):=by rw[xO (n:=(val (l.drop k):Int)*1000000000),xO (n:=(l[k-1]:Int)),xO];omega
  have a4:J3 .i64 ((k:Int)-1-1)=((k-1:Nat):Int)-1:=by rw[zJ];omega
  refine⟨⟨by omega,by omega,qC a3⟩,_,qG a3,⟨k-1,by omega,by rw[hw,a4]⟩,?_⟩;rw[a4];simp only[nth,toI];omega
 ·have a3:k=0:=by omega
  subst a3;rw[bs]
theorem Xp (z:Int):qe CC 107 [qS z] [.c (.int .i64 (sgn z))]:=by
 refine qw (anns:=an0) mixedT Tryz.func107 ?_;rw[qH,EG];simp only[Lr,qi];unfold sgn;refine brb (fun h=>?_) (fun h=>?_)
 ·have h0:(lim z.natAbs).length=0:=by simpa using h
  have:z.natAbs=0:=Qx.1 (bc h0);rw[if_neg (by omega),if_neg (by omega)]
 ·have h0:(lim z.natAbs).length≠0:=by simpa using h
  have:0<z.natAbs:=qK.1 (by omega);refine zQ (fun h=>?_) (fun h=>?_)
  ·rw[if_pos (by simpa using h)]
  ·have:¬z<0:=by simpa using h
   rw[if_neg this,if_pos (by omega)]
theorem kz {x y:Nat} (hra:(lim x).length≤1073741824) (hrb:(lim y).length≤1073741824):qe CC 197 [.c (.sl (raw (lim x))),.c (.sl (raw (lim y)))] [.c (.int .i64 (XN x y))]:=by
 generalize hA:lim x=A at *;generalize hB:lim y=B at *;have lA:Limbs A:=hA▸qh _;have lB:Limbs B:=hB▸qh _;have vA:val A=x:=hA▸qj _;have vB:val B=y:=hB▸qj _;have zA:A=[]∨A.getLast?≠some 0:=hA▸jV _;have zB:B=[]∨B.getLast?≠some 0:=hB▸jV _;refine qw (anns:=fun _=>⟨[.slot 5 (.int .i64 0)],[],fun _ ds=>∃k:Nat,k≤A.length∧ds=[.int .i64 ((k:Int)-1)]∧A.drop k=B.drop k,fun ds=>(toI (nth .undef ds 0)+1).toNat⟩) mixedT Tryz.func197 ?_;rw[TQ];simp only[Lr,qi];refine brb (fun h=>?_) (fun h=>?_)
 ·have h:A.length≠B.length:=by intro e;rw[e]at h;simp at h
  refine brd (fun h1=>?_) (fun h1=>?_)
  ·have a5:B≠[]:=(by intro e;have h0:B.length=0:=(by rw[e];rfl);omega);have:=ZD lA (zB.resolve_left a5) a5 (by omega);rw[XN,if_pos (by omega)]
  ·have a5:A≠[]:=(by intro e;have h0:A.length=0:=(by rw[e];rfl);omega);have:=ZD lB (zA.resolve_left a5) a5 (by omega);rw[XN,if_neg (by omega),if_pos (by omega)]
 ·have h:A.length=B.length:=by
   have:(A.length:Int)=B.length:=by simpa using h
   omega
  refine⟨⟨A.length,cp _,by rw[zJ],by rw[bm,h,bm]⟩,?_⟩;rintro n ⟨k,hk,he,hd⟩;simp only[ca,Hu,true_and,and_true]at he;subst he;refine brd (fun h1=>?_) (fun h1=>?_)
  ·have a3:k-1<A.length:=by omega
   have a4:k-1<B.length:=by omega
   have ht:((k:Int)-1).toNat=k-1:=by omega
   have a6:A.drop (k-1+1)=B.drop (k-1+1):=by rw[show k-1+1=k by omega];exact hd
   rw[ht];refine⟨⟨by omega,by omega,qC a3⟩,_,qG a3,⟨by omega,by omega,qC a4⟩,_,qG a4,brd (fun h2=>?_) (fun h2=>?_)⟩
   ·have:=vw lA h a3 a6 (by omega);rw[XN,if_pos (by omega)]
   ·refine⟨⟨by omega,by omega,qC a3⟩,_,qG a3,⟨by omega,by omega,qC a4⟩,_,qG a4,brd (fun h3=>?_) (fun h3=>?_)⟩
    ·have:=vw lB h.symm a4 a6.symm (by omega);rw[XN,if_neg (by omega),if_pos (by omega)]
    ·have hw:J3 .i64 ((k:Int)-1-1)=((k-1:Nat):Int)-1:=by rw[zJ];omega
     rw[hw];refine⟨⟨k-1,by omega,rfl,?_⟩,?_⟩
     ·rw[bd a3,bd a4,a6];congr 1;omega
     ·simp only[nth,toI];omega
  ·have a3:k=0:=by omega
   subst a3;have:A=B:=by simpa using hd
   rw[XN,←vA,←vB,this,if_neg (by omega),if_neg (by omega)]
theorem TR {x y:Int} (hx:Sm x) (hy:Sm y):qe CC 144 [qS x,qS y] [.c (.int .i64 (Qi x y))]:=by
 refine qw (anns:=an0) mixedT Tryz.func144 ?_;have lx:=hx.len;have ly:=hy.len;rw[qH x,qH y,bC];have c1:=kz (x:=x.natAbs) (y:=y.natAbs) (by omega) (by omega);have c2:=kz (x:=y.natAbs) (y:=x.natAbs) (by omega) (by omega);refine brb (fun h=>?_) (fun h=>?_)
 ·refine zQ (fun h1=>?_) (fun h1=>?_)
  ·have h1:x<0:=by simpa using h1
   have h2:¬y<0:=by intro h2;rw[decide_eq_true h1,decide_eq_true h2]at h;simp at h
   rw[Qi,if_pos (by omega)]
  ·have h1:¬x<0:=by simpa using h1
   have h2:y<0:=by apply Aw;intro h2;rw[decide_eq_false h1,decide_eq_false h2]at h;simp at h
   rw[Qi,if_neg (by omega),if_pos (by omega)]
 ·refine zQ (fun h1=>?_) (fun h1=>?_)
  ·have h1:x<0:=by simpa using h1
   have h2:y<0:=by apply Aw;intro h2;rw[decide_eq_true h1,decide_eq_false h2]at h;simp at h
   refine⟨_,c2,?_⟩;have:XN y.natAbs x.natAbs=Qi x y:=by
    unfold XN Qi;by_cases h3:x<y
    ·rw[if_pos h3,if_pos (by omega)]
    ·rw[if_neg h3,if_neg (by omega)];by_cases h4:y<x
     ·rw[if_pos h4,if_pos (by omega)]
     ·rw[if_neg h4,if_neg (by omega)]
   rw[this]
  ·have h1:¬x<0:=by simpa using h1
   have h2:¬y<0:=by intro h2;rw[decide_eq_false h1,decide_eq_true h2]at h;simp at h
   refine⟨_,c1,?_⟩;have:XN x.natAbs y.natAbs=Qi x y:=by
    unfold XN Qi;by_cases h3:x<y
    ·rw[if_pos h3,if_pos (by omega)]
    ·rw[if_neg h3,if_neg (by omega)];by_cases h4:y<x
     ·rw[if_pos h4,if_pos (by omega)]
     ·rw[if_neg h4,if_neg (by omega)]
   rw[this]
theorem EH {o:List Nat} {k c:Nat} (ho:o.length=k):(o++[0]).set k c=o++[c]:=by
 rw[List.set_append_right _ _ (by omega),ho];simp
def qpI (a b:List Nat):List D→List D→Prop:=fun _ ds=>∃(k:Nat) (o:List Nat) (c:Nat),k≤a.length∧o.length=k∧ds=[.sl (raw (o++ap (a.length+1-k) 0)),.int .u32 (c:Int),.int .i64 (k:Int)]∧Limbs o∧c≤1∧val o+1000000000^k*c=val (a.take k)+val (b.take k)
def qpM (a:List Nat):List D→Nat:=fun ds=>a.length-(toI (nth .undef ds 2)).toNat
theorem Vm {a b:List Nat} (ha:Limbs a) (hb:Limbs b) (hra:a.length≤1073741823) (hab:b.length≤a.length):
 Nf (qe CC) (qpI a b) (qpM a)
  (fun r=>r=[.c (.sl (raw (lim (val a+val b))))]) (raw a) (raw b):=by
 unfold Nf qpI qpM;simp only[Lr,qi];have hn:J3 .i64 ((a.length:Int)+1)=((a.length+1:Nat):Int):=by rw[zJ];omega
 rw[hn,Ls];refine⟨⟨by omega,by omega,by unfold room;omega⟩,⟨0,[],0,by omega,rfl,by rw[xx];rfl,Hy,by omega,by simp[val]⟩,?_⟩;rintro es n m ⟨k,o,c,hk,ho,he,lo,hc,hv⟩;simp only[ca,Hu,Hv,true_and,and_true]at he;obtain⟨rfl,rfl,rfl⟩:=he;have a4:(o++ap (a.length+1-k) 0).length=a.length+1:=by simp[ho];omega
 refine brd (fun h1=>?_) (fun h1=>?_)
 ·have a3:k<a.length:=by omega
  have hxk:=ha.get a3;have hk1:J3 .i64 ((k:Int)+1)=((k+1:Nat):Int):=by rw[zJ];omega
  rw[Ls,hk1,qi,a4];have a6:∀(t:Nat),t≤1999999999→t=a[k]+c+b.getD k 0→
   (((0:Int)≤(k:Int)∧(k:Int)<((a.length+1:Nat):Int))∧0<1∧(1000000000:Int)≠0∧
     (∃(k':Nat) (o':List Nat) (c':Nat),k'≤a.length∧o'.length=k'∧[F0 (upd (raw (o++ap (a.length+1-k) 0)) k (upd (nth [] (raw (o++ap (a.length+1-k) 0)) k) 0 (Dd .u32 (No (t:Int) 1000000000)))),Dd .u32 (J3 .u32 (Lv (t:Int) 1000000000)),Dd .i64 ((k+1:Nat):Int)]=
        [.sl (raw (o'++ap (a.length+1-k') 0)),.int .u32 (c':Int),.int .i64 (k':Int)]∧Limbs o'∧c'≤1∧val o'+1000000000^k'*c'=val (a.take k')+val (b.take k'))∧
     a.length-(toI (nth .undef [F0 (upd (raw (o++ap (a.length+1-k) 0)) k (upd (nth [] (raw (o++ap (a.length+1-k) 0)) k) 0 (Dd .u32 (No (t:Int) 1000000000)))),Dd .u32 (J3 .u32 (Lv (t:Int) 1000000000)),Dd .i64 ((k+1:Nat):Int)] 2)).toNat<
      a.length-(toI (nth .undef [F0 (raw (o++ap (a.length+1-k) 0)),Dd .u32 (c:Int),Dd .i64 (k:Int)] 2)).toNat):=by
   intro t ht hte;rw[Pd,Pe,jX,zb (by rw[a4];omega),vz ho (by omega)];refine⟨⟨by omega,by omega⟩,by omega,by omega,⟨k+1,o++[t%1000000000],t/1000000000,by omega,by simp[ho],by rw[show a.length+1-k-1=a.length+1-(k+1)by omega],lo.append (Hx (by omega) Hy),by omega,je a3 ho hv (by omega)⟩,?_⟩;simp only[nth,toI];omega
  refine⟨⟨by omega,by omega,qC a3⟩,_,qG a3,brd (fun h2=>?_) (fun h2=>?_)⟩
  ·have a5:k<b.length:=by omega
   have hyk:=hb.get a5;have hgd:b.getD k 0=b[k]:=by simp[b5,a5]
   have hw:J3 .u32 (J3 .u32 ((c:Int)+(a[k]:Int))+(b[k]:Int))=((a[k]+c+b[k]:Nat):Int):=by rw[jX (n:=(c:Int)+(a[k]:Int)),jX];omega
   refine⟨⟨by omega,by omega,qC a5⟩,_,qG a5,by omega,?_⟩;rw[hw];exact a6 _ (by omega) (by omega)
  ·have hgd:b.getD k 0=0:=Kv (by omega);have hw:J3 .u32 ((c:Int)+(a[k]:Int))=((a[k]+c:Nat):Int):=by rw[jX];omega
   rw[hw];exact⟨by omega,a6 _ (by omega) (by omega)⟩
 ·have a3:k=a.length:=by omega
  subst a3;rw[bb,bv hab]at hv;have e1:a.length+1-a.length=1:=by omega
  rw[e1]at a4 ⊢;rw[Ls,qi,a4,zb (by rw[a4];omega),List.replicate_one,EH ho];have hg:=jY (l:=o++[c]) (lo.append (Hx (by omega) Hy)) (by simp[ho];omega);rw[Xj,ho,hv]at hg;exact⟨⟨by omega,by omega⟩,by omega,_,hg,rfl⟩
theorem EI {a b:List Nat} (ha:Limbs a) (hb:Limbs b) (hra:a.length≤1073741823) (hrb:b.length≤1073741823):qe CC 224 [.c (.sl (raw a)),.c (.sl (raw b))] [.c (.sl (raw (lim (val a+val b))))]:=by
 by_cases hab:a.length<b.length
 ·refine qw (anns:=fun _=>⟨[.own 5 55 1,.slot 6 (.int .u32 0),.slot 7 (.int .i64 0)],[],qpI b a,qpM b⟩) mixedT Tryz.func224 ?_;have h:=Vm hb ha hrb (by omega);rw[Ng];simp only[Lr,qi];refine brd (fun _=>?_) (fun h0=>by omega);rw[Nat.add_comm (val b)]at h;exact h
 ·refine qw (anns:=fun _=>⟨[.own 5 55 1,.slot 6 (.int .u32 0),.slot 7 (.int .i64 0)],[],qpI a b,qpM a⟩) mixedT Tryz.func224 ?_;have h:=Vm ha hb hra (by omega);rw[Ng];simp only[Lr,qi];exact brd (fun h0=>by omega) (fun _=>h)
end Eng
end
section
namespace Eng
open Go Go.Proofs
set_option maxRecDepth 100000
theorem Xq {a b:List Nat} (ha:Limbs a) (hb:Limbs b) (hra:a.length≤1073741824) (hab:val b≤val a):qe CC 223 [.c (.sl (raw a)),.c (.sl (raw b))] [.c (.sl (raw (lim (val a-val b))))]:=by
 refine qw (anns:=fun _=>⟨[.own 5 45 1,.slot 6 (.int .u32 0),.slot 7 (.int .i64 0)],[],fun _ ds=>∃(k:Nat) (o:List Nat) (c:Nat),k≤a.length∧o.length=k∧ds=[.sl (raw (o++ap (a.length-k) 0)),.int .u32 (c:Int),.int .i64 (k:Int)]∧Limbs o∧c≤1∧val o+val (b.take k)=val (a.take k)+1000000000^k*c,fun ds=>a.length-(toI (nth .undef ds 2)).toNat⟩) mixedT Tryz.func223 ?_;rw[SL];simp only[Lr,qi];refine⟨⟨by omega,by omega,by unfold room;omega⟩,⟨0,[],0,by omega,rfl,by rw[Ls,xx];rfl,Hy,by omega,by simp[val]⟩,?_⟩;rintro es n m ⟨k,o,c,hk,ho,he,lo,hc,hv⟩;simp only[ca,Hu,Hv,true_and,and_true]at he;obtain⟨rfl,rfl,rfl⟩:=he;have hol:(o++ap (a.length-k) 0).length=a.length:=by simp[ho];omega
 refine brd (fun h1=>?_) (fun h1=>?_)
 ·have a3:k<a.length:=by omega
  have hxk:=ha.get a3;have hk1:J3 .i64 ((k:Int)+1)=((k+1:Nat):Int):=by rw[zJ];omega
  rw[Ls,hk1,qi,hol];have hw0:J3 .u32 (J3 .u32 ((a[k]:Int)+1000000000)-(c:Int))=((a[k]+1000000000-c:Nat):Int):=by rw[jX (n:=(a[k]:Int)+1000000000),jX];omega
  refine⟨⟨by omega,by omega,qC a3⟩,_,qG a3,?_⟩;rw[hw0];refine brd (fun h2=>?_) (fun h2=>?_)
  ·have a5:k<b.length:=by omega
   have hyk:=hb.get a5;have a4:b.getD k 0=b[k]:=by simp[b5,a5]
   refine⟨⟨by omega,by omega,qC a5⟩,_,qG a5,?_⟩;have hw:J3 .u32 (((a[k]+1000000000-c:Nat):Int)-(b[k]:Int))=((a[k]+1000000000-c-b[k]:Nat):Int):=by rw[jX];omega
   rw[hw];refine brd (fun h3=>?_) (fun h3=>?_)
   ·have a6:J3 .u32 (((a[k]+1000000000-c-b[k]:Nat):Int)-1000000000)=((a[k]-(c+b[k]):Nat):Int):=by rw[jX];omega
    rw[a6,zb (by simp[ho];omega),vz ho (by omega)];refine⟨⟨by omega,by omega⟩,by omega,⟨k+1,o++[a[k]-(c+b[k])],0,by omega,by simp[ho],by rw[show a.length-k-1=a.length-(k+1)by omega];rfl,lo.append (Hx (by omega) Hy),by omega,zZ a3 ho hv (by have:=a4;omega)⟩,?_⟩;simp only[nth,toI];omega
   ·rw[zb (by simp[ho];omega),vz ho (by omega)];refine⟨⟨by omega,by omega⟩,by omega,⟨k+1,o++[a[k]+1000000000-c-b[k]],1,by omega,by simp[ho],by rw[show a.length-k-1=a.length-(k+1)by omega];rfl,lo.append (Hx (by omega) Hy),by omega,zZ a3 ho hv (by have:=a4;omega)⟩,?_⟩;simp only[nth,toI];omega
  ·have a4:b.getD k 0=0:=Kv (by omega);refine brd (fun h3=>?_) (fun h3=>?_)
   ·have a6:J3 .u32 (((a[k]+1000000000-c:Nat):Int)-1000000000)=((a[k]-c:Nat):Int):=by rw[jX];omega
    rw[a6,zb (by simp[ho];omega),vz ho (by omega)];refine⟨⟨by omega,by omega⟩,by omega,⟨k+1,o++[a[k]-c],0,by omega,by simp[ho],by rw[show a.length-k-1=a.length-(k+1)by omega];rfl,lo.append (Hx (by omega) Hy),by omega,zZ a3 ho hv (by have:=a4;omega)⟩,?_⟩;simp only[nth,toI];omega
   ·rw[zb (by simp[ho];omega),vz ho (by omega)];refine⟨⟨by omega,by omega⟩,by omega,⟨k+1,o++[a[k]+1000000000-c],1,by omega,by simp[ho],by rw[show a.length-k-1=a.length-(k+1)by omega];rfl,lo.append (Hx (by omega) Hy),by omega,zZ a3 ho hv (by have:=a4;omega)⟩,?_⟩;simp only[nth,toI];omega
 ·have a3:k=a.length:=by omega
  subst a3;rw[bb]at hv;rw[Nat.sub_self,List.replicate_zero,b6];have h2:=qW lo;rw[ho]at h2;have h3:val b=val (b.take a.length)+1000000000^(b.take a.length).length*val (b.drop a.length):=by rw[←qU,List.take_append_drop]
  have h4:=qW ha;have h5:val (b.take a.length)=val b:=by
   rcases fz b.length a.length with hl|hl
   ·rw[bv (by omega)]
   ·rw[be,Nat.min_eq_left hl]at h3;rcases c9 (val (b.drop a.length))with h6|h6
    ·rw[h6]at h3;omega
    ·have:=eb (1000000000^a.length) h6;omega
  have h6:c=0:=by
   rcases c9 c with h6|h6
   ·exact h6
   ·have:=eb (1000000000^a.length) h6;omega
  subst h6;have hg:=jY lo (by omega);rw[show val o=val a-val b by omega]at hg;exact⟨_,hg,rfl⟩
set_option maxHeartbeats 1000000 in
theorem HE {a b:List Nat} (ha:Limbs a) (hb:Limbs b) (hra:a.length≤536870912) (hrb:b.length≤536870912):
 qe CC 206 [.c (.sl (raw a)),.c (.sl (raw b))] [.c (.sl (raw (lim (val a*val b))))]:=by
 refine qw (anns:=Vd
  ⟨[.own 5 68 1,.slot 6 (.int .i64 0)],[],fun _ ds=>∃(i:Nat) (o:List Nat),i≤a.length∧ds=[.sl (raw o),.int .i64 (i:Int)]∧o.length=a.length+b.length∧Limbs o∧(∀j,i+b.length≤j→o.getD j 0=0)∧val o=val (a.take i)*val b,fun ds=>a.length-(toI (nth .undef ds 1)).toNat⟩
  ⟨[.own 5 68 1,.slot 7 (.int .u64 0),.slot 8 (.int .i64 0)],[.slot 6 (.int .i64 0),.own 5 68 1],fun g ds=>∃(i k c:Nat) (o0 o:List Nat),g=[.int .i64 (i:Int),.sl (raw o0)]∧i<a.length∧k≤b.length∧c<1000000000∧ds=[.sl (raw o),.int .u64 (c:Int),.int .i64 (k:Int)]∧o.length=a.length+b.length∧Limbs o∧(∀j,i+b.length≤j→o.getD j 0=0)∧val o+1000000000^(i+k)*c=val o0+1000000000^i*(a.getD i 0*val (b.take k)),fun ds=>b.length-(toI (nth .undef ds 2)).toNat⟩) mixedT Tryz.func206 ?_
 rw[SM];simp only[Lr,qi];have hab:J3 .i64 ((a.length:Int)+(b.length:Int))=((a.length+b.length:Nat):Int):=by rw[zJ];omega
 rw[hab,Ls,xx];refine⟨⟨by omega,by omega,by unfold room;omega⟩,⟨0,ap (a.length+b.length) 0,by omega,rfl,by simp,fun y hy=>by rw[List.eq_of_mem_replicate hy];omega,fun j _=>by simp[b5,List.getElem?_replicate];split<;>rfl,by simp[vv,val]⟩,?_⟩;rintro es n ⟨i,o0,hi,he,hol,lo,hz,hv⟩;simp only[ca,Hu,Hv,true_and,and_true]at he;obtain⟨rfl,rfl⟩:=he;refine brd (fun h1=>?_) (fun h1=>?_)
 ·have a3:i<a.length:=by omega
  have hai:=ha.get a3;refine⟨⟨i,0,0,o0,o0,rfl,a3,by omega,by omega,rfl,hol,lo,hz,by simp[val]⟩,?_⟩;rintro es m k' ⟨i',k,c,o0',o,hg,_,hk,hc,he,a5,ag,ad,al⟩;simp only[ca,Hu,Hv,true_and,and_true]at hg he;obtain⟨hi',a8⟩:=hg;obtain⟨rfl,rfl,rfl⟩:=he;have a6:i'=i:=by omega
  subst a6;have a8:=TM a8;subst a8;rw[xy a3]at al;refine brd (fun h2=>?_) (fun h2=>?_)
  ·have a4:k<b.length:=by omega
   have hbk:=hb.get a4;have hj:i'+k<o.length:=by omega
   have hoj:=ag.get hj;have hw:J3 .i64 ((i':Int)+(k:Int))=((i'+k:Nat):Int):=by rw[zJ];omega
   have a7:J3 .i64 ((k:Int)+1)=((k+1:Nat):Int):=by rw[zJ];omega
   rw[hw,a7,Ls,Ls,Ls,qi];refine⟨⟨by omega,by omega⟩,_,qG hj,⟨by omega,by omega,qC a3⟩,_,qG a3,⟨by omega,by omega,qC a4⟩,_,qG a4,by omega,⟨by omega,by omega⟩,by omega,by omega,?_⟩;have hp:a[i']*b[k]≤999999999*999999999:=cc (by omega) (by omega);obtain⟨p,a9⟩:∃p,p=a[i']*b[k]:=⟨_,rfl⟩;rw[←a9]at hp;have hpi:(a[i']:Int)*(b[k]:Int)=(p:Int):=by rw[a9];exact(T1 _ _).symm
   obtain⟨t,hte⟩:∃t,t=o[i'+k]+p+c:=⟨_,rfl⟩;have ht:J3 .u64 (J3 .u64 ((c:Int)+J3 .u64 (o[i'+k]:Int))+J3 .u64 (J3 .u64 (a[i']:Int)*J3 .u64 (b[k]:Int)))=(t:Int):=by rw[xO (n:=(o[i'+k]:Int)),xO (n:=(a[i']:Int)),xO (n:=(b[k]:Int)),hpi,xO (n:=(p:Int)),xO (n:=(c:Int)+(o[i'+k]:Int)),xO];omega
   rw[ht,Pd,Pe,jX (n:=((t%1000000000:Nat):Int)),xO (n:=((t/1000000000:Nat):Int)),zb hj];refine⟨⟨i',k+1,t/1000000000,o0,o.set (i'+k) (t%1000000000),rfl,a3,by omega,by omega,rfl,by simp[a5],Xk ag (by omega),fun j hjj=>by rw[jy (by omega)];exact ad j hjj,?_⟩,?_⟩
   ·have h3:=Kw (t%1000000000) hj;rw[xy hj]at h3;rw[xy a3,qQ,xy a4];have h4:=Yx (k:=i'+k) (show t%1000000000+1000000000*(t/1000000000)=t by omega);rw[show i'+(k+1)=i'+k+1 by omega];have h5:1000000000^(i'+k)*t=1000000000^(i'+k)*o[i'+k]+1000000000^(i'+k)*p+1000000000^(i'+k)*c:=by rw[hte,c4,c4]
    have h6:1000000000^i'*(a[i']*(val (b.take k)+1000000000^k*b[k]))=1000000000^i'*(a[i']*val (b.take k))+1000000000^(i'+k)*p:=by rw[c4,c4,a9,dk];congr 1;simp only[c0,fg]
    omega
   ·simp only[nth,toI];omega
  ·have a4:k=b.length:=by omega
   subst a4;have hj:i'+b.length<o.length:=by omega
   have hw:J3 .i64 ((i':Int)+(b.length:Int))=((i'+b.length:Nat):Int):=by rw[zJ];omega
   have a7:J3 .i64 ((i':Int)+1)=((i'+1:Nat):Int):=by rw[zJ];omega
   rw[hw,a7,Ls,qi,jX (n:=(c:Int)),zb hj];refine⟨⟨by omega,by omega⟩,by omega,⟨i'+1,o.set (i'+b.length) c,by omega,rfl,by simp[a5],Xk ag hc,fun j hjj=>by rw[jy (by omega)];exact ad j (by omega),?_⟩,?_⟩
   ·have h3:=Kw c hj;rw[ad _ (cp _)]at h3;rw[bb]at al;rw[qQ,xy a3,ea,←hv,c0];omega
   ·simp only[nth,toI];omega
 ·have a3:i=a.length:=by omega
  subst a3;rw[bb]at hv;have hg:=jY lo (by omega);rw[hv]at hg;exact⟨_,hg,rfl⟩
theorem SN {a:List Nat} {d:Nat} (ha:Limbs a) (hd:d<1000000000) (hra:a.length≤536870912):qe CC 222 [.c (.sl (raw a)),.c (.int .u32 (d:Int))] [.c (.sl (raw (lim (val a*d))))]:=by
 refine qw (anns:=an0) mixedT Tryz.func222 ?_;rw[iL];have h1:=jY (l:=[d]) (Hx hd Hy) (by simp);have hv:val [d]=d:=by simp[val]
 rw[hv]at h1;have hl:(lim d).length≤536870912:=by have:(lim d).length≤1:=qy (by omega);omega
 have h2:=HE ha (qh d) hra hl;rw[qj]at h2;exact⟨_,h1,_,h2,rfl⟩
theorem Y6 {x:Int} (hx:Sm x):qe CC 108 [qS x] [qS (-x)]:=by
 refine qw (anns:=an0) mixedT Tryz.func108 ?_;have lx:=hx.len;rw[qH x,bD];refine⟨_,_,xh (!decide (x<0)) (qh x.natAbs) (by omega) (z:= -x) ?_,rfl⟩;rw[qj];by_cases h:x<0
 ·simp[h];omega
 ·simp[h];omega
theorem TS {x y n:Nat} (hx:(lim x).length≤n) (hy:(lim y).length≤n):(lim (x+y)).length≤n+1:=by
 refine qy ?_;have h1:=qW (qh x);have h2:=qW (qh y);rw[qj]at h1 h2;have hB:∀{i j:Nat},i≤j→(1000000000:Nat)^i≤1000000000^j:=fun h=>cg (by decide) h
 have h3:=hB hx;have h4:=hB hy;rw[cL];generalize (1000000000:Nat)^n=T at *;omega
theorem K0 {x y:Int} (hx:Sm x) (hy:Sm y):qe CC 168 [qS x,qS y] [qS (x+y)]:=by
 refine qw (anns:=an0) mixedT Tryz.func168 ?_;have lx:=hx.len;have ly:=hy.len;have a4:(lim (x.natAbs+y.natAbs)).length≤1073741824:=by have:=TS (n:=100000) lx ly;omega
 have AT:∀{m n:Nat},m≤n→(lim m).length≤(lim n).length:=fun{m n} h=>qy (cb h (by have:=qW (qh n);rw[qj]at this;exact this))
 rw[qH x,qH y,bE];have hp:=EI (qh x.natAbs) (qh y.natAbs) (by omega) (by omega);rw[qj,qj]at hp;have hc:=kz (x:=x.natAbs) (y:=y.natAbs) (by omega) (by omega);refine brb (fun h=>?_) (fun h=>?_)
 ·have hs:(x<0)↔(y<0):=by
   have:decide (x<0)=decide (y<0):=by simpa using h
   rw[decide_eq_decide]at this;exact this
  refine⟨_,hp,_,_,xh (decide (x<0)) (qh _) a4 (z:=x+y) ?_,rfl⟩;rw[qj];by_cases h1:x<0
  ·have:=hs.1 h1;simp[h1];omega
  ·have:¬y<0:=fun h2=>h1 (hs.2 h2)
   simp[h1];omega
 ·have hs:(x<0)↔¬(y<0):=by
   have h2:¬(decide (x<0)=decide (y<0)):=by simpa using h
   rw[decide_eq_decide]at h2;constructor
   ·intro a b;exact h2 ⟨fun _=>b,fun _=>a⟩
   ·intro b;apply Aw;intro a;exact h2 ⟨fun c=>absurd c a,fun c=>absurd c b⟩
  refine⟨_,hc,brd (fun h1=>?_) (fun h1=>?_)⟩
  ·have a3:y.natAbs≤x.natAbs:=by
    unfold XN at h1;split at h1
    ·omega
    ·omega
   have hm:=Xq (qh x.natAbs) (qh y.natAbs) (by omega) (by rw[qj,qj];exact a3);rw[qj,qj]at hm;refine⟨_,hm,_,_,xh (decide (x<0)) (qh _) (by have:=AT (show x.natAbs-y.natAbs≤x.natAbs by omega);omega) (z:=x+y) ?_,rfl⟩;rw[qj];by_cases h2:x<0
   ·have:=hs.1 h2;simp[h2];omega
   ·have:y<0:=by apply Aw;intro h3;exact h2 (hs.2 h3)
    simp[h2];omega
  ·have a3:x.natAbs≤y.natAbs:=by
    unfold XN at h1;split at h1
    ·omega
    ·split at h1<;>omega
   have hm:=Xq (qh y.natAbs) (qh x.natAbs) (by omega) (by rw[qj,qj];exact a3);rw[qj,qj]at hm;refine⟨_,hm,_,_,xh (decide (y<0)) (qh _) (by have:=AT (show y.natAbs-x.natAbs≤y.natAbs by omega);omega) (z:=x+y) ?_,rfl⟩;rw[qj];by_cases h2:y<0
   ·have:¬x<0:=fun h3=>(hs.1 h3) h2
    simp[h2];omega
   ·have:=hs.2 h2;simp[h2];omega
theorem bI {x:Int} (h:Sm x):Sm (-x):=by unfold Sm at *;rw[P1];exact h
theorem SO {x y:Int} (hx:Sm x) (hy:Sm y):qe CC 167 [qS x,qS y] [qS (x-y)]:=by
 refine qw (anns:=an0) mixedT Tryz.func167 ?_;have h1:=Y6 hy;have h2:=K0 hx (bI hy);rw[qH y]at h1;rw[qH x]at h2;rw[qH x,qH y,bF];exact⟨_,_,h1,_,_,h2,rfl⟩
theorem j6 {x y:Int} (hx:Sm x) (hy:Sm y):qe CC 145 [qS x,qS y] [qS (x*y)]:=by
 refine qw (anns:=an0) mixedT Tryz.func145 ?_;have lx:=hx.len;have ly:=hy.len;have ht:=HE (qh x.natAbs) (qh y.natAbs) (by omega) (by omega);rw[qj,qj]at ht;have lp:(lim (x.natAbs*y.natAbs)).length≤1073741824:=by
  have h1:=qW (qh x.natAbs);have h2:=qW (qh y.natAbs);rw[qj]at h1 h2;have h3:x.natAbs*y.natAbs<1000000000^((lim x.natAbs).length+(lim y.natAbs).length):=by rw[dk];exact Nat.mul_lt_mul'' h1 h2
  have:=qy h3;omega
 rw[qH x,qH y,bG];refine⟨_,ht,_,_,xh (!(decide (x<0)==decide (y<0))) (qh _) lp (z:=x*y) ?_,rfl⟩;rw[qj];have hm:(x*y).natAbs=x.natAbs*y.natAbs:=Pl x y;by_cases h1:x<0<;>by_cases h2:y<0
 ·have:=Int.mul_pos_of_neg_of_neg h1 h2;simp[h1,h2];omega
 ·have:x*y≤0:=Int.mul_nonpos_of_nonpos_of_nonneg (by omega) (by omega);simp[h1,h2];omega
 ·have:x*y≤0:=Int.mul_nonpos_of_nonneg_of_nonpos (by omega) (by omega);simp[h1,h2];omega
 ·have:0≤x*y:=Int.mul_nonneg (by omega) (by omega);simp[h1,h2];omega
end Eng
end
section
namespace Eng
open Go Go.Proofs
set_option maxRecDepth 100000
def v7:Prop:=∀x y:Nat,y≠0→(lim x).length≤100000→(lim y).length≤100000→
 qe CC 165 [.c (.sl (raw (lim x))),.c (.sl (raw (lim y)))] [.c (.sl (raw (lim (x/y)))),.c (.sl (raw (lim (x%y))))]
theorem AT {m n:Nat} (h:m≤n):(lim m).length≤(lim n).length:=
 qy (cb h (by have:=qW (qh n);rw[qj]at this;exact this))
theorem TT (hd:v7) {x y:Int} (hx:Sm x) (hy:Sm y):qe CC 109 [qS x,qS y] [qS (dl x.natAbs y.natAbs:Nat)]:=by
 generalize hG:dl x.natAbs y.natAbs=G;refine qw (anns:=Vd
  ⟨[.slot 5 (.slice none 0 0),.slot 6 (.slice none 0 0)],[],fun _ ds=>∃m n:Nat,ds=[.sl (raw (lim m)),.sl (raw (lim n))]∧dl m n=G∧m<Vk∧n<Vk,fun ds=>WA (toL (nth .undef ds 1))⟩
  ⟨[.slot 9 (.int .u64 0),.slot 10 (.int .u64 0)],[],fun _ ds=>∃u v:Nat,ds=[.int .u64 (u:Int),.int .u64 (v:Int)]∧dl u v=G∧u<1000000000000000000∧v<1000000000000000000,fun ds=>(toI (nth .undef ds 1)).toNat⟩) mixedT Tryz.func109 ?_
 rw[qH x,qH y,bH];simp only[Lr];refine⟨⟨x.natAbs,y.natAbs,rfl,hG,hx,hy⟩,?_⟩;rintro es fs ⟨m,n,he,hg,hm,hn⟩;simp only[ca,Hv,and_true]at he;obtain⟨rfl,rfl⟩:=he;have lm:=(smN.2 hm).len;have ln:=(smN.2 hn).len;rw[Lm]at lm ln;rw[qi,qi];have a5:0<n→∃es_2 es_3,qe CC 165 [Bx (F0 (raw (lim m))),Bx (F0 (raw (lim n)))] [Bx (F0 es_2),Bx (F0 es_3)]∧
  (∃m' n':Nat,[F0 (raw (lim n)),F0 es_3]=[.sl (raw (lim m')),.sl (raw (lim n'))]∧dl m' n'=G∧m'<Vk∧n'<Vk)∧
  WA (toL (nth .undef [F0 (raw (lim n)),F0 es_3] 1))<WA (toL (nth .undef [F0 (raw (lim m)),F0 (raw (lim n))] 1)):=by
  intro a4;have a6:=ed m a4;refine⟨_,_,hd m n (by omega) lm ln,⟨n,m%n,rfl,?_,hn,by omega⟩,?_⟩
  ·rw[←hg,el n,←fS,el]
  ·simp only[nth,toL,Xm,qj];exact a6
 have a3:∀{k:Nat},¬((lim k).length:Int)>2→k<1000000000000000000:=by
  intro k hk;have h1:=qW (qh k);rw[qj]at h1;have h2:1000000000^(lim k).length≤1000000000^2:=cg (by omega) (by omega);have h3:(1000000000:Nat)^2=1000000000000000000:=by decide
  omega
 have a7:n=0→∃b es_2,qe CC 80 [Bx (F2 false),Bx (F0 (raw (lim m)))] [A.ag [F2 b,F0 es_2]]∧[A.ag [F2 b,F0 es_2]]=[qS (G:Int)]:=by intro a4;subst a4;rw[eH]at hg;subst hg;exact⟨_,_,xh false (qh m) (by omega) (z:=(m:Int)) (by simp[qj]),rfl⟩
 have a8:m<1000000000000000000→n<1000000000000000000→
  ∃a,qe CC 166 [Bx (F0 (raw (lim m)))] [Bx (Dd J7 a)]∧∃b,qe CC 166 [Bx (F0 (raw (lim n)))] [Bx (Dd J7 b)]∧
   (∃u v:Nat,[Dd J7 a,Dd J7 b]=[.int .u64 (u:Int),.int .u64 (v:Int)]∧dl u v=G∧u<1000000000000000000∧v<1000000000000000000)∧
   ∀(n n_2:Int),(∃u v:Nat,[Dd J7 n,Dd J7 n_2]=[.int .u64 (u:Int),.int .u64 (v:Int)]∧dl u v=G∧u<1000000000000000000∧v<1000000000000000000)→
    br (toB (F2 (decide (n_2>(0:Int)))))
     (n_2≠(0:Int)∧
      (∃u v:Nat,[Dd J7 n_2,Dd J7 (No n n_2)]=[.int .u64 (u:Int),.int .u64 (v:Int)]∧dl u v=G∧u<1000000000000000000∧v<1000000000000000000)∧
       (toI (nth .undef [Dd J7 n_2,Dd J7 (No n n_2)] 1)).toNat<(toI (nth .undef [Dd J7 n,Dd J7 n_2] 1)).toNat)
     (∃es,qe CC 81 [Bx (Dd J7 n)] [Bx (F0 es)]∧
      ∃b es_2,qe CC 80 [Bx (F2 false),Bx (F0 es)] [A.ag [F2 b,F0 es_2]]∧[A.ag [F2 b,F0 es_2]]=[qS (G:Int)]):=by
  intro sm sn;have h3:(1000000000:Nat)^2=1000000000000000000:=by decide
  have g1:=Xo (qh m) (qy (by omega));have g2:=Xo (qh n) (qy (by omega));rw[qj]at g1 g2;refine⟨_,g1,_,g2,⟨m,n,rfl,hg,sm,sn⟩,?_⟩;rintro a b ⟨u,v,he,a9,hu,hv⟩;simp only[ca,Hu,true_and,and_true]at he;obtain⟨rfl,rfl⟩:=he;refine brd (fun h2=>?_) (fun h2=>?_)
  ·have ad:0<v:=by omega
   have e2:No (u:Int) (v:Int)=((u%v:Nat):Int):=by rw[W0 (by omega)];rfl
   have a6:=ed u ad;rw[e2];refine⟨by omega,⟨v,u%v,rfl,by rw[←a9,el v,←fS,el],hv,by omega⟩,?_⟩;simp only[nth,toI,Ls];exact a6
  ·have ad:v=0:=by omega
   subst ad;rw[eH]at a9;subst a9;have:(lim u).length≤2:=qy (by omega);exact⟨_,yl (by omega),_,_,xh false (qh u) (by omega) (z:=(u:Int)) (by simp[qj]),rfl⟩
 refine brd (fun h=>?_) (fun h=>?_)
 ·have a4:0<n:=qK.1 (by omega);refine brd (fun h1=>a5 a4) (fun h1=>brd (fun h2=>a5 a4) (fun h2=>brb (fun h3=>?_) (fun _=>a8 (a3 h1) (a3 h2))));have:((lim n).length:Int)=0:=by simpa using h3
  omega
 ·have a4:n=0:=by
   rcases c9 n with h0|h0
   ·exact h0
   ·have:=qK.2 h0;omega
  refine brb (fun _=>a7 a4) (fun h3=>?_);subst a4;simp[Yw]at h3
theorem wO (hd:v7) {x y:Int} (hx:Sm x) (hy:Sm y) (hy0:0<y):qe CC 110 [qS x,qS y] [qS (x/y),qS (x%y),.c (.int .i64 0)]:=by
 refine qw (anns:=an0) mixedT Tryz.func110 ?_;have lx:=hx.len;have ly:=hy.len;have hyn:y.natAbs≠0:=by omega
 have hlp:0<(lim y.natAbs).length:=qK.2 (by omega);have h1:=hd x.natAbs y.natAbs hyn lx ly;have hqs:(x/y).natAbs≤x.natAbs+1:=by have:=Ts x y;omega
 rw[qH x,qH y,Pg];simp only[Lr];obtain⟨a,ha⟩:∃a:Nat,x.natAbs=a:=⟨_,rfl⟩;obtain⟨b,hb⟩:∃b:Nat,y=(b:Int):=⟨y.natAbs,by omega⟩;have a3:y.natAbs=b:=by omega
 have hb0:0<b:=by omega
 rw[ha,a3]at h1;rw[ha]at lx;rw[a3]at ly;have hdm:=fx a b;have hml:=ed a hb0;have lq:(lim (a/b)).length≤100000:=dc (AT (ft a b)) lx;have lr:(lim (a%b)).length≤100000:=dc (AT (Nat.mod_le a b)) lx;refine brb (fun h=>?_) (fun _=>?_)
 ·rw[qi]at h;have:((lim y.natAbs).length:Int)=0:=by simpa using h
  omega
 have a5:decide (y<0)=false:=decide_eq_false (by omega);rw[a5];by_cases hx0:x<0
 ·have hxt:decide (x<0)=true:=decide_eq_true hx0;rw[hxt,ha,a3];have a4:x= -(a:Int):=by omega
  have gq:=xh true (qh (a/b)) (by omega) (z:= -((a/b:Nat):Int)) (by rw[qj];rfl);have gr:=xh true (qh (a%b)) (by omega) (z:= -((a%b:Nat):Int)) (by rw[qj];rfl);refine⟨_,_,h1,_,_,gq,_,_,gr,?_⟩;rw[qi];refine brd (fun h=>brb (fun h2=>?_) (fun h2=>?_)) (fun h=>?_)
  ·have hr0:0<a%b:=qK.1 (by omega);have g1:=zc (n:=1) (by omega) (by omega);have hq:(a/b)<Vk:=cb (ft _ _) (ha▸hx);have sq:Sm (-((a/b:Nat):Int)):=by unfold Sm;rw[P1,Lm];exact hq
   have sr:Sm (-((a%b:Nat):Int)):=by unfold Sm;rw[P1,Lm];exact Nat.lt_trans hml (a3▸hy)
   have gs:=SO sq AS;have ga:=K0 sr hy;have ga2:qe CC 168 [qS (-((a%b:Nat):Int)),.ag [.bool false,.sl (raw (lim b))]] [qS (-((a%b:Nat):Int)+y)]:=by
    have e0:qS y= .ag [.bool false,.sl (raw (lim b))]:=by rw[qH y,a5,a3]
    rw[e0]at ga;exact ga
   refine⟨_,_,g1,_,_,gs,_,_,ga2,?_⟩;have e1:x/y= -((a/b:Nat):Int)-1∧x%y= -((a%b:Nat):Int)+y:=by
    have:=W1 (a:=x) (b:=y) (r:= -((a%b:Nat):Int)+y) (q:= -((a/b:Nat):Int)-1) hy0;refine this.2 ⟨?_,by omega,by omega⟩;rw[a4,hb];have h5:(b:Int)*(-((a/b:Nat):Int)-1)= -((b*(a/b):Nat):Int)-b:=by rw[Int.mul_sub,an,W2,T1]
    rw[h5];omega
   rw[e1.1,e1.2];rfl
  ·simp at h2
  ·have hr0:a%b=0:=by
    rcases c9 (a%b)with h0|h0
    ·exact h0
    ·have:=qK.2 h0;omega
   have e1:x/y= -((a/b:Nat):Int)∧x%y= -((a%b:Nat):Int):=by have:=W1 (a:=x) (b:=y) (r:= -((a%b:Nat):Int)) (q:= -((a/b:Nat):Int)) hy0;refine this.2 ⟨?_,by omega,by omega⟩;rw[a4,hb,an,←T1];omega
   rw[e1.1,e1.2];rfl
 ·have hxf:decide (x<0)=false:=decide_eq_false hx0;rw[hxf,ha,a3];have a4:x=(a:Int):=by omega
  have gq:=xh false (qh (a/b)) (by omega) (z:=((a/b:Nat):Int)) (by rw[qj];rfl);have gr:=xh false (qh (a%b)) (by omega) (z:=((a%b:Nat):Int)) (by rw[qj];rfl);refine⟨_,_,h1,_,_,gq,_,_,gr,?_⟩;have e1:x/y=((a/b:Nat):Int)∧x%y=((a%b:Nat):Int):=by rw[a4,hb];exact⟨rfl,rfl⟩
  refine brd (fun h=>brb (fun h2=>?_) (fun h2=>?_)) (fun h=>?_)
  ·simp at h2
  ·rw[e1.1,e1.2];rfl
  ·rw[e1.1,e1.2];rfl
theorem Y7:qe CC 44 [] [qS 1]:=by
 refine qw (anns:=an0) mixedT Tryz.func44 ?_;rw[EC];exact⟨_,_,zc (n:=1) (by omega) (by omega),rfl⟩
theorem EJ (z:Int):cI z=[.bool (decide (z<0)),.sl (raw (lim z.natAbs))]:=rfl
theorem Nh (hd:v7) {x y:Int} (hx:Sm x) (hy:Sm y) (hy0:y≠0):qe CC 59 [qS x,qS y] [jz (g4 x y)]:=by
 refine qw (anns:=Ta an0 3 ⟨[.box 2 [.bool false,.slice none 0 0],.box 3 [.bool false,.slice none 0 0]],[.box 2 [.bool false,.slice none 0 0],.box 3 [.bool false,.slice none 0 0]],fun _ ds=>∃u v:Int,ds=cI u++cI v∧Sm u∧Sm v∧0<v∧g4 u v=g4 x y,fun _=>0⟩) mixedT Tryz.func59 ?_;rw[qH x,qH y,iK];have hS:=Xp y;rw[qH y]at hS;have a4:=Y6 hx;have a5:=Y6 hy;rw[qH x,qH]at a4;rw[qH y,qH]at a5;refine⟨⟨_,hS,brd (fun h=>?_) (fun h=>?_)⟩,?_⟩
 ·have a6:y<0:=by
   unfold sgn at h;split at h
   ·assumption
   ·split at h<;>omega
  exact⟨_,_,a4,_,_,a5, -x, -y,rfl,Nb hx,Nb hy,by omega,by rw[hH]⟩
 ·have a6:0<y:=by
   unfold sgn at h;split at h
   ·omega
   ·omega
  exact⟨x,y,rfl,hx,hy,a6,rfl⟩
 ·rintro b1 es1 b2 es2 ⟨u,v,he,hu,hv,hv0,hr⟩;simp only[EJ,List.cons_append,List.nil_append,ca,D.bool.injEq,Hv,and_true]at he;obtain⟨rfl,rfl,rfl,rfl⟩:=he;obtain⟨g,hg⟩:∃g:Nat,g=dl u.natAbs v.natAbs:=⟨_,rfl⟩;have hgp:0<g:=by rw[hg];exact Nat.gcd_pos_of_pos_right _ (by omega)
  have a3:Sm (g:Int):=smN.2 (by rw[hg];exact cb (Nat.gcd_le_right _ (by omega)) hv);have g1:=TT hd hu hv;rw[←hg]at g1;have g2:=wO hd hu a3 (by omega);have g3:=wO hd hv a3 (by omega);refine⟨_,_,g1,_,_,_,_,_,g2,_,_,_,_,_,g3,?_⟩;rw[←hr,v6 hv0,←hg];rfl
theorem EK (hd:v7) {x y:Int} (hx:Sm x) (hy:Sm y):
 qe CC 334 [qS x,qS y] (if y=0 then [.ag [.bool false,.sl [],.bool false,.sl []],.c (.int .i64 6)]else [jz (g4 x y),.c (.int .i64 0)]):=by
 refine qw (anns:=an0) mixedT Tryz.func334 ?_;rw[xF x,xF y,ED];refine⟨_,Xp y,?_⟩;refine brb (fun h=>?_) (fun h=>?_)
 ·have:y=0:=by
   unfold sgn at h;split at h
   ·simp at h
   ·split at h
    ·simp at h
    ·omega
  rw[if_pos this]
 ·have:y≠0:=by rintro rfl;simp[sgn]at h
  rw[if_neg this];exact⟨q4 _,Nh hd hx hy this,rfl⟩
theorem Ni (r:Rat):qe CC 72 [jz r] [.c (.int .i64 (sgn r.num))]:=by
 refine qw (anns:=an0) mixedT Tryz.func72 ?_;rw[qI,EE];exact⟨_,Xp r.num,rfl⟩
theorem TU {x:Rat} (hx:Sr x):qe CC 192 [jz x] [jz (-x)]:=by
 refine qw (anns:=an0) mixedT Tryz.func192 ?_;rw[qI,bo];refine⟨_,_,Y6 hx.1.sm,?_⟩;rw[qI,ia];have:(-x).den=x.den:=rfl;rw[this]
theorem TV (hd:v7) {x y:Rat} (hx:Sr x) (hy:Sr y):qe CC 190 [jz x,jz y] [jz (x+y)]:=by
 refine qw (anns:=an0) mixedT Tryz.func190 ?_;rw[qI,qI,bp];have px:=den_pos x;have py:=den_pos y;have hp:=U0 px py;have e0:x+y=g4 (x.num*y.den+y.num*x.den) (x.den*y.den):=by rw[←h9 _ _ (by omega) (by omega),g0,g0]
 refine⟨_,_,j6 hx.1.sm hy.2.sm,_,_,j6 hy.1.sm hx.2.sm,_,_,K0 (hx.1.mul hy.2) (hy.1.mul hx.2),_,_,j6 hx.2.sm hy.2.sm,q4 _,Nh hd (hx.1.mul_add hy.2 hy.1 hx.2) (hx.2.mul hy.2) (by omega),?_⟩;rw[e0];rfl
theorem SP (hd:v7) {x y:Rat} (hx:Sr x) (hy:Sr y):qe CC 191 [jz x,jz y] [jz (x-y)]:=by
 refine qw (anns:=an0) mixedT Tryz.func191 ?_;rw[qI,qI,bq];refine⟨q4 _,TU hy,q4 _,TV hd hx hy.neg,?_⟩;rw[hE];rfl
theorem SQ {x y:Rat} (hx:Sr x) (hy:Sr y):qe CC 83 [jz x,jz y] [.c (.int .i64 (bn x y))]:=by
 refine qw (anns:=an0) mixedT Tryz.func83 ?_;rw[qI,qI,bu];rw[Kz];exact⟨_,_,j6 hx.1.sm hy.2.sm,_,_,j6 hy.1.sm hx.2.sm,_,TR (hx.1.mul hy.2) (hy.1.mul hx.2),rfl⟩
theorem SR (hd:v7) {x y:Rat} (hx:Sr x) (hy:Sr y):qe CC 189 [jz x,jz y] [jz (x*y)]:=by
 refine qw (anns:=an0) mixedT Tryz.func189 ?_;rw[qI,qI,bz];have px:=den_pos x;have py:=den_pos y;have:=U0 px py;refine⟨_,_,j6 hx.1.sm hy.1.sm,_,_,j6 hx.2.sm hy.2.sm,q4 _,Nh hd (hx.1.mul hy.1) (hx.2.mul hy.2) (by omega),?_⟩;have e:x*y=g4 (x.num*y.num) (x.den*y.den):=by rw[←g8,g0,g0]
 rw[e];rfl
theorem bJ (hd:v7) {x y:Rat} (hx:Sr x) (hy:Sr y):
 qe CC 292 [jz x,jz y] (if y=0 then [.ag [.bool false,.sl [],.bool false,.sl []],.c (.int .i64 6)]else [jz (x/y),.c (.int .i64 0)]):=by
 refine qw (anns:=an0) mixedT Tryz.func292 ?_;rw[qI,qI,bA];have px:=den_pos x;have py:=den_pos y;have hm:=EK hd (hx.1.mul hy.2) (hx.2.mul hy.1);by_cases hn:y.num=0
 ·have:y=0:=h8.1 hn;rw[if_pos this];rw[if_pos (by rw[hn,Int.mul_zero])]at hm;exact⟨_,_,j6 hx.1.sm hy.2.sm,_,_,j6 hx.2.sm hy.1.sm,⟨false,[],false,[]⟩,_,hm,rfl⟩
 ·have:y≠0:=fun h=>hn (h8.2 h)
  rw[if_neg this];have h0:(x.den:Int)*y.num≠0:=Int.mul_ne_zero (by omega) hn;rw[if_neg h0]at hm;refine⟨_,_,j6 hx.1.sm hy.2.sm,_,_,j6 hx.2.sm hy.1.sm,q4 _,_,hm,?_⟩;have e:x/y=g4 (x.num*y.den) (x.den*y.num):=by rw[g5,←g8,g0,←hW,g0]
  rw[e];rfl
theorem Xr {n:Int} (h1: -9223372036854775808≤n) (h2:n<9223372036854775808):qe CC 21 [.c (.int .i64 n)] [jz (n:Rat)]:=by
 refine qw (anns:=an0) mixedT Tryz.func21 ?_;rw[Y3];refine⟨_,_,zc h1 h2,_,_,Y7,?_⟩;rw[qI,hQ,hT];rfl
end Eng
end
section
namespace Eng
open Go Go.Proofs
set_option maxRecDepth 100000
def Hz (k:Nat) (r:Rat):Prop:=r.num.natAbs≤10^k∧r.den≤10^k
theorem Hz.mono {k m:Nat} {r:Rat} (h:Hz k r) (hk:k≤m):Hz m r:=
 ⟨dc h.1 (cg (by omega) hk),dc h.2 (cg (by omega) hk)⟩
theorem tF {n:Nat} (hn:n=9*100*100*4):Ze=10^n:=by
 have e:(1000000000:Nat)=10^9:=by decide
 unfold Ze;rw[e];exact pow4 hn
theorem Hz.sr {k:Nat} {r:Rat} (h:Hz k r) (hk:k<360000):Sr r:=by
 obtain⟨n,hn⟩:∃n,n=9*100*100*4:=⟨_,rfl⟩;have h1:10^k<Ze:=by rw[tF hn];exact Nat.pow_lt_pow_right (by omega) (by omega)
 refine⟨cb h.1 h1,?_⟩;unfold Sq;rw[Lm];exact cb h.2 h1
theorem Hz.divInt {n d:Int} {k:Nat} (hd:0<d) (h1:n.natAbs≤10^k) (h2:d.natAbs≤10^k):Hz k (g4 n d):=by
 obtain⟨e1,e2⟩:=Ky (n:=n) hd;constructor
 ·rw[e1];exact dc (Ts _ _) h1
 ·have:((g4 n d).den:Int).natAbs≤d.natAbs:=by rw[e2];exact Ts _ _
  rw[Lm]at this;exact dc this h2
theorem Hz.neg {k:Nat} {r:Rat} (h:Hz k r):Hz k (-r):=by
 refine⟨?_,h.2⟩;rw[ia,P1];exact h.1
theorem Hz.mul {j k l:Nat} {x y:Rat} (hx:Hz j x) (hy:Hz k y) (h:j+k≤l:=by omega):Hz l (x*y):=by
 have e:x*y=g4 (x.num*y.num) (x.den*y.den):=by rw[←g8,g0,g0]
 have px:=den_pos x;have py:=den_pos y;refine Hz.mono (k:=j+k) ?_ h;rw[e];refine Hz.divInt (U0 px py) ?_ ?_
 ·rw[Pl,dk];exact cc hx.1 hy.1
 ·rw[Pl,dk,Lm,Lm];exact cc hx.2 hy.2
theorem Hz.add {j k l:Nat} {x y:Rat} (hx:Hz j x) (hy:Hz k y) (h:j+k+1≤l:=by omega):Hz l (x+y):=by
 have px:=den_pos x;have py:=den_pos y;have e0:x+y=g4 (x.num*y.den+y.num*x.den) (x.den*y.den):=by rw[←h9 _ _ (by omega) (by omega),g0,g0]
 refine Hz.mono (k:=j+k+1) ?_ h;rw[e0];have hp:10^(j+k+1)=10*(10^j*10^k):=by rw[cL,dk,cv]
 have a1:(x.num*y.den).natAbs≤10^j*10^k:=by rw[Pl,Lm];exact cc hx.1 hy.2
 have a2:(y.num*x.den).natAbs≤10^j*10^k:=by rw[Pl,Lm,cv];exact cc hx.2 hy.1
 have a3:((x.den:Int)*y.den).natAbs≤10^j*10^k:=by rw[Pl,Lm,Lm];exact cc hx.2 hy.2
 refine Hz.divInt (U0 px py) ?_ ?_
 ·rw[hp];generalize 10^j*10^k=T at *;have:=Int.natAbs_add_le (x.num*y.den) (y.num*x.den);omega
 ·rw[hp];generalize 10^j*10^k=T at *;omega
theorem Hz.sub {j k l:Nat} {x y:Rat} (hx:Hz j x) (hy:Hz k y) (h:j+k+1≤l:=by omega):Hz l (x-y):=by
 rw[hE];exact hx.add hy.neg h
theorem Hz.inv {k:Nat} {y:Rat} (hy:Hz k y) (h:y≠0):Hz k (y⁻¹):=by
 have hn:y.num≠0:=fun h0=>h (h8.1 h0)
 have e:y⁻¹=g4 y.den y.num:=by rw[←hW,g0]
 rw[e];by_cases hp:0<y.num
 ·exact Hz.divInt hp (by rw[Lm];exact hy.2) hy.1
 ·have e2:g4 (y.den:Int) y.num=g4 (-(y.den:Int)) (-y.num):=(hH _ _).symm;rw[e2];exact Hz.divInt (by omega) (by rw[P1,Lm];exact hy.2) (by rw[P1];exact hy.1)
theorem Hz.div {j k l:Nat} {x y:Rat} (hx:Hz j x) (hy:Hz k y) (h0:y≠0) (h:j+k≤l):Hz l (x/y):=by
 rw[g5];exact hx.mul (hy.inv h0) h
theorem Hz.int {n:Int} {k:Nat} (h:n.natAbs≤10^k):Hz k (n:Rat):=by
 refine⟨by rw[hQ];exact h,by rw[hT];exact fR (by omega)⟩
theorem Hz.zero {k:Nat}:Hz k 0:=Hz.int (n:=0) (by simp)
theorem Hz.one {k:Nat}:Hz k 1:=Hz.int (n:=1) (fR (by omega))
end Eng
end
section
namespace Eng
def Te (a x:Nat):Nat:=if x≤(x+a/x)/2 then x else Te a ((x+a/x)/2)
 termination_by x
 decreasing_by omega
theorem SS (a x:Nat) (hx:0<x):a<((x+a/x)/2+1)*((x+a/x)/2+1):=by
 generalize hq:a/x=q;have h1:a<(q+1)*x:=by rw[←hq];exact Nat.lt_of_lt_of_eq (Nat.lt_mul_div_succ a hx) (cv _ _)
 generalize hy:(x+q)/2=y;have h2:x+q+1≤2*(y+1):=by omega
 have h3:(x+q+1)*(x+q+1)≤(2*(y+1))*(2*(y+1)):=cc h2 h2;have h4:4*((q+1)*x)≤(x+q+1)*(x+q+1):=by
  rcases Nat.le_total x (q+1)with h|h
  ·obtain⟨d,hd⟩:=en h;have e:x+q+1=2*x+d:=by omega
   rw[e,hd];have:(2*x+d)*(2*x+d)=4*((x+d)*x)+d*d:=by grind
   omega
  ·obtain⟨d,hd⟩:=en h;have e:x+q+1=2*(q+1)+d:=by omega
   rw[e,hd];have:(2*(q+1)+d)*(2*(q+1)+d)=4*((q+1)*(q+1+d))+d*d:=by grind
   omega
 have h5:(2*(y+1))*(2*(y+1))=4*((y+1)*(y+1)):=by grind
 omega
theorem Nj {a x:Nat} (ha:0<a) (hx:0<x):0<(x+a/x)/2:=by
 by_cases h:x=1
 ·subst h;rw[Nat.div_one];omega
 ·have:2≤x:=by omega
  generalize a/x=q;omega
theorem TW (a:Nat):∀x:Nat,a<(x+1)*(x+1)→Te a x*Te a x≤a∧a<(Te a x+1)*(Te a x+1):=by
 intro x
 induction x using Nat.strongRecOn with
 |_ x ih=>
  intro h;rw[Te];by_cases hs:x≤(x+a/x)/2
  ·rw[if_pos hs];refine⟨?_,h⟩;rcases c9 x with hx|hx
   ·subst hx;omega
   ·have h1:x≤a/x:=by omega
    exact(Nat.le_div_iff_mul_le hx).1 h1
  ·rw[if_neg hs];exact ih _ (c5 hs) (SS a x (cb (dn _) (c5 hs)))
theorem bK {r n:Nat} (h1:r*r≤n*n) (h2:n*n<(r+1)*(r+1)):r=n:=by
 have a:r≤n:=Nat.mul_self_le_mul_self_iff.1 h1;have b:n<r+1:=cH.1 h2;omega
theorem Nk (q:Rat):(q*q).num=q.num*q.num∧(q*q).den=q.den*q.den:=by
 have hc:Nat.Coprime (q.num*q.num).natAbs (q.den*q.den):=by rw[Pl];exact(q.reduced.mul_left q.reduced).mul_right (q.reduced.mul_left q.reduced)
 have hz:q.den*q.den≠0:=Nat.mul_ne_zero q.den_nz q.den_nz;have h:q*q=Rat.mk' (q.num*q.num) (q.den*q.den) hz hc:=by rw[Rat.mul_def,←Rat.normalize_eq_mk' _ _ hz hc]
 rw[h];exact⟨rfl,rfl⟩
theorem Pi {a n:Nat} (h:a<10^(9*n)):a<(10^(9*((n+1)/2))+1)*(10^(9*((n+1)/2))+1):=by
 have h1:10^(9*n)≤10^(9*((n+1)/2)+9*((n+1)/2)):=cg (by omega) (by omega);rw[dk]at h1;generalize 10^(9*((n+1)/2))=x at *;have h2:(x+1)*(x+1)=x*x+2*x+1:=by grind
 omega
def qM (a:Nat):Nat:=Te a a
theorem jC (a:Nat):qM a*qM a≤a∧a<(qM a+1)*(qM a+1):=TW a a (by
 have:(a+1)*(a+1)=a*a+2*a+1:=by grind
 have:=dn (a*a);omega)
theorem ST {a r t:Nat} (h1:r*r≤a) (h2:a<(r+1)*(r+1)) (h3:t*t≤a) (h4:a<(t+1)*(t+1)):r=t:=by
 have a1:r<t+1:=cH.1 (cb h1 h4);have a2:t<r+1:=cH.1 (cb h3 h2);omega
theorem SU {a x:Nat} (h:a<(x+1)*(x+1)):Te a x=qM a:=
 ST (TW a x h).1 (TW a x h).2 (jC a).1 (jC a).2
theorem Vn {a n:Nat} (h:a<10^(9*n)):Te a (10^(9*((n+1)/2)))=qM a:=SU (Pi h)
theorem Nl (m:Nat):qM (m*m)=m:=bK (jC (m*m)).1 (jC (m*m)).2
theorem Nm (a x:Nat):Te a x=if x≤(x+a/x)/2 then x else Te a ((x+a/x)/2):=by rw[Te]
def TX (a:Nat):Option Nat:=if qM a*qM a=a then some (qM a)else none
theorem Nn (m:Nat):TX (m*m)=some m:=by
 unfold TX;rw[Nl,if_pos rfl]
def SV (q:Rat):Option (Nat×Nat):=if q.num<0 then none else match TX q.num.natAbs,TX q.den with
 |some a,some b=>some (a,b)
 |_,_=>none
theorem EL (r:Rat):SV (r*r)=some (r.num.natAbs,r.den):=by
 obtain⟨h1,h2⟩:=Nk r;have h3:¬(r*r).num<0:=by rw[h1];have:=Int.mul_self_le_mul_self (Int.le_refl 0) (show(0:Int)≤r.num.natAbs by omega);have e:r.num*r.num=((r.num.natAbs*r.num.natAbs:Nat):Int):=Int.natAbs_mul_self.symm;omega
 have h4:(r*r).num.natAbs=r.num.natAbs*r.num.natAbs:=by rw[h1,Pl]
 unfold SV;rw[if_neg h3,h4,h2,Nn,Nn]
end Eng
end
section
namespace Eng
theorem K1 {x y B e:Rat} (h1: -B≤x) (h2:x≤B) (h3: -e≤y) (h4:y≤e):x*y≤B*e∧ -(B*e)≤x*y:=by
 have a:0≤(B-x)*(e+y):=gz (by grind) (by grind);have b:0≤(B+x)*(e-y):=gz (by grind) (by grind);have c:0≤(B-x)*(e-y):=gz (by grind) (by grind);have d:0≤(B+x)*(e+y):=gz (by grind) (by grind);constructor<;>grind
theorem TY (a b:Rat):a<b∨a=b∨b<a:=by grind
structure Cs where
 v:Nat→Rat
 cau:∀e:Rat,0<e→∃N,∀m n,N≤m→N≤n→v m-v n≤e
namespace Cs
theorem bnd (x:Cs):∃B:Rat,0<B∧∃N,∀n,N≤n→ -B≤x.v n∧x.v n≤B:=by
 obtain⟨N,h⟩:=x.cau 1 (by grind);refine⟨(if 0≤x.v N then x.v N else-x.v N)+2,by split<;>grind,N,fun n hn=>?_⟩;have h1:=h n N hn (cp _);have h2:=h N n (cp _) hn;split<;>grind
def cst (a:Rat):Cs:=⟨fun _=>a,fun e he=>⟨0,fun _ _ _ _=>by grind⟩⟩
def add (x y:Cs):Cs:=⟨fun n=>x.v n+y.v n,fun e he=>by
 obtain⟨N,h⟩:=x.cau (e/2) (by grind);obtain⟨M,k⟩:=y.cau (e/2) (by grind);refine⟨max N M,fun m n hm hn=>?_⟩;have:=h m n (by omega) (by omega);have:=k m n (by omega) (by omega)
 grind⟩
def neg (x:Cs):Cs:=⟨fun n=> -x.v n,fun e he=>by
 obtain⟨N,h⟩:=x.cau e he;refine⟨N,fun m n hm hn=>?_⟩;have:=h n m hn hm
 grind⟩
theorem scale {B e:Rat} (hB:0<B) (he:0<e):0<e/B∧B*(e/B)=e:=by
 constructor
 ·rw[g5];exact hC he (h7.2 hB)
 ·rw[g5,Rat.mul_comm e,←hX,hP _ (by grind),hY]
def mul (x y:Cs):Cs:=⟨fun n=>x.v n*y.v n,fun e he=>by
 obtain⟨B,hB,N,h⟩:=x.bnd;obtain⟨B',hB',N',h'⟩:=y.bnd;obtain⟨p1,p2⟩:=scale hB (show(0:Rat)<e/2 by grind);obtain⟨q1,q2⟩:=scale hB' (show(0:Rat)<e/2 by grind);obtain⟨M,k⟩:=y.cau _ p1;obtain⟨M',k'⟩:=x.cau _ q1;refine⟨max (max N N') (max M M'),fun m n hm hn=>?_⟩;have a:=K1 (h m (by omega)).1 (h m (by omega)).2 (show-(e/2/B)≤y.v m-y.v n by have:=k n m (by omega) (by omega);grind) (k m n (by omega) (by omega));have b:=K1 (h' n (by omega)).1 (h' n (by omega)).2 (show-(e/2/B')≤x.v m-x.v n by have:=k' n m (by omega) (by omega);grind) (k' m n (by omega) (by omega));rw[p2]at a;rw[q2]at b
 grind⟩
def Z (f:Nat→Rat):Prop:=∀e:Rat,0<e→∃N,∀n,N≤n→ -e≤f n∧f n≤e
def rel (x y:Cs):Prop:=Z fun n=>x.v n-y.v n
theorem Z.add {f g:Nat→Rat} (hf:Z f) (hg:Z g):Z fun n=>f n+g n:=fun e he=>by
 obtain⟨N,h⟩:=hf (e/2) (by grind);obtain⟨M,k⟩:=hg (e/2) (by grind);refine⟨max N M,fun n hn=>?_⟩;have:=h n (by omega);have:=k n (by omega)
 grind
theorem Z.neg {f:Nat→Rat} (hf:Z f):Z fun n=> -f n:=fun e he=>by
 obtain⟨N,h⟩:=hf e he;refine⟨N,fun n hn=>?_⟩;have:=h n hn
 grind
theorem Z.mul (x:Cs) {f:Nat→Rat} (hf:Z f):Z fun n=>x.v n*f n:=fun e he=>by
 obtain⟨B,hB,N,h⟩:=x.bnd;obtain⟨p1,p2⟩:=scale hB he;obtain⟨M,k⟩:=hf _ p1;refine⟨max N M,fun n hn=>?_⟩;have a:=K1 (h n (by omega)).1 (h n (by omega)).2 (k n (by omega)).1 (k n (by omega)).2;rw[p2]at a;exact⟨a.2,a.1⟩
theorem Z.congr {f g:Nat→Rat} (hf:Z f) (h:∀n,f n=g n):Z g:=by
 have:f=g:=funext h;exact this▸hf
instance set:Setoid Cs where
 r:=rel
 iseqv:=⟨fun x e he=>⟨0,fun n _=>by grind⟩,fun h=>(Z.neg h).congr fun n=>by grind,fun h k=>(Z.add h k).congr fun n=>by grind⟩
def P (f:Nat→Rat):Prop:=∃e:Rat,0<e∧∃N,∀n,N≤n→e≤f n
theorem P.congr {f g:Nat→Rat} (hf:P f) (h:Z fun n=>f n-g n):P g:=by
 obtain⟨e,he,N,k⟩:=hf;obtain⟨M,j⟩:=h (e/2) (by grind);refine⟨e/2,by grind,max N M,fun n hn=>?_⟩;have:=k n (by omega);have:=j n (by omega)
 grind
theorem tri (x:Cs):P x.v∨Z x.v∨P fun n=> -x.v n:=by
 by_cases hz:Z x.v
 ·exact .inr (.inl hz)
 simp only[Z,Classical.not_forall,not_exists]at hz;obtain⟨e,he,hz⟩:=hz;obtain⟨N,h⟩:=x.cau (e/2) (by grind);obtain⟨n,hz⟩:=hz N;simp only[exists_prop]at hz;obtain⟨hn,hz⟩:=hz;by_cases h1:x.v n≤e
 ·refine .inr (.inr ⟨e/2,by grind,N,fun m hm=>?_⟩);have:=h m n hm hn
  grind
 ·refine .inl ⟨e/2,by grind,N,fun m hm=>?_⟩;have:=h n m hn hm
  grind
end Cs
def Rl:Type:=Quotient Cs.set
namespace Rl
def mk (x:Cs):Rl:=Quotient.mk Cs.set x
theorem rep (x:Rl):∃a,x=mk a:=(Quotient.exists_rep x).elim fun a h=>⟨a,h.symm⟩
theorem xD {x y:Cs} (h:∀n,x.v n=y.v n):mk x=mk y:=by
 have:x=y:=by cases x;cases y;congr;exact funext h
 rw[this]
theorem SW {x y:Cs}:mk x=mk y↔Cs.Z fun n=>x.v n-y.v n:=⟨fun h=>Quotient.exact h,fun h=>Quotient.sound h⟩
def add (x y:Rl):Rl:=gm x y (fun a b=>mk (a.add b)) fun _ _ _ _ h k=>SW.2 ((Cs.Z.add h k).congr fun n=>by simp only[Cs.add];grind)
def neg (x:Rl):Rl:=gp x (fun a=>mk a.neg) fun _ _ h=>SW.2 ((Cs.Z.neg h).congr fun n=>by simp only[Cs.neg];grind)
def mul (x y:Rl):Rl:=gm x y (fun a b=>mk (a.mul b)) fun a b c d h k=>SW.2 ((Cs.Z.add (Cs.Z.mul b h) (Cs.Z.mul c k)).congr fun n=>by simp only[Cs.mul];grind)
def ofR (a:Rat):Rl:=mk (.cst a)
instance:Add Rl:=⟨add⟩
instance:Neg Rl:=⟨neg⟩
instance:Sub Rl:=⟨fun x y=>x+ -y⟩
instance:Mul Rl:=⟨mul⟩
instance:OfNat Rl 0:=⟨ofR 0⟩
instance:OfNat Rl 1:=⟨ofR 1⟩
theorem iM (a b:Cs):mk a*mk b=mk (a.mul b):=rfl
theorem iN (a:Rat):ofR a=mk (.cst a):=rfl
theorem zi (a b:Cs) (n:Nat):(a.add b).v n=a.v n+b.v n:=rfl
theorem zF (a:Cs) (n:Nat):a.neg.v n= -a.v n:=rfl
theorem kA (a b:Cs) (n:Nat):(a.mul b).v n=a.v n*b.v n:=rfl
theorem jZ (a:Rat) (n:Nat):(Cs.cst a).v n=a:=rfl
theorem ad0 (x:Rl):x+0=x:=by obtain⟨x,rfl⟩:=x.rep;exact xD fun n=>by simp only[zi,jZ];grind
theorem adc (x y:Rl):x+y=y+x:=by obtain⟨x,rfl⟩:=x.rep;obtain⟨y,rfl⟩:=y.rep;exact xD fun n=>by simp only[zi];grind
theorem ada (x y z:Rl):x+y+z=x+(y+z):=by obtain⟨x,rfl⟩:=x.rep;obtain⟨y,rfl⟩:=y.rep;obtain⟨z,rfl⟩:=z.rep;exact xD fun n=>by simp only[zi];grind
theorem adn (x:Rl):x+ -x=0:=by obtain⟨x,rfl⟩:=x.rep;exact xD fun n=>by simp only[zi,zF,jZ];grind
theorem sbs (x:Rl):x-x=0:=adn x
theorem mlc (x y:Rl):x*y=y*x:=by obtain⟨x,rfl⟩:=x.rep;obtain⟨y,rfl⟩:=y.rep;exact xD fun n=>by simp only[kA];grind
theorem ml1 (x:Rl):x*1=x:=by obtain⟨x,rfl⟩:=x.rep;exact xD fun n=>by simp only[kA,jZ];grind
theorem ml0 (x:Rl):x*0=0:=by obtain⟨x,rfl⟩:=x.rep;exact xD fun n=>by simp only[kA,jZ];grind
theorem zml (x:Rl):0*x=0:=by rw[mlc,ml0]
theorem mld (x y z:Rl):x*(y+z)=x*y+x*z:=by obtain⟨x,rfl⟩:=x.rep;obtain⟨y,rfl⟩:=y.rep;obtain⟨z,rfl⟩:=z.rep;exact xD fun n=>by simp only[kA,zi];grind
theorem zG (a b:Rat):ofR (a+b)=ofR a+ofR b:=xD fun n=>by simp only[zi,jZ]
theorem v8 (a:Rat):ofR (-a)= -ofR a:=xD fun n=>by simp only[zF,jZ]
theorem vC (a b:Rat):ofR (a-b)=ofR a-ofR b:=xD fun n=>by simp only[zi,zF,jZ];grind
theorem qX (a b:Rat):ofR (a*b)=ofR a*ofR b:=xD fun n=>by simp only[kA,jZ]
theorem xR:ofR 0=0:=rfl
theorem bL:ofR 1=1:=rfl
def pos (x:Rl):Prop:=gp x (fun a=>Cs.P a.v) fun _ _ h=>propext ⟨fun k=>k.congr h,fun k=>k.congr ((Cs.Z.neg h).congr fun n=>by grind)⟩
instance:LT Rl:=⟨fun x y=>pos (y-x)⟩
instance:LE Rl:=⟨fun x y=>¬y<x⟩
theorem Qj {x y:Rl}:x<y↔pos (y-x):=Iff.rfl
theorem not_lt {x y:Rl}:¬x<y↔y≤x:=Iff.rfl
theorem SX {x y:Rl} (hx:pos x) (hy:pos y):pos (x+y):=by
 obtain⟨x,rfl⟩:=x.rep;obtain⟨y,rfl⟩:=y.rep;obtain⟨e,he,N,h⟩:=(show Cs.P x.v from hx);obtain⟨e',he',M,k⟩:=(show Cs.P y.v from hy);refine⟨e+e',by grind,max N M,fun n hn=>?_⟩;have:=h n (by omega);have:=k n (by omega);rw[zi]
 grind
theorem bM {x y:Rl} (hx:pos x) (hy:pos y):pos (x*y):=by
 obtain⟨x,rfl⟩:=x.rep;obtain⟨y,rfl⟩:=y.rep;obtain⟨e,he,N,h⟩:=(show Cs.P x.v from hx);obtain⟨e',he',M,k⟩:=(show Cs.P y.v from hy);refine⟨e*e',hC he he',max N M,fun n hn=>?_⟩;have h1:=h n (by omega);have h2:=k n (by omega);rw[kA];have a:0≤(x.v n-e)*y.v n:=gz (by grind) (by grind);have b:0≤e*(y.v n-e'):=gz (by grind) (by grind)
 grind
theorem bN (x:Rl):pos x∨x=0∨pos (-x):=by
 obtain⟨x,rfl⟩:=x.rep;rcases x.tri with h|h|h
 ·exact .inl h
 ·exact .inr (.inl (SW.2 (h.congr fun n=>by rw[jZ];grind)))
 ·exact .inr (.inr h)
theorem HF:¬pos 0:=fun⟨e,he,N,h⟩=>by
 have:=h N (cp _);rw[jZ]at this
 grind
theorem WB (x:Rl): - -x=x:=by obtain⟨x,rfl⟩:=x.rep;exact xD fun n=>by simp only[zF];grind
theorem sb0 (x:Rl):x-0=x:=by obtain⟨x,rfl⟩:=x.rep;exact xD fun n=>by simp only[zi,zF,jZ];grind
theorem zsb (x:Rl):0-x= -x:=by obtain⟨x,rfl⟩:=x.rep;exact xD fun n=>by simp only[zi,zF,jZ];grind
theorem ng0: -(0:Rl)=0:=xD fun n=>by simp only[zF,jZ];grind
theorem zad (x:Rl):0+x=x:=by rw[adc,ad0]
theorem vD {x:Rl}:0<x↔pos x:=by rw[Qj,sb0]
theorem Y8 {x:Rl}:x<0↔pos (-x):=by rw[Qj,zsb]
theorem HG {x y:Rl}:0<y-x↔x<y:=by rw[vD,Qj]
theorem Np {x y:Rl}:x-y<0↔x<y:=by
 rw[Y8,Qj];have: -(x-y)=y-x:=by obtain⟨x,rfl⟩:=x.rep;obtain⟨y,rfl⟩:=y.rep;exact xD fun n=>by simp only[zi,zF];grind
 rw[this]
theorem ka {x y:Rl} (h:x-y=0):x=y:=by
 have:x=(x-y)+y:=by obtain⟨x,rfl⟩:=x.rep;obtain⟨y,rfl⟩:=y.rep;exact xD fun n=>by simp only[zi,zF];grind
 rw[this,h,zad]
theorem lt_trans {x y z:Rl} (h:x<y) (k:y<z):x<z:=by
 have:z-x=(y-x)+(z-y):=by obtain⟨x,rfl⟩:=x.rep;obtain⟨y,rfl⟩:=y.rep;obtain⟨z,rfl⟩:=z.rep;exact xD fun n=>by simp only[zi,zF];grind
 rw[Qj,this];exact SX h k
theorem kB (x:Rl):¬x<x:=by rw[Qj,sbs];exact HF
theorem vE {x y:Rl} (h:x<y):¬y<x:=fun k=>kB _ (lt_trans h k)
theorem ZF (x y:Rl):x<y∨x=y∨y<x:=by
 rcases bN (y-x)with h|h|h
 ·exact .inl h
 ·exact .inr (.inl (ka h).symm)
 ·exact .inr (.inr (Np.1 (Y8.2 h)))
theorem le_of_lt {x y:Rl} (h:x<y):x≤y:=vE h
theorem jH {x:Rl}:x≤x:=kB x
theorem ZG {x y:Rl}:x≤y↔x<y∨x=y:=by
 constructor
 ·intro h;rcases ZF x y with k|k|k
  ·exact .inl k
  ·exact .inr k
  ·exact absurd k h
 ·rintro(h|rfl)
  ·exact le_of_lt h
  ·exact jH
theorem jD {x y:Rl} (h:x≤y) (k:x≠y):x<y:=(ZG.1 h).resolve_right k
theorem le_trans {x y z:Rl} (h:x≤y) (k:y≤z):x≤z:=by
 rcases ZG.1 h with h|rfl
 ·rcases ZG.1 k with k|rfl
  ·exact le_of_lt (lt_trans h k)
  ·exact le_of_lt h
 ·exact k
theorem lt_of_lt_of_le {x y z:Rl} (h:x<y) (k:y≤z):x<z:=by
 rcases ZG.1 k with k|rfl
 ·exact lt_trans h k
 ·exact h
theorem lt_of_le_of_lt {x y z:Rl} (h:x≤y) (k:y<z):x<z:=by
 rcases ZG.1 h with h|rfl
 ·exact lt_trans h k
 ·exact k
theorem zy {x y:Rl} (h:x≤y) (k:y≤x):x=y:=by
 rcases ZG.1 h with h|h
 ·exact absurd h k
 ·exact h
theorem Y9 {x y:Rl} (h:x<y):x≠y:=fun k=>kB _ (k▸h)
theorem YA {x y:Rl} (h:x<y):y≠x:=fun k=>kB _ (k▸h)
theorem le_total (x y:Rl):x≤y∨y≤x:=by
 rcases ZF x y with h|h|h
 ·exact .inl (le_of_lt h)
 ·exact .inl (h▸jH)
 ·exact .inr (le_of_lt h)
theorem ZH {a b:Rat}:ofR a<ofR b↔a<b:=by
 constructor
 ·rintro⟨e,he,N,h⟩;have:=h N (cp _);simp only[Cs.cst,Cs.add,Cs.neg]at this
  grind
 ·intro h;refine⟨b-a,by grind,0,fun n _=>?_⟩;simp only[Cs.cst,Cs.add,Cs.neg]
  grind
theorem jI {a b:Rat}:ofR a≤ofR b↔a≤b:=by
 rw[←not_lt,ZH]
 grind
theorem K2 {a b:Rat}:ofR a=ofR b↔a=b:=by
 constructor
 ·intro h;rcases TY a b with k|k|k
  ·exact absurd (ZH.2 k) (h▸kB _)
  ·exact k
  ·exact absurd (ZH.2 k) (h▸kB _)
 ·rintro rfl;rfl
theorem mul_pos {x y:Rl} (hx:0<x) (hy:0<y):0<x*y:=vD.2 (bM (vD.1 hx) (vD.1 hy))
theorem TZ {x y:Rl} (hx:0<x) (hy:0<y):0<x+y:=vD.2 (SX (vD.1 hx) (vD.1 hy))
theorem AU {x y:Rl} (z:Rl):x+z<y+z↔x<y:=by
 rw[Qj,Qj];have:y+z-(x+z)=y-x:=by obtain⟨x,rfl⟩:=x.rep;obtain⟨y,rfl⟩:=y.rep;obtain⟨z,rfl⟩:=z.rep;exact xD fun n=>by simp only[zi,zF];grind
 rw[this]
theorem SY {x y:Rl} (z:Rl):x+z≤y+z↔x≤y:=by rw[←not_lt,←not_lt,AU]
theorem AV {x y:Rl}: -x< -y↔y<x:=by
 rw[Qj,Qj];have: -y- -x=x-y:=by obtain⟨x,rfl⟩:=x.rep;obtain⟨y,rfl⟩:=y.rep;exact xD fun n=>by simp only[zi,zF];grind
 rw[this]
theorem j7 {x:Rl}: -x<0↔0<x:=by rw[Y8,WB,vD]
theorem xB {x:Rl}:0< -x↔x<0:=by rw[vD,Y8]
theorem HH (x y:Rl):x* -y= -(x*y):=by obtain⟨x,rfl⟩:=x.rep;obtain⟨y,rfl⟩:=y.rep;exact xD fun n=>by simp only[kA,zF];grind
theorem Pj (x y:Rl): -x*y= -(x*y):=by rw[mlc,HH,mlc]
theorem mul_neg {x y:Rl} (hx:0<x) (hy:y<0):x*y<0:=by
 rw[←xB,←HH];exact mul_pos hx (xB.2 hy)
theorem neg_mul_neg {x y:Rl} (hx:x<0) (hy:y<0):0<x*y:=by
 have:=mul_pos (xB.2 hx) (xB.2 hy)
 rwa [HH,Pj,WB]at this
theorem iO {x:Rl} (h:x≠0):0<x*x:=by
 rcases ZF x 0 with k|k|k
 ·exact neg_mul_neg k k
 ·exact absurd k h
 ·exact mul_pos k k
theorem tG (x:Rl):0≤x*x:=by
 by_cases h:x=0
 ·subst h;rw[ml0];exact jH
 ·exact le_of_lt (iO h)
theorem mul_eq_zero {x y:Rl} (h:x*y=0):x=0∨y=0:=by
 rcases ZF x 0 with k|k|k
 ·rcases ZF y 0 with j|j|j
  ·exact absurd h (YA (neg_mul_neg k j))
  ·exact .inr j
  ·exact absurd h (by rw[mlc];exact Y9 (mul_neg j k))
 ·exact .inl k
 ·rcases ZF y 0 with j|j|j
  ·exact absurd h (Y9 (mul_neg k j))
  ·exact .inr j
  ·exact absurd h (YA (mul_pos k j))
theorem AW {x y:Rl} (hx:0≤x) (hy:0≤y):0≤x*y:=by
 rcases ZG.1 hx with hx|hx
 ·rcases ZG.1 hy with hy|hy
  ·exact le_of_lt (mul_pos hx hy)
  ·rw[←hy,ml0];exact jH
 ·rw[←hx,zml];exact jH
theorem arch (c:Rat) {d:Rat} (hd:0<d):∃k:Nat,c<(k:Rat)*d:=by
 refine⟨((c/d).floor+1).toNat,?_⟩;have h1:c/d<((c/d).floor+1:Int):=by
  have:=Rat.lt_floor_add_one (c/d)
  simpa using this
 have h2:(((c/d).floor+1:Int):Rat)≤((((c/d).floor+1).toNat:Nat):Rat):=by
  have:(c/d).floor+1≤(((c/d).floor+1).toNat:Int):=Int.self_le_toNat _
  exact_mod_cast this
 have h3:c/d<((((c/d).floor+1).toNat:Nat):Rat):=by grind
 have h4:(c/d)*d=c:=by rw[g5,hX,Rat.inv_mul_cancel _ (by grind),Rat.mul_one]
 have:=Rat.mul_lt_mul_of_pos_right h3 hd
 rwa [h4]at this
theorem tH {c d:Rat} (hc:0≤c) (hd:0<d):∃s:Rat,0≤s∧s*s≤c∧c<(s+d)*(s+d):=by
 obtain⟨K,hK⟩:=arch (c+1) hd;have a3:c<((K:Rat)*d)*((K:Rat)*d):=by
  have:0≤((K:Rat)*d-1)*((K:Rat)*d):=gz (by grind) (by grind)
  grind
 clear hK
 induction K with
 |zero=>exact absurd a3 (by have:((0:Nat):Rat)=0:=rfl;rw[this];grind)
 |succ K ih=>
  by_cases h:c<((K:Rat)*d)*((K:Rat)*d)
  ·exact ih h
  ·refine⟨(K:Rat)*d,gz (by exact_mod_cast dn K) (g7 hd),by grind,?_⟩;have:((K+1:Nat):Rat)*d=(K:Rat)*d+d:=by
    rw[Rat.natCast_add];have:((1:Nat):Rat)=1:=rfl
    grind
   rw[this]at a3;exact a3
theorem tI {a b:Rat} (hb:0≤b) (h:a*a<b*b):a<b:=by
 rcases TY a b with k|k|k
 ·exact k
 ·subst k;exact absurd h (by grind)
 ·have:=gz (show(0:Rat)≤a-b by grind) (show(0:Rat)≤a+b by grind)
  grind
noncomputable def rtS (c:Rat) (n:Nat):Rat:=if h:0≤c then Classical.choose (tH h (show(0:Rat)<1/((n:Rat)+1)by
 have:(0:Rat)≤n:=by exact_mod_cast dn n
 rw[g5];exact hC (by grind) (h7.2 (by grind))))else 0
theorem Ji {c:Rat} (h:0≤c) (n:Nat):0≤rtS c n∧rtS c n*rtS c n≤c∧c<(rtS c n+1/((n:Rat)+1))*(rtS c n+1/((n:Rat)+1)):=by
 unfold rtS;rw[dif_pos h];exact Classical.choose_spec (p:=fun s:Rat=>0≤s∧s*s≤c∧c<(s+1/((n:Rat)+1))*(s+1/((n:Rat)+1))) _
theorem Zf {e:Rat} (he:0<e):∃N:Nat,∀n:Nat,N≤n→0<1/((n:Rat)+1)∧1/((n:Rat)+1)≤e:=by
 obtain⟨N,hN⟩:=arch 1 he;refine⟨N,fun n hn=>?_⟩;have h1:(N:Rat)≤n:=by exact_mod_cast hn
 have h0:(0:Rat)≤n:=by exact_mod_cast dn n
 have hp:(0:Rat)<(n:Rat)+1:=by grind
 have i:((n:Rat)+1)*((n:Rat)+1)⁻¹=1:=hP _ (by grind);have ip:0<((n:Rat)+1)⁻¹:=h7.2 hp;rw[g5,hY];refine⟨ip,?_⟩;have h2:1≤((n:Rat)+1)*e:=by
  have:=gz (show(0:Rat)≤(n:Rat)+1-N by grind) (g7 he)
  grind
 have h3:=gz (g7 ip) (show(0:Rat)≤((n:Rat)+1)*e-1 by grind);clear h2 hN;generalize ((n:Rat)+1)⁻¹=u at *;generalize (n:Rat)+1=w at *;have h4:u*(w*e-1)=(w*u)*e-u:=by grind
 rw[h4,i]at h3
 grind
theorem iP {c:Rat} (h:0≤c):∀e:Rat,0<e→∃N,∀m n,N≤m→N≤n→rtS c m-rtS c n≤e:=by
 intro e he;obtain⟨N,hN⟩:=Zf he;refine⟨N,fun m n _ hn=>?_⟩;obtain⟨a1,a2,a3⟩:=Ji h m;obtain⟨b1,b2,b3⟩:=Ji h n;obtain⟨u1,u2⟩:=hN n hn;have:=tI (show 0≤rtS c n+1/((n:Rat)+1)by grind) (show rtS c m*rtS c m<_ by grind)
 grind
noncomputable def jJ (c:Rat):Rl:=if h:0≤c then mk ⟨rtS c,iP h⟩else 0
theorem wq {c:Rat} (h:0≤c):jJ c*jJ c=ofR c:=by
 unfold jJ;rw[dif_pos h,iM,iN,SW];simp only[Cs.mul,Cs.cst];intro e he;obtain⟨p1,p2⟩:=Cs.scale (show(0:Rat)<2*(c+1)+1 by grind) he;obtain⟨N,hN⟩:=Zf p1;obtain⟨M,hM⟩:=Zf (show(0:Rat)<1 by grind);refine⟨max N M,fun n hn=>?_⟩;obtain⟨b1,b2,b3⟩:=Ji h n;obtain⟨u1,u2⟩:=hN n (by omega);obtain⟨_,u3⟩:=hM n (by omega);have hs:rtS c n≤c+1:=by
  clear b3 u1 u2 u3 p1 p2;generalize rtS c n=s at *;rcases TY s (c+1)with k|k|k
  ·exact g7 k
  ·grind
  ·have q1:=gz (show(0:Rat)≤s-(c+1)by grind) b1;have q2:=gz (show(0:Rat)≤s-(c+1)by grind) (show(0:Rat)≤c+1 by grind);have q3:=gz h h
   grind
 show-e≤rtS c n*rtS c n-c∧rtS c n*rtS c n-c≤e;clear hN hM;generalize 1/((n:Rat)+1)=d at *;generalize rtS c n=s at *;generalize e/(2*(c+1)+1)=f at *;have k1:0≤(c+1-s)*d:=gz (by grind) (by grind);have k2:0≤(1-d)*d:=gz (by grind) (by grind);have k3:0≤(2*(c+1)+1)*(f-d):=gz (by grind) (by grind)
 grind
theorem Zg (c:Rat):0≤jJ c:=by
 unfold jJ;split
 ·rename_i h;rintro⟨e,he,N,k⟩;have:=k N (cp _);have h1:=(Ji h N).1;simp only[Cs.add,Cs.neg,Cs.cst]at this
  grind
 ·exact jH
theorem HI:jJ 0=0:=by
 have:=wq (c:=0) (by grind);rcases mul_eq_zero (this.trans xR)with h|h<;>exact h
theorem Nq {c:Rat} (h:0<c):0<jJ c:=by
 refine jD (Zg c) fun k=>?_
 have:=wq (c:=c) (by grind);rw[←k,ml0,←xR,K2]at this
 grind
theorem Nr {x y:Rl} (hx:0≤x) (hy:0≤y) (h:x*x=y*y):x=y:=by
 have e:(x-y)*(x+y)=0:=by
  have:(x-y)*(x+y)=x*x-y*y:=by obtain⟨x,rfl⟩:=x.rep;obtain⟨y,rfl⟩:=y.rep;exact xD fun n=>by simp only[kA,zi,zF];grind
  rw[this,h,sbs]
 rcases mul_eq_zero e with e|e
 ·exact ka e
 ·have a3:x=0:=by
   refine zy ?_ hx;rw[←e];have:=(SY x).2 hy
   rwa [zad,adc y x]at this
  have hy0:y=0:=by rw[a3,zad]at e;exact e
  rw[a3,hy0]
theorem Pk {a:Rat} (h:0≤a):jJ (a*a)=ofR a:=
 Nr (Zg _) (jI.2 h) (by rw[wq (gz h h),qX])
end Rl
end Eng
end
section
namespace Eng
namespace Rl
noncomputable def sg (x:Rl):Int:=open Classical in if 0<x then 1 else if x<0 then-1 else 0
theorem ZI {x:Rl} (h:0<x):sg x=1:=by simp[sg,h]
theorem Vo {x:Rl} (h:x<0):sg x= -1:=by simp[sg,h,vE h]
theorem zH:sg 0=0:=by simp[sg,kB]
theorem zd (x:Rl):(0<x∧sg x=1)∨(x=0∧sg x=0)∨(x<0∧sg x= -1):=by
 rcases ZF 0 x with h|h|h
 ·exact .inl ⟨h,ZI h⟩
 ·exact .inr (.inl ⟨h.symm,h▸zH⟩)
 ·exact .inr (.inr ⟨h,Vo h⟩)
theorem SZ {x:Rl}:sg x=1↔0<x:=by
 rcases zd x with⟨h,e⟩|⟨h,e⟩|⟨h,e⟩<;>simp[e]
 ·exact h
 ·subst h;exact kB _
 ·exact vE h
theorem HJ {x:Rl}:sg x= -1↔x<0:=by
 rcases zd x with⟨h,e⟩|⟨h,e⟩|⟨h,e⟩<;>simp[e]
 ·exact vE h
 ·subst h;exact kB _
 ·exact h
theorem xT {x:Rl}:sg x=0↔x=0:=by
 rcases zd x with⟨h,e⟩|⟨h,e⟩|⟨h,e⟩<;>simp[e]
 ·exact YA h
 ·exact h
 ·exact Y9 h
theorem tJ (x:Rl):sg (-x)= -sg x:=by
 rcases zd x with⟨h,e⟩|⟨h,e⟩|⟨h,e⟩<;>rw[e]
 ·exact Vo (j7.2 h)
 ·subst h;rw[ng0];exact zH
 ·exact ZI (xB.2 h)
theorem bO (x y:Rl):sg (x*y)=sg x*sg y:=by
 rcases zd x with⟨h,e⟩|⟨h,e⟩|⟨h,e⟩<;>rcases zd y with⟨k,f⟩|⟨k,f⟩|⟨k,f⟩<;>rw[e,f]
 ·exact ZI (mul_pos h k)
 ·rw[k,ml0,zH];rfl
 ·exact Vo (mul_neg h k)
 ·rw[h,zml,zH];rfl
 ·rw[h,zml,zH];rfl
 ·rw[h,zml,zH];rfl
 ·exact Vo (by rw[mlc];exact mul_neg k h)
 ·rw[k,ml0,zH];rfl
 ·exact ZI (neg_mul_neg h k)
def sr (a:Rat):Int:=if 0<a then 1 else if a<0 then-1 else 0
theorem EM (a:Rat):sr a=sg (ofR a):=by
 have e1:0<ofR a↔0<a:=ZH (a:=0);have e2:ofR a<0↔a<0:=ZH (b:=0);unfold sr sg;simp only[e1,e2]
theorem kb (a:Rat):(0<a∧sr a=1)∨(a=0∧sr a=0)∨(a<0∧sr a= -1):=by
 unfold sr
 grind
theorem AX (x y s:Rl) (hs:0≤s):
 sg (x+y*s)=if sg (y*s)=0∨sg x=sg (y*s)then sg x else if sg x=0 then sg (y*s)else sg x*sg (x*x-y*y*(s*s)):=by
 have hp:∀a b:Rl,sg a=sg b→sg a≠0→sg (a+b)=sg a:=by
  intro a b h h0;rcases zd a with⟨k,e⟩|⟨k,e⟩|⟨k,e⟩
  ·rw[e]at h ⊢;exact ZI (TZ k (SZ.1 h.symm))
  ·exact absurd e h0
  ·rw[e]at h ⊢;have hb:=HJ.1 h.symm;rw[HJ,←xB];have: -(a+b)= -a+ -b:=by obtain⟨a,rfl⟩:=a.rep;obtain⟨b,rfl⟩:=b.rep;exact xD fun n=>by simp only[zi,zF];grind
   rw[this];exact TZ (xB.2 k) (xB.2 hb)
 by_cases h1:sg (y*s)=0
 ·rw[if_pos (.inl h1),xT.1 h1,ad0]
 by_cases h2:sg x=sg (y*s)
 ·rw[if_pos (.inr h2)];exact hp _ _ h2 (h2▸h1)
 rw[if_neg (by simp[h1,h2])];by_cases h3:sg x=0
 ·rw[if_pos h3,xT.1 h3,zad]
 rw[if_neg h3];have h4:sg x=sg (-(y*s)):=by rw[tJ];rcases zd x with⟨_,e⟩|⟨_,e⟩|⟨_,e⟩<;>rcases zd (y*s)with⟨_,f⟩|⟨_,f⟩|⟨_,f⟩<;>simp[e,f]at h1 h2 h3 ⊢
 have h5:=hp _ _ h4 h3;have h6:x*x-y*y*(s*s)=(x+y*s)*(x+ -(y*s)):=by obtain⟨x,rfl⟩:=x.rep;obtain⟨y,rfl⟩:=y.rep;obtain⟨s,rfl⟩:=s.rep;exact xD fun n=>by simp only[zi,zF,kA];grind
 rw[h6,bO,h5];rcases zd x with⟨_,e⟩|⟨_,e⟩|⟨_,e⟩<;>simp[e]at h3 ⊢
def tw (a b m:Rat):Int:=if sr b*sr m=0∨sr a=sr b*sr m then sr a else if sr a=0 then sr b*sr m else sr a*sr (a*a-b*b*m)
theorem Ba {m:Rat} (h:0≤m):sg (jJ m)=sr m:=by
 rcases kb m with⟨k,e⟩|⟨k,e⟩|⟨k,e⟩
 ·rw[e];exact ZI (Nq k)
 ·subst k;rw[HI,zH,e]
 ·grind
theorem Pm (a b:Rat) {m:Rat} (h:0≤m):tw a b m=sg (ofR a+ofR b*jJ m):=by
 rw[AX _ _ _ (Zg m),wq h,bO,Ba h,←EM,←EM,←qX,←qX,←qX,←vC,←EM];rfl
noncomputable def qv (a b c d m n:Rat):Rl:=(ofR a+ofR b*jJ m)+(ofR c+ofR d*jJ m)*jJ n
def qs (a b c d m n:Rat):Int:=
 if tw c d m*sr n=0∨tw a b m=tw c d m*sr n then tw a b m else if tw a b m=0 then tw c d m*sr n else
  tw a b m*tw (a*a+b*b*m-n*(c*c+d*d*m)) (2*(a*b-n*(c*d))) m
theorem bP (a b c d:Rat) {m n:Rat} (hm:0≤m) (hn:0≤n):qs a b c d m n=sg (qv a b c d m n):=by
 unfold qv;rw[AX _ _ _ (Zg n),wq hn,bO,Ba hn,←Pm _ _ hm,←Pm _ _ hm];unfold qs;have:(ofR a+ofR b*jJ m)*(ofR a+ofR b*jJ m)-(ofR c+ofR d*jJ m)*(ofR c+ofR d*jJ m)*ofR n
  =ofR (a*a+b*b*m-n*(c*c+d*d*m))+ofR (2*(a*b-n*(c*d)))*jJ m:=by
  have e:∀s:Rl,s*s=ofR m→(ofR a+ofR b*s)*(ofR a+ofR b*s)-(ofR c+ofR d*s)*(ofR c+ofR d*s)*ofR n
   =(ofR a*ofR a+ofR b*ofR b*ofR m-ofR n*(ofR c*ofR c+ofR d*ofR d*ofR m))+ofR (2*(a*b-n*(c*d)))*s:=by
   intro s h;rw[←h];obtain⟨s,rfl⟩:=s.rep;exact xD fun n=>by simp only[zi,zF,kA,jZ];grind
  rw[e _ (wq hm)];simp only[vC,zG,qX]
 rw[this,←Pm _ _ hm]
end Rl
end Eng
end
section
namespace Eng
open Rl
structure Rt where
 a:Rat
 b:Rat
 c:Rat
structure Vc where
 x:Rat
 y:Rat
structure P5 where
 x:Rat
 u:Rat
 y:Rat
 v:Rat
 c:Rat
structure Ln where
 a:Rat
 b:Rat
 c:Rat
structure Ci where
 x:Rat
 y:Rat
 q:Rat
structure Cu where
 arc:Bool
 ln:Ln
 ci:Ci
 cw:Bool
 fr:P5
 tt:P5
 jk:R4
def sqQ (c:Rat):Option Rat:=match SV c with
 |some (m,n)=>some ((m:Rat)/(n:Rat))
 |none=>none
def rtQ (a:Rat):Rt:=⟨a,0,0⟩
def Jj (a b c:Rat):Rt:=if b=0∨c=0 then rtQ a else⟨a,b,c⟩
def YB (a b c:Rat):Rt:=match sqQ c with
 |some s=>rtQ (a+b*s)
 |none=>Jj a b c
noncomputable def rv (r:Rt):Rl:=ofR r.a+ofR r.b*jJ r.c
def ws (r:Rt):Rat:=r.a*r.a-r.b*r.b*r.c
def Bb (r:Rt) (a:Rat):Rt:=⟨r.a+a,r.b,r.c⟩
def iQ (r:Rt):Rt:=⟨-r.a, -r.b,r.c⟩
def mulC (r s:Rt) (c:Rat):Rt:=Jj (r.a*s.a+r.b*s.b*c) (r.a*s.b+r.b*s.a) c
def XO (r s:Rt):Rat:=if r.b=0 then s.c else r.c
def EN (r s:Rt):Prop:=r.b=0∨s.b=0∨r.c=s.c
def Zh (r s:Rt):Rt:=mulC r s (XO r s)
def eP (r s:Rt):Rt:=Jj (r.a+s.a) (r.b+s.b) (XO r s)
def eQ (r:Rt):Rt:=Jj (r.a*(1/ws r)) (-(r.b*(1/ws r))) r.c
def atV (v:Vc):P5:=⟨v.x,0,v.y,0,0⟩
def kD (a b c:Rat):Rt:=if b=0 then rtQ a else⟨a,b,c⟩
def xP (p:P5):Rt:=kD p.x p.u p.c
def yP (p:P5):Rt:=kD p.y p.v p.c
noncomputable def px (p:P5):Rl:=ofR p.x+ofR p.u*jJ p.c
noncomputable def py (p:P5):Rl:=ofR p.y+ofR p.v*jJ p.c
def okP (p:P5):Prop:=(p.u=0∧p.v=0∧p.c=0)∨(¬(p.u=0∧p.v=0)∧0<p.c∧sqQ p.c=none)
noncomputable def ja (p q:P5):Int:=if sg (px p-px q)=0 then sg (py p-py q)else sg (px p-px q)
def ZJ (p q:P5):Prop:=px p=px q∧py p=py q
noncomputable def kO (p q:P5):Bool:=ja p q==0
theorem ym {p q:P5}:ja p q=0↔ZJ p q:=by
 unfold ja ZJ;split
 ·rename_i h;rw[xT];exact⟨fun k=>⟨ka (xT.1 h),ka k⟩,fun k=>by rw[k.2,sbs]⟩
 ·rename_i h;refine⟨fun k=>absurd k h,fun k=>absurd ?_ h⟩;rw[k.1,sbs,zH]
theorem jf {p q:P5}:kO p q=true↔ZJ p q:=by
 unfold kO;rw[beq_iff_eq,ym]
def QD (p:P5):P5:=⟨-p.x, -p.u,p.y,p.v,p.c⟩
noncomputable def lnv (l:Ln) (p:P5):Rl:=ofR l.a*px p+ofR l.b*py p-ofR l.c
noncomputable def civ (c:Ci) (p:P5):Rl:=(px p-ofR c.x)*(px p-ofR c.x)+(py p-ofR c.y)*(py p-ofR c.y)-ofR c.q
def EO (l m:Ln):Bool:=decide (l.a*m.b=l.b*m.a)&&(decide (l.a*m.c=l.c*m.a)&&decide (l.b*m.c=l.c*m.b))
def Rr (c d:Ci):Bool:=decide (c.x=d.x)&&(decide (c.y=d.y)&&decide (c.q=d.q))
def ZK (l m:Ln):Rat:=l.a*m.b-m.a*l.b
def Bc (l m:Ln):Rat:=l.c*m.b-m.c*l.b
def Be (l m:Ln):Rat:=l.a*m.c-m.a*l.c
def ZL (l m:Ln):List P5:=if ZK l m≠0 then [atV ⟨Bc l m/ZK l m,Be l m/ZK l m⟩]else []
def G7 (l:Ln):Rat:=l.a*l.a+l.b*l.b
def iR (l:Ln) (x y:Rat):Rat:=l.a*x+l.b*y-l.c
def WC (l:Ln) (c:Ci):Rat:=G7 l*c.q-iR l c.x c.y*iR l c.x c.y
def zn (x u y v c:Rat):P5:=match sqQ c with
 |some s=>atV ⟨x+u*s,y+v*s⟩
 |none=>⟨x,u,y,v,c⟩
def bQ (l:Ln) (c:Ci):Rat:=iR l c.x c.y/G7 l
def EP (l:Ln) (c:Ci):Rat:=c.x-bQ l c*l.a
def EQ (l:Ln) (c:Ci):Rat:=c.y-bQ l c*l.b
def lcP (l:Ln) (c:Ci):P5:=zn (EP l c) (-(l.b/G7 l)) (EQ l c) (-(-l.a/G7 l)) (WC l c)
def lcQ (l:Ln) (c:Ci):P5:=zn (EP l c) (l.b/G7 l) (EQ l c) (-l.a/G7 l) (WC l c)
noncomputable def Xs (l:Ln) (c:Ci):List P5:=
 if WC l c<0 then []else if WC l c=0 then [atV ⟨EP l c,EQ l c⟩]else
 if 0<ja (lcP l c) (lcQ l c)then [lcQ l c,lcP l c]else [lcP l c,lcQ l c]
def yn (c d:Ci):Prop:=c.x=d.x∧c.y=d.y
instance (c d:Ci):Decidable (yn c d):=inferInstanceAs (Decidable (c.x=d.x∧c.y=d.y))
def ER (c d:Ci):Ln:=⟨2*(d.x-c.x),2*(d.y-c.y),d.x*d.x+d.y*d.y-d.q-(c.x*c.x+c.y*c.y-c.q)⟩
noncomputable def yQ (c d:Ci):List P5:=if yn c d then []else Xs (ER c d) c
noncomputable def Qy (c d:Cu):List P5:=
 if c.arc=true then(if d.arc=true then yQ c.ci d.ci else Xs d.ln c.ci)
 else if d.arc=true then Xs c.ln d.ci else ZL c.ln d.ln
def jp (c:Ci):P5:=zn c.x (-1) c.y 0 c.q
def xU (c:Ci):P5:=zn c.x 1 c.y 0 c.q
noncomputable def Jk (c:Cu) (p:P5):Bool:=if c.arc=true then sg (civ c.ci p)==0 else sg (lnv c.ln p)==0
noncomputable def upB (c:Ci) (p:P5):Bool:=decide (0<sg (py p-ofR c.y))||(sg (py p-ofR c.y)==0&&decide (0<sg (px p-ofR c.x)))
noncomputable def qx (c:Ci) (p q:P5):Int:=
 if upB c p=upB c q then(if upB c p=true then-sg (px p-px q)else sg (px p-px q))else if upB c q=true then-1 else 1
noncomputable def vF (c:Ci) (f p q:P5):Int:=
 if decide (qx c p f<0)=decide (qx c q f<0)then qx c p q else if qx c q f<0 then-1 else 1
noncomputable def jn (c:Cu) (p q:P5):Int:=
 if c.arc=true then(if c.cw=true then vF ⟨-c.ci.x,c.ci.y,c.ci.q⟩ (QD c.fr) (QD p) (QD q)else vF c.ci c.fr p q)
 else if 0<ja c.fr c.tt then-ja p q else ja p q
noncomputable def Xt (c:Cu) (p:P5):Bool:=Jk c p&&(decide (jn c c.fr p≤0)&&decide (jn c p c.tt≤0))
def La (c:Cu):Cu:={c with fr:=c.tt,tt:=c.fr,cw:=c.arc&&!c.cw}
noncomputable def Qz (c:Cu):List P5→P5→List P5
 |[],p=>[p]
 |q::r,p=>if jn c q p<0 then q::Qz c r p else if kO q p=true then q::r else p::q::r
noncomputable def yr (c:Cu) (l:List P5):List P5:=l.foldl (Qz c) []
def jg (c:Cu):List P5→List Cu
 |p::q::r=>{c with fr:=p,tt:=q}::jg c (q::r)
 |_=>[]
noncomputable def jh (c:Cu) (l:List P5):List Cu:=if l.all (Xt c)=true then jg c (yr c (c.fr::c.tt::l))else []
def zL (c d:Cu):Bool:=if c.arc=d.arc then(if c.arc=true then Rr c.ci d.ci else EO c.ln d.ln)else false
noncomputable def eqC (c d:Cu):Bool:=zL c d&&(c.cw==d.cw&&(kO c.fr d.fr&&kO c.tt d.tt))
noncomputable def Xu (c d:Cu):List P5:=if zL c d=true then [c.fr,c.tt,d.fr,d.tt]else Qy c d
noncomputable def zM (c d:Cu):List P5:=yr c ((Xu c d).filter fun p=>Xt c p&&Xt d p)
def Z4:R4:=⟨false,[],false,[]⟩
def Jl (a b:Vc):Ln:=⟨a.y-b.y,b.x-a.x,(a.y-b.y)*a.x+(b.x-a.x)*a.y⟩
def oj (a b:Vc):Option Cu:=if a.y-b.y=0∧b.x-a.x=0 then none else some ⟨false,Jl a b,⟨0,0,0⟩,false,atV a,atV b,Z4⟩
def Lb (c:Ci):List Cu:=[⟨true,⟨0,0,0⟩,c,false,jp c,xU c,Z4⟩,⟨true,⟨0,0,0⟩,c,false,xU c,jp c,Z4⟩]
noncomputable def WD (c:Cu):Bool:=(if c.arc=true then decide (0<c.ci.q)else !c.cw&&decide (¬(c.ln.a=0∧c.ln.b=0)))&&(Jk c c.fr&&(Jk c c.tt&&!kO c.fr c.tt))
noncomputable def Wu (c:Cu) (p:P5):Bool:=Xt c p&&(!kO c.fr p&&!kO c.tt p)
noncomputable def Pn (c:Cu):Bool:=!c.arc&&(sg (px c.fr-px c.tt)==0)
noncomputable def xC (c:Cu) (p:P5):Int×Rt:=
 if Pn c=true then(2,⟨0,0,0⟩)else if c.arc=false then(0,rtQ (-c.ln.a/c.ln.b))else
 if sg (py p-ofR c.ci.y)=0 then((if c.cw=true then 1 else-1),⟨0,0,0⟩)else
 (0,Zh (iQ (Bb (xP p) (-c.ci.x))) (eQ (Bb (yP p) (-c.ci.y))))
def vT (c:Cu):Int:=if c.arc=false then 0 else if c.cw=true then-1 else 1
def bR (c d:Cu):Int:=if vT c=vT d then(if vT c=0 then 0 else-vT c*sr (c.ci.q-d.ci.q))else if vT c<vT d then-1 else 1
noncomputable def Vp (c d:Cu):Int:=
 if kO c.fr d.fr=false then 0 else
 if(xC c c.fr).1=(xC d d.fr).1 then
  (if(xC c c.fr).1=2 then 0 else if(xC c c.fr).1=0 then
   (if sg (rv (xC c c.fr).2-rv (xC d d.fr).2)=0 then bR c d else sg (rv (xC c c.fr).2-rv (xC d d.fr).2))
  else(xC c c.fr).1*sr (c.ci.q-d.ci.q))
 else if(xC c c.fr).1<(xC d d.fr).1 then-1 else 1
noncomputable def ES (c d:Cu):Int:=if ja c.fr d.fr=0 then(if Vp c d=0 then ja c.tt d.tt else Vp c d)else ja c.fr d.fr
noncomputable def G8:List Cu→Cu→List Cu
 |[],p=>[p]
 |q::r,p=>if ES q p≤0 then q::G8 r p else p::q::r
noncomputable def qB (p:Cu):Cu:=if 0<ja p.fr p.tt then La p else p
noncomputable def ze (c:Cu):List Cu:=
 ((if c.arc=true then jh c ((if Wu c (jp c.ci)=true then [jp c.ci]else [])++(if Wu c (xU c.ci)=true then [xU c.ci]else []))else [c]).map qB).foldl G8 []
noncomputable def iS (all:List Cu) (i:Nat) (c:Cu):List P5:=((b8 all.length).filter (· ≠i)).flatMap fun k=>match all[k]? with
 |some d=>zM c d
 |none=>[]
noncomputable def Xv (l:List Cu):List Cu:=
 let all:=l.flatMap ze
 (b8 all.length).flatMap fun i=>match all[i]? with
  |some c=>jh c (iS all i c)
  |none=>[]
def kE (f:Nat→Bool):Nat→Int
 |0=> -1
 |n+1=>if f n=true then(n:Int)else kE f n
noncomputable def D7 (out:List Cu) (c:Cu) (j:Nat):Bool:=match out[j]? with
 |some d=>eqC d c
 |none=>false
noncomputable def wt (out:List Cu) (c:Cu):List Cu:=
 if kE (D7 out c) out.length<0 then out++[c]else out.eraseIdx (kE (D7 out c) out.length).toNat
noncomputable def AY (l:List Cu):List Cu:=l.foldl wt []
end Eng
end
section
namespace Eng
open Rl
noncomputable def Ns (l:List Cu) (p:P5):Nat→Nat
 |0=>0
 |j+1=>Ns l p j+(match l[j]? with
  |some d=>(if kO d.fr p=true then 1 else 0)+(if kO d.tt p=true then 1 else 0)
  |none=>0)
noncomputable def wb (l:List Cu) (p:P5):Nat:=Ns l p l.length
noncomputable def Rs (l:List Cu) (p:P5) (j:Nat):Bool:=match l[j]? with
 |some d=>kO d.fr p
 |none=>false
noncomputable def vQ (l:List Cu) (p:P5):Int:=kE (Rs l p) l.length
noncomputable def Po (l:List Cu) (i:Nat):Option Nat:=match l[i]? with
 |none=>none
 |some c=>if wb l c.tt=2∧0≤vQ l c.tt then
  (match l[(vQ l c.tt).toNat]? with
   |some d=>if zL c d=true∧c.cw=d.cw then some (vQ l c.tt).toNat else none
   |none=>none)
  else none
def kF (l:List Cu) (i k:Nat):Nat→List Cu
 |0=>[]
 |j+1=>kF l i k j++(if j≠i∧j≠k then l[j]?.toList else [])
noncomputable def YC (l:List Cu) (i:Nat):Option (List Cu):=match Po l i with
 |none=>none
 |some k=>match l[i]?,l[k]? with
  |some c,some d=>some (kF l i k l.length++[{c with tt:=d.tt}])
  |_,_=>none
noncomputable def yt (l:List Cu):Nat→Nat→Option (List Cu)
 |0,_=>none
 |n+1,i=>match YC l i with
  |some m=>some m
  |none=>yt l n (i+1)
noncomputable def Q0:Nat→List Cu→List Cu
 |0,l=>l
 |n+1,l=>match yt l l.length 0 with
  |none=>l
  |some m=>Q0 n m
noncomputable def wu (l:List Cu):List Cu:=Q0 l.length l
noncomputable def Tf (c:Cu):List Cu→List Cu
 |[]=>[c]
 |q::r=>if ES c q<0 then q::Tf c r else c::q::r
noncomputable def HK (l:List Cu):List Cu:=l.foldl (fun v c=>Tf c v) []
noncomputable def Zi (l:List Cu):List Cu:=(HK l).reverse
noncomputable def Bf (l:List Cu):Bool:=l.any fun c=>decide (wb l c.fr%2=1)||decide (wb l c.tt%2=1)
noncomputable def ZM (l:List Cu):List Cu:=Zi (wu (AY (Xv l)))
noncomputable def wv (l:List Cu):List Cu×Int:=
 if 400<l.length then([],3)else if l.all WD=false then([],1)else if Bf l=true then([],8)else
 if 400<(ZM l).length then([],3)else(ZM l,0)
noncomputable def ZN:List Cu→List Cu→Bool
 |[],[]=>true
 |c::r,d::s=>eqC c d&&ZN r s
 |_,_=>false
noncomputable def Nt (l:List Cu):Bool:=decide ((wv l).2=0)&&ZN l (wv l).1
end Eng
end
section
namespace Eng
open Rl
theorem Vq {a m:Nat} (h:TX a=some m):m*m=a:=by
 unfold TX at h;split at h
 ·rename_i h1;simp only[gb]at h;subst h;exact h1
 ·simp at h
theorem Jm {c s:Rat} (h:sqQ c=some s):s*s=c∧0≤s:=by
 unfold sqQ at h;split at h
 ·rename_i m n hm;simp only[gb]at h;subst h;unfold SV at hm;split at hm
  ·simp at hm
  rename_i h0;split at hm
  ·rename_i a b ha hb;simp only[gb,Prod.mk.injEq]at hm;obtain⟨rfl,rfl⟩:=hm;have h1:=Vq ha;have h2:=Vq hb;have hd:c.den≠0:=c.den_nz;have hb0:b≠0:=fun e=>by subst e;simp at h2;exact hd h2.symm
   have hq:(0:Rat)<(b:Rat):=Rat.natCast_pos.2 (by omega);have e1:(c.num:Rat)=(a:Rat)*(a:Rat):=by
    have:c.num=((a*a:Nat):Int):=by omega
    rw[this,hD,hR]
   have e2:((c.den:Int):Rat)=(b:Rat)*(b:Rat):=by rw[←h2,hD,hR]
   have e3:c=(c.num:Rat)/((c.den:Int):Rat):=by rw[←Rat.divInt_eq_div,g0]
   have hbn:(b:Rat)≠0:=by grind
   constructor
   ·rw[e3,e1,e2];grind
   ·rw[g5];exact gz Rat.natCast_nonneg (g7 (h7.2 hq))
  ·simp at hm
 ·simp at h
theorem ET {c:Rat} (h:sqQ c=none) (s:Rat):s*s≠c:=by
 intro e;subst e;unfold sqQ at h;rw[EL]at h;simp at h
def okT (r:Rt):Prop:=(r.b=0∧r.c=0)∨(r.b≠0∧0<r.c∧sqQ r.c=none)
theorem okT.nn {r:Rt} (h:okT r):0≤r.c:=by
 rcases h with h|h<;>grind
theorem K3 (a:Rat):okT (rtQ a):= .inl ⟨rfl,rfl⟩
theorem YD {a b c:Rat} (h:c=0∨(0<c∧sqQ c=none)):okT (Jj a b c):=by
 unfold Jj;split
 ·exact K3 a
 ·rename_i h1;exact .inr ⟨fun e=>h1 (.inl e),by rcases h with h|h<;>grind⟩
theorem Bg (a:Rat):rv (rtQ a)=ofR a:=by
 show ofR a+ofR 0*jJ 0=ofR a;rw[xR,zml,ad0]
theorem Bh (a b c:Rat):rv (Jj a b c)=ofR a+ofR b*jJ c:=by
 unfold Jj;split
 ·rename_i h;rw[Bg];rcases h with h|h
  ·rw[h,xR,zml,ad0]
  ·rw[h,HI,ml0,ad0]
 ·rfl
theorem YE {c s:Rat} (h:sqQ c=some s):jJ c=ofR s:=by
 obtain⟨h1,h2⟩:=Jm h;rw[←h1,Pk h2]
theorem bS (a b c:Rat):rv (YB a b c)=ofR a+ofR b*jJ c:=by
 unfold YB;split
 ·rename_i s hs;rw[Bg,YE hs,zG,qX]
 ·exact Bh a b c
theorem EU (a b:Rat) {c:Rat} (h:0≤c):okT (YB a b c):=by
 unfold YB;split
 ·exact K3 _
 ·rename_i hs;refine YD ?_;by_cases h1:c=0
  ·exact .inl h1
  ·exact .inr ⟨by grind,hs⟩
theorem okT.norm {r:Rt} (h:okT r) (h0:¬(r.a=0∧r.b=0)):ws r≠0:=by
 unfold ws;rcases h with⟨h1,h2⟩|⟨h1,h2,h3⟩
 ·rw[h1,h2];grind
 ·intro e;refine ET h3 (r.a/r.b) ?_;have:r.a*r.a=r.b*r.b*r.c:=by grind
  grind
theorem Pp (r:Rt) (h:okT r):ofR (ws r)=rv r*(ofR r.a-ofR r.b*jJ r.c):=by
 have e:∀s:Rl,s*s=ofR r.c→ofR (ws r)=(ofR r.a+ofR r.b*s)*(ofR r.a-ofR r.b*s):=by intro s hs;unfold ws;rw[vC,qX,qX,qX,←hs];obtain⟨s,rfl⟩:=s.rep;exact xD fun n=>by simp only[zi,zF,kA,jZ];grind
 exact e _ (wq h.nn)
theorem okT.zero {r:Rt} (h:okT r):rv r=0↔r.a=0∧r.b=0:=by
 constructor
 ·intro e;by_cases h0:r.a=0∧r.b=0
  ·exact h0
  ·exfalso;have h1:=h.norm h0;have h2:=Pp r h;rw[e,zml]at h2;exact h1 (K2.1 h2)
 ·rintro⟨h1,h2⟩;unfold rv;rw[h1,h2,xR,zml,ad0]
theorem K4 {x:Rat}:sr x=0↔x=0:=by
 rcases kb x with⟨h,e⟩|⟨h,e⟩|⟨h,e⟩<;>rw[e]<;>grind
theorem ZO {x:Rat}:sr x<0↔x<0:=by
 rcases kb x with⟨h,e⟩|⟨h,e⟩|⟨h,e⟩<;>rw[e]<;>grind
theorem Nu {x:Rat}:0<sr x↔0<x:=by
 rcases kb x with⟨h,e⟩|⟨h,e⟩|⟨h,e⟩<;>rw[e]<;>grind
theorem QE (x:Rat):(sr x==0)=decide (x=0):=by
 rcases kb x with⟨h,e⟩|⟨h,e⟩|⟨h,e⟩<;>rw[e]<;>symm
 ·exact decide_eq_false (by grind)
 ·exact decide_eq_true h
 ·exact decide_eq_false (by grind)
theorem tK {r:Rt} (h:okT r):sg (rv r)=(if sr r.a=sr r.b then sr r.a else if sr r.b=0 then sr r.a else if sr r.a=0 then sr r.b else if 0<sr (ws r)then sr r.a else sr r.b):=by
 unfold rv;rw[←Pm r.a r.b h.nn];unfold tw;have e:sr r.b*sr r.c=sr r.b:=by
  rcases h with⟨h1,h2⟩|⟨_,h1,_⟩
  ·rw[h1,h2];rfl
  ·have:sr r.c=1:=by unfold sr;rw[if_pos h1]
   rw[this,W2]
 have hn:r.a*r.a-r.b*r.b*r.c=ws r:=rfl;rw[e,hn];by_cases h1:sr r.b=0
 ·rw[if_pos (.inl h1)];by_cases h2:sr r.a=sr r.b
  ·rw[if_pos h2]
  ·rw[if_neg h2,if_pos h1]
 by_cases h2:sr r.a=sr r.b
 ·rw[if_pos (.inr h2),if_pos h2]
 rw[if_neg (by simp[h1,h2]),if_neg h2,if_neg h1];split
 ·rfl
 ·rename_i h3;have hnz:ws r≠0:=h.norm fun k=>h3 (K4.2 k.1)
  rcases kb (ws r)with⟨h4,e4⟩|⟨h4,e4⟩|⟨h4,e4⟩<;>rw[e4]
  ·simp
  ·exact absurd h4 hnz
  ·rcases kb r.a with⟨_,e5⟩|⟨_,e5⟩|⟨_,e5⟩<;>rcases kb r.b with⟨_,e6⟩|⟨_,e6⟩|⟨_,e6⟩<;>simp[e5,e6]at h1 h2 h3 ⊢
theorem HM (x:Rat): -1≤sr x∧sr x≤1:=by rcases kb x with⟨_,e⟩|⟨_,e⟩|⟨_,e⟩<;>omega
theorem oo (x:Rl): -1≤sg x∧sg x≤1:=by rcases zd x with⟨_,e⟩|⟨_,e⟩|⟨_,e⟩<;>omega
theorem okP.nn {p:P5} (h:okP p):0≤p.c:=by
 rcases h with⟨_,_,h⟩|⟨_,h,_⟩<;>grind
theorem HN (a b:Rat) {p:P5} (h:okP p) (hb:b=p.u∨b=p.v):okT (kD a b p.c):=by
 unfold kD;split
 ·exact K3 a
 ·rename_i h0;rcases h with⟨h1,h2,_⟩|⟨_,h1,h2⟩
  ·exfalso;rcases hb with rfl|rfl<;>contradiction
  ·exact .inr ⟨h0,h1,h2⟩
theorem Nv (a b c:Rat):rv (kD a b c)=ofR a+ofR b*jJ c:=by
 unfold kD;split
 ·rename_i h;rw[Bg,h,xR,zml,ad0]
 ·rfl
theorem ZP {p:P5} (h:okP p):okT (xP p):=HN _ _ h (.inl rfl)
theorem ZQ {p:P5} (h:okP p):okT (yP p):=HN _ _ h (.inr rfl)
theorem WE (p:P5):rv (xP p)=px p:=Nv _ _ _
theorem Lc (p:P5):rv (yP p)=py p:=Nv _ _ _
theorem Nw (v:Vc):okP (atV v):= .inl ⟨rfl,rfl,rfl⟩
theorem tL (v:Vc):px (atV v)=ofR v.x:=by
 show ofR v.x+ofR 0*jJ 0=_;rw[xR,zml,ad0]
theorem tM (v:Vc):py (atV v)=ofR v.y:=by
 show ofR v.y+ofR 0*jJ 0=_;rw[xR,zml,ad0]
theorem bT {p:P5} (h:okP p):okP (QD p):=by
 rcases h with⟨h1,h2,h3⟩|⟨h1,h2,h3⟩
 ·exact .inl ⟨by show-p.u=0;grind,h2,h3⟩
 ·exact .inr ⟨fun k=>h1 ⟨by have: -p.u=0:=k.1;grind,k.2⟩,h2,h3⟩
theorem K7 (p:P5):px (QD p)= -px p:=by
 have e:∀s:Rl,ofR (-p.x)+ofR (-p.u)*s= -(ofR p.x+ofR p.u*s):=by intro s;rw[v8,v8];obtain⟨s,rfl⟩:=s.rep;exact xD fun n=>by simp only[zi,zF,kA,jZ];grind
 exact e _
theorem AZ (p:P5):py (QD p)=py p:=rfl
end Eng
end
section
open Go Go.Proofs Eng
namespace Eng
section
variable (Gv:Nat→List A→List A→Prop) (I0:List D→List D→Prop) (M0:List D→Nat) (I1:List D→List D→Prop) (M1:List D→Nat) (I2:List D→List D→Prop) (M2:List D→Nat) (I3:List D→List D→Prop) (M3:List D→Nat) (Q:List A→Prop)
theorem HO (J4:List D→List D→Prop) (J18:List D→List D→Prop) (J20:List D→List D→Prop) (J23:List D→List D→Prop) (es fs:List (List D)):wpF CC Gv (Ta (Ta (Ta (Ta (eM ⟨[.own 12 173 1,.slot 11 (.slice none 0 0),.slot 14 (.int .i64 0)],[],I0,M0⟩ ⟨[.slot 16 (.int .u64 0),.slot 17 (.slice none 0 0)],[.slot 11 (.slice none 0 0),.slot 14 (.int .i64 0),.own 12 173 1],I1,M1⟩ ⟨[.own 19 174 1,.slot 18 (.int .u64 0),.slot 20 (.int .i64 0)],[.slot 11 (.slice none 0 0)],I2,M2⟩) 4 ⟨[],[],J4,fun _=>0⟩) 18 ⟨[.slot 15 (.int .u64 0)],[.slot 11 (.slice none 0 0)],J18,fun _=>0⟩) 20 ⟨[.slot 15 (.int .u64 0)],[.slot 11 (.slice none 0 0)],J20,fun _=>0⟩) 23 ⟨[.slot 16 (.int .u64 0)],[.slot 11 (.slice none 0 0)],J23,fun _=>0⟩) Tryz.f165 [.c (.sl es),.c (.sl fs)] Q=(bB (decide ((J8 es.length)≤2)) (bB (decide ((J8 fs.length)≤2)) (∃i,Gv 166 [aL es] [Bx (Dd .u64 i)]∧∃i_1,Gv 166 [aL fs] [Bx (Dd .u64 i_1)]∧i_1≠0∧∃es,Gv 81 [Bx (Dd .u64 (J3 .u64 (Lv i i_1)))] [aL es]∧i_1≠0∧∃e1,Gv 81 [Bx (Dd .u64 (No i i_1))] [aL e1]∧Q [aL es,aL e1]) (J4 [] [])) (J4 [] [])∧(J4 [] []→(0≤J3 .i64 ((J8 fs.length)-1)∧J3 .i64 ((J8 fs.length)-1)<(J8 fs.length)∧ba (nth [] fs (J9 (J3 .i64 ((J8 fs.length)-1))))=1)∧∃i,cut (nth [] fs (J9 (J3 .i64 ((J8 fs.length)-1)))) 0 1 [Dd .u32 i]∧J3 .u64 (J3 .u64 i+1)≠0∧∃e1,Gv 222 [aL fs,Bx (Dd .u32 (J3 .u32 (J3 .u64 (Lv (1000000000:Int) (J3 .u64 (J3 .u64 i+1))))))] [aL e1]∧(0≤J3 .i64 ((J8 e1.length)-1)∧J3 .i64 ((J8 e1.length)-1)<(J8 e1.length)∧ba (nth [] e1 (J9 (J3 .i64 ((J8 e1.length)-1))))=1)∧∃i_1,cut (nth [] e1 (J9 (J3 .i64 ((J8 e1.length)-1)))) 0 1 [Dd .u32 i_1]∧(0≤J3 .i64 ((J8 es.length)+1)∧J3 .i64 ((J8 es.length)+1)≤J3 .i64 ((J8 es.length)+1)∧room (J9 (J3 .i64 ((J8 es.length)+1))))∧∃e2,Gv 222 [aL es,Bx (Dd .u32 (J3 .u32 (J3 .u64 (Lv (1000000000:Int) (J3 .u64 (J3 .u64 i+1))))))] [aL e2]∧(0≤(J8 e2.length)∧(J8 e2.length)≤(J8 (ba (ap (J9 (J3 .i64 ((J8 es.length)+1))) [Dd .u32 0]))))∧I0 [] [F0 (bx (J9 (J8 e2.length)) (ap (J9 (J3 .i64 ((J8 es.length)+1))) [Dd .u32 0])),F0 [],dI (J3 .i64 ((J8 e2.length)-1))]∧∀(es e3:List (List D)) (i_2:Int),I0 [] [F0 es,F0 e3,dI i_2]→bB (decide (i_2≥0)) ((0≤i_2∧i_2<(J8 e2.length)∧ba (nth [] e2 (J9 i_2))=1)∧∃i,cut (nth [] e2 (J9 i_2)) 0 1 [Dd .u32 i]∧(room (1+e3.length)∧lens 1 e3)∧∃e4,Gv 142 [aL ([Dd .u32 i]::e3)] [aL e4]∧bB (decide ((J8 e4.length)>(J8 e1.length))) ((0≤(J8 e1.length)∧(J8 e1.length)<(J8 e4.length)∧ba (nth [] e4 (J9 (J8 e1.length)))=1)∧∃i,cut (nth [] e4 (J9 (J8 e1.length))) 0 1 [Dd .u32 i]∧J18 [F0 e4] [Dd .u64 (J3 .u64 (J3 .u64 i*1000000000))]) (J18 [F0 e4] [Dd .u64 0])∧∀(i:Int),J18 [F0 e4] [Dd .u64 i]→bB (decide ((J8 e4.length)≥(J8 e1.length))) ((0≤J3 .i64 ((J8 e1.length)-1)∧J3 .i64 ((J8 e1.length)-1)<(J8 e4.length)∧ba (nth [] e4 (J9 (J3 .i64 ((J8 e1.length)-1))))=1)∧∃i_3,cut (nth [] e4 (J9 (J3 .i64 ((J8 e1.length)-1)))) 0 1 [Dd .u32 i_3]∧J20 [F0 e4] [Dd .u64 (J3 .u64 (i+J3 .u64 i_3))]) (J20 [F0 e4] [Dd .u64 i])∧∀(i:Int),J20 [F0 e4] [Dd .u64 i]→J3 .u64 i_1≠0∧bB (decide (J3 .u64 (Lv i (J3 .u64 i_1))>999999999)) (J23 [F0 e4] [Dd .u64 999999999]) (J23 [F0 e4] [Dd .u64 (J3 .u64 (Lv i (J3 .u64 i_1)))])∧∀(i:Int),J23 [F0 e4] [Dd .u64 i]→∃e5,Gv 222 [aL e1,Bx (Dd .u32 (J3 .u32 i))] [aL e5]∧I1 [F0 e4,dI i_2,F0 es] [Dd .u64 i,F0 e5]∧∀(i:Int) (e6:List (List D)),I1 [F0 e4,dI i_2,F0 es] [Dd .u64 i,F0 e6]→∃i_3,Gv 197 [aL e6,aL e4] [aI i_3]∧bB (decide (i_3>0)) (∃e7,Gv 223 [aL e6,aL e1] [aL e7]∧I1 [F0 e4,dI i_2,F0 es] [Dd .u64 (J3 .u64 (i-1)),F0 e7]∧M1 [Dd .u64 (J3 .u64 (i-1)),F0 e7]<M1 [Dd .u64 i,F0 e6]) (∃e7,Gv 223 [aL e4,aL e6] [aL e7]∧(0≤i_2∧i_2<(J8 es.length))∧0<1∧I0 [] [F0 (upd es (J9 i_2) (upd (nth [] es (J9 i_2)) 0 (Dd .u32 (J3 .u32 i)))),F0 e7,dI (J3 .i64 (i_2-1))]∧M0 [F0 (upd es (J9 i_2) (upd (nth [] es (J9 i_2)) 0 (Dd .u32 (J3 .u32 i)))),F0 e7,dI (J3 .i64 (i_2-1))]<M0 [F0 es,F0 e3,dI i_2])) ((0≤(J8 e3.length)∧(J8 e3.length)≤(J8 e3.length)∧room (J9 (J8 e3.length)))∧I2 [F0 e3] [F0 (ap (J9 (J8 e3.length)) [Dd .u32 0]),Dd .u64 0,dI (J3 .i64 ((J8 e3.length)-1))]∧∀(e4:List (List D)) (i_3 i_4:Int),I2 [F0 e3] [F0 e4,Dd .u64 i_3,dI i_4]→bB (decide (i_4≥0)) ((0≤i_4∧i_4<(J8 e3.length)∧ba (nth [] e3 (J9 i_4))=1)∧∃i_5,cut (nth [] e3 (J9 i_4)) 0 1 [Dd .u32 i_5]∧J3 .u64 (J3 .u32 (J3 .u64 (Lv (1000000000:Int) (J3 .u64 (J3 .u64 i+1)))))≠0∧(0≤i_4∧i_4<(J8 e4.length))∧0<1∧J3 .u64 (J3 .u32 (J3 .u64 (Lv (1000000000:Int) (J3 .u64 (J3 .u64 i+1)))))≠0∧I2 [F0 e3] [F0 (upd e4 (J9 i_4) (upd (nth [] e4 (J9 i_4)) 0 (Dd .u32 (J3 .u32 (J3 .u64 (Lv (J3 .u64 (J3 .u64 (i_3*1000000000)+J3 .u64 i_5)) (J3 .u64 (J3 .u32 (J3 .u64 (Lv (1000000000:Int) (J3 .u64 (J3 .u64 i+1)))))))))))),Dd .u64 (No (J3 .u64 (J3 .u64 (i_3*1000000000)+J3 .u64 i_5)) (J3 .u64 (J3 .u32 (J3 .u64 (Lv (1000000000:Int) (J3 .u64 (J3 .u64 i+1))))))),dI (J3 .i64 (i_4-1))]∧M2 [F0 (upd e4 (J9 i_4) (upd (nth [] e4 (J9 i_4)) 0 (Dd .u32 (J3 .u32 (J3 .u64 (Lv (J3 .u64 (J3 .u64 (i_3*1000000000)+J3 .u64 i_5)) (J3 .u64 (J3 .u32 (J3 .u64 (Lv (1000000000:Int) (J3 .u64 (J3 .u64 i+1)))))))))))),Dd .u64 (No (J3 .u64 (J3 .u64 (i_3*1000000000)+J3 .u64 i_5)) (J3 .u64 (J3 .u32 (J3 .u64 (Lv (1000000000:Int) (J3 .u64 (J3 .u64 i+1))))))),dI (J3 .i64 (i_4-1))]<M2 [F0 e4,Dd .u64 i_3,dI i_4]) (∃e5,Gv 142 [aL es] [aL e5]∧∃es,Gv 142 [aL e4] [aL es]∧Q [aL e5,aL es])))):=by kernel_rfl
end
end Eng
end
section
namespace Eng
open Go
def vU (l:List Nat):List Int:=l.map fun(x:Nat)=>(x:Int)
theorem zN (x:Nat) (l:List Nat):vU (x::l)=(x:Int)::vU l:=rfl
theorem Ia (t:Nat):No (t:Int) 1000000000=((t%1000000000:Nat):Int):=by rw[W0 (by omega)];omega
theorem Ib (t:Nat):Lv (t:Int) 1000000000=((t/1000000000:Nat):Int):=by rw[Int.tdiv_eq_ediv_of_nonneg (by omega)];omega
theorem EV {by_ c:Nat} (hby:by_≤1000000000) (hc:c≤1000000000) {vs:List Nat} (hv:Limbs vs):∃t:Nat,og (by_:Int) (c:Int) (vU vs)=(t:Int)∧t≤1000000000000000000∧t+by_*(1000000000*val vs.tail)=c+by_*val vs:=by
 cases vs with
 |nil=>exact⟨c,rfl,by omega,by simp[val]⟩
 |cons y vs=>
  obtain⟨h1,h2⟩:=hv.of_cons;have hp:y*by_≤999999999*1000000000:=cc (by omega) hby;obtain⟨p,a3⟩:∃p,p=y*by_:=⟨_,rfl⟩;rw[←a3]at hp;have hpi:(y:Int)*(by_:Int)=(p:Int):=by rw[a3];exact(T1 _ _).symm
  refine⟨c+p,?_,by omega,?_⟩
  ·simp only[og,zN];rw[xO (n:=(y:Int)),hpi,xO (n:=(p:Int)),xO];omega
  ·simp only[b7,val,c4];rw[a3,cv y by_];omega
theorem YF {by_:Nat} (hby:by_≤1000000000):∀{us vs:List Nat} {c b:Nat},Limbs us→Limbs vs→vs.length≤us.length→c≤1000000000→b≤1→
 ∃(r:List Nat) (c' b':Nat),w5 (by_:Int) (vU us) (vU vs) (c:Int) (b:Int)=(vU r,(c':Int),(b':Int))∧Limbs r∧r.length=us.length∧c'≤1000000000∧b'≤1∧val us+1000000000^us.length*(c'+b')=val r+by_*val vs+c+b
 |[],vs,c,b,_,_,hl,hc,hb=>by have:vs=[]:=bc (by simpa using hl);subst this;exact⟨[],c,b,rfl,Hy,rfl,hc,hb,by simp[val]⟩
 |x::us,vs,c,b,hu,hv,hl,hc,hb=>by
  obtain⟨hx,hu⟩:=hu.of_cons;obtain⟨t,ht,htb,hte⟩:=EV hby hc hv;have hvt:Limbs vs.tail:=fun y hy=>hv y (bw hy)
  have hlt:vs.tail.length≤us.length:=by rw[b4];simp at hl;omega
  have a3:(vU vs).tail=vU vs.tail:=by cases vs<;>rfl
  have hdm:=fx t 1000000000;have hml:=ed t (show 0<1000000000 by omega);obtain⟨q,hq⟩:∃q,q=t/1000000000:=⟨_,rfl⟩;obtain⟨m,hm⟩:∃m,m=t%1000000000:=⟨_,rfl⟩;have a4:by_*(1000000000*val vs.tail)=1000000000*(by_*val vs.tail):=by rw[fg]
  by_cases hlt2:x<m+b
  ·obtain⟨r,c',b',h1,h2,h3,h4,h5,h6⟩:=YF hby (us:=us) (vs:=vs.tail) (c:=q) (b:=1) hu hvt hlt (by omega) (by omega);refine⟨(x+1000000000-(m+b))::r,c',b',?_,Hx (by omega) h2,by simp[h3],h4,h5,?_⟩
   ·rw[zN,zN];simp only[w5];rw[ht,Ia,Ib,←hq,←hm,xO (n:=(x:Int)),xO (n:=(m:Int)+(b:Int)),xO (n:=(q:Int))];rw[decide_eq_true (show(x:Int)<(m:Int)+(b:Int)by omega)];simp only;rw[a3];have a5:w5 (by_:Int) (vU us) (vU vs.tail) (q:Int) 1=(vU r,(c':Int),(b':Int)):=h1;rw[a5,xO (n:=(x:Int)+1000000000),xO,jX];congr 2;omega
   ·simp only[bh,val];rw[cL,cv (1000000000^us.length) 1000000000,c0];rw[a4]at hte;omega
  ·obtain⟨r,c',b',h1,h2,h3,h4,h5,h6⟩:=YF hby (us:=us) (vs:=vs.tail) (c:=q) (b:=0) hu hvt hlt (by omega) (by omega);refine⟨(x-(m+b))::r,c',b',?_,Hx (by omega) h2,by simp[h3],h4,h5,?_⟩
   ·rw[zN,zN];simp only[w5];rw[ht,Ia,Ib,←hq,←hm,xO (n:=(x:Int)),xO (n:=(m:Int)+(b:Int)),xO (n:=(q:Int))];rw[decide_eq_false (show ¬(x:Int)<(m:Int)+(b:Int)by omega)];simp only;rw[a3];have a5:w5 (by_:Int) (vU us) (vU vs.tail) (q:Int) 0=(vU r,(c':Int),(b':Int)):=h1;rw[a5,xO,jX];congr 2;omega
   ·simp only[bh,val];rw[cL,cv (1000000000^us.length) 1000000000,c0];rw[a4]at hte;omega
theorem YG:∀{us vs:List Nat} {c:Nat},Limbs us→Limbs vs→vs.length≤us.length→c≤1→
 ∃(r:List Nat) (c':Nat),Wt (vU us) (vU vs) (c:Int)=vU r∧Limbs r∧r.length=us.length∧c'≤1∧val us+val vs+c=val r+1000000000^us.length*c'
 |[],vs,c,_,_,hl,hc=>by have:vs=[]:=bc (by simpa using hl);subst this;exact⟨[],c,rfl,Hy,rfl,hc,by simp[val]⟩
 |x::us,vs,c,hu,hv,hl,hc=>by
  obtain⟨hx,hu⟩:=hu.of_cons;have hvt:Limbs vs.tail:=fun y hy=>hv y (bw hy)
  have hlt:vs.tail.length≤us.length:=by rw[b4];simp at hl;omega
  have a3:(vU vs).tail=vU vs.tail:=by cases vs<;>rfl
  obtain⟨t,ht,htb,hte⟩:∃t:Nat,ax (x:Int) (c:Int) (vU vs)=(t:Int)∧t≤1999999999∧t+1000000000*val vs.tail=x+c+val vs:=by
   cases vs with
   |nil=>refine⟨x+c,?_,by omega,by simp[val]⟩;simp only[ax,vU,List.map_nil];rw[jX];omega
   |cons y vs=>obtain⟨h1,h2⟩:=hv.of_cons;refine⟨x+c+y,?_,by omega,by simp only[b7,val];omega⟩;simp only[ax,zN];rw[jX (n:=(x:Int)+(c:Int)),jX];omega
  by_cases h:1000000000≤t
  ·obtain⟨r,c',h1,h2,h3,h4,h5⟩:=YG (us:=us) (vs:=vs.tail) (c:=1) hu hvt hlt (by omega);refine⟨(t-1000000000)::r,c',?_,Hx (by omega) h2,by simp[h3],h4,?_⟩
   ·rw[zN,zN];simp only[Wt];rw[ht,decide_eq_true (show(1000000000:Int)≤(t:Int)by omega)];simp only;rw[a3];have a4:Wt (vU us) (vU vs.tail) 1=vU r:=h1;rw[a4,jX];congr 1;omega
   ·simp only[bh,val];rw[cL,cv (1000000000^us.length) 1000000000,c0];omega
  ·obtain⟨r,c',h1,h2,h3,h4,h5⟩:=YG (us:=us) (vs:=vs.tail) (c:=0) hu hvt hlt (by omega);refine⟨t::r,c',?_,Hx (by omega) h2,by simp[h3],h4,?_⟩
   ·rw[zN,zN];simp only[Wt];rw[ht,decide_eq_false (show ¬(1000000000:Int)≤(t:Int)by omega)];simp only;rw[a3];have a4:Wt (vU us) (vU vs.tail) 0=vU r:=h1;rw[a4]
   ·simp only[bh,val];rw[cL,cv (1000000000^us.length) 1000000000,c0];omega
end Eng
end
section
namespace Eng
open Go
theorem EW {P V1 vl V U3 ul U g:Nat} (hV:V=V1*P+vl) (hU:U=U3*P+ul) (hvl:vl<P) (hg:g*V1≤U3) (hgB:g≤1000000000) (hBV:1000000000*P≤V):g*V≤U+V:=by
 have h1:g*V1*P≤U3*P:=c3 P hg;have h2:g*vl≤1000000000*P:=cc hgB (by omega);have h3:g*V=g*V1*P+g*vl:=by rw[hV,c4,c0]
 omega
theorem EX {P V1 vl V U3 ul U g:Nat} (hV:V=V1*P+vl) (hU:U=U3*P+ul) (hul:ul<P) (hg:U3<g*V1):U<g*V:=by
 have h1:(U3+1)*P≤g*V1*P:=c3 P hg;have h3:g*V=g*V1*P+g*vl:=by rw[hV,c4,c0]
 rw[ea,ey]at h1;omega
theorem Bi {U V g qd L r s:Nat} (hq1:qd*V≤U) (hgq:qd≤g) (_hUL:U<L) (_hrL:r<L) (he:U+L*s=r+g*V) (hs:s=0) (hlt:U<(qd+1)*V):g=qd∧r=U-qd*V:=by
 subst hs;have h1:¬qd+1≤g:=fun h=>by have:=c3 V h;omega
 have:g=qd:=by omega
 subst this;omega
theorem Bj {U V g qd L r s r' c:Nat} (hq1:qd*V≤U) (hg:g*V≤U+V) (_hUL:U<L) (hrL:r<L) (hVL:V≤L) (he:U+L*s=r+g*V) (hs:s≠0) (hr':r'<L) (hc:c≤1) (he2:r+V=r'+L*c) (hlt:U<(qd+1)*V) (hgq:qd≤g):g=qd+1∧r'=U-qd*V:=by
 have hL:L≤L*s:=Nat.le_mul_of_pos_right L (by omega);have h1:qd+1≤g:=by apply c5;intro h;have:=c3 V h;omega
 have h2:g≤qd+1:=by
  apply Nat.le_of_lt_succ;apply c5;intro h;have h3:(qd+2)*V≤g*V:=c3 V h;have h4:(qd+2)*V=(qd+1)*V+V:=by rw[show qd+2=(qd+1)+1 from rfl,ea,ey]
  omega
 have:g=qd+1:=by omega
 subst this;refine⟨rfl,?_⟩;have h5:(qd+1)*V=qd*V+V:=by rw[ea,ey]
 have hs1:s=1:=by
  have:s<2:=by apply c5;intro h;have:=eb L h;omega
  omega
 subst hs1;have hc1:c=1:=by
  rcases fz c 1 with h|h
  ·have:c=0:=by omega
   subst this;omega
  ·omega
 subst hc1;omega
theorem Vr {b s:Nat} (hb:0<b) (hb2:b<1000000000) (hs:s=1000000000/(b+1)):500000000≤b*s∧1≤s∧s*(b+1)≤1000000000:=by
 have h1:=Nat.div_mul_le_self 1000000000 (b+1);have h2:=Nat.lt_div_mul_add (a:=1000000000) (b:=b+1) (by omega);rw[←hs]at h1 h2;have h3:1≤s:=by
  apply c5;intro h;have:s=0:=by omega
  subst this;omega
 obtain⟨b',rfl⟩:∃b',b=b'+1:=⟨b-1,by omega⟩;obtain⟨s',rfl⟩:∃s',s=s'+1:=⟨s-1,by omega⟩;have h4:(b'+1)*(s'+1)=b'*s'+b'+s'+1:=by rw[ea,c4];omega
 have h5:(s'+1)*(b'+1+1)=b'*s'+b'+s'+1+(s'+1):=by rw[c4,cv (s'+1) (b'+1),h4];omega
 omega
end Eng
end
