/- The verification conditions of functions, printed by a program (vcgen.py) and checked by the kernel. -/
import Derived.Test.YtfipmjpmflmbbaaGreatDPaA
import Derived.Test.YtfipmjpmflmbbaaGreatDEngA
import Derived.KernelRfl
open Decidable renaming byContradiction→Aw
open Eng.A renaming c→Bx
open Eng.D renaming int→Dd, sl→F0, bool→F2
open Eng.D.int renaming injEq→Hu
open Eng.D.sl renaming injEq→Hv
open Eng.Limbs renaming cons→Hx, nil→Hy
open Go.IntKind renaming wrap→J3, u64→J7
open Int renaming ofNat→J8, toNat→J9, natAbs_natCast→Lm, ofNat_eq_natCast→Lr, toNat_natCast→Ls, tdiv→Lv, tmod→No, natAbs_mul→Pl, natAbs_neg→P1, natAbs_ediv_le_natAbs→Ts, natCast_mul→T1, mul_pos→U0, tmod_eq_emod_of_nonneg→W0, ediv_emod_unique→W1, mul_one→W2, mul_neg→ap
open List renaming replicate→ba, length→bb, take_length→bc, eq_nil_of_length_eq_zero→bd, drop_eq_getElem_cons→be, length_take→bh, length_cons→bm, drop_length→bs, drop_zero→bv, take_of_length_le→bw, mem_of_mem_tail→bx, take→b4, length_tail→b5, getD→b6, append_nil→b7, tail_cons→b8, range→b9, drop→ca
open List.cons renaming injEq→cb
open Nat renaming lt_of_le_of_lt→cc, mul_le_mul→cg, pow_le_pow_right→cp, le_refl→cr, mul_comm→cv, mul_assoc→c0, mul_le_mul_right→c3, mul_add→cH, lt_of_not_le→cL, eq_zero_or_pos→dc, mul_self_lt_mul_self_iff→dl, pow_succ→dn, le_trans→ea, pow_add→eb, gcd→ed, zero_le→el, add_mul→en, mul_le_mul_left→er, mod_lt→ey, gcd_comm→ez, exists_eq_add_of_le→e8, one_mul→eH, lt_of_lt_of_le→fg, gcd_zero_right→fl, mul_left_comm→ft, div_le_self→fw, div_add_mod→fx, lt_or_ge→fz, pow_pos→fR, gcd_rec→fS
open Option.some renaming injEq→gb
open Quotient renaming liftOn₂→gm, liftOn→gp
open Rat renaming mul_nonneg→gz, num_divInt_den→g0, divInt→g4, div_def→g5, le_of_lt→g7, divInt_mul_divInt→g8, inv_pos→h7, num_eq_zero→h8, divInt_add_divInt→h9, mul_pos→hC, intCast_natCast→hD, sub_eq_add_neg→hE, neg_divInt_neg→hH, mul_inv_cancel→hP, num_intCast→hQ, natCast_mul→hR, den_intCast→hT, inv_divInt→hW, mul_assoc→hX, one_mul→hY, neg_num→ia
set_option maxRecDepth 1000000
section
namespace Eng
open Go Go.Proofs
section
variable (Gv:Nat→List A→List A→Prop) (I0:List D→List D→Prop) (M0:List D→Nat) (I1:List D→List D→Prop) (M1:List D→Nat) (I2:List D→List D→Prop) (M2:List D→Nat) (I3:List D→List D→Prop) (M3:List D→Nat) (Q:List A→Prop)
theorem EY (es:List (List D)):wpF CC Gv (fun _=>⟨[.slot 0 (.slice none 0 0)],[],I0,M0⟩) Tryz.f142 [.c (.sl es)] Q=(I0 [] [F0 es]∧∀(es:List (List D)),I0 [] [F0 es]→bB (decide ((J8 es.length)>0)) ((0≤J3 .i64 ((J8 es.length)-1)∧J3 .i64 ((J8 es.length)-1)<(J8 es.length)∧bb (nth [] es (J9 (J3 .i64 ((J8 es.length)-1))))=1)∧∃n,cut (nth [] es (J9 (J3 .i64 ((J8 es.length)-1)))) 0 1 [Dd .u32 n]∧bB (n==0) (((0:Int)≤(0:Int)∧0≤J3 .i64 ((J8 es.length)-1)∧J3 .i64 ((J8 es.length)-1)≤(J8 es.length)∧lens 1 es)∧I0 [] [F0 (ca 0 (b4 (J9 (J3 .i64 ((J8 es.length)-1))) es))]∧M0 [F0 (ca 0 (b4 (J9 (J3 .i64 ((J8 es.length)-1))) es))]<M0 [F0 es]) (Q [aL es])) (Q [aL es])):=by kernel_rfl
theorem Pv (b:Bool) (es:List (List D)):wpF CC Gv an0 Tryz.f80 [.c (.bool b),.c (.sl es)] Q=(∃e1,Gv 142 [aL es] [aL e1]∧br b (Q [aZ (decide ((J8 e1.length)>0)) e1]) (Q [aZ false e1])):=by kernel_rfl
theorem SW (n:Int):wpF CC Gv (fun _=>⟨[.own 3 15 1,.slot 0 (.int .u64 0)],[],I0,M0⟩) Tryz.f81 [.c (.int .u64 n)] Q=(I0 [] [F0 [],Dd .u64 n]∧∀(es:List (List D)) (n:Int),I0 [] [F0 es,Dd .u64 n]→bB (decide (n>0)) ((1000000000:Int)≠(0:Int)∧(room (es.length+1)∧lens 1 [[Dd .u32 (J3 .u32 (No n (1000000000:Int)))]])∧(1000000000:Int)≠(0:Int)∧I0 [] [F0 (es++[[Dd .u32 (J3 .u32 (No n (1000000000:Int)))]]),Dd .u64 (J3 .u64 (Lv n (1000000000:Int)))]∧M0 [F0 (es++[[Dd .u32 (J3 .u32 (No n (1000000000:Int)))]]),Dd .u64 (J3 .u64 (Lv n (1000000000:Int)))]<M0 [F0 es,Dd .u64 n]) (Q [aL es])):=by kernel_rfl
theorem Y7 (n:Int):wpF CC Gv an0 Tryz.f43 [.c (.int .i64 n)] Q=(bB (decide (n<0)) (∃es,Gv 81 [Bx (Dd .u64 (J3 .u64 (0-J3 .u64 n)))] [aL es]∧∃b e1,Gv 80 [aB true,aL es] [aZ b e1]∧Q [aZ b e1]) (∃es,Gv 81 [Bx (Dd .u64 (J3 .u64 n))] [aL es]∧∃b e1,Gv 80 [aB false,aL es] [aZ b e1]∧Q [aZ b e1])):=by kernel_rfl
theorem SX (es:List (List D)):wpF CC Gv (fun _=>⟨[.slot 3 (.int .u64 0),.slot 4 (.int .i64 0)],[],I0,M0⟩) Tryz.f166 [.c (.sl es)] Q=(I0 [] [Dd .u64 0,dI (J3 .i64 ((J8 es.length)-1))]∧∀(n n1:Int),I0 [] [Dd .u64 n,dI n1]→bB (decide (n1≥0)) ((0≤n1∧n1<(J8 es.length)∧bb (nth [] es (J9 n1))=1)∧∃n2,cut (nth [] es (J9 n1)) 0 1 [Dd .u32 n2]∧I0 [] [Dd .u64 (J3 .u64 (J3 .u64 (n*1000000000)+J3 .u64 n2)),dI (J3 .i64 (n1-1))]∧M0 [Dd .u64 (J3 .u64 (J3 .u64 (n*1000000000)+J3 .u64 n2)),dI (J3 .i64 (n1-1))]<M0 [Dd .u64 n,dI n1]) (Q [Bx (Dd .u64 n)])):=by kernel_rfl
theorem EZ (p:Bool) (es:List (List D)):wpF CC Gv an0 Tryz.f107 [.ag [.bool p,.sl es]] Q=(bB ((J8 es.length)==0) (Q [aI (0:Int)]) (br p (Q [aI (-1:Int)]) (Q [aI (1:Int)]))):=by kernel_rfl
theorem TU (es fs:List (List D)):wpF CC Gv (fun _=>⟨[.slot 5 (.int .i64 0)],[],I0,M0⟩) Tryz.f197 [.c (.sl es),.c (.sl fs)] Q=(bB ((J8 es.length) !=(J8 fs.length)) (bB (decide ((J8 es.length)<(J8 fs.length))) (Q [aI (-1:Int)]) (Q [aI (1:Int)])) (I0 [] [dI (J3 .i64 ((J8 es.length)-1))]∧∀(n:Int),I0 [] [dI n]→bB (decide (n≥0)) ((0≤n∧n<(J8 es.length)∧bb (nth [] es (J9 n))=1)∧∃n1,cut (nth [] es (J9 n)) 0 1 [Dd .u32 n1]∧(0≤n∧n<(J8 fs.length)∧bb (nth [] fs (J9 n))=1)∧∃n2,cut (nth [] fs (J9 n)) 0 1 [Dd .u32 n2]∧bB (decide (n1<n2)) (Q [aI (-1:Int)]) ((0≤n∧n<(J8 es.length)∧bb (nth [] es (J9 n))=1)∧∃n3,cut (nth [] es (J9 n)) 0 1 [Dd .u32 n3]∧(0≤n∧n<(J8 fs.length)∧bb (nth [] fs (J9 n))=1)∧∃n4,cut (nth [] fs (J9 n)) 0 1 [Dd .u32 n4]∧bB (decide (n3>n4)) (Q [aI (1:Int)]) (I0 [] [dI (J3 .i64 (n-1))]∧M0 [dI (J3 .i64 (n-1))]<M0 [dI n]))) (Q [aI (0:Int)]))):=by kernel_rfl
theorem bT (p q:Bool) (es fs:List (List D)):wpF CC Gv an0 Tryz.f144 [.ag [.bool p,.sl es],.ag [.bool q,.sl fs]] Q=(bB (!p==q) (br p (Q [aI (-1:Int)]) (Q [aI (1:Int)])) (br p (∃n,Gv 197 [aL fs,aL es] [aI n]∧Q [aI n]) (∃n,Gv 197 [aL es,aL fs] [aI n]∧Q [aI n]))):=by kernel_rfl
end
def Nt (Gv:Nat→List A→List A→Prop) (I0:List D→List D→Prop) (M0:List D→Nat) (Q:List A→Prop) (es fs:List (List D)):Prop:=((0≤J3 .i64 ((J8 es.length)+1)∧J3 .i64 ((J8 es.length)+1)≤J3 .i64 ((J8 es.length)+1)∧room (J9 (J3 .i64 ((J8 es.length)+1))))∧I0 [] [F0 (ba (J9 (J3 .i64 ((J8 es.length)+1))) [Dd .u32 0]),Dd .u32 0,Dd .i64 0]∧∀(e1:List (List D)) (n n1:Int),I0 [] [F0 e1,Dd .u32 n,Dd .i64 n1]→br (toB (F2 (decide (n1<(J8 es.length))))) ((0≤n1∧n1<(J8 es.length)∧bb (nth [] es (J9 n1))=1)∧∃n2,cut (nth [] es (J9 n1)) 0 1 [Dd .u32 n2]∧br (toB (F2 (decide (n1<(J8 fs.length))))) ((0≤n1∧n1<(J8 fs.length)∧bb (nth [] fs (J9 n1))=1)∧∃n3,cut (nth [] fs (J9 n1)) 0 1 [Dd .u32 n3]∧(1000000000:Int)≠(0:Int)∧(0≤n1∧n1<(J8 e1.length))∧0<1∧(1000000000:Int)≠(0:Int)∧I0 [] [F0 (upd e1 (J9 n1) (upd (nth [] e1 (J9 n1)) 0 (Dd .u32 (No (J3 .u32 (J3 .u32 (n+n2)+n3)) (1000000000:Int))))),Dd .u32 (J3 .u32 (Lv (J3 .u32 (J3 .u32 (n+n2)+n3)) (1000000000:Int))),Dd .i64 (J3 .i64 (n1+1))]∧M0 [F0 (upd e1 (J9 n1) (upd (nth [] e1 (J9 n1)) 0 (Dd .u32 (No (J3 .u32 (J3 .u32 (n+n2)+n3)) (1000000000:Int))))),Dd .u32 (J3 .u32 (Lv (J3 .u32 (J3 .u32 (n+n2)+n3)) (1000000000:Int))),Dd .i64 (J3 .i64 (n1+1))]<M0 [F0 e1,Dd .u32 n,Dd .i64 n1]) ((1000000000:Int)≠(0:Int)∧(0≤n1∧n1<(J8 e1.length))∧0<1∧(1000000000:Int)≠(0:Int)∧I0 [] [F0 (upd e1 (J9 n1) (upd (nth [] e1 (J9 n1)) 0 (Dd .u32 (No (J3 .u32 (n+n2)) (1000000000:Int))))),Dd .u32 (J3 .u32 (Lv (J3 .u32 (n+n2)) (1000000000:Int))),Dd .i64 (J3 .i64 (n1+1))]∧M0 [F0 (upd e1 (J9 n1) (upd (nth [] e1 (J9 n1)) 0 (Dd .u32 (No (J3 .u32 (n+n2)) (1000000000:Int))))),Dd .u32 (J3 .u32 (Lv (J3 .u32 (n+n2)) (1000000000:Int))),Dd .i64 (J3 .i64 (n1+1))]<M0 [F0 e1,Dd .u32 n,Dd .i64 n1])) ((0≤(J8 es.length)∧(J8 es.length)<(J8 e1.length))∧0<1∧∃e2,Gv 142 [Bx (F0 (upd e1 (J9 (J8 es.length)) (upd (nth [] e1 (J9 (J8 es.length))) 0 (Dd .u32 n))))] [Bx (F0 e2)]∧Q [Bx (F0 e2)]))
section
variable (Gv:Nat→List A→List A→Prop) (I0:List D→List D→Prop) (M0:List D→Nat) (I1:List D→List D→Prop) (M1:List D→Nat) (I2:List D→List D→Prop) (M2:List D→Nat) (I3:List D→List D→Prop) (M3:List D→Nat) (Q:List A→Prop)
theorem Nu (es fs:List (List D)):wpF CC Gv (fun _=>⟨[.own 5 55 1,.slot 6 (.int .u32 0),.slot 7 (.int .i64 0)],[],I0,M0⟩) Tryz.f224 [.c (.sl es),.c (.sl fs)] Q=(bB (decide ((J8 es.length)<(J8 fs.length))) (Nt Gv I0 M0 Q fs es) (Nt Gv I0 M0 Q es fs)):=by kernel_rfl
theorem SY (es fs:List (List D)):wpF CC Gv (fun _=>⟨[.own 5 45 1,.slot 6 (.int .u32 0),.slot 7 (.int .i64 0)],[],I0,M0⟩) Tryz.f223 [.c (.sl es),.c (.sl fs)] Q=((0≤(J8 es.length)∧(J8 es.length)≤(J8 es.length)∧room (J9 (J8 es.length)))∧I0 [] [F0 (ba (J9 (J8 es.length)) [Dd .u32 0]),Dd .u32 0,dI (0:Int)]∧∀(e1:List (List D)) (n n1:Int),I0 [] [F0 e1,Dd .u32 n,dI n1]→bB (decide (n1<(J8 es.length))) ((0≤n1∧n1<(J8 es.length)∧bb (nth [] es (J9 n1))=1)∧∃n2,cut (nth [] es (J9 n1)) 0 1 [Dd .u32 n2]∧bB (decide (n1<(J8 fs.length))) ((0≤n1∧n1<(J8 fs.length)∧bb (nth [] fs (J9 n1))=1)∧∃n3,cut (nth [] fs (J9 n1)) 0 1 [Dd .u32 n3]∧bB (decide (J3 .u32 (J3 .u32 (J3 .u32 (n2+1000000000)-n)-n3)≥1000000000)) ((0≤n1∧n1<(J8 e1.length))∧0<1∧I0 [] [F0 (upd e1 (J9 n1) (upd (nth [] e1 (J9 n1)) 0 (Dd .u32 (J3 .u32 (J3 .u32 (J3 .u32 (J3 .u32 (n2+1000000000)-n)-n3)-1000000000))))),Dd .u32 0,dI (J3 .i64 (n1+1))]∧M0 [F0 (upd e1 (J9 n1) (upd (nth [] e1 (J9 n1)) 0 (Dd .u32 (J3 .u32 (J3 .u32 (J3 .u32 (J3 .u32 (n2+1000000000)-n)-n3)-1000000000))))),Dd .u32 0,dI (J3 .i64 (n1+1))]<M0 [F0 e1,Dd .u32 n,dI n1]) ((0≤n1∧n1<(J8 e1.length))∧0<1∧I0 [] [F0 (upd e1 (J9 n1) (upd (nth [] e1 (J9 n1)) 0 (Dd .u32 (J3 .u32 (J3 .u32 (J3 .u32 (n2+1000000000)-n)-n3))))),Dd .u32 1,dI (J3 .i64 (n1+1))]∧M0 [F0 (upd e1 (J9 n1) (upd (nth [] e1 (J9 n1)) 0 (Dd .u32 (J3 .u32 (J3 .u32 (J3 .u32 (n2+1000000000)-n)-n3))))),Dd .u32 1,dI (J3 .i64 (n1+1))]<M0 [F0 e1,Dd .u32 n,dI n1])) (bB (decide (J3 .u32 (J3 .u32 (n2+1000000000)-n)≥1000000000)) ((0≤n1∧n1<(J8 e1.length))∧0<1∧I0 [] [F0 (upd e1 (J9 n1) (upd (nth [] e1 (J9 n1)) 0 (Dd .u32 (J3 .u32 (J3 .u32 (J3 .u32 (n2+1000000000)-n)-1000000000))))),Dd .u32 0,dI (J3 .i64 (n1+1))]∧M0 [F0 (upd e1 (J9 n1) (upd (nth [] e1 (J9 n1)) 0 (Dd .u32 (J3 .u32 (J3 .u32 (J3 .u32 (n2+1000000000)-n)-1000000000))))),Dd .u32 0,dI (J3 .i64 (n1+1))]<M0 [F0 e1,Dd .u32 n,dI n1]) ((0≤n1∧n1<(J8 e1.length))∧0<1∧I0 [] [F0 (upd e1 (J9 n1) (upd (nth [] e1 (J9 n1)) 0 (Dd .u32 (J3 .u32 (J3 .u32 (n2+1000000000)-n))))),Dd .u32 1,dI (J3 .i64 (n1+1))]∧M0 [F0 (upd e1 (J9 n1) (upd (nth [] e1 (J9 n1)) 0 (Dd .u32 (J3 .u32 (J3 .u32 (n2+1000000000)-n))))),Dd .u32 1,dI (J3 .i64 (n1+1))]<M0 [F0 e1,Dd .u32 n,dI n1]))) (∃es,Gv 142 [aL e1] [aL es]∧Q [aL es])):=by kernel_rfl
theorem SZ (es fs:List (List D)):wpF CC Gv (G7 ⟨[.own 5 68 1,.slot 6 (.int .i64 0)],[],I0,M0⟩ ⟨[.own 5 68 1,.slot 7 (.int .u64 0),.slot 8 (.int .i64 0)],[.slot 6 (.int .i64 0),.own 5 68 1],I1,M1⟩) Tryz.f206 [.c (.sl es),.c (.sl fs)] Q=((0≤J3 .i64 ((J8 es.length)+(J8 fs.length))∧J3 .i64 ((J8 es.length)+(J8 fs.length))≤J3 .i64 ((J8 es.length)+(J8 fs.length))∧room (J9 (J3 .i64 ((J8 es.length)+(J8 fs.length)))))∧I0 [] [F0 (ba (J9 (J3 .i64 ((J8 es.length)+(J8 fs.length)))) [Dd .u32 0]),dI (0:Int)]∧∀(e1:List (List D)) (n:Int),I0 [] [F0 e1,dI n]→bB (decide (n<(J8 es.length))) (I1 [dI n,F0 e1] [F0 e1,Dd .u64 0,dI (0:Int)]∧∀(e2:List (List D)) (n1 n2:Int),I1 [dI n,F0 e1] [F0 e2,Dd .u64 n1,dI n2]→bB (decide (n2<(J8 fs.length))) ((0≤J3 .i64 (n+n2)∧J3 .i64 (n+n2)<(J8 e2.length))∧∃n3,cut (nth [] e2 (J9 (J3 .i64 (n+n2)))) 0 1 [Dd .u32 n3]∧(0≤n∧n<(J8 es.length)∧bb (nth [] es (J9 n))=1)∧∃n4,cut (nth [] es (J9 n)) 0 1 [Dd .u32 n4]∧(0≤n2∧n2<(J8 fs.length)∧bb (nth [] fs (J9 n2))=1)∧∃n5,cut (nth [] fs (J9 n2)) 0 1 [Dd .u32 n5]∧(1000000000:Int)≠(0:Int)∧(0≤J3 .i64 (n+n2)∧J3 .i64 (n+n2)<(J8 e2.length))∧0<1∧(1000000000:Int)≠(0:Int)∧I1 [dI n,F0 e1] [F0 (upd e2 (J9 (J3 .i64 (n+n2))) (upd (nth [] e2 (J9 (J3 .i64 (n+n2)))) 0 (Dd .u32 (J3 .u32 (No (J3 .u64 (J3 .u64 (n1+J3 .u64 n3)+J3 .u64 (J3 .u64 n4*J3 .u64 n5))) (1000000000:Int)))))),Dd .u64 (J3 .u64 (Lv (J3 .u64 (J3 .u64 (n1+J3 .u64 n3)+J3 .u64 (J3 .u64 n4*J3 .u64 n5))) (1000000000:Int))),dI (J3 .i64 (n2+1))]∧M1 [F0 (upd e2 (J9 (J3 .i64 (n+n2))) (upd (nth [] e2 (J9 (J3 .i64 (n+n2)))) 0 (Dd .u32 (J3 .u32 (No (J3 .u64 (J3 .u64 (n1+J3 .u64 n3)+J3 .u64 (J3 .u64 n4*J3 .u64 n5))) (1000000000:Int)))))),Dd .u64 (J3 .u64 (Lv (J3 .u64 (J3 .u64 (n1+J3 .u64 n3)+J3 .u64 (J3 .u64 n4*J3 .u64 n5))) (1000000000:Int))),dI (J3 .i64 (n2+1))]<M1 [F0 e2,Dd .u64 n1,dI n2]) ((0≤J3 .i64 (n+(J8 fs.length))∧J3 .i64 (n+(J8 fs.length))<(J8 e2.length))∧0<1∧I0 [] [F0 (upd e2 (J9 (J3 .i64 (n+(J8 fs.length)))) (upd (nth [] e2 (J9 (J3 .i64 (n+(J8 fs.length))))) 0 (Dd .u32 (J3 .u32 n1)))),dI (J3 .i64 (n+1))]∧M0 [F0 (upd e2 (J9 (J3 .i64 (n+(J8 fs.length)))) (upd (nth [] e2 (J9 (J3 .i64 (n+(J8 fs.length))))) 0 (Dd .u32 (J3 .u32 n1)))),dI (J3 .i64 (n+1))]<M0 [F0 e1,dI n])) (∃es,Gv 142 [aL e1] [aL es]∧Q [aL es])):=by kernel_rfl
theorem iS (es:List (List D)) (n:Int):wpF CC Gv an0 Tryz.f222 [.c (.sl es),.c (.int .u32 n)] Q=(∃e1,Gv 142 [aL [[Dd .u32 n]]] [aL e1]∧∃e2,Gv 206 [aL es,aL e1] [aL e2]∧Q [aL e2]):=by kernel_rfl
theorem bU (p:Bool) (es:List (List D)):wpF CC Gv an0 Tryz.f108 [.ag [.bool p,.sl es]] Q=(∃b e1,Gv 80 [aB (!p),aL es] [aZ b e1]∧Q [aZ b e1]):=by kernel_rfl
theorem bV (p q:Bool) (es fs:List (List D)):wpF CC Gv an0 Tryz.f168 [.ag [.bool p,.sl es],.ag [.bool q,.sl fs]] Q=(bB (p==q) (∃e1,Gv 224 [aL es,aL fs] [aL e1]∧∃b es,Gv 80 [aB p,aL e1] [aZ b es]∧Q [aZ b es]) (∃n,Gv 197 [aL es,aL fs] [aI n]∧bB (decide (n≥0)) (∃e1,Gv 223 [aL es,aL fs] [aL e1]∧∃b es,Gv 80 [aB p,aL e1] [aZ b es]∧Q [aZ b es]) (∃e1,Gv 223 [aL fs,aL es] [aL e1]∧∃b es,Gv 80 [aB q,aL e1] [aZ b es]∧Q [aZ b es]))):=by kernel_rfl
theorem bW (p q:Bool) (es fs:List (List D)):wpF CC Gv an0 Tryz.f167 [.ag [.bool p,.sl es],.ag [.bool q,.sl fs]] Q=(∃b e1,Gv 108 [aZ q fs] [aZ b e1]∧∃b1 e2,Gv 168 [aZ p es,aZ b e1] [aZ b1 e2]∧Q [aZ b1 e2]):=by kernel_rfl
theorem bX (p q:Bool) (es fs:List (List D)):wpF CC Gv an0 Tryz.f145 [.ag [.bool p,.sl es],.ag [.bool q,.sl fs]] Q=(∃e1,Gv 206 [aL es,aL fs] [aL e1]∧∃b es,Gv 80 [Bx (F2 !p==q),aL e1] [aZ b es]∧Q [aZ b es]):=by kernel_rfl
theorem bY (p q:Bool) (es fs:List (List D)):wpF CC Gv (G7 ⟨[.slot 5 (.slice none 0 0),.slot 6 (.slice none 0 0)],[],I0,M0⟩ ⟨[.slot 9 (.int .u64 0),.slot 10 (.int .u64 0)],[],I1,M1⟩) Tryz.f109 [.ag [.bool p,.sl es],.ag [.bool q,.sl fs]] Q=(I0 [] [F0 es,F0 fs]∧∀(es e1:List (List D)),I0 [] [F0 es,F0 e1]→bB (decide ((J8 e1.length)>0)) (bB (decide ((J8 es.length)>2)) (∃e2 e3,Gv 165 [aL es,aL e1] [aL e2,aL e3]∧I0 [] [F0 e1,F0 e3]∧M0 [F0 e1,F0 e3]<M0 [F0 es,F0 e1]) (bB (decide ((J8 e1.length)>2)) (∃e2 e3,Gv 165 [aL es,aL e1] [aL e2,aL e3]∧I0 [] [F0 e1,F0 e3]∧M0 [F0 e1,F0 e3]<M0 [F0 es,F0 e1]) (bB ((J8 e1.length)==0) (∃b e2,Gv 80 [aB false,aL es] [aZ b e2]∧Q [aZ b e2]) (∃n,Gv 166 [aL es] [Bx (Dd .u64 n)]∧∃n1,Gv 166 [aL e1] [Bx (Dd .u64 n1)]∧I1 [] [Dd .u64 n,Dd .u64 n1]∧∀(n n2:Int),I1 [] [Dd .u64 n,Dd .u64 n2]→bB (decide (n2>0)) (n2≠0∧I1 [] [Dd .u64 n2,Dd .u64 (No n n2)]∧M1 [Dd .u64 n2,Dd .u64 (No n n2)]<M1 [Dd .u64 n,Dd .u64 n2]) (∃es,Gv 81 [Bx (Dd .u64 n)] [aL es]∧∃b e2,Gv 80 [aB false,aL es] [aZ b e2]∧Q [aZ b e2]))))) (bB ((J8 e1.length)==0) (∃b e2,Gv 80 [aB false,aL es] [aZ b e2]∧Q [aZ b e2]) (∃n,Gv 166 [aL es] [Bx (Dd .u64 n)]∧∃n1,Gv 166 [aL e1] [Bx (Dd .u64 n1)]∧I1 [] [Dd .u64 n,Dd .u64 n1]∧∀(n n2:Int),I1 [] [Dd .u64 n,Dd .u64 n2]→bB (decide (n2>0)) (n2≠0∧I1 [] [Dd .u64 n2,Dd .u64 (No n n2)]∧M1 [Dd .u64 n2,Dd .u64 (No n n2)]<M1 [Dd .u64 n,Dd .u64 n2]) (∃es,Gv 81 [Bx (Dd .u64 n)] [aL es]∧∃b e2,Gv 80 [aB false,aL es] [aZ b e2]∧Q [aZ b e2])))):=by kernel_rfl
theorem Pw (p q:Bool) (es fs:List (List D)):wpF CC Gv an0 Tryz.f110 [.ag [.bool p,.sl es],.ag [.bool q,.sl fs]] Q=(bB ((J8 fs.length)==0) (Q [aZ false [],aZ false [],aI (6:Int)]) (∃e1 e2,Gv 165 [aL es,aL fs] [aL e1,aL e2]∧∃b es,Gv 80 [Bx (F2 !p==q),aL e1] [aZ b es]∧∃b1 e3,Gv 80 [aB p,aL e2] [aZ b1 e3]∧bB (decide ((J8 e2.length)>0)) (bB (!p==q) (∃b2 e4,Gv 43 [aI (1:Int)] [aZ b2 e4]∧∃b3 e5,Gv 167 [aZ b es,aZ b2 e4] [aZ b3 e5]∧∃b es,Gv 168 [aZ b1 e3,aZ q fs] [aZ b es]∧Q [aZ b3 e5,aZ b es,aI (0:Int)]) (Q [aZ b es,aZ b1 e3,aI (0:Int)])) (Q [aZ b es,aZ b1 e3,aI (0:Int)]))):=by kernel_rfl
end
end Eng
end
section
namespace Eng
open Go Go.Proofs
set_option maxRecDepth 100000
theorem Y8 {n:Nat} (h:0<n):lim n=n%1000000000::lim (n/1000000000):=by
 have e:n=val (n%1000000000::lim (n/1000000000)):=by simp only[val,qj];omega
 conv=>lhs;rw[e]
 refine yR (Hx (ey _ (by omega)) (qh _)) (.inr ?_);rw[List.getLast?_cons];rcases kc (n/1000000000)with h1|h1
 ·rw[h1];have:n/1000000000=0:=Q3.1 h1;simp;omega
 ·cases hh:(lim (n/1000000000)).getLast? with
  |none=>have:n/1000000000=0:=Q3.1 (List.getLast?_eq_none_iff.1 hh);simp;omega
  |some x=>rw[hh]at h1;simpa using h1
theorem qG (z:Int):qS z= .ag [.bool (decide (z<0)),.sl (raw (lim z.natAbs))]:=rfl
theorem kg {l:List Nat} (hl:Limbs l) (hr:l.length≤1073741824):qc CC 142 [.c (.sl (raw l))] [.c (.sl (raw (lim (val l))))]:=by
 refine qu (anns:=fun _=>⟨[.slot 0 (.slice none 0 0)],[],fun _ ds=>∃k,k≤l.length∧ds=[.sl (raw (l.take k))]∧val (l.take k)=val l,fun ds=>(toL (nth .undef ds 0)).length⟩) mixedT Tryz.func142 ?_;rw[EY];simp only[Lr];refine⟨⟨l.length,cr _,by rw[bc],by rw[bc]⟩,?_⟩;rintro es ⟨k,hk,he,hv⟩;simp only[cb,Hv,and_true]at he;subst he;have a3:(raw (l.take k)).length=k:=by rw[qi,bh];omega
 have a4:(k=0∨∃h:k-1<l.length,l[k-1]≠0)→[Bx (F0 (raw (l.take k)))]=[Bx (F0 (raw (lim (val l))))]:=by
  intro h;rw[←hv,yR (hl.take k)];rcases h with rfl|⟨h,hne⟩
  ·exact .inl (by simp)
  ·refine .inr ?_;rw[List.getLast?_take];split
   ·simp
   ·rw[List.getElem?_eq_getElem h]
    simpa using hne
 refine brd (fun h=>?_) (fun h=>?_)
 ·rw[a3]at h ⊢;have hk0:0<k:=by omega
  have hw:J3 .i64 ((k:Int)-1)=((k-1:Nat):Int):=by rw[zr];omega
  rw[hw];have a5:k-1<(l.take k).length:=by rw[bh];omega
  have hg:(l.take k)[k-1]=l[k-1]:=List.getElem_take ..;refine⟨⟨by omega,by omega,qC a5⟩,_,qF a5,brb (fun hz=>?_) (fun hz=>?_)⟩
  ·have hz:l[k-1]=0:=by rw[hg]at hz;simpa using hz
   refine⟨⟨by omega,by omega,by omega,je _⟩,⟨k-1,by omega,?_,?_⟩,?_⟩
   ·simp only[Ls,ke,bv,List.take_take];congr 4;omega
   ·have:l.take k=l.take (k-1)++[l[k-1]]:=by have:=List.take_succ_eq_append_getElem (l:=l) (i:=k-1) (by omega);rw[show k-1+1=k by omega]at this;exact this
    rw[←hv,this,hz,qU];simp[val]
   ·simp only[Ls,nth,toL,bv,bh,a3];omega
  ·exact a4 (.inr ⟨by omega,by rw[hg]at hz;simpa using hz⟩)
 ·rw[a3]at h;exact a4 (.inl (by omega))
theorem Px {l:List Nat} (b:Bool) (hl:Limbs l) (hr:l.length≤1073741824):qc CC 80 [.c (.bool b),.c (.sl (raw l))] [.ag [.bool (b&&decide (0<val l)),.sl (raw (lim (val l)))]]:=by
 refine qu (anns:=an0) mixedT Tryz.func80 ?_;rw[Pv];refine⟨_,kg hl hr,?_⟩;have hd:decide ((J8 (bb (raw (lim (val l)))))>(0:Int))=decide (0<val l):=by rw[decide_eq_decide,qi,←qK (n:=val l)];simp only[Lr];omega
 rw[hd];refine zH (fun hb=>?_) (fun hb=>?_)
 ·subst hb;rw[Bool.true_and]
 ·subst hb;rw[Bool.false_and]
theorem xj {l:List Nat} (b:Bool) (hl:Limbs l) (hr:l.length≤1073741824) {z:Int} (hz:z=if b then-(val l:Int)else(val l:Int)):
 qc CC 80 [.c (.bool b),.c (.sl (raw l))] [qS z]:=by
 have h:=Px b hl hr;have e:qS z= .ag [.bool (b&&decide (0<val l)),.sl (raw (lim (val l)))]:=by
  unfold qS cI;cases b with
  |false=>simp only[Bool.false_eq_true,if_false]at hz;subst hz;rw[Lm,Bool.false_and,decide_eq_false (by omega)]
  |true=>simp only[if_true]at hz;subst hz;rw[P1,Lm,Bool.true_and];congr 3;rw[decide_eq_decide];omega
 rw[e];exact h
theorem yt {u:Nat} (hu:u<18446744073709551616):qc CC 81 [.c (.int .u64 (u:Int))] [.c (.sl (raw (lim u)))]:=by
 have h3:(lim u).length≤3:=qx (fg hu (by decide));refine qu (anns:=fun _=>⟨[.own 3 15 1,.slot 0 (.int .u64 0)],[],fun _ ds=>∃(h:List Nat) (v:Nat),ds=[.sl (raw h),.int .u64 (v:Int)]∧v≤u∧lim u=h++lim v,fun ds=>(toI (nth .undef ds 1)).toNat⟩) mixedT Tryz.func81 ?_;rw[SW];refine⟨⟨[],u,rfl,cr _,rfl⟩,?_⟩;rintro es n ⟨h,v,he,hv,hl⟩;simp only[cb,Hv,Hu,true_and,and_true]at he;obtain⟨rfl,rfl⟩:=he;have hlen:h.length≤3:=by have:=congrArg bb hl;rw[List.length_append]at this;omega
 refine brd (fun h0=>?_) (fun h0=>?_)
 ·have a3:0<v:=by omega
  rw[Pt,Pu,kf,xS];refine⟨by omega,⟨by rw[qi];unfold room;omega,je [v%1000000000]⟩,by omega,⟨h++[v%1000000000],v/1000000000,?_,by omega,?_⟩,?_⟩
  ·rw[xc];rfl
  ·rw[hl,Y8 a3,List.append_assoc];rfl
  ·simp only[nth,toI,Ls];omega
 ·have a3:v=0:=by omega
  subst a3;rw[hl,Yz,b7]
theorem zg {n:Int} (h1: -9223372036854775808≤n) (h2:n<9223372036854775808):qc CC 43 [.c (.int .i64 n)] [qS n]:=by
 refine qu (anns:=an0) mixedT Tryz.func43 ?_;rw[Y7];have hl:∀u:Nat,u<18446744073709551616→(lim u).length≤1073741824:=fun u hu=>by have:(lim u).length≤3:=qx (fg hu (by decide));omega
 refine brd (fun h=>?_) (fun h=>?_)
 ·obtain⟨u,rfl⟩:∃u:Nat,n= -(u:Int):=⟨n.natAbs,by omega⟩;have e:J3 .u64 (0-J3 .u64 (-(u:Int)))=(u:Int):=by simp[J3,IntKind.bits,IntKind.signed];omega
  rw[e];exact⟨_,yt (by omega),_,_,xj true (qh u) (hl u (by omega)) (z:= -(u:Int)) (by simp[qj]),rfl⟩
 ·obtain⟨u,rfl⟩:∃u:Nat,n=(u:Int):=⟨n.natAbs,by omega⟩;rw[xS];exact⟨_,yt (by omega),_,_,xj false (qh u) (hl u (by omega)) (z:=(u:Int)) (by simp[qj]),rfl⟩
theorem Xr {l:List Nat} (hl:Limbs l) (h2:l.length≤2):qc CC 166 [.c (.sl (raw l))] [.c (.int .u64 (val l:Int))]:=by
 refine qu (anns:=fun _=>⟨[.slot 3 (.int .u64 0),.slot 4 (.int .i64 0)],[],fun _ ds=>∃k:Nat,k≤l.length∧ds=[.int .u64 (val (l.drop k):Int),.int .i64 ((k:Int)-1)],fun ds=>(toI (nth .undef ds 1)+1).toNat⟩) mixedT Tryz.func166 ?_;rw[SX];simp only[Lr,qi];refine⟨⟨l.length,cr _,by rw[bs,zr];rfl⟩,?_⟩;rintro n m ⟨k,hk,he⟩;simp only[cb,Hu,true_and,and_true]at he;obtain⟨rfl,rfl⟩:=he;refine brd (fun h=>?_) (fun h=>?_)
 ·have a3:k-1<l.length:=by omega
  have ht:((k:Int)-1).toNat=k-1:=by omega
  rw[ht];have hd:val (l.drop (k-1))=l[k-1]+1000000000*val (l.drop k):=by rw[be a3,show k-1+1=k by omega];rfl
  have hlt:=qX (hl.drop k);have hdl:(l.drop k).length≤1:=by rw[List.length_drop];omega
  have hlt2:val (l.drop k)<1000000000:=by have:1000000000^(l.drop k).length≤1000000000^1:=cp (by omega) hdl;omega
  have hx:=hl.get a3;have hw:J3 .u64 (J3 .u64 ((val (l.drop k):Int)*1000000000)+J3 .u64 (l[k-1]:Int))=(val (l.drop (k-1)):Int):=by rw[xS (n:=(val (l.drop k):Int)*1000000000),xS (n:=(l[k-1]:Int)),xS];omega
  have a4:J3 .i64 ((k:Int)-1-1)=((k-1:Nat):Int)-1:=by rw[zr];omega
  refine⟨⟨by omega,by omega,qC a3⟩,_,qF a3,⟨k-1,by omega,by rw[hw,a4]⟩,?_⟩;rw[a4];simp only[nth,toI];omega
 ·have a3:k=0:=by omega
  subst a3;rw[bv]
theorem Xs (z:Int):qc CC 107 [qS z] [.c (.int .i64 (sgn z))]:=by
 refine qu (anns:=an0) mixedT Tryz.func107 ?_;rw[qG,EZ];simp only[Lr,qi];unfold sgn;refine brb (fun h=>?_) (fun h=>?_)
 ·have h0:(lim z.natAbs).length=0:=by simpa using h
  have:z.natAbs=0:=Q3.1 (bd h0);rw[if_neg (by omega),if_neg (by omega)]
 ·have h0:(lim z.natAbs).length≠0:=by simpa using h
  have:0<z.natAbs:=qK.1 (by omega);refine zH (fun h=>?_) (fun h=>?_)
  ·rw[if_pos (by simpa using h)]
  ·have:¬z<0:=by simpa using h
   rw[if_neg this,if_pos (by omega)]
theorem kF {x y:Nat} (hra:(lim x).length≤1073741824) (hrb:(lim y).length≤1073741824):qc CC 197 [.c (.sl (raw (lim x))),.c (.sl (raw (lim y)))] [.c (.int .i64 (XP x y))]:=by
 generalize hA:lim x=A at *;generalize hB:lim y=B at *;have lA:Limbs A:=hA▸qh _;have lB:Limbs B:=hB▸qh _;have vA:val A=x:=hA▸qj _;have vB:val B=y:=hB▸qj _;have zA:A=[]∨A.getLast?≠some 0:=hA▸kc _;have zB:B=[]∨B.getLast?≠some 0:=hB▸kc _;refine qu (anns:=fun _=>⟨[.slot 5 (.int .i64 0)],[],fun _ ds=>∃k:Nat,k≤A.length∧ds=[.int .i64 ((k:Int)-1)]∧A.drop k=B.drop k,fun ds=>(toI (nth .undef ds 0)+1).toNat⟩) mixedT Tryz.func197 ?_;rw[TU];simp only[Lr,qi];refine brb (fun h=>?_) (fun h=>?_)
 ·have h:A.length≠B.length:=by intro e;rw[e]at h;simp at h
  refine brd (fun h1=>?_) (fun h1=>?_)
  ·have a5:B≠[]:=(by intro e;have h0:B.length=0:=(by rw[e];rfl);omega);have:=ZK lA (zB.resolve_left a5) a5 (by omega);rw[XP,if_pos (by omega)]
  ·have a5:A≠[]:=(by intro e;have h0:A.length=0:=(by rw[e];rfl);omega);have:=ZK lB (zA.resolve_left a5) a5 (by omega);rw[XP,if_neg (by omega),if_pos (by omega)]
 ·have h:A.length=B.length:=by
   have:(A.length:Int)=B.length:=by simpa using h
   omega
  refine⟨⟨A.length,cr _,by rw[zr],by rw[bs,h,bs]⟩,?_⟩;rintro n ⟨k,hk,he,hd⟩;simp only[cb,Hu,true_and,and_true]at he;subst he;refine brd (fun h1=>?_) (fun h1=>?_)
  ·have a3:k-1<A.length:=by omega
   have a4:k-1<B.length:=by omega
   have ht:((k:Int)-1).toNat=k-1:=by omega
   have a6:A.drop (k-1+1)=B.drop (k-1+1):=by rw[show k-1+1=k by omega];exact hd
   rw[ht];refine⟨⟨by omega,by omega,qC a3⟩,_,qF a3,⟨by omega,by omega,qC a4⟩,_,qF a4,brd (fun h2=>?_) (fun h2=>?_)⟩
   ·have:=v9 lA h a3 a6 (by omega);rw[XP,if_pos (by omega)]
   ·refine⟨⟨by omega,by omega,qC a3⟩,_,qF a3,⟨by omega,by omega,qC a4⟩,_,qF a4,brd (fun h3=>?_) (fun h3=>?_)⟩
    ·have:=v9 lB h.symm a4 a6.symm (by omega);rw[XP,if_neg (by omega),if_pos (by omega)]
    ·have hw:J3 .i64 ((k:Int)-1-1)=((k-1:Nat):Int)-1:=by rw[zr];omega
     rw[hw];refine⟨⟨k-1,by omega,rfl,?_⟩,?_⟩
     ·rw[be a3,be a4,a6];congr 1;omega
     ·simp only[nth,toI];omega
  ·have a3:k=0:=by omega
   subst a3;have:A=B:=by simpa using hd
   rw[XP,←vA,←vB,this,if_neg (by omega),if_neg (by omega)]
theorem TV {x y:Int} (hx:Sm x) (hy:Sm y):qc CC 144 [qS x,qS y] [.c (.int .i64 (Ql x y))]:=by
 refine qu (anns:=an0) mixedT Tryz.func144 ?_;have lx:=hx.len;have ly:=hy.len;rw[qG x,qG y,bT];have c1:=kF (x:=x.natAbs) (y:=y.natAbs) (by omega) (by omega);have c2:=kF (x:=y.natAbs) (y:=x.natAbs) (by omega) (by omega);refine brb (fun h=>?_) (fun h=>?_)
 ·refine zH (fun h1=>?_) (fun h1=>?_)
  ·have h1:x<0:=by simpa using h1
   have h2:¬y<0:=by intro h2;rw[decide_eq_true h1,decide_eq_true h2]at h;simp at h
   rw[Ql,if_pos (by omega)]
  ·have h1:¬x<0:=by simpa using h1
   have h2:y<0:=by apply Aw;intro h2;rw[decide_eq_false h1,decide_eq_false h2]at h;simp at h
   rw[Ql,if_neg (by omega),if_pos (by omega)]
 ·refine zH (fun h1=>?_) (fun h1=>?_)
  ·have h1:x<0:=by simpa using h1
   have h2:y<0:=by apply Aw;intro h2;rw[decide_eq_true h1,decide_eq_false h2]at h;simp at h
   refine⟨_,c2,?_⟩;have:XP y.natAbs x.natAbs=Ql x y:=by
    unfold XP Ql;by_cases h3:x<y
    ·rw[if_pos h3,if_pos (by omega)]
    ·rw[if_neg h3,if_neg (by omega)];by_cases h4:y<x
     ·rw[if_pos h4,if_pos (by omega)]
     ·rw[if_neg h4,if_neg (by omega)]
   rw[this]
  ·have h1:¬x<0:=by simpa using h1
   have h2:¬y<0:=by intro h2;rw[decide_eq_false h1,decide_eq_true h2]at h;simp at h
   refine⟨_,c1,?_⟩;have:XP x.natAbs y.natAbs=Ql x y:=by
    unfold XP Ql;by_cases h3:x<y
    ·rw[if_pos h3,if_pos (by omega)]
    ·rw[if_neg h3,if_neg (by omega)];by_cases h4:y<x
     ·rw[if_pos h4,if_pos (by omega)]
     ·rw[if_neg h4,if_neg (by omega)]
   rw[this]
theorem Fa {o:List Nat} {k c:Nat} (ho:o.length=k):(o++[0]).set k c=o++[c]:=by
 rw[List.set_append_right _ _ (by omega),ho];simp
def qpI (a b:List Nat):List D→List D→Prop:=fun _ ds=>∃(k:Nat) (o:List Nat) (c:Nat),k≤a.length∧o.length=k∧ds=[.sl (raw (o++ba (a.length+1-k) 0)),.int .u32 (c:Int),.int .i64 (k:Int)]∧Limbs o∧c≤1∧val o+1000000000^k*c=val (a.take k)+val (b.take k)
def qpM (a:List Nat):List D→Nat:=fun ds=>a.length-(toI (nth .undef ds 2)).toNat
theorem Vs {a b:List Nat} (ha:Limbs a) (hb:Limbs b) (hra:a.length≤1073741823) (hab:b.length≤a.length):
 Nt (qc CC) (qpI a b) (qpM a)
  (fun r=>r=[.c (.sl (raw (lim (val a+val b))))]) (raw a) (raw b):=by
 unfold Nt qpI qpM;simp only[Lr,qi];have hn:J3 .i64 ((a.length:Int)+1)=((a.length+1:Nat):Int):=by rw[zr];omega
 rw[hn,Ls];refine⟨⟨by omega,by omega,by unfold room;omega⟩,⟨0,[],0,by omega,rfl,by rw[xy];rfl,Hy,by omega,by simp[val]⟩,?_⟩;rintro es n m ⟨k,o,c,hk,ho,he,lo,hc,hv⟩;simp only[cb,Hu,Hv,true_and,and_true]at he;obtain⟨rfl,rfl,rfl⟩:=he;have a4:(o++ba (a.length+1-k) 0).length=a.length+1:=by simp[ho];omega
 refine brd (fun h1=>?_) (fun h1=>?_)
 ·have a3:k<a.length:=by omega
  have hxk:=ha.get a3;have hk1:J3 .i64 ((k:Int)+1)=((k+1:Nat):Int):=by rw[zr];omega
  rw[Ls,hk1,qi,a4];have a6:∀(t:Nat),t≤1999999999→t=a[k]+c+b.getD k 0→
   (((0:Int)≤(k:Int)∧(k:Int)<((a.length+1:Nat):Int))∧0<1∧(1000000000:Int)≠0∧
     (∃(k':Nat) (o':List Nat) (c':Nat),k'≤a.length∧o'.length=k'∧[F0 (upd (raw (o++ba (a.length+1-k) 0)) k (upd (nth [] (raw (o++ba (a.length+1-k) 0)) k) 0 (Dd .u32 (No (t:Int) 1000000000)))),Dd .u32 (J3 .u32 (Lv (t:Int) 1000000000)),Dd .i64 ((k+1:Nat):Int)]=
        [.sl (raw (o'++ba (a.length+1-k') 0)),.int .u32 (c':Int),.int .i64 (k':Int)]∧Limbs o'∧c'≤1∧val o'+1000000000^k'*c'=val (a.take k')+val (b.take k'))∧
     a.length-(toI (nth .undef [F0 (upd (raw (o++ba (a.length+1-k) 0)) k (upd (nth [] (raw (o++ba (a.length+1-k) 0)) k) 0 (Dd .u32 (No (t:Int) 1000000000)))),Dd .u32 (J3 .u32 (Lv (t:Int) 1000000000)),Dd .i64 ((k+1:Nat):Int)] 2)).toNat<
      a.length-(toI (nth .undef [F0 (raw (o++ba (a.length+1-k) 0)),Dd .u32 (c:Int),Dd .i64 (k:Int)] 2)).toNat):=by
   intro t ht hte;rw[Pt,Pu,kf,zf (by rw[a4];omega),vC ho (by omega)];refine⟨⟨by omega,by omega⟩,by omega,by omega,⟨k+1,o++[t%1000000000],t/1000000000,by omega,by simp[ho],by rw[show a.length+1-k-1=a.length+1-(k+1)by omega],lo.append (Hx (by omega) Hy),by omega,jf a3 ho hv (by omega)⟩,?_⟩;simp only[nth,toI];omega
  refine⟨⟨by omega,by omega,qC a3⟩,_,qF a3,brd (fun h2=>?_) (fun h2=>?_)⟩
  ·have a5:k<b.length:=by omega
   have hyk:=hb.get a5;have hgd:b.getD k 0=b[k]:=by simp[b6,a5]
   have hw:J3 .u32 (J3 .u32 ((c:Int)+(a[k]:Int))+(b[k]:Int))=((a[k]+c+b[k]:Nat):Int):=by rw[kf (n:=(c:Int)+(a[k]:Int)),kf];omega
   refine⟨⟨by omega,by omega,qC a5⟩,_,qF a5,by omega,?_⟩;rw[hw];exact a6 _ (by omega) (by omega)
  ·have hgd:b.getD k 0=0:=Ky (by omega);have hw:J3 .u32 ((c:Int)+(a[k]:Int))=((a[k]+c:Nat):Int):=by rw[kf];omega
   rw[hw];exact⟨by omega,a6 _ (by omega) (by omega)⟩
 ·have a3:k=a.length:=by omega
  subst a3;rw[bc,bw hab]at hv;have e1:a.length+1-a.length=1:=by omega
  rw[e1]at a4 ⊢;rw[Ls,qi,a4,zf (by rw[a4];omega),List.replicate_one,Fa ho];have hg:=kg (l:=o++[c]) (lo.append (Hx (by omega) Hy)) (by simp[ho];omega);rw[Xm,ho,hv]at hg;exact⟨⟨by omega,by omega⟩,by omega,_,hg,rfl⟩
theorem Fb {a b:List Nat} (ha:Limbs a) (hb:Limbs b) (hra:a.length≤1073741823) (hrb:b.length≤1073741823):qc CC 224 [.c (.sl (raw a)),.c (.sl (raw b))] [.c (.sl (raw (lim (val a+val b))))]:=by
 by_cases hab:a.length<b.length
 ·refine qu (anns:=fun _=>⟨[.own 5 55 1,.slot 6 (.int .u32 0),.slot 7 (.int .i64 0)],[],qpI b a,qpM b⟩) mixedT Tryz.func224 ?_;have h:=Vs hb ha hrb (by omega);rw[Nu];simp only[Lr,qi];refine brd (fun _=>?_) (fun h0=>by omega);rw[Nat.add_comm (val b)]at h;exact h
 ·refine qu (anns:=fun _=>⟨[.own 5 55 1,.slot 6 (.int .u32 0),.slot 7 (.int .i64 0)],[],qpI a b,qpM a⟩) mixedT Tryz.func224 ?_;have h:=Vs ha hb hra (by omega);rw[Nu];simp only[Lr,qi];exact brd (fun h0=>by omega) (fun _=>h)
end Eng
end
section
namespace Eng
open Go Go.Proofs
set_option maxRecDepth 100000
theorem Xt {a b:List Nat} (ha:Limbs a) (hb:Limbs b) (hra:a.length≤1073741824) (hab:val b≤val a):qc CC 223 [.c (.sl (raw a)),.c (.sl (raw b))] [.c (.sl (raw (lim (val a-val b))))]:=by
 refine qu (anns:=fun _=>⟨[.own 5 45 1,.slot 6 (.int .u32 0),.slot 7 (.int .i64 0)],[],fun _ ds=>∃(k:Nat) (o:List Nat) (c:Nat),k≤a.length∧o.length=k∧ds=[.sl (raw (o++ba (a.length-k) 0)),.int .u32 (c:Int),.int .i64 (k:Int)]∧Limbs o∧c≤1∧val o+val (b.take k)=val (a.take k)+1000000000^k*c,fun ds=>a.length-(toI (nth .undef ds 2)).toNat⟩) mixedT Tryz.func223 ?_;rw[SY];simp only[Lr,qi];refine⟨⟨by omega,by omega,by unfold room;omega⟩,⟨0,[],0,by omega,rfl,by rw[Ls,xy];rfl,Hy,by omega,by simp[val]⟩,?_⟩;rintro es n m ⟨k,o,c,hk,ho,he,lo,hc,hv⟩;simp only[cb,Hu,Hv,true_and,and_true]at he;obtain⟨rfl,rfl,rfl⟩:=he;have hol:(o++ba (a.length-k) 0).length=a.length:=by simp[ho];omega
 refine brd (fun h1=>?_) (fun h1=>?_)
 ·have a3:k<a.length:=by omega
  have hxk:=ha.get a3;have hk1:J3 .i64 ((k:Int)+1)=((k+1:Nat):Int):=by rw[zr];omega
  rw[Ls,hk1,qi,hol];have hw0:J3 .u32 (J3 .u32 ((a[k]:Int)+1000000000)-(c:Int))=((a[k]+1000000000-c:Nat):Int):=by rw[kf (n:=(a[k]:Int)+1000000000),kf];omega
  refine⟨⟨by omega,by omega,qC a3⟩,_,qF a3,?_⟩;rw[hw0];refine brd (fun h2=>?_) (fun h2=>?_)
  ·have a5:k<b.length:=by omega
   have hyk:=hb.get a5;have a4:b.getD k 0=b[k]:=by simp[b6,a5]
   refine⟨⟨by omega,by omega,qC a5⟩,_,qF a5,?_⟩;have hw:J3 .u32 (((a[k]+1000000000-c:Nat):Int)-(b[k]:Int))=((a[k]+1000000000-c-b[k]:Nat):Int):=by rw[kf];omega
   rw[hw];refine brd (fun h3=>?_) (fun h3=>?_)
   ·have a6:J3 .u32 (((a[k]+1000000000-c-b[k]:Nat):Int)-1000000000)=((a[k]-(c+b[k]):Nat):Int):=by rw[kf];omega
    rw[a6,zf (by simp[ho];omega),vC ho (by omega)];refine⟨⟨by omega,by omega⟩,by omega,⟨k+1,o++[a[k]-(c+b[k])],0,by omega,by simp[ho],by rw[show a.length-k-1=a.length-(k+1)by omega];rfl,lo.append (Hx (by omega) Hy),by omega,ja a3 ho hv (by have:=a4;omega)⟩,?_⟩;simp only[nth,toI];omega
   ·rw[zf (by simp[ho];omega),vC ho (by omega)];refine⟨⟨by omega,by omega⟩,by omega,⟨k+1,o++[a[k]+1000000000-c-b[k]],1,by omega,by simp[ho],by rw[show a.length-k-1=a.length-(k+1)by omega];rfl,lo.append (Hx (by omega) Hy),by omega,ja a3 ho hv (by have:=a4;omega)⟩,?_⟩;simp only[nth,toI];omega
  ·have a4:b.getD k 0=0:=Ky (by omega);refine brd (fun h3=>?_) (fun h3=>?_)
   ·have a6:J3 .u32 (((a[k]+1000000000-c:Nat):Int)-1000000000)=((a[k]-c:Nat):Int):=by rw[kf];omega
    rw[a6,zf (by simp[ho];omega),vC ho (by omega)];refine⟨⟨by omega,by omega⟩,by omega,⟨k+1,o++[a[k]-c],0,by omega,by simp[ho],by rw[show a.length-k-1=a.length-(k+1)by omega];rfl,lo.append (Hx (by omega) Hy),by omega,ja a3 ho hv (by have:=a4;omega)⟩,?_⟩;simp only[nth,toI];omega
   ·rw[zf (by simp[ho];omega),vC ho (by omega)];refine⟨⟨by omega,by omega⟩,by omega,⟨k+1,o++[a[k]+1000000000-c],1,by omega,by simp[ho],by rw[show a.length-k-1=a.length-(k+1)by omega];rfl,lo.append (Hx (by omega) Hy),by omega,ja a3 ho hv (by have:=a4;omega)⟩,?_⟩;simp only[nth,toI];omega
 ·have a3:k=a.length:=by omega
  subst a3;rw[bc]at hv;rw[Nat.sub_self,List.replicate_zero,b7];have h2:=qX lo;rw[ho]at h2;have h3:val b=val (b.take a.length)+1000000000^(b.take a.length).length*val (b.drop a.length):=by rw[←qU,List.take_append_drop]
  have h4:=qX ha;have h5:val (b.take a.length)=val b:=by
   rcases fz b.length a.length with hl|hl
   ·rw[bw (by omega)]
   ·rw[bh,Nat.min_eq_left hl]at h3;rcases dc (val (b.drop a.length))with h6|h6
    ·rw[h6]at h3;omega
    ·have:=er (1000000000^a.length) h6;omega
  have h6:c=0:=by
   rcases dc c with h6|h6
   ·exact h6
   ·have:=er (1000000000^a.length) h6;omega
  subst h6;have hg:=kg lo (by omega);rw[show val o=val a-val b by omega]at hg;exact⟨_,hg,rfl⟩
set_option maxHeartbeats 1000000 in
theorem HJ {a b:List Nat} (ha:Limbs a) (hb:Limbs b) (hra:a.length≤536870912) (hrb:b.length≤536870912):
 qc CC 206 [.c (.sl (raw a)),.c (.sl (raw b))] [.c (.sl (raw (lim (val a*val b))))]:=by
 refine qu (anns:=G7
  ⟨[.own 5 68 1,.slot 6 (.int .i64 0)],[],fun _ ds=>∃(i:Nat) (o:List Nat),i≤a.length∧ds=[.sl (raw o),.int .i64 (i:Int)]∧o.length=a.length+b.length∧Limbs o∧(∀j,i+b.length≤j→o.getD j 0=0)∧val o=val (a.take i)*val b,fun ds=>a.length-(toI (nth .undef ds 1)).toNat⟩
  ⟨[.own 5 68 1,.slot 7 (.int .u64 0),.slot 8 (.int .i64 0)],[.slot 6 (.int .i64 0),.own 5 68 1],fun g ds=>∃(i k c:Nat) (o0 o:List Nat),g=[.int .i64 (i:Int),.sl (raw o0)]∧i<a.length∧k≤b.length∧c<1000000000∧ds=[.sl (raw o),.int .u64 (c:Int),.int .i64 (k:Int)]∧o.length=a.length+b.length∧Limbs o∧(∀j,i+b.length≤j→o.getD j 0=0)∧val o+1000000000^(i+k)*c=val o0+1000000000^i*(a.getD i 0*val (b.take k)),fun ds=>b.length-(toI (nth .undef ds 2)).toNat⟩) mixedT Tryz.func206 ?_
 rw[SZ];simp only[Lr,qi];have hab:J3 .i64 ((a.length:Int)+(b.length:Int))=((a.length+b.length:Nat):Int):=by rw[zr];omega
 rw[hab,Ls,xy];refine⟨⟨by omega,by omega,by unfold room;omega⟩,⟨0,ba (a.length+b.length) 0,by omega,rfl,by simp,fun y hy=>by rw[List.eq_of_mem_replicate hy];omega,fun j _=>by simp[b6,List.getElem?_replicate];split<;>rfl,by simp[v8,val]⟩,?_⟩;rintro es n ⟨i,o0,hi,he,hol,lo,hz,hv⟩;simp only[cb,Hu,Hv,true_and,and_true]at he;obtain⟨rfl,rfl⟩:=he;refine brd (fun h1=>?_) (fun h1=>?_)
 ·have a3:i<a.length:=by omega
  have hai:=ha.get a3;refine⟨⟨i,0,0,o0,o0,rfl,a3,by omega,by omega,rfl,hol,lo,hz,by simp[val]⟩,?_⟩;rintro es m k' ⟨i',k,c,o0',o,hg,_,hk,hc,he,a5,al,ag,an⟩;simp only[cb,Hu,Hv,true_and,and_true]at hg he;obtain⟨hi',a8⟩:=hg;obtain⟨rfl,rfl,rfl⟩:=he;have a6:i'=i:=by omega
  subst a6;have a8:=TQ a8;subst a8;rw[xz a3]at an;refine brd (fun h2=>?_) (fun h2=>?_)
  ·have a4:k<b.length:=by omega
   have hbk:=hb.get a4;have hj:i'+k<o.length:=by omega
   have hoj:=al.get hj;have hw:J3 .i64 ((i':Int)+(k:Int))=((i'+k:Nat):Int):=by rw[zr];omega
   have a7:J3 .i64 ((k:Int)+1)=((k+1:Nat):Int):=by rw[zr];omega
   rw[hw,a7,Ls,Ls,Ls,qi];refine⟨⟨by omega,by omega⟩,_,qF hj,⟨by omega,by omega,qC a3⟩,_,qF a3,⟨by omega,by omega,qC a4⟩,_,qF a4,by omega,⟨by omega,by omega⟩,by omega,by omega,?_⟩;have hp:a[i']*b[k]≤999999999*999999999:=cg (by omega) (by omega);obtain⟨p,ad⟩:∃p,p=a[i']*b[k]:=⟨_,rfl⟩;rw[←ad]at hp;have hpi:(a[i']:Int)*(b[k]:Int)=(p:Int):=by rw[ad];exact(T1 _ _).symm
   obtain⟨t,hte⟩:∃t,t=o[i'+k]+p+c:=⟨_,rfl⟩;have ht:J3 .u64 (J3 .u64 ((c:Int)+J3 .u64 (o[i'+k]:Int))+J3 .u64 (J3 .u64 (a[i']:Int)*J3 .u64 (b[k]:Int)))=(t:Int):=by rw[xS (n:=(o[i'+k]:Int)),xS (n:=(a[i']:Int)),xS (n:=(b[k]:Int)),hpi,xS (n:=(p:Int)),xS (n:=(c:Int)+(o[i'+k]:Int)),xS];omega
   rw[ht,Pt,Pu,kf (n:=((t%1000000000:Nat):Int)),xS (n:=((t/1000000000:Nat):Int)),zf hj];refine⟨⟨i',k+1,t/1000000000,o0,o.set (i'+k) (t%1000000000),rfl,a3,by omega,by omega,rfl,by simp[a5],Xn al (by omega),fun j hjj=>by rw[jB (by omega)];exact ag j hjj,?_⟩,?_⟩
   ·have h3:=Kz (t%1000000000) hj;rw[xz hj]at h3;rw[xz a3,qQ,xz a4];have h4:=Y0 (k:=i'+k) (show t%1000000000+1000000000*(t/1000000000)=t by omega);rw[show i'+(k+1)=i'+k+1 by omega];have h5:1000000000^(i'+k)*t=1000000000^(i'+k)*o[i'+k]+1000000000^(i'+k)*p+1000000000^(i'+k)*c:=by rw[hte,cH,cH]
    have h6:1000000000^i'*(a[i']*(val (b.take k)+1000000000^k*b[k]))=1000000000^i'*(a[i']*val (b.take k))+1000000000^(i'+k)*p:=by rw[cH,cH,ad,eb];congr 1;simp only[c0,ft]
    omega
   ·simp only[nth,toI];omega
  ·have a4:k=b.length:=by omega
   subst a4;have hj:i'+b.length<o.length:=by omega
   have hw:J3 .i64 ((i':Int)+(b.length:Int))=((i'+b.length:Nat):Int):=by rw[zr];omega
   have a7:J3 .i64 ((i':Int)+1)=((i'+1:Nat):Int):=by rw[zr];omega
   rw[hw,a7,Ls,qi,kf (n:=(c:Int)),zf hj];refine⟨⟨by omega,by omega⟩,by omega,⟨i'+1,o.set (i'+b.length) c,by omega,rfl,by simp[a5],Xn al hc,fun j hjj=>by rw[jB (by omega)];exact ag j (by omega),?_⟩,?_⟩
   ·have h3:=Kz c hj;rw[ag _ (cr _)]at h3;rw[bc]at an;rw[qQ,xz a3,en,←hv,c0];omega
   ·simp only[nth,toI];omega
 ·have a3:i=a.length:=by omega
  subst a3;rw[bc]at hv;have hg:=kg lo (by omega);rw[hv]at hg;exact⟨_,hg,rfl⟩
theorem Ba {a:List Nat} {d:Nat} (ha:Limbs a) (hd:d<1000000000) (hra:a.length≤536870912):qc CC 222 [.c (.sl (raw a)),.c (.int .u32 (d:Int))] [.c (.sl (raw (lim (val a*d))))]:=by
 refine qu (anns:=an0) mixedT Tryz.func222 ?_;rw[iS];have h1:=kg (l:=[d]) (Hx hd Hy) (by simp);have hv:val [d]=d:=by simp[val]
 rw[hv]at h1;have hl:(lim d).length≤536870912:=by have:(lim d).length≤1:=qx (by omega);omega
 have h2:=HJ ha (qh d) hra hl;rw[qj]at h2;exact⟨_,h1,_,h2,rfl⟩
theorem Y9 {x:Int} (hx:Sm x):qc CC 108 [qS x] [qS (-x)]:=by
 refine qu (anns:=an0) mixedT Tryz.func108 ?_;have lx:=hx.len;rw[qG x,bU];refine⟨_,_,xj (!decide (x<0)) (qh x.natAbs) (by omega) (z:= -x) ?_,rfl⟩;rw[qj];by_cases h:x<0
 ·simp[h];omega
 ·simp[h];omega
theorem TW {x y n:Nat} (hx:(lim x).length≤n) (hy:(lim y).length≤n):(lim (x+y)).length≤n+1:=by
 refine qx ?_;have h1:=qX (qh x);have h2:=qX (qh y);rw[qj]at h1 h2;have hB:∀{i j:Nat},i≤j→(1000000000:Nat)^i≤1000000000^j:=fun h=>cp (by decide) h
 have h3:=hB hx;have h4:=hB hy;rw[dn];generalize (1000000000:Nat)^n=T at *;omega
theorem K3 {x y:Int} (hx:Sm x) (hy:Sm y):qc CC 168 [qS x,qS y] [qS (x+y)]:=by
 refine qu (anns:=an0) mixedT Tryz.func168 ?_;have lx:=hx.len;have ly:=hy.len;have a4:(lim (x.natAbs+y.natAbs)).length≤1073741824:=by have:=TW (n:=100000) lx ly;omega
 have In:∀{m n:Nat},m≤n→(lim m).length≤(lim n).length:=fun{m n} h=>qx (cc h (by have:=qX (qh n);rw[qj]at this;exact this))
 rw[qG x,qG y,bV];have hp:=Fb (qh x.natAbs) (qh y.natAbs) (by omega) (by omega);rw[qj,qj]at hp;have hc:=kF (x:=x.natAbs) (y:=y.natAbs) (by omega) (by omega);refine brb (fun h=>?_) (fun h=>?_)
 ·have hs:(x<0)↔(y<0):=by
   have:decide (x<0)=decide (y<0):=by simpa using h
   rw[decide_eq_decide]at this;exact this
  refine⟨_,hp,_,_,xj (decide (x<0)) (qh _) a4 (z:=x+y) ?_,rfl⟩;rw[qj];by_cases h1:x<0
  ·have:=hs.1 h1;simp[h1];omega
  ·have:¬y<0:=fun h2=>h1 (hs.2 h2)
   simp[h1];omega
 ·have hs:(x<0)↔¬(y<0):=by
   have h2:¬(decide (x<0)=decide (y<0)):=by simpa using h
   rw[decide_eq_decide]at h2;constructor
   ·intro a b;exact h2 ⟨fun _=>b,fun _=>a⟩
   ·intro b;apply Aw;intro a;exact h2 ⟨fun c=>absurd c a,fun c=>absurd c b⟩
  refine⟨_,hc,brd (fun h1=>?_) (fun h1=>?_)⟩
  ·have a3:y.natAbs≤x.natAbs:=by
    unfold XP at h1;split at h1
    ·omega
    ·omega
   have hm:=Xt (qh x.natAbs) (qh y.natAbs) (by omega) (by rw[qj,qj];exact a3);rw[qj,qj]at hm;refine⟨_,hm,_,_,xj (decide (x<0)) (qh _) (by have:=In (show x.natAbs-y.natAbs≤x.natAbs by omega);omega) (z:=x+y) ?_,rfl⟩;rw[qj];by_cases h2:x<0
   ·have:=hs.1 h2;simp[h2];omega
   ·have:y<0:=by apply Aw;intro h3;exact h2 (hs.2 h3)
    simp[h2];omega
  ·have a3:x.natAbs≤y.natAbs:=by
    unfold XP at h1;split at h1
    ·omega
    ·split at h1<;>omega
   have hm:=Xt (qh y.natAbs) (qh x.natAbs) (by omega) (by rw[qj,qj];exact a3);rw[qj,qj]at hm;refine⟨_,hm,_,_,xj (decide (y<0)) (qh _) (by have:=In (show y.natAbs-x.natAbs≤y.natAbs by omega);omega) (z:=x+y) ?_,rfl⟩;rw[qj];by_cases h2:y<0
   ·have:¬x<0:=fun h3=>(hs.1 h3) h2
    simp[h2];omega
   ·have:=hs.2 h2;simp[h2];omega
theorem bZ {x:Int} (h:Sm x):Sm (-x):=by unfold Sm at *;rw[P1];exact h
theorem Bb {x y:Int} (hx:Sm x) (hy:Sm y):qc CC 167 [qS x,qS y] [qS (x-y)]:=by
 refine qu (anns:=an0) mixedT Tryz.func167 ?_;have h1:=Y9 hy;have h2:=K3 hx (bZ hy);rw[qG y]at h1;rw[qG x]at h2;rw[qG x,qG y,bW];exact⟨_,_,h1,_,_,h2,rfl⟩
theorem jD {x y:Int} (hx:Sm x) (hy:Sm y):qc CC 145 [qS x,qS y] [qS (x*y)]:=by
 refine qu (anns:=an0) mixedT Tryz.func145 ?_;have lx:=hx.len;have ly:=hy.len;have ht:=HJ (qh x.natAbs) (qh y.natAbs) (by omega) (by omega);rw[qj,qj]at ht;have lp:(lim (x.natAbs*y.natAbs)).length≤1073741824:=by
  have h1:=qX (qh x.natAbs);have h2:=qX (qh y.natAbs);rw[qj]at h1 h2;have h3:x.natAbs*y.natAbs<1000000000^((lim x.natAbs).length+(lim y.natAbs).length):=by rw[eb];exact Nat.mul_lt_mul'' h1 h2
  have:=qx h3;omega
 rw[qG x,qG y,bX];refine⟨_,ht,_,_,xj (!(decide (x<0)==decide (y<0))) (qh _) lp (z:=x*y) ?_,rfl⟩;rw[qj];have hm:(x*y).natAbs=x.natAbs*y.natAbs:=Pl x y;by_cases h1:x<0<;>by_cases h2:y<0
 ·have:=Int.mul_pos_of_neg_of_neg h1 h2;simp[h1,h2];omega
 ·have:x*y≤0:=Int.mul_nonpos_of_nonpos_of_nonneg (by omega) (by omega);simp[h1,h2];omega
 ·have:x*y≤0:=Int.mul_nonpos_of_nonneg_of_nonpos (by omega) (by omega);simp[h1,h2];omega
 ·have:0≤x*y:=Int.mul_nonneg (by omega) (by omega);simp[h1,h2];omega
end Eng
end
section
namespace Eng
open Go Go.Proofs
set_option maxRecDepth 100000
def vE:Prop:=∀x y:Nat,y≠0→(lim x).length≤100000→(lim y).length≤100000→
 qc CC 165 [.c (.sl (raw (lim x))),.c (.sl (raw (lim y)))] [.c (.sl (raw (lim (x/y)))),.c (.sl (raw (lim (x%y))))]
theorem In {m n:Nat} (h:m≤n):(lim m).length≤(lim n).length:=
 qx (cc h (by have:=qX (qh n);rw[qj]at this;exact this))
theorem TX (hd:vE) {x y:Int} (hx:Sm x) (hy:Sm y):qc CC 109 [qS x,qS y] [qS (ed x.natAbs y.natAbs:Nat)]:=by
 generalize hG:ed x.natAbs y.natAbs=G;refine qu (anns:=G7
  ⟨[.slot 5 (.slice none 0 0),.slot 6 (.slice none 0 0)],[],fun _ ds=>∃m n:Nat,ds=[.sl (raw (lim m)),.sl (raw (lim n))]∧ed m n=G∧m<Vq∧n<Vq,fun ds=>WI (toL (nth .undef ds 1))⟩
  ⟨[.slot 9 (.int .u64 0),.slot 10 (.int .u64 0)],[],fun _ ds=>∃u v:Nat,ds=[.int .u64 (u:Int),.int .u64 (v:Int)]∧ed u v=G∧u<1000000000000000000∧v<1000000000000000000,fun ds=>(toI (nth .undef ds 1)).toNat⟩) mixedT Tryz.func109 ?_
 rw[qG x,qG y,bY];simp only[Lr];refine⟨⟨x.natAbs,y.natAbs,rfl,hG,hx,hy⟩,?_⟩;rintro es fs ⟨m,n,he,hg,hm,hn⟩;simp only[cb,Hv,and_true]at he;obtain⟨rfl,rfl⟩:=he;have lm:=(smN.2 hm).len;have ln:=(smN.2 hn).len;rw[Lm]at lm ln;rw[qi,qi];have a5:0<n→∃es_2 es_3,qc CC 165 [Bx (F0 (raw (lim m))),Bx (F0 (raw (lim n)))] [Bx (F0 es_2),Bx (F0 es_3)]∧
  (∃m' n':Nat,[F0 (raw (lim n)),F0 es_3]=[.sl (raw (lim m')),.sl (raw (lim n'))]∧ed m' n'=G∧m'<Vq∧n'<Vq)∧
  WI (toL (nth .undef [F0 (raw (lim n)),F0 es_3] 1))<WI (toL (nth .undef [F0 (raw (lim m)),F0 (raw (lim n))] 1)):=by
  intro a4;have a6:=ey m a4;refine⟨_,_,hd m n (by omega) lm ln,⟨n,m%n,rfl,?_,hn,by omega⟩,?_⟩
  ·rw[←hg,ez n,←fS,ez]
  ·simp only[nth,toL,Xp,qj];exact a6
 have a3:∀{k:Nat},¬((lim k).length:Int)>2→k<1000000000000000000:=by
  intro k hk;have h1:=qX (qh k);rw[qj]at h1;have h2:1000000000^(lim k).length≤1000000000^2:=cp (by omega) (by omega);have h3:(1000000000:Nat)^2=1000000000000000000:=by decide
  omega
 have a7:n=0→∃b es_2,qc CC 80 [Bx (F2 false),Bx (F0 (raw (lim m)))] [A.ag [F2 b,F0 es_2]]∧[A.ag [F2 b,F0 es_2]]=[qS (G:Int)]:=by intro a4;subst a4;rw[fl]at hg;subst hg;exact⟨_,_,xj false (qh m) (by omega) (z:=(m:Int)) (by simp[qj]),rfl⟩
 have a8:m<1000000000000000000→n<1000000000000000000→
  ∃a,qc CC 166 [Bx (F0 (raw (lim m)))] [Bx (Dd J7 a)]∧∃b,qc CC 166 [Bx (F0 (raw (lim n)))] [Bx (Dd J7 b)]∧
   (∃u v:Nat,[Dd J7 a,Dd J7 b]=[.int .u64 (u:Int),.int .u64 (v:Int)]∧ed u v=G∧u<1000000000000000000∧v<1000000000000000000)∧
   ∀(n n_2:Int),(∃u v:Nat,[Dd J7 n,Dd J7 n_2]=[.int .u64 (u:Int),.int .u64 (v:Int)]∧ed u v=G∧u<1000000000000000000∧v<1000000000000000000)→
    br (toB (F2 (decide (n_2>(0:Int)))))
     (n_2≠(0:Int)∧
      (∃u v:Nat,[Dd J7 n_2,Dd J7 (No n n_2)]=[.int .u64 (u:Int),.int .u64 (v:Int)]∧ed u v=G∧u<1000000000000000000∧v<1000000000000000000)∧
       (toI (nth .undef [Dd J7 n_2,Dd J7 (No n n_2)] 1)).toNat<(toI (nth .undef [Dd J7 n,Dd J7 n_2] 1)).toNat)
     (∃es,qc CC 81 [Bx (Dd J7 n)] [Bx (F0 es)]∧
      ∃b es_2,qc CC 80 [Bx (F2 false),Bx (F0 es)] [A.ag [F2 b,F0 es_2]]∧[A.ag [F2 b,F0 es_2]]=[qS (G:Int)]):=by
  intro sm sn;have h3:(1000000000:Nat)^2=1000000000000000000:=by decide
  have g1:=Xr (qh m) (qx (by omega));have g2:=Xr (qh n) (qx (by omega));rw[qj]at g1 g2;refine⟨_,g1,_,g2,⟨m,n,rfl,hg,sm,sn⟩,?_⟩;rintro a b ⟨u,v,he,ad,hu,hv⟩;simp only[cb,Hu,true_and,and_true]at he;obtain⟨rfl,rfl⟩:=he;refine brd (fun h2=>?_) (fun h2=>?_)
  ·have al:0<v:=by omega
   have e2:No (u:Int) (v:Int)=((u%v:Nat):Int):=by rw[W0 (by omega)];rfl
   have a6:=ey u al;rw[e2];refine⟨by omega,⟨v,u%v,rfl,by rw[←ad,ez v,←fS,ez],hv,by omega⟩,?_⟩;simp only[nth,toI,Ls];exact a6
  ·have al:v=0:=by omega
   subst al;rw[fl]at ad;subst ad;have:(lim u).length≤2:=qx (by omega);exact⟨_,yt (by omega),_,_,xj false (qh u) (by omega) (z:=(u:Int)) (by simp[qj]),rfl⟩
 refine brd (fun h=>?_) (fun h=>?_)
 ·have a4:0<n:=qK.1 (by omega);refine brd (fun h1=>a5 a4) (fun h1=>brd (fun h2=>a5 a4) (fun h2=>brb (fun h3=>?_) (fun _=>a8 (a3 h1) (a3 h2))));have:((lim n).length:Int)=0:=by simpa using h3
  omega
 ·have a4:n=0:=by
   rcases dc n with h0|h0
   ·exact h0
   ·have:=qK.2 h0;omega
  refine brb (fun _=>a7 a4) (fun h3=>?_);subst a4;simp[Yz]at h3
theorem wU (hd:vE) {x y:Int} (hx:Sm x) (hy:Sm y) (hy0:0<y):qc CC 110 [qS x,qS y] [qS (x/y),qS (x%y),.c (.int .i64 0)]:=by
 refine qu (anns:=an0) mixedT Tryz.func110 ?_;have lx:=hx.len;have ly:=hy.len;have hyn:y.natAbs≠0:=by omega
 have hlp:0<(lim y.natAbs).length:=qK.2 (by omega);have h1:=hd x.natAbs y.natAbs hyn lx ly;have hqs:(x/y).natAbs≤x.natAbs+1:=by have:=Ts x y;omega
 rw[qG x,qG y,Pw];simp only[Lr];obtain⟨a,ha⟩:∃a:Nat,x.natAbs=a:=⟨_,rfl⟩;obtain⟨b,hb⟩:∃b:Nat,y=(b:Int):=⟨y.natAbs,by omega⟩;have a3:y.natAbs=b:=by omega
 have hb0:0<b:=by omega
 rw[ha,a3]at h1;rw[ha]at lx;rw[a3]at ly;have hdm:=fx a b;have hml:=ey a hb0;have lq:(lim (a/b)).length≤100000:=ea (In (fw a b)) lx;have lr:(lim (a%b)).length≤100000:=ea (In (Nat.mod_le a b)) lx;refine brb (fun h=>?_) (fun _=>?_)
 ·rw[qi]at h;have:((lim y.natAbs).length:Int)=0:=by simpa using h
  omega
 have a5:decide (y<0)=false:=decide_eq_false (by omega);rw[a5];by_cases hx0:x<0
 ·have hxt:decide (x<0)=true:=decide_eq_true hx0;rw[hxt,ha,a3];have a4:x= -(a:Int):=by omega
  have gq:=xj true (qh (a/b)) (by omega) (z:= -((a/b:Nat):Int)) (by rw[qj];rfl);have gr:=xj true (qh (a%b)) (by omega) (z:= -((a%b:Nat):Int)) (by rw[qj];rfl);refine⟨_,_,h1,_,_,gq,_,_,gr,?_⟩;rw[qi];refine brd (fun h=>brb (fun h2=>?_) (fun h2=>?_)) (fun h=>?_)
  ·have hr0:0<a%b:=qK.1 (by omega);have g1:=zg (n:=1) (by omega) (by omega);have hq:(a/b)<Vq:=cc (fw _ _) (ha▸hx);have sq:Sm (-((a/b:Nat):Int)):=by unfold Sm;rw[P1,Lm];exact hq
   have sr:Sm (-((a%b:Nat):Int)):=by unfold Sm;rw[P1,Lm];exact Nat.lt_trans hml (a3▸hy)
   have gs:=Bb sq Im;have ga:=K3 sr hy;have ga2:qc CC 168 [qS (-((a%b:Nat):Int)),.ag [.bool false,.sl (raw (lim b))]] [qS (-((a%b:Nat):Int)+y)]:=by
    have e0:qS y= .ag [.bool false,.sl (raw (lim b))]:=by rw[qG y,a5,a3]
    rw[e0]at ga;exact ga
   refine⟨_,_,g1,_,_,gs,_,_,ga2,?_⟩;have e1:x/y= -((a/b:Nat):Int)-1∧x%y= -((a%b:Nat):Int)+y:=by
    have:=W1 (a:=x) (b:=y) (r:= -((a%b:Nat):Int)+y) (q:= -((a/b:Nat):Int)-1) hy0;refine this.2 ⟨?_,by omega,by omega⟩;rw[a4,hb];have h5:(b:Int)*(-((a/b:Nat):Int)-1)= -((b*(a/b):Nat):Int)-b:=by rw[Int.mul_sub,ap,W2,T1]
    rw[h5];omega
   rw[e1.1,e1.2];rfl
  ·simp at h2
  ·have hr0:a%b=0:=by
    rcases dc (a%b)with h0|h0
    ·exact h0
    ·have:=qK.2 h0;omega
   have e1:x/y= -((a/b:Nat):Int)∧x%y= -((a%b:Nat):Int):=by have:=W1 (a:=x) (b:=y) (r:= -((a%b:Nat):Int)) (q:= -((a/b:Nat):Int)) hy0;refine this.2 ⟨?_,by omega,by omega⟩;rw[a4,hb,ap,←T1];omega
   rw[e1.1,e1.2];rfl
 ·have hxf:decide (x<0)=false:=decide_eq_false hx0;rw[hxf,ha,a3];have a4:x=(a:Int):=by omega
  have gq:=xj false (qh (a/b)) (by omega) (z:=((a/b:Nat):Int)) (by rw[qj];rfl);have gr:=xj false (qh (a%b)) (by omega) (z:=((a%b:Nat):Int)) (by rw[qj];rfl);refine⟨_,_,h1,_,_,gq,_,_,gr,?_⟩;have e1:x/y=((a/b:Nat):Int)∧x%y=((a%b:Nat):Int):=by rw[a4,hb];exact⟨rfl,rfl⟩
  refine brd (fun h=>brb (fun h2=>?_) (fun h2=>?_)) (fun h=>?_)
  ·simp at h2
  ·rw[e1.1,e1.2];rfl
  ·rw[e1.1,e1.2];rfl
theorem YA:qc CC 44 [] [qS 1]:=by
 refine qu (anns:=an0) mixedT Tryz.func44 ?_;rw[EV];exact⟨_,_,zg (n:=1) (by omega) (by omega),rfl⟩
theorem Fc (z:Int):cI z=[.bool (decide (z<0)),.sl (raw (lim z.natAbs))]:=rfl
theorem Nv (hd:vE) {x y:Int} (hx:Sm x) (hy:Sm y) (hy0:y≠0):qc CC 59 [qS x,qS y] [jC (g4 x y)]:=by
 refine qu (anns:=Tf an0 3 ⟨[.box 2 [.bool false,.slice none 0 0],.box 3 [.bool false,.slice none 0 0]],[.box 2 [.bool false,.slice none 0 0],.box 3 [.bool false,.slice none 0 0]],fun _ ds=>∃u v:Int,ds=cI u++cI v∧Sm u∧Sm v∧0<v∧g4 u v=g4 x y,fun _=>0⟩) mixedT Tryz.func59 ?_;rw[qG x,qG y,iR];have hS:=Xs y;rw[qG y]at hS;have a4:=Y9 hx;have a5:=Y9 hy;rw[qG x,qG]at a4;rw[qG y,qG]at a5;refine⟨⟨_,hS,brd (fun h=>?_) (fun h=>?_)⟩,?_⟩
 ·have a6:y<0:=by
   unfold sgn at h;split at h
   ·assumption
   ·split at h<;>omega
  exact⟨_,_,a4,_,_,a5, -x, -y,rfl,Nq hx,Nq hy,by omega,by rw[hH]⟩
 ·have a6:0<y:=by
   unfold sgn at h;split at h
   ·omega
   ·omega
  exact⟨x,y,rfl,hx,hy,a6,rfl⟩
 ·rintro b1 es1 b2 es2 ⟨u,v,he,hu,hv,hv0,hr⟩;simp only[Fc,List.cons_append,List.nil_append,cb,D.bool.injEq,Hv,and_true]at he;obtain⟨rfl,rfl,rfl,rfl⟩:=he;obtain⟨g,hg⟩:∃g:Nat,g=ed u.natAbs v.natAbs:=⟨_,rfl⟩;have hgp:0<g:=by rw[hg];exact Nat.gcd_pos_of_pos_right _ (by omega)
  have a3:Sm (g:Int):=smN.2 (by rw[hg];exact cc (Nat.gcd_le_right _ (by omega)) hv);have g1:=TX hd hu hv;rw[←hg]at g1;have g2:=wU hd hu a3 (by omega);have g3:=wU hd hv a3 (by omega);refine⟨_,_,g1,_,_,_,_,_,g2,_,_,_,_,_,g3,?_⟩;rw[←hr,vD hv0,←hg];rfl
theorem Fd (hd:vE) {x y:Int} (hx:Sm x) (hy:Sm y):
 qc CC 334 [qS x,qS y] (if y=0 then [.ag [.bool false,.sl [],.bool false,.sl []],.c (.int .i64 6)]else [jC (g4 x y),.c (.int .i64 0)]):=by
 refine qu (anns:=an0) mixedT Tryz.func334 ?_;rw[xJ x,xJ y,EW];refine⟨_,Xs y,?_⟩;refine brb (fun h=>?_) (fun h=>?_)
 ·have:y=0:=by
   unfold sgn at h;split at h
   ·simp at h
   ·split at h
    ·simp at h
    ·omega
  rw[if_pos this]
 ·have:y≠0:=by rintro rfl;simp[sgn]at h
  rw[if_neg this];exact⟨q4 _,Nv hd hx hy this,rfl⟩
theorem Nw (r:Rat):qc CC 72 [jC r] [.c (.int .i64 (sgn r.num))]:=by
 refine qu (anns:=an0) mixedT Tryz.func72 ?_;rw[qH,EX];exact⟨_,Xs r.num,rfl⟩
theorem TY {x:Rat} (hx:Sr x):qc CC 192 [jC x] [jC (-x)]:=by
 refine qu (anns:=an0) mixedT Tryz.func192 ?_;rw[qH,bN];refine⟨_,_,Y9 hx.1.sm,?_⟩;rw[qH,ia];have:(-x).den=x.den:=rfl;rw[this]
theorem TZ (hd:vE) {x y:Rat} (hx:Sr x) (hy:Sr y):qc CC 190 [jC x,jC y] [jC (x+y)]:=by
 refine qu (anns:=an0) mixedT Tryz.func190 ?_;rw[qH,qH,bO];have px:=den_pos x;have py:=den_pos y;have hp:=U0 px py;have e0:x+y=g4 (x.num*y.den+y.num*x.den) (x.den*y.den):=by rw[←h9 _ _ (by omega) (by omega),g0,g0]
 refine⟨_,_,jD hx.1.sm hy.2.sm,_,_,jD hy.1.sm hx.2.sm,_,_,K3 (hx.1.mul hy.2) (hy.1.mul hx.2),_,_,jD hx.2.sm hy.2.sm,q4 _,Nv hd (hx.1.mul_add hy.2 hy.1 hx.2) (hx.2.mul hy.2) (by omega),?_⟩;rw[e0];rfl
theorem Bc (hd:vE) {x y:Rat} (hx:Sr x) (hy:Sr y):qc CC 191 [jC x,jC y] [jC (x-y)]:=by
 refine qu (anns:=an0) mixedT Tryz.func191 ?_;rw[qH,qH,bP];refine⟨q4 _,TY hy,q4 _,TZ hd hx hy.neg,?_⟩;rw[hE];rfl
theorem Be {x y:Rat} (hx:Sr x) (hy:Sr y):qc CC 83 [jC x,jC y] [.c (.int .i64 (bM x y))]:=by
 refine qu (anns:=an0) mixedT Tryz.func83 ?_;rw[qH,qH,bQ];rw[K2];exact⟨_,_,jD hx.1.sm hy.2.sm,_,_,jD hy.1.sm hx.2.sm,_,TV (hx.1.mul hy.2) (hy.1.mul hx.2),rfl⟩
theorem Bf (hd:vE) {x y:Rat} (hx:Sr x) (hy:Sr y):qc CC 189 [jC x,jC y] [jC (x*y)]:=by
 refine qu (anns:=an0) mixedT Tryz.func189 ?_;rw[qH,qH,bR];have px:=den_pos x;have py:=den_pos y;have:=U0 px py;refine⟨_,_,jD hx.1.sm hy.1.sm,_,_,jD hx.2.sm hy.2.sm,q4 _,Nv hd (hx.1.mul hy.1) (hx.2.mul hy.2) (by omega),?_⟩;have e:x*y=g4 (x.num*y.num) (x.den*y.den):=by rw[←g8,g0,g0]
 rw[e];rfl
theorem ce (hd:vE) {x y:Rat} (hx:Sr x) (hy:Sr y):
 qc CC 292 [jC x,jC y] (if y=0 then [.ag [.bool false,.sl [],.bool false,.sl []],.c (.int .i64 6)]else [jC (x/y),.c (.int .i64 0)]):=by
 refine qu (anns:=an0) mixedT Tryz.func292 ?_;rw[qH,qH,bS];have px:=den_pos x;have py:=den_pos y;have hm:=Fd hd (hx.1.mul hy.2) (hx.2.mul hy.1);by_cases hn:y.num=0
 ·have:y=0:=h8.1 hn;rw[if_pos this];rw[if_pos (by rw[hn,Int.mul_zero])]at hm;exact⟨_,_,jD hx.1.sm hy.2.sm,_,_,jD hx.2.sm hy.1.sm,⟨false,[],false,[]⟩,_,hm,rfl⟩
 ·have:y≠0:=fun h=>hn (h8.2 h)
  rw[if_neg this];have h0:(x.den:Int)*y.num≠0:=Int.mul_ne_zero (by omega) hn;rw[if_neg h0]at hm;refine⟨_,_,jD hx.1.sm hy.2.sm,_,_,jD hx.2.sm hy.1.sm,q4 _,_,hm,?_⟩;have e:x/y=g4 (x.num*y.den) (x.den*y.num):=by rw[g5,←g8,g0,←hW,g0]
  rw[e];rfl
theorem Xu {n:Int} (h1: -9223372036854775808≤n) (h2:n<9223372036854775808):qc CC 21 [.c (.int .i64 n)] [jC (n:Rat)]:=by
 refine qu (anns:=an0) mixedT Tryz.func21 ?_;rw[Y6];refine⟨_,_,zg h1 h2,_,_,YA,?_⟩;rw[qH,hQ,hT];rfl
end Eng
end
section
namespace Eng
open Go Go.Proofs
set_option maxRecDepth 100000
def Hz (k:Nat) (r:Rat):Prop:=r.num.natAbs≤10^k∧r.den≤10^k
theorem Hz.mono {k m:Nat} {r:Rat} (h:Hz k r) (hk:k≤m):Hz m r:=
 ⟨ea h.1 (cp (by omega) hk),ea h.2 (cp (by omega) hk)⟩
theorem tB {n:Nat} (hn:n=9*100*100*4):Zg=10^n:=by
 have e:(1000000000:Nat)=10^9:=by decide
 unfold Zg;rw[e];exact pow4 hn
theorem Hz.sr {k:Nat} {r:Rat} (h:Hz k r) (hk:k<360000):Sr r:=by
 obtain⟨n,hn⟩:∃n,n=9*100*100*4:=⟨_,rfl⟩;have h1:10^k<Zg:=by rw[tB hn];exact Nat.pow_lt_pow_right (by omega) (by omega)
 refine⟨cc h.1 h1,?_⟩;unfold Sq;rw[Lm];exact cc h.2 h1
theorem Hz.divInt {n d:Int} {k:Nat} (hd:0<d) (h1:n.natAbs≤10^k) (h2:d.natAbs≤10^k):Hz k (g4 n d):=by
 obtain⟨e1,e2⟩:=K1 (n:=n) hd;constructor
 ·rw[e1];exact ea (Ts _ _) h1
 ·have:((g4 n d).den:Int).natAbs≤d.natAbs:=by rw[e2];exact Ts _ _
  rw[Lm]at this;exact ea this h2
theorem Hz.neg {k:Nat} {r:Rat} (h:Hz k r):Hz k (-r):=by
 refine⟨?_,h.2⟩;rw[ia,P1];exact h.1
theorem Hz.mul {j k l:Nat} {x y:Rat} (hx:Hz j x) (hy:Hz k y) (h:j+k≤l:=by omega):Hz l (x*y):=by
 have e:x*y=g4 (x.num*y.num) (x.den*y.den):=by rw[←g8,g0,g0]
 have px:=den_pos x;have py:=den_pos y;refine Hz.mono (k:=j+k) ?_ h;rw[e];refine Hz.divInt (U0 px py) ?_ ?_
 ·rw[Pl,eb];exact cg hx.1 hy.1
 ·rw[Pl,eb,Lm,Lm];exact cg hx.2 hy.2
theorem Hz.add {j k l:Nat} {x y:Rat} (hx:Hz j x) (hy:Hz k y) (h:j+k+1≤l:=by omega):Hz l (x+y):=by
 have px:=den_pos x;have py:=den_pos y;have e0:x+y=g4 (x.num*y.den+y.num*x.den) (x.den*y.den):=by rw[←h9 _ _ (by omega) (by omega),g0,g0]
 refine Hz.mono (k:=j+k+1) ?_ h;rw[e0];have hp:10^(j+k+1)=10*(10^j*10^k):=by rw[dn,eb,cv]
 have a1:(x.num*y.den).natAbs≤10^j*10^k:=by rw[Pl,Lm];exact cg hx.1 hy.2
 have a2:(y.num*x.den).natAbs≤10^j*10^k:=by rw[Pl,Lm,cv];exact cg hx.2 hy.1
 have a3:((x.den:Int)*y.den).natAbs≤10^j*10^k:=by rw[Pl,Lm,Lm];exact cg hx.2 hy.2
 refine Hz.divInt (U0 px py) ?_ ?_
 ·rw[hp];generalize 10^j*10^k=T at *;have:=Int.natAbs_add_le (x.num*y.den) (y.num*x.den);omega
 ·rw[hp];generalize 10^j*10^k=T at *;omega
theorem Hz.sub {j k l:Nat} {x y:Rat} (hx:Hz j x) (hy:Hz k y) (h:j+k+1≤l:=by omega):Hz l (x-y):=by
 rw[hE];exact hx.add hy.neg h
theorem Hz.inv {k:Nat} {y:Rat} (hy:Hz k y) (h:y≠0):Hz k (y⁻¹):=by
 have hn:y.num≠0:=fun h0=>h (h8.1 h0)
 have e:y⁻¹=g4 y.den y.num:=by rw[←hW,g0]
 rw[e];by_cases hp:0<y.num
 ·exact Hz.divInt hp (by rw[Lm];exact hy.2) hy.1
 ·have e2:g4 (y.den:Int) y.num=g4 (-(y.den:Int)) (-y.num):=(hH _ _).symm;rw[e2];exact Hz.divInt (by omega) (by rw[P1,Lm];exact hy.2) (by rw[P1];exact hy.1)
theorem Hz.div {j k l:Nat} {x y:Rat} (hx:Hz j x) (hy:Hz k y) (h0:y≠0) (h:j+k≤l):Hz l (x/y):=by
 rw[g5];exact hx.mul (hy.inv h0) h
theorem Hz.int {n:Int} {k:Nat} (h:n.natAbs≤10^k):Hz k (n:Rat):=by
 refine⟨by rw[hQ];exact h,by rw[hT];exact fR (by omega)⟩
theorem Hz.zero {k:Nat}:Hz k 0:=Hz.int (n:=0) (by simp)
theorem Hz.one {k:Nat}:Hz k 1:=Hz.int (n:=1) (fR (by omega))
end Eng
end
section
namespace Eng
def Tj (a x:Nat):Nat:=if x≤(x+a/x)/2 then x else Tj a ((x+a/x)/2)
 termination_by x
 decreasing_by omega
theorem Bg (a x:Nat) (hx:0<x):a<((x+a/x)/2+1)*((x+a/x)/2+1):=by
 generalize hq:a/x=q;have h1:a<(q+1)*x:=by rw[←hq];exact Nat.lt_of_lt_of_eq (Nat.lt_mul_div_succ a hx) (cv _ _)
 generalize hy:(x+q)/2=y;have h2:x+q+1≤2*(y+1):=by omega
 have h3:(x+q+1)*(x+q+1)≤(2*(y+1))*(2*(y+1)):=cg h2 h2;have h4:4*((q+1)*x)≤(x+q+1)*(x+q+1):=by
  rcases Nat.le_total x (q+1)with h|h
  ·obtain⟨d,hd⟩:=e8 h;have e:x+q+1=2*x+d:=by omega
   rw[e,hd];have:(2*x+d)*(2*x+d)=4*((x+d)*x)+d*d:=by grind
   omega
  ·obtain⟨d,hd⟩:=e8 h;have e:x+q+1=2*(q+1)+d:=by omega
   rw[e,hd];have:(2*(q+1)+d)*(2*(q+1)+d)=4*((q+1)*(q+1+d))+d*d:=by grind
   omega
 have h5:(2*(y+1))*(2*(y+1))=4*((y+1)*(y+1)):=by grind
 omega
theorem Nx {a x:Nat} (ha:0<a) (hx:0<x):0<(x+a/x)/2:=by
 by_cases h:x=1
 ·subst h;rw[Nat.div_one];omega
 ·have:2≤x:=by omega
  generalize a/x=q;omega
theorem La (a:Nat):∀x:Nat,a<(x+1)*(x+1)→Tj a x*Tj a x≤a∧a<(Tj a x+1)*(Tj a x+1):=by
 intro x
 induction x using Nat.strongRecOn with
 |_ x ih=>
  intro h;rw[Tj];by_cases hs:x≤(x+a/x)/2
  ·rw[if_pos hs];refine⟨?_,h⟩;rcases dc x with hx|hx
   ·subst hx;omega
   ·have h1:x≤a/x:=by omega
    exact(Nat.le_div_iff_mul_le hx).1 h1
  ·rw[if_neg hs];exact ih _ (cL hs) (Bg a x (cc (el _) (cL hs)))
theorem cf {r n:Nat} (h1:r*r≤n*n) (h2:n*n<(r+1)*(r+1)):r=n:=by
 have a:r≤n:=Nat.mul_self_le_mul_self_iff.1 h1;have b:n<r+1:=dl.1 h2;omega
theorem Ny (q:Rat):(q*q).num=q.num*q.num∧(q*q).den=q.den*q.den:=by
 have hc:Nat.Coprime (q.num*q.num).natAbs (q.den*q.den):=by rw[Pl];exact(q.reduced.mul_left q.reduced).mul_right (q.reduced.mul_left q.reduced)
 have hz:q.den*q.den≠0:=Nat.mul_ne_zero q.den_nz q.den_nz;have h:q*q=Rat.mk' (q.num*q.num) (q.den*q.den) hz hc:=by rw[Rat.mul_def,←Rat.normalize_eq_mk' _ _ hz hc]
 rw[h];exact⟨rfl,rfl⟩
theorem Py {a n:Nat} (h:a<10^(9*n)):a<(10^(9*((n+1)/2))+1)*(10^(9*((n+1)/2))+1):=by
 have h1:10^(9*n)≤10^(9*((n+1)/2)+9*((n+1)/2)):=cp (by omega) (by omega);rw[eb]at h1;generalize 10^(9*((n+1)/2))=x at *;have h2:(x+1)*(x+1)=x*x+2*x+1:=by grind
 omega
def qM (a:Nat):Nat:=Tj a a
theorem jJ (a:Nat):qM a*qM a≤a∧a<(qM a+1)*(qM a+1):=La a a (by
 have:(a+1)*(a+1)=a*a+2*a+1:=by grind
 have:=el (a*a);omega)
theorem Bh {a r t:Nat} (h1:r*r≤a) (h2:a<(r+1)*(r+1)) (h3:t*t≤a) (h4:a<(t+1)*(t+1)):r=t:=by
 have a1:r<t+1:=dl.1 (cc h1 h4);have a2:t<r+1:=dl.1 (cc h3 h2);omega
theorem Bi {a x:Nat} (h:a<(x+1)*(x+1)):Tj a x=qM a:=
 Bh (La a x h).1 (La a x h).2 (jJ a).1 (jJ a).2
theorem Vt {a n:Nat} (h:a<10^(9*n)):Tj a (10^(9*((n+1)/2)))=qM a:=Bi (Py h)
theorem Nz (m:Nat):qM (m*m)=m:=cf (jJ (m*m)).1 (jJ (m*m)).2
theorem N0 (a x:Nat):Tj a x=if x≤(x+a/x)/2 then x else Tj a ((x+a/x)/2):=by rw[Tj]
def Lb (a:Nat):Option Nat:=if qM a*qM a=a then some (qM a)else none
theorem N1 (m:Nat):Lb (m*m)=some m:=by
 unfold Lb;rw[Nz,if_pos rfl]
def Bj (q:Rat):Option (Nat×Nat):=if q.num<0 then none else match Lb q.num.natAbs,Lb q.den with
 |some a,some b=>some (a,b)
 |_,_=>none
theorem Fe (r:Rat):Bj (r*r)=some (r.num.natAbs,r.den):=by
 obtain⟨h1,h2⟩:=Ny r;have h3:¬(r*r).num<0:=by rw[h1];have:=Int.mul_self_le_mul_self (Int.le_refl 0) (show(0:Int)≤r.num.natAbs by omega);have e:r.num*r.num=((r.num.natAbs*r.num.natAbs:Nat):Int):=Int.natAbs_mul_self.symm;omega
 have h4:(r*r).num.natAbs=r.num.natAbs*r.num.natAbs:=by rw[h1,Pl]
 unfold Bj;rw[if_neg h3,h4,h2,N1,N1]
end Eng
end
section
namespace Eng
theorem K4 {x y B e:Rat} (h1: -B≤x) (h2:x≤B) (h3: -e≤y) (h4:y≤e):x*y≤B*e∧ -(B*e)≤x*y:=by
 have a:0≤(B-x)*(e+y):=gz (by grind) (by grind);have b:0≤(B+x)*(e-y):=gz (by grind) (by grind);have c:0≤(B-x)*(e-y):=gz (by grind) (by grind);have d:0≤(B+x)*(e+y):=gz (by grind) (by grind);constructor<;>grind
theorem Lc (a b:Rat):a<b∨a=b∨b<a:=by grind
structure Cs where
 v:Nat→Rat
 cau:∀e:Rat,0<e→∃N,∀m n,N≤m→N≤n→v m-v n≤e
namespace Cs
theorem bnd (x:Cs):∃B:Rat,0<B∧∃N,∀n,N≤n→ -B≤x.v n∧x.v n≤B:=by
 obtain⟨N,h⟩:=x.cau 1 (by grind);refine⟨(if 0≤x.v N then x.v N else-x.v N)+2,by split<;>grind,N,fun n hn=>?_⟩;have h1:=h n N hn (cr _);have h2:=h N n (cr _) hn;split<;>grind
def cst (a:Rat):Cs:=⟨fun _=>a,fun e he=>⟨0,fun _ _ _ _=>by grind⟩⟩
def add (x y:Cs):Cs:=⟨fun n=>x.v n+y.v n,fun e he=>by
 obtain⟨N,h⟩:=x.cau (e/2) (by grind);obtain⟨M,k⟩:=y.cau (e/2) (by grind);refine⟨max N M,fun m n hm hn=>?_⟩;have:=h m n (by omega) (by omega);have:=k m n (by omega) (by omega)
 grind⟩
def neg (x:Cs):Cs:=⟨fun n=> -x.v n,fun e he=>by
 obtain⟨N,h⟩:=x.cau e he;refine⟨N,fun m n hm hn=>?_⟩;have:=h n m hn hm
 grind⟩
theorem scale {B e:Rat} (hB:0<B) (he:0<e):0<e/B∧B*(e/B)=e:=by
 constructor
 ·rw[g5];exact hC he (h7.2 hB)
 ·rw[g5,Rat.mul_comm e,←hX,hP _ (by grind),hY]
def mul (x y:Cs):Cs:=⟨fun n=>x.v n*y.v n,fun e he=>by
 obtain⟨B,hB,N,h⟩:=x.bnd;obtain⟨B',hB',N',h'⟩:=y.bnd;obtain⟨p1,p2⟩:=scale hB (show(0:Rat)<e/2 by grind);obtain⟨q1,q2⟩:=scale hB' (show(0:Rat)<e/2 by grind);obtain⟨M,k⟩:=y.cau _ p1;obtain⟨M',k'⟩:=x.cau _ q1;refine⟨max (max N N') (max M M'),fun m n hm hn=>?_⟩;have a:=K4 (h m (by omega)).1 (h m (by omega)).2 (show-(e/2/B)≤y.v m-y.v n by have:=k n m (by omega) (by omega);grind) (k m n (by omega) (by omega));have b:=K4 (h' n (by omega)).1 (h' n (by omega)).2 (show-(e/2/B')≤x.v m-x.v n by have:=k' n m (by omega) (by omega);grind) (k' m n (by omega) (by omega));rw[p2]at a;rw[q2]at b
 grind⟩
def Z (f:Nat→Rat):Prop:=∀e:Rat,0<e→∃N,∀n,N≤n→ -e≤f n∧f n≤e
def rel (x y:Cs):Prop:=Z fun n=>x.v n-y.v n
theorem Z.add {f g:Nat→Rat} (hf:Z f) (hg:Z g):Z fun n=>f n+g n:=fun e he=>by
 obtain⟨N,h⟩:=hf (e/2) (by grind);obtain⟨M,k⟩:=hg (e/2) (by grind);refine⟨max N M,fun n hn=>?_⟩;have:=h n (by omega);have:=k n (by omega)
 grind
theorem Z.neg {f:Nat→Rat} (hf:Z f):Z fun n=> -f n:=fun e he=>by
 obtain⟨N,h⟩:=hf e he;refine⟨N,fun n hn=>?_⟩;have:=h n hn
 grind
theorem Z.mul (x:Cs) {f:Nat→Rat} (hf:Z f):Z fun n=>x.v n*f n:=fun e he=>by
 obtain⟨B,hB,N,h⟩:=x.bnd;obtain⟨p1,p2⟩:=scale hB he;obtain⟨M,k⟩:=hf _ p1;refine⟨max N M,fun n hn=>?_⟩;have a:=K4 (h n (by omega)).1 (h n (by omega)).2 (k n (by omega)).1 (k n (by omega)).2;rw[p2]at a;exact⟨a.2,a.1⟩
theorem Z.congr {f g:Nat→Rat} (hf:Z f) (h:∀n,f n=g n):Z g:=by
 have:f=g:=funext h;exact this▸hf
instance set:Setoid Cs where
 r:=rel
 iseqv:=⟨fun x e he=>⟨0,fun n _=>by grind⟩,fun h=>(Z.neg h).congr fun n=>by grind,fun h k=>(Z.add h k).congr fun n=>by grind⟩
def P (f:Nat→Rat):Prop:=∃e:Rat,0<e∧∃N,∀n,N≤n→e≤f n
theorem P.congr {f g:Nat→Rat} (hf:P f) (h:Z fun n=>f n-g n):P g:=by
 obtain⟨e,he,N,k⟩:=hf;obtain⟨M,j⟩:=h (e/2) (by grind);refine⟨e/2,by grind,max N M,fun n hn=>?_⟩;have:=k n (by omega);have:=j n (by omega)
 grind
theorem tri (x:Cs):P x.v∨Z x.v∨P fun n=> -x.v n:=by
 by_cases hz:Z x.v
 ·exact .inr (.inl hz)
 simp only[Z,Classical.not_forall,not_exists]at hz;obtain⟨e,he,hz⟩:=hz;obtain⟨N,h⟩:=x.cau (e/2) (by grind);obtain⟨n,hz⟩:=hz N;simp only[exists_prop]at hz;obtain⟨hn,hz⟩:=hz;by_cases h1:x.v n≤e
 ·refine .inr (.inr ⟨e/2,by grind,N,fun m hm=>?_⟩);have:=h m n hm hn
  grind
 ·refine .inl ⟨e/2,by grind,N,fun m hm=>?_⟩;have:=h n m hn hm
  grind
end Cs
def Rl:Type:=Quotient Cs.set
namespace Rl
def mk (x:Cs):Rl:=Quotient.mk Cs.set x
theorem rep (x:Rl):∃a,x=mk a:=(Quotient.exists_rep x).elim fun a h=>⟨a,h.symm⟩
theorem xC {x y:Cs} (h:∀n,x.v n=y.v n):mk x=mk y:=by
 have:x=y:=by cases x;cases y;congr;exact funext h
 rw[this]
theorem Bk {x y:Cs}:mk x=mk y↔Cs.Z fun n=>x.v n-y.v n:=⟨fun h=>Quotient.exact h,fun h=>Quotient.sound h⟩
def add (x y:Rl):Rl:=gm x y (fun a b=>mk (a.add b)) fun _ _ _ _ h k=>Bk.2 ((Cs.Z.add h k).congr fun n=>by simp only[Cs.add];grind)
def neg (x:Rl):Rl:=gp x (fun a=>mk a.neg) fun _ _ h=>Bk.2 ((Cs.Z.neg h).congr fun n=>by simp only[Cs.neg];grind)
def mul (x y:Rl):Rl:=gm x y (fun a b=>mk (a.mul b)) fun a b c d h k=>Bk.2 ((Cs.Z.add (Cs.Z.mul b h) (Cs.Z.mul c k)).congr fun n=>by simp only[Cs.mul];grind)
def ofR (a:Rat):Rl:=mk (.cst a)
instance:Add Rl:=⟨add⟩
instance:Neg Rl:=⟨neg⟩
instance:Sub Rl:=⟨fun x y=>x+ -y⟩
instance:Mul Rl:=⟨mul⟩
instance:OfNat Rl 0:=⟨ofR 0⟩
instance:OfNat Rl 1:=⟨ofR 1⟩
theorem iT (a b:Cs):mk a*mk b=mk (a.mul b):=rfl
theorem iU (a:Rat):ofR a=mk (.cst a):=rfl
theorem xZ (a b:Cs) (n:Nat):(a.add b).v n=a.v n+b.v n:=rfl
theorem z8 (a:Cs) (n:Nat):a.neg.v n= -a.v n:=rfl
theorem jN (a b:Cs) (n:Nat):(a.mul b).v n=a.v n*b.v n:=rfl
theorem jO (a:Rat) (n:Nat):(Cs.cst a).v n=a:=rfl
theorem ad0 (x:Rl):x+0=x:=by obtain⟨x,rfl⟩:=x.rep;exact xC fun n=>by simp only[xZ,jO];grind
theorem adc (x y:Rl):x+y=y+x:=by obtain⟨x,rfl⟩:=x.rep;obtain⟨y,rfl⟩:=y.rep;exact xC fun n=>by simp only[xZ];grind
theorem ada (x y z:Rl):x+y+z=x+(y+z):=by obtain⟨x,rfl⟩:=x.rep;obtain⟨y,rfl⟩:=y.rep;obtain⟨z,rfl⟩:=z.rep;exact xC fun n=>by simp only[xZ];grind
theorem adn (x:Rl):x+ -x=0:=by obtain⟨x,rfl⟩:=x.rep;exact xC fun n=>by simp only[xZ,z8,jO];grind
theorem sbs (x:Rl):x-x=0:=adn x
theorem mlc (x y:Rl):x*y=y*x:=by obtain⟨x,rfl⟩:=x.rep;obtain⟨y,rfl⟩:=y.rep;exact xC fun n=>by simp only[jN];grind
theorem ml1 (x:Rl):x*1=x:=by obtain⟨x,rfl⟩:=x.rep;exact xC fun n=>by simp only[jN,jO];grind
theorem ml0 (x:Rl):x*0=0:=by obtain⟨x,rfl⟩:=x.rep;exact xC fun n=>by simp only[jN,jO];grind
theorem zml (x:Rl):0*x=0:=by rw[mlc,ml0]
theorem mld (x y z:Rl):x*(y+z)=x*y+x*z:=by obtain⟨x,rfl⟩:=x.rep;obtain⟨y,rfl⟩:=y.rep;obtain⟨z,rfl⟩:=z.rep;exact xC fun n=>by simp only[jN,xZ];grind
theorem zn (a b:Rat):ofR (a+b)=ofR a+ofR b:=xC fun n=>by simp only[xZ,jO]
theorem jW (a:Rat):ofR (-a)= -ofR a:=xC fun n=>by simp only[z8,jO]
theorem kG (a b:Rat):ofR (a-b)=ofR a-ofR b:=xC fun n=>by simp only[xZ,z8,jO];grind
theorem qV (a b:Rat):ofR (a*b)=ofR a*ofR b:=xC fun n=>by simp only[jN,jO]
theorem xH:ofR 0=0:=rfl
theorem ch:ofR 1=1:=rfl
def pos (x:Rl):Prop:=gp x (fun a=>Cs.P a.v) fun _ _ h=>propext ⟨fun k=>k.congr h,fun k=>k.congr ((Cs.Z.neg h).congr fun n=>by grind)⟩
instance:LT Rl:=⟨fun x y=>pos (y-x)⟩
instance:LE Rl:=⟨fun x y=>¬y<x⟩
theorem Qm {x y:Rl}:x<y↔pos (y-x):=Iff.rfl
theorem not_lt {x y:Rl}:¬x<y↔y≤x:=Iff.rfl
theorem Bl {x y:Rl} (hx:pos x) (hy:pos y):pos (x+y):=by
 obtain⟨x,rfl⟩:=x.rep;obtain⟨y,rfl⟩:=y.rep;obtain⟨e,he,N,h⟩:=(show Cs.P x.v from hx);obtain⟨e',he',M,k⟩:=(show Cs.P y.v from hy);refine⟨e+e',by grind,max N M,fun n hn=>?_⟩;have:=h n (by omega);have:=k n (by omega);rw[xZ]
 grind
theorem cj {x y:Rl} (hx:pos x) (hy:pos y):pos (x*y):=by
 obtain⟨x,rfl⟩:=x.rep;obtain⟨y,rfl⟩:=y.rep;obtain⟨e,he,N,h⟩:=(show Cs.P x.v from hx);obtain⟨e',he',M,k⟩:=(show Cs.P y.v from hy);refine⟨e*e',hC he he',max N M,fun n hn=>?_⟩;have h1:=h n (by omega);have h2:=k n (by omega);rw[jN];have a:0≤(x.v n-e)*y.v n:=gz (by grind) (by grind);have b:0≤e*(y.v n-e'):=gz (by grind) (by grind)
 grind
theorem cm (x:Rl):pos x∨x=0∨pos (-x):=by
 obtain⟨x,rfl⟩:=x.rep;rcases x.tri with h|h|h
 ·exact .inl h
 ·exact .inr (.inl (Bk.2 (h.congr fun n=>by rw[jO];grind)))
 ·exact .inr (.inr h)
theorem HK:¬pos 0:=fun⟨e,he,N,h⟩=>by
 have:=h N (cr _);rw[jO]at this
 grind
theorem WJ (x:Rl): - -x=x:=by obtain⟨x,rfl⟩:=x.rep;exact xC fun n=>by simp only[z8];grind
theorem sb0 (x:Rl):x-0=x:=by obtain⟨x,rfl⟩:=x.rep;exact xC fun n=>by simp only[xZ,z8,jO];grind
theorem zsb (x:Rl):0-x= -x:=by obtain⟨x,rfl⟩:=x.rep;exact xC fun n=>by simp only[xZ,z8,jO];grind
theorem ng0: -(0:Rl)=0:=xC fun n=>by simp only[z8,jO];grind
theorem zad (x:Rl):0+x=x:=by rw[adc,ad0]
theorem vF {x:Rl}:0<x↔pos x:=by rw[Qm,sb0]
theorem YB {x:Rl}:x<0↔pos (-x):=by rw[Qm,zsb]
theorem HM {x y:Rl}:0<y-x↔x<y:=by rw[vF,Qm]
theorem N2 {x y:Rl}:x-y<0↔x<y:=by
 rw[YB,Qm];have: -(x-y)=y-x:=by obtain⟨x,rfl⟩:=x.rep;obtain⟨y,rfl⟩:=y.rep;exact xC fun n=>by simp only[xZ,z8];grind
 rw[this]
theorem jg {x y:Rl} (h:x-y=0):x=y:=by
 have:x=(x-y)+y:=by obtain⟨x,rfl⟩:=x.rep;obtain⟨y,rfl⟩:=y.rep;exact xC fun n=>by simp only[xZ,z8];grind
 rw[this,h,zad]
theorem lt_trans {x y z:Rl} (h:x<y) (k:y<z):x<z:=by
 have:z-x=(y-x)+(z-y):=by obtain⟨x,rfl⟩:=x.rep;obtain⟨y,rfl⟩:=y.rep;obtain⟨z,rfl⟩:=z.rep;exact xC fun n=>by simp only[xZ,z8];grind
 rw[Qm,this];exact Bl h k
theorem jY (x:Rl):¬x<x:=by rw[Qm,sbs];exact HK
theorem vG {x y:Rl} (h:x<y):¬y<x:=fun k=>jY _ (lt_trans h k)
theorem Xv (x y:Rl):x<y∨x=y∨y<x:=by
 rcases cm (y-x)with h|h|h
 ·exact .inl h
 ·exact .inr (.inl (jg h).symm)
 ·exact .inr (.inr (N2.1 (YB.2 h)))
theorem le_of_lt {x y:Rl} (h:x<y):x≤y:=vG h
theorem zJ {x:Rl}:x≤x:=jY x
theorem ZM {x y:Rl}:x≤y↔x<y∨x=y:=by
 constructor
 ·intro h;rcases Xv x y with k|k|k
  ·exact .inl k
  ·exact .inr k
  ·exact absurd k h
 ·rintro(h|rfl)
  ·exact le_of_lt h
  ·exact zJ
theorem jK {x y:Rl} (h:x≤y) (k:x≠y):x<y:=(ZM.1 h).resolve_right k
theorem le_trans {x y z:Rl} (h:x≤y) (k:y≤z):x≤z:=by
 rcases ZM.1 h with h|rfl
 ·rcases ZM.1 k with k|rfl
  ·exact le_of_lt (lt_trans h k)
  ·exact le_of_lt h
 ·exact k
theorem lt_of_lt_of_le {x y z:Rl} (h:x<y) (k:y≤z):x<z:=by
 rcases ZM.1 k with k|rfl
 ·exact lt_trans h k
 ·exact h
theorem lt_of_le_of_lt {x y z:Rl} (h:x≤y) (k:y<z):x<z:=by
 rcases ZM.1 h with h|rfl
 ·exact lt_trans h k
 ·exact k
theorem xD {x y:Rl} (h:x≤y) (k:y≤x):x=y:=by
 rcases ZM.1 h with h|h
 ·exact absurd h k
 ·exact h
theorem YC {x y:Rl} (h:x<y):x≠y:=fun k=>jY _ (k▸h)
theorem YD {x y:Rl} (h:x<y):y≠x:=fun k=>jY _ (k▸h)
theorem le_total (x y:Rl):x≤y∨y≤x:=by
 rcases Xv x y with h|h|h
 ·exact .inl (le_of_lt h)
 ·exact .inl (h▸zJ)
 ·exact .inr (le_of_lt h)
theorem ZN {a b:Rat}:ofR a<ofR b↔a<b:=by
 constructor
 ·rintro⟨e,he,N,h⟩;have:=h N (cr _);simp only[Cs.cst,Cs.add,Cs.neg]at this
  grind
 ·intro h;refine⟨b-a,by grind,0,fun n _=>?_⟩;simp only[Cs.cst,Cs.add,Cs.neg]
  grind
theorem jP {a b:Rat}:ofR a≤ofR b↔a≤b:=by
 rw[←not_lt,ZN]
 grind
theorem Q4 {a b:Rat}:ofR a=ofR b↔a=b:=by
 constructor
 ·intro h;rcases Lc a b with k|k|k
  ·exact absurd (ZN.2 k) (h▸jY _)
  ·exact k
  ·exact absurd (ZN.2 k) (h▸jY _)
 ·rintro rfl;rfl
theorem mul_pos {x y:Rl} (hx:0<x) (hy:0<y):0<x*y:=vF.2 (cj (vF.1 hx) (vF.1 hy))
theorem Ld {x y:Rl} (hx:0<x) (hy:0<y):0<x+y:=vF.2 (Bl (vF.1 hx) (vF.1 hy))
theorem Io {x y:Rl} (z:Rl):x+z<y+z↔x<y:=by
 rw[Qm,Qm];have:y+z-(x+z)=y-x:=by obtain⟨x,rfl⟩:=x.rep;obtain⟨y,rfl⟩:=y.rep;obtain⟨z,rfl⟩:=z.rep;exact xC fun n=>by simp only[xZ,z8];grind
 rw[this]
theorem Bm {x y:Rl} (z:Rl):x+z≤y+z↔x≤y:=by rw[←not_lt,←not_lt,Io]
theorem Bn {x y:Rl}: -x< -y↔y<x:=by
 rw[Qm,Qm];have: -y- -x=x-y:=by obtain⟨x,rfl⟩:=x.rep;obtain⟨y,rfl⟩:=y.rep;exact xC fun n=>by simp only[xZ,z8];grind
 rw[this]
theorem jE {x:Rl}: -x<0↔0<x:=by rw[YB,WJ,vF]
theorem xE {x:Rl}:0< -x↔x<0:=by rw[vF,YB]
theorem HN (x y:Rl):x* -y= -(x*y):=by obtain⟨x,rfl⟩:=x.rep;obtain⟨y,rfl⟩:=y.rep;exact xC fun n=>by simp only[jN,z8];grind
theorem Pz (x y:Rl): -x*y= -(x*y):=by rw[mlc,HN,mlc]
theorem mul_neg {x y:Rl} (hx:0<x) (hy:y<0):x*y<0:=by
 rw[←xE,←HN];exact mul_pos hx (xE.2 hy)
theorem neg_mul_neg {x y:Rl} (hx:x<0) (hy:y<0):0<x*y:=by
 have:=mul_pos (xE.2 hx) (xE.2 hy)
 rwa [HN,Pz,WJ]at this
theorem iV {x:Rl} (h:x≠0):0<x*x:=by
 rcases Xv x 0 with k|k|k
 ·exact neg_mul_neg k k
 ·exact absurd k h
 ·exact mul_pos k k
theorem tC (x:Rl):0≤x*x:=by
 by_cases h:x=0
 ·subst h;rw[ml0];exact zJ
 ·exact le_of_lt (iV h)
theorem mul_eq_zero {x y:Rl} (h:x*y=0):x=0∨y=0:=by
 rcases Xv x 0 with k|k|k
 ·rcases Xv y 0 with j|j|j
  ·exact absurd h (YD (neg_mul_neg k j))
  ·exact .inr j
  ·exact absurd h (by rw[mlc];exact YC (mul_neg j k))
 ·exact .inl k
 ·rcases Xv y 0 with j|j|j
  ·exact absurd h (YC (mul_neg k j))
  ·exact .inr j
  ·exact absurd h (YD (mul_pos k j))
theorem Ip {x y:Rl} (hx:0≤x) (hy:0≤y):0≤x*y:=by
 rcases ZM.1 hx with hx|hx
 ·rcases ZM.1 hy with hy|hy
  ·exact le_of_lt (mul_pos hx hy)
  ·rw[←hy,ml0];exact zJ
 ·rw[←hx,zml];exact zJ
theorem arch (c:Rat) {d:Rat} (hd:0<d):∃k:Nat,c<(k:Rat)*d:=by
 refine⟨((c/d).floor+1).toNat,?_⟩;have h1:c/d<((c/d).floor+1:Int):=by
  have:=Rat.lt_floor_add_one (c/d)
  simpa using this
 have h2:(((c/d).floor+1:Int):Rat)≤((((c/d).floor+1).toNat:Nat):Rat):=by
  have:(c/d).floor+1≤(((c/d).floor+1).toNat:Int):=Int.self_le_toNat _
  exact_mod_cast this
 have h3:c/d<((((c/d).floor+1).toNat:Nat):Rat):=by grind
 have h4:(c/d)*d=c:=by rw[g5,hX,Rat.inv_mul_cancel _ (by grind),Rat.mul_one]
 have:=Rat.mul_lt_mul_of_pos_right h3 hd
 rwa [h4]at this
theorem tD {c d:Rat} (hc:0≤c) (hd:0<d):∃s:Rat,0≤s∧s*s≤c∧c<(s+d)*(s+d):=by
 obtain⟨K,hK⟩:=arch (c+1) hd;have a3:c<((K:Rat)*d)*((K:Rat)*d):=by
  have:0≤((K:Rat)*d-1)*((K:Rat)*d):=gz (by grind) (by grind)
  grind
 clear hK
 induction K with
 |zero=>exact absurd a3 (by have:((0:Nat):Rat)=0:=rfl;rw[this];grind)
 |succ K ih=>
  by_cases h:c<((K:Rat)*d)*((K:Rat)*d)
  ·exact ih h
  ·refine⟨(K:Rat)*d,gz (by exact_mod_cast el K) (g7 hd),by grind,?_⟩;have:((K+1:Nat):Rat)*d=(K:Rat)*d+d:=by
    rw[Rat.natCast_add];have:((1:Nat):Rat)=1:=rfl
    grind
   rw[this]at a3;exact a3
theorem tE {a b:Rat} (hb:0≤b) (h:a*a<b*b):a<b:=by
 rcases Lc a b with k|k|k
 ·exact k
 ·subst k;exact absurd h (by grind)
 ·have:=gz (show(0:Rat)≤a-b by grind) (show(0:Rat)≤a+b by grind)
  grind
noncomputable def rtS (c:Rat) (n:Nat):Rat:=if h:0≤c then Classical.choose (tD h (show(0:Rat)<1/((n:Rat)+1)by
 have:(0:Rat)≤n:=by exact_mod_cast el n
 rw[g5];exact hC (by grind) (h7.2 (by grind))))else 0
theorem Ji {c:Rat} (h:0≤c) (n:Nat):0≤rtS c n∧rtS c n*rtS c n≤c∧c<(rtS c n+1/((n:Rat)+1))*(rtS c n+1/((n:Rat)+1)):=by
 unfold rtS;rw[dif_pos h];exact Classical.choose_spec (p:=fun s:Rat=>0≤s∧s*s≤c∧c<(s+1/((n:Rat)+1))*(s+1/((n:Rat)+1))) _
theorem Zh {e:Rat} (he:0<e):∃N:Nat,∀n:Nat,N≤n→0<1/((n:Rat)+1)∧1/((n:Rat)+1)≤e:=by
 obtain⟨N,hN⟩:=arch 1 he;refine⟨N,fun n hn=>?_⟩;have h1:(N:Rat)≤n:=by exact_mod_cast hn
 have h0:(0:Rat)≤n:=by exact_mod_cast el n
 have hp:(0:Rat)<(n:Rat)+1:=by grind
 have i:((n:Rat)+1)*((n:Rat)+1)⁻¹=1:=hP _ (by grind);have ip:0<((n:Rat)+1)⁻¹:=h7.2 hp;rw[g5,hY];refine⟨ip,?_⟩;have h2:1≤((n:Rat)+1)*e:=by
  have:=gz (show(0:Rat)≤(n:Rat)+1-N by grind) (g7 he)
  grind
 have h3:=gz (g7 ip) (show(0:Rat)≤((n:Rat)+1)*e-1 by grind);clear h2 hN;generalize ((n:Rat)+1)⁻¹=u at *;generalize (n:Rat)+1=w at *;have h4:u*(w*e-1)=(w*u)*e-u:=by grind
 rw[h4,i]at h3
 grind
theorem iW {c:Rat} (h:0≤c):∀e:Rat,0<e→∃N,∀m n,N≤m→N≤n→rtS c m-rtS c n≤e:=by
 intro e he;obtain⟨N,hN⟩:=Zh he;refine⟨N,fun m n _ hn=>?_⟩;obtain⟨a1,a2,a3⟩:=Ji h m;obtain⟨b1,b2,b3⟩:=Ji h n;obtain⟨u1,u2⟩:=hN n hn;have:=tE (show 0≤rtS c n+1/((n:Rat)+1)by grind) (show rtS c m*rtS c m<_ by grind)
 grind
noncomputable def jh (c:Rat):Rl:=if h:0≤c then mk ⟨rtS c,iW h⟩else 0
theorem kH {c:Rat} (h:0≤c):jh c*jh c=ofR c:=by
 unfold jh;rw[dif_pos h,iT,iU,Bk];simp only[Cs.mul,Cs.cst];intro e he;obtain⟨p1,p2⟩:=Cs.scale (show(0:Rat)<2*(c+1)+1 by grind) he;obtain⟨N,hN⟩:=Zh p1;obtain⟨M,hM⟩:=Zh (show(0:Rat)<1 by grind);refine⟨max N M,fun n hn=>?_⟩;obtain⟨b1,b2,b3⟩:=Ji h n;obtain⟨u1,u2⟩:=hN n (by omega);obtain⟨_,u3⟩:=hM n (by omega);have hs:rtS c n≤c+1:=by
  clear b3 u1 u2 u3 p1 p2;generalize rtS c n=s at *;rcases Lc s (c+1)with k|k|k
  ·exact g7 k
  ·grind
  ·have q1:=gz (show(0:Rat)≤s-(c+1)by grind) b1;have q2:=gz (show(0:Rat)≤s-(c+1)by grind) (show(0:Rat)≤c+1 by grind);have q3:=gz h h
   grind
 show-e≤rtS c n*rtS c n-c∧rtS c n*rtS c n-c≤e;clear hN hM;generalize 1/((n:Rat)+1)=d at *;generalize rtS c n=s at *;generalize e/(2*(c+1)+1)=f at *;have k1:0≤(c+1-s)*d:=gz (by grind) (by grind);have k2:0≤(1-d)*d:=gz (by grind) (by grind);have k3:0≤(2*(c+1)+1)*(f-d):=gz (by grind) (by grind)
 grind
theorem Zi (c:Rat):0≤jh c:=by
 unfold jh;split
 ·rename_i h;rintro⟨e,he,N,k⟩;have:=k N (cr _);have h1:=(Ji h N).1;simp only[Cs.add,Cs.neg,Cs.cst]at this
  grind
 ·exact zJ
theorem HO:jh 0=0:=by
 have:=kH (c:=0) (by grind);rcases mul_eq_zero (this.trans xH)with h|h<;>exact h
theorem N3 {c:Rat} (h:0<c):0<jh c:=by
 refine jK (Zi c) fun k=>?_
 have:=kH (c:=c) (by grind);rw[←k,ml0,←xH,Q4]at this
 grind
theorem N4 {x y:Rl} (hx:0≤x) (hy:0≤y) (h:x*x=y*y):x=y:=by
 have e:(x-y)*(x+y)=0:=by
  have:(x-y)*(x+y)=x*x-y*y:=by obtain⟨x,rfl⟩:=x.rep;obtain⟨y,rfl⟩:=y.rep;exact xC fun n=>by simp only[jN,xZ,z8];grind
  rw[this,h,sbs]
 rcases mul_eq_zero e with e|e
 ·exact jg e
 ·have a3:x=0:=by
   refine xD ?_ hx;rw[←e];have:=(Bm x).2 hy
   rwa [zad,adc y x]at this
  have hy0:y=0:=by rw[a3,zad]at e;exact e
  rw[a3,hy0]
theorem P0 {a:Rat} (h:0≤a):jh (a*a)=ofR a:=
 N4 (Zi _) (jP.2 h) (by rw[kH (gz h h),qV])
end Rl
end Eng
end
section
namespace Eng
namespace Rl
noncomputable def sg (x:Rl):Int:=open Classical in if 0<x then 1 else if x<0 then-1 else 0
theorem Xw {x:Rl} (h:0<x):sg x=1:=by simp[sg,h]
theorem K7 {x:Rl} (h:x<0):sg x= -1:=by simp[sg,h,vG h]
theorem zL:sg 0=0:=by simp[sg,jY]
theorem zh (x:Rl):(0<x∧sg x=1)∨(x=0∧sg x=0)∨(x<0∧sg x= -1):=by
 rcases Xv 0 x with h|h|h
 ·exact .inl ⟨h,Xw h⟩
 ·exact .inr (.inl ⟨h.symm,h▸zL⟩)
 ·exact .inr (.inr ⟨h,K7 h⟩)
theorem HQ {x:Rl}:sg x=1↔0<x:=by
 rcases zh x with⟨h,e⟩|⟨h,e⟩|⟨h,e⟩<;>simp[e]
 ·exact h
 ·subst h;exact jY _
 ·exact vG h
theorem K8 {x:Rl}:sg x= -1↔x<0:=by
 rcases zh x with⟨h,e⟩|⟨h,e⟩|⟨h,e⟩<;>simp[e]
 ·exact vG h
 ·subst h;exact jY _
 ·exact h
theorem xe {x:Rl}:sg x=0↔x=0:=by
 rcases zh x with⟨h,e⟩|⟨h,e⟩|⟨h,e⟩<;>simp[e]
 ·exact YD h
 ·exact h
 ·exact YC h
theorem tF (x:Rl):sg (-x)= -sg x:=by
 rcases zh x with⟨h,e⟩|⟨h,e⟩|⟨h,e⟩<;>rw[e]
 ·exact K7 (jE.2 h)
 ·subst h;rw[ng0];exact zL
 ·exact Xw (xE.2 h)
theorem cn (x y:Rl):sg (x*y)=sg x*sg y:=by
 rcases zh x with⟨h,e⟩|⟨h,e⟩|⟨h,e⟩<;>rcases zh y with⟨k,f⟩|⟨k,f⟩|⟨k,f⟩<;>rw[e,f]
 ·exact Xw (mul_pos h k)
 ·rw[k,ml0,zL];rfl
 ·exact K7 (mul_neg h k)
 ·rw[h,zml,zL];rfl
 ·rw[h,zml,zL];rfl
 ·rw[h,zml,zL];rfl
 ·exact K7 (by rw[mlc];exact mul_neg k h)
 ·rw[k,ml0,zL];rfl
 ·exact Xw (neg_mul_neg h k)
def sr (a:Rat):Int:=if 0<a then 1 else if a<0 then-1 else 0
theorem Bo (a:Rat):sr a=sg (ofR a):=by
 have e1:0<ofR a↔0<a:=ZN (a:=0);have e2:ofR a<0↔a<0:=ZN (b:=0);unfold sr sg;simp only[e1,e2]
theorem kh (a:Rat):(0<a∧sr a=1)∨(a=0∧sr a=0)∨(a<0∧sr a= -1):=by
 unfold sr
 grind
theorem Iq (x y s:Rl) (hs:0≤s):
 sg (x+y*s)=if sg (y*s)=0∨sg x=sg (y*s)then sg x else if sg x=0 then sg (y*s)else sg x*sg (x*x-y*y*(s*s)):=by
 have hp:∀a b:Rl,sg a=sg b→sg a≠0→sg (a+b)=sg a:=by
  intro a b h h0;rcases zh a with⟨k,e⟩|⟨k,e⟩|⟨k,e⟩
  ·rw[e]at h ⊢;exact Xw (Ld k (HQ.1 h.symm))
  ·exact absurd e h0
  ·rw[e]at h ⊢;have hb:=K8.1 h.symm;rw[K8,←xE];have: -(a+b)= -a+ -b:=by obtain⟨a,rfl⟩:=a.rep;obtain⟨b,rfl⟩:=b.rep;exact xC fun n=>by simp only[xZ,z8];grind
   rw[this];exact Ld (xE.2 k) (xE.2 hb)
 by_cases h1:sg (y*s)=0
 ·rw[if_pos (.inl h1),xe.1 h1,ad0]
 by_cases h2:sg x=sg (y*s)
 ·rw[if_pos (.inr h2)];exact hp _ _ h2 (h2▸h1)
 rw[if_neg (by simp[h1,h2])];by_cases h3:sg x=0
 ·rw[if_pos h3,xe.1 h3,zad]
 rw[if_neg h3];have h4:sg x=sg (-(y*s)):=by rw[tF];rcases zh x with⟨_,e⟩|⟨_,e⟩|⟨_,e⟩<;>rcases zh (y*s)with⟨_,f⟩|⟨_,f⟩|⟨_,f⟩<;>simp[e,f]at h1 h2 h3 ⊢
 have h5:=hp _ _ h4 h3;have h6:x*x-y*y*(s*s)=(x+y*s)*(x+ -(y*s)):=by obtain⟨x,rfl⟩:=x.rep;obtain⟨y,rfl⟩:=y.rep;obtain⟨s,rfl⟩:=s.rep;exact xC fun n=>by simp only[xZ,z8,jN];grind
 rw[h6,cn,h5];rcases zh x with⟨_,e⟩|⟨_,e⟩|⟨_,e⟩<;>simp[e]at h3 ⊢
def tw (a b m:Rat):Int:=if sr b*sr m=0∨sr a=sr b*sr m then sr a else if sr a=0 then sr b*sr m else sr a*sr (a*a-b*b*m)
theorem Bp {m:Rat} (h:0≤m):sg (jh m)=sr m:=by
 rcases kh m with⟨k,e⟩|⟨k,e⟩|⟨k,e⟩
 ·rw[e];exact Xw (N3 k)
 ·subst k;rw[HO,zL,e]
 ·grind
theorem HR (a b:Rat) {m:Rat} (h:0≤m):tw a b m=sg (ofR a+ofR b*jh m):=by
 rw[Iq _ _ _ (Zi m),kH h,cn,Bp h,←Bo,←Bo,←qV,←qV,←qV,←kG,←Bo];rfl
noncomputable def qv (a b c d m n:Rat):Rl:=(ofR a+ofR b*jh m)+(ofR c+ofR d*jh m)*jh n
def qs (a b c d m n:Rat):Int:=
 if tw c d m*sr n=0∨tw a b m=tw c d m*sr n then tw a b m else if tw a b m=0 then tw c d m*sr n else
  tw a b m*tw (a*a+b*b*m-n*(c*c+d*d*m)) (2*(a*b-n*(c*d))) m
theorem co (a b c d:Rat) {m n:Rat} (hm:0≤m) (hn:0≤n):qs a b c d m n=sg (qv a b c d m n):=by
 unfold qv;rw[Iq _ _ _ (Zi n),kH hn,cn,Bp hn,←HR _ _ hm,←HR _ _ hm];unfold qs;have:(ofR a+ofR b*jh m)*(ofR a+ofR b*jh m)-(ofR c+ofR d*jh m)*(ofR c+ofR d*jh m)*ofR n
  =ofR (a*a+b*b*m-n*(c*c+d*d*m))+ofR (2*(a*b-n*(c*d)))*jh m:=by
  have e:∀s:Rl,s*s=ofR m→(ofR a+ofR b*s)*(ofR a+ofR b*s)-(ofR c+ofR d*s)*(ofR c+ofR d*s)*ofR n
   =(ofR a*ofR a+ofR b*ofR b*ofR m-ofR n*(ofR c*ofR c+ofR d*ofR d*ofR m))+ofR (2*(a*b-n*(c*d)))*s:=by
   intro s h;rw[←h];obtain⟨s,rfl⟩:=s.rep;exact xC fun n=>by simp only[xZ,z8,jN,jO];grind
  rw[e _ (kH hm)];simp only[kG,zn,qV]
 rw[this,←HR _ _ hm]
end Rl
end Eng
end
section
namespace Eng
open Rl
structure Rt where
 a:Rat
 b:Rat
 c:Rat
structure Vc where
 x:Rat
 y:Rat
structure P5 where
 x:Rat
 u:Rat
 y:Rat
 v:Rat
 c:Rat
structure Ln where
 a:Rat
 b:Rat
 c:Rat
structure Ci where
 x:Rat
 y:Rat
 q:Rat
structure Cu where
 arc:Bool
 ln:Ln
 ci:Ci
 cw:Bool
 fr:P5
 tt:P5
 jk:R4
def sqQ (c:Rat):Option Rat:=match Bj c with
 |some (m,n)=>some ((m:Rat)/(n:Rat))
 |none=>none
def rtQ (a:Rat):Rt:=⟨a,0,0⟩
def Jj (a b c:Rat):Rt:=if b=0∨c=0 then rtQ a else⟨a,b,c⟩
def YE (a b c:Rat):Rt:=match sqQ c with
 |some s=>rtQ (a+b*s)
 |none=>Jj a b c
noncomputable def rv (r:Rt):Rl:=ofR r.a+ofR r.b*jh r.c
def w5 (r:Rt):Rat:=r.a*r.a-r.b*r.b*r.c
def Bq (r:Rt) (a:Rat):Rt:=⟨r.a+a,r.b,r.c⟩
def iX (r:Rt):Rt:=⟨-r.a, -r.b,r.c⟩
def mulC (r s:Rt) (c:Rat):Rt:=Jj (r.a*s.a+r.b*s.b*c) (r.a*s.b+r.b*s.a) c
def XQ (r s:Rt):Rat:=if r.b=0 then s.c else r.c
def Ff (r s:Rt):Prop:=r.b=0∨s.b=0∨r.c=s.c
def Zj (r s:Rt):Rt:=mulC r s (XQ r s)
def eR (r s:Rt):Rt:=Jj (r.a+s.a) (r.b+s.b) (XQ r s)
def eS (r:Rt):Rt:=Jj (r.a*(1/w5 r)) (-(r.b*(1/w5 r))) r.c
def atV (v:Vc):P5:=⟨v.x,0,v.y,0,0⟩
def kI (a b c:Rat):Rt:=if b=0 then rtQ a else⟨a,b,c⟩
def xP (p:P5):Rt:=kI p.x p.u p.c
def yP (p:P5):Rt:=kI p.y p.v p.c
noncomputable def px (p:P5):Rl:=ofR p.x+ofR p.u*jh p.c
noncomputable def py (p:P5):Rl:=ofR p.y+ofR p.v*jh p.c
def okP (p:P5):Prop:=(p.u=0∧p.v=0∧p.c=0)∨(¬(p.u=0∧p.v=0)∧0<p.c∧sqQ p.c=none)
noncomputable def jb (p q:P5):Int:=if sg (px p-px q)=0 then sg (py p-py q)else sg (px p-px q)
def Zk (p q:P5):Prop:=px p=px q∧py p=py q
noncomputable def wC (p q:P5):Bool:=jb p q==0
theorem yu {p q:P5}:jb p q=0↔Zk p q:=by
 unfold jb Zk;split
 ·rename_i h;rw[xe];exact⟨fun k=>⟨jg (xe.1 h),jg k⟩,fun k=>by rw[k.2,sbs]⟩
 ·rename_i h;refine⟨fun k=>absurd k h,fun k=>absurd ?_ h⟩;rw[k.1,sbs,zL]
theorem zR {p q:P5}:wC p q=true↔Zk p q:=by
 unfold wC;rw[beq_iff_eq,yu]
def vZ (p:P5):P5:=⟨-p.x, -p.u,p.y,p.v,p.c⟩
noncomputable def lnv (l:Ln) (p:P5):Rl:=ofR l.a*px p+ofR l.b*py p-ofR l.c
noncomputable def civ (c:Ci) (p:P5):Rl:=(px p-ofR c.x)*(px p-ofR c.x)+(py p-ofR c.y)*(py p-ofR c.y)-ofR c.q
def eV (l m:Ln):Bool:=decide (l.a*m.b=l.b*m.a)&&(decide (l.a*m.c=l.c*m.a)&&decide (l.b*m.c=l.c*m.b))
def Fg (c d:Ci):Bool:=decide (c.x=d.x)&&(decide (c.y=d.y)&&decide (c.q=d.q))
def ZO (l m:Ln):Rat:=l.a*m.b-m.a*l.b
def Br (l m:Ln):Rat:=l.c*m.b-m.c*l.b
def Bs (l m:Ln):Rat:=l.a*m.c-m.a*l.c
def ZP (l m:Ln):List P5:=if ZO l m≠0 then [atV ⟨Br l m/ZO l m,Bs l m/ZO l m⟩]else []
def G8 (l:Ln):Rat:=l.a*l.a+l.b*l.b
def iY (l:Ln) (x y:Rat):Rat:=l.a*x+l.b*y-l.c
def WK (l:Ln) (c:Ci):Rat:=G8 l*c.q-iY l c.x c.y*iY l c.x c.y
def zt (x u y v c:Rat):P5:=match sqQ c with
 |some s=>atV ⟨x+u*s,y+v*s⟩
 |none=>⟨x,u,y,v,c⟩
def cu (l:Ln) (c:Ci):Rat:=iY l c.x c.y/G8 l
def Fh (l:Ln) (c:Ci):Rat:=c.x-cu l c*l.a
def Fi (l:Ln) (c:Ci):Rat:=c.y-cu l c*l.b
def lcP (l:Ln) (c:Ci):P5:=zt (Fh l c) (-(l.b/G8 l)) (Fi l c) (-(-l.a/G8 l)) (WK l c)
def lcQ (l:Ln) (c:Ci):P5:=zt (Fh l c) (l.b/G8 l) (Fi l c) (-l.a/G8 l) (WK l c)
noncomputable def Xx (l:Ln) (c:Ci):List P5:=
 if WK l c<0 then []else if WK l c=0 then [atV ⟨Fh l c,Fi l c⟩]else
 if 0<jb (lcP l c) (lcQ l c)then [lcQ l c,lcP l c]else [lcP l c,lcQ l c]
def yv (c d:Ci):Prop:=c.x=d.x∧c.y=d.y
instance (c d:Ci):Decidable (yv c d):=inferInstanceAs (Decidable (c.x=d.x∧c.y=d.y))
def Fj (c d:Ci):Ln:=⟨2*(d.x-c.x),2*(d.y-c.y),d.x*d.x+d.y*d.y-d.q-(c.x*c.x+c.y*c.y-c.q)⟩
noncomputable def yT (c d:Ci):List P5:=if yv c d then []else Xx (Fj c d) c
noncomputable def Q5 (c d:Cu):List P5:=
 if c.arc=true then(if d.arc=true then yT c.ci d.ci else Xx d.ln c.ci)
 else if d.arc=true then Xx c.ln d.ci else ZP c.ln d.ln
def ju (c:Ci):P5:=zt c.x (-1) c.y 0 c.q
def xW (c:Ci):P5:=zt c.x 1 c.y 0 c.q
noncomputable def Zl (c:Cu) (p:P5):Bool:=if c.arc=true then sg (civ c.ci p)==0 else sg (lnv c.ln p)==0
noncomputable def upB (c:Ci) (p:P5):Bool:=decide (0<sg (py p-ofR c.y))||(sg (py p-ofR c.y)==0&&decide (0<sg (px p-ofR c.x)))
noncomputable def qw (c:Ci) (p q:P5):Int:=
 if upB c p=upB c q then(if upB c p=true then-sg (px p-px q)else sg (px p-px q))else if upB c q=true then-1 else 1
noncomputable def wV (c:Ci) (f p q:P5):Int:=
 if decide (qw c p f<0)=decide (qw c q f<0)then qw c p q else if qw c q f<0 then-1 else 1
noncomputable def zS (c:Cu) (p q:P5):Int:=
 if c.arc=true then(if c.cw=true then wV ⟨-c.ci.x,c.ci.y,c.ci.q⟩ (vZ c.fr) (vZ p) (vZ q)else wV c.ci c.fr p q)
 else if 0<jb c.fr c.tt then-jb p q else jb p q
noncomputable def yU (c:Cu) (p:P5):Bool:=Zl c p&&(decide (zS c c.fr p≤0)&&decide (zS c p c.tt≤0))
def Lf (c:Cu):Cu:={c with fr:=c.tt,tt:=c.fr,cw:=c.arc&&!c.cw}
noncomputable def Q6 (c:Cu):List P5→P5→List P5
 |[],p=>[p]
 |q::r,p=>if zS c q p<0 then q::Q6 c r p else if wC q p=true then q::r else p::q::r
noncomputable def yw (c:Cu) (l:List P5):List P5:=l.foldl (Q6 c) []
def ji (c:Cu):List P5→List Cu
 |p::q::r=>{c with fr:=p,tt:=q}::ji c (q::r)
 |_=>[]
noncomputable def jj (c:Cu) (l:List P5):List Cu:=if l.all (yU c)=true then ji c (yw c (c.fr::c.tt::l))else []
def jw (c d:Cu):Bool:=if c.arc=d.arc then(if c.arc=true then Fg c.ci d.ci else eV c.ln d.ln)else false
noncomputable def eqC (c d:Cu):Bool:=jw c d&&(c.cw==d.cw&&(wC c.fr d.fr&&wC c.tt d.tt))
noncomputable def Xy (c d:Cu):List P5:=if jw c d=true then [c.fr,c.tt,d.fr,d.tt]else Q5 c d
noncomputable def zO (c d:Cu):List P5:=yw c ((Xy c d).filter fun p=>yU c p&&yU d p)
def Z4:R4:=⟨false,[],false,[]⟩
def Jk (a b:Vc):Ln:=⟨a.y-b.y,b.x-a.x,(a.y-b.y)*a.x+(b.x-a.x)*a.y⟩
def oo (a b:Vc):Option Cu:=if a.y-b.y=0∧b.x-a.x=0 then none else some ⟨false,Jk a b,⟨0,0,0⟩,false,atV a,atV b,Z4⟩
def Lg (c:Ci):List Cu:=[⟨true,⟨0,0,0⟩,c,false,ju c,xW c,Z4⟩,⟨true,⟨0,0,0⟩,c,false,xW c,ju c,Z4⟩]
noncomputable def WL (c:Cu):Bool:=(if c.arc=true then decide (0<c.ci.q)else !c.cw&&decide (¬(c.ln.a=0∧c.ln.b=0)))&&(Zl c c.fr&&(Zl c c.tt&&!wC c.fr c.tt))
noncomputable def W3 (c:Cu) (p:P5):Bool:=yU c p&&(!wC c.fr p&&!wC c.tt p)
noncomputable def ya (c:Cu):Bool:=!c.arc&&(sg (px c.fr-px c.tt)==0)
noncomputable def xF (c:Cu) (p:P5):Int×Rt:=
 if ya c=true then(2,⟨0,0,0⟩)else if c.arc=false then(0,rtQ (-c.ln.a/c.ln.b))else
 if sg (py p-ofR c.ci.y)=0 then((if c.cw=true then 1 else-1),⟨0,0,0⟩)else
 (0,Zj (iX (Bq (xP p) (-c.ci.x))) (eS (Bq (yP p) (-c.ci.y))))
def yb (c:Cu):Int:=if c.arc=false then 0 else if c.cw=true then-1 else 1
def cz (c d:Cu):Int:=if yb c=yb d then(if yb c=0 then 0 else-yb c*sr (c.ci.q-d.ci.q))else if yb c<yb d then-1 else 1
noncomputable def Vu (c d:Cu):Int:=
 if wC c.fr d.fr=false then 0 else
 if(xF c c.fr).1=(xF d d.fr).1 then
  (if(xF c c.fr).1=2 then 0 else if(xF c c.fr).1=0 then
   (if sg (rv (xF c c.fr).2-rv (xF d d.fr).2)=0 then cz c d else sg (rv (xF c c.fr).2-rv (xF d d.fr).2))
  else(xF c c.fr).1*sr (c.ci.q-d.ci.q))
 else if(xF c c.fr).1<(xF d d.fr).1 then-1 else 1
noncomputable def Fk (c d:Cu):Int:=if jb c.fr d.fr=0 then(if Vu c d=0 then jb c.tt d.tt else Vu c d)else jb c.fr d.fr
noncomputable def G9:List Cu→Cu→List Cu
 |[],p=>[p]
 |q::r,p=>if Fk q p≤0 then q::G9 r p else p::q::r
noncomputable def qB (p:Cu):Cu:=if 0<jb p.fr p.tt then Lf p else p
noncomputable def zi (c:Cu):List Cu:=
 ((if c.arc=true then jj c ((if W3 c (ju c.ci)=true then [ju c.ci]else [])++(if W3 c (xW c.ci)=true then [xW c.ci]else []))else [c]).map qB).foldl G9 []
noncomputable def iZ (all:List Cu) (i:Nat) (c:Cu):List P5:=((b9 all.length).filter (· ≠i)).flatMap fun k=>match all[k]? with
 |some d=>zO c d
 |none=>[]
noncomputable def Xz (l:List Cu):List Cu:=
 let all:=l.flatMap zi
 (b9 all.length).flatMap fun i=>match all[i]? with
  |some c=>jj c (iZ all i c)
  |none=>[]
def kJ (f:Nat→Bool):Nat→Int
 |0=> -1
 |n+1=>if f n=true then(n:Int)else kJ f n
noncomputable def DM (out:List Cu) (c:Cu) (j:Nat):Bool:=match out[j]? with
 |some d=>eqC d c
 |none=>false
noncomputable def w6 (out:List Cu) (c:Cu):List Cu:=
 if kJ (DM out c) out.length<0 then out++[c]else out.eraseIdx (kJ (DM out c) out.length).toNat
noncomputable def Ir (l:List Cu):List Cu:=l.foldl w6 []
end Eng
end
section
namespace Eng
open Rl
noncomputable def Qb (c:Cu) (x:Rl):Bool:=decide (sg (px c.fr-x)≤0)&&decide (sg (x-px c.tt)≤0)
noncomputable def xG (c:Cu) (p:P5):Int×Bool:=
 if Qb c (px p)=false then(0,false)else
 if ya c=true then(if 0<sg (py p-py c.tt)then(1,true)else if sg (py p-py c.fr)<0 then(-1,true)else(0,true))else
 if c.arc=false then(sg (lnv c.ln p)*sr c.ln.b,true)else
 if c.cw=true then(if sg (py p-ofR c.ci.y)<0 then(-1,true)else(sg (civ c.ci p),true))else
 if 0<sg (py p-ofR c.ci.y)then(1,true)else(-sg (civ c.ci p),true)
noncomputable def N5 (l:List Cu) (p:P5):Nat→Nat
 |0=>0
 |j+1=>N5 l p j+(match l[j]? with
  |some d=>(if wC d.fr p=true then 1 else 0)+(if wC d.tt p=true then 1 else 0)
  |none=>0)
noncomputable def wo (l:List Cu) (p:P5):Nat:=N5 l p l.length
noncomputable def Rz (l:List Cu) (p:P5) (j:Nat):Bool:=match l[j]? with
 |some d=>wC d.fr p
 |none=>false
noncomputable def vU (l:List Cu) (p:P5):Int:=kJ (Rz l p) l.length
noncomputable def P2 (l:List Cu) (i:Nat):Option Nat:=match l[i]? with
 |none=>none
 |some c=>if wo l c.tt=2∧0≤vU l c.tt then
  (match l[(vU l c.tt).toNat]? with
   |some d=>if jw c d=true∧c.cw=d.cw then some (vU l c.tt).toNat else none
   |none=>none)
  else none
def kK (l:List Cu) (i k:Nat):Nat→List Cu
 |0=>[]
 |j+1=>kK l i k j++(if j≠i∧j≠k then l[j]?.toList else [])
noncomputable def YF (l:List Cu) (i:Nat):Option (List Cu):=match P2 l i with
 |none=>none
 |some k=>match l[i]?,l[k]? with
  |some c,some d=>some (kK l i k l.length++[{c with tt:=d.tt}])
  |_,_=>none
noncomputable def yx (l:List Cu):Nat→Nat→Option (List Cu)
 |0,_=>none
 |n+1,i=>match YF l i with
  |some m=>some m
  |none=>yx l n (i+1)
noncomputable def Q7:Nat→List Cu→List Cu
 |0,l=>l
 |n+1,l=>match yx l l.length 0 with
  |none=>l
  |some m=>Q7 n m
noncomputable def w7 (l:List Cu):List Cu:=Q7 l.length l
noncomputable def Tl (c:Cu):List Cu→List Cu
 |[]=>[c]
 |q::r=>if Fk c q<0 then q::Tl c r else c::q::r
noncomputable def HS (l:List Cu):List Cu:=l.foldl (fun v c=>Tl c v) []
noncomputable def Zm (l:List Cu):List Cu:=(HS l).reverse
noncomputable def Bt (l:List Cu):Bool:=l.any fun c=>decide (wo l c.fr%2=1)||decide (wo l c.tt%2=1)
noncomputable def ZQ (l:List Cu):List Cu:=Zm (w7 (Ir (Xz l)))
noncomputable def w9 (l:List Cu):List Cu×Int:=
 if 400<l.length then([],3)else if l.all WL=false then([],1)else if Bt l=true then([],8)else
 if 400<(ZQ l).length then([],3)else(ZQ l,0)
noncomputable def R0:List Cu→List Cu→Bool
 |[],[]=>true
 |c::r,d::s=>eqC c d&&R0 r s
 |_,_=>false
noncomputable def N6 (l:List Cu):Bool:=decide ((w9 l).2=0)&&R0 l (w9 l).1
noncomputable def onL (l:List Cu) (p:P5):Bool:=l.any fun c=>yU c p
noncomputable def jl (p:P5) (n:Int) (c:Cu):Int:=
 if ya c=true∨0<sg (px c.fr-px p)∨0≤sg (px p-px c.tt)then n else if 0<(xG c p).1 then-n else n
noncomputable def xh (l:List Cu) (p:P5):Int:=if onL l p=true then 0 else l.foldl (jl p) (-1)
end Eng
end
section
namespace Eng
open Rl
theorem Vv {a m:Nat} (h:Lb a=some m):m*m=a:=by
 unfold Lb at h;split at h
 ·rename_i h1;simp only[gb]at h;subst h;exact h1
 ·simp at h
theorem Jl {c s:Rat} (h:sqQ c=some s):s*s=c∧0≤s:=by
 unfold sqQ at h;split at h
 ·rename_i m n hm;simp only[gb]at h;subst h;unfold Bj at hm;split at hm
  ·simp at hm
  rename_i h0;split at hm
  ·rename_i a b ha hb;simp only[gb,Prod.mk.injEq]at hm;obtain⟨rfl,rfl⟩:=hm;have h1:=Vv ha;have h2:=Vv hb;have hd:c.den≠0:=c.den_nz;have hb0:b≠0:=fun e=>by subst e;simp at h2;exact hd h2.symm
   have hq:(0:Rat)<(b:Rat):=Rat.natCast_pos.2 (by omega);have e1:(c.num:Rat)=(a:Rat)*(a:Rat):=by
    have:c.num=((a*a:Nat):Int):=by omega
    rw[this,hD,hR]
   have e2:((c.den:Int):Rat)=(b:Rat)*(b:Rat):=by rw[←h2,hD,hR]
   have e3:c=(c.num:Rat)/((c.den:Int):Rat):=by rw[←Rat.divInt_eq_div,g0]
   have hbn:(b:Rat)≠0:=by grind
   constructor
   ·rw[e3,e1,e2];grind
   ·rw[g5];exact gz Rat.natCast_nonneg (g7 (h7.2 hq))
  ·simp at hm
 ·simp at h
theorem Fl {c:Rat} (h:sqQ c=none) (s:Rat):s*s≠c:=by
 intro e;subst e;unfold sqQ at h;rw[Fe]at h;simp at h
def okT (r:Rt):Prop:=(r.b=0∧r.c=0)∨(r.b≠0∧0<r.c∧sqQ r.c=none)
theorem okT.nn {r:Rt} (h:okT r):0≤r.c:=by
 rcases h with h|h<;>grind
theorem K9 (a:Rat):okT (rtQ a):= .inl ⟨rfl,rfl⟩
theorem YG {a b c:Rat} (h:c=0∨(0<c∧sqQ c=none)):okT (Jj a b c):=by
 unfold Jj;split
 ·exact K9 a
 ·rename_i h1;exact .inr ⟨fun e=>h1 (.inl e),by rcases h with h|h<;>grind⟩
theorem Bu (a:Rat):rv (rtQ a)=ofR a:=by
 show ofR a+ofR 0*jh 0=ofR a;rw[xH,zml,ad0]
theorem Bv (a b c:Rat):rv (Jj a b c)=ofR a+ofR b*jh c:=by
 unfold Jj;split
 ·rename_i h;rw[Bu];rcases h with h|h
  ·rw[h,xH,zml,ad0]
  ·rw[h,HO,ml0,ad0]
 ·rfl
theorem YH {c s:Rat} (h:sqQ c=some s):jh c=ofR s:=by
 obtain⟨h1,h2⟩:=Jl h;rw[←h1,P0 h2]
theorem c4 (a b c:Rat):rv (YE a b c)=ofR a+ofR b*jh c:=by
 unfold YE;split
 ·rename_i s hs;rw[Bu,YH hs,zn,qV]
 ·exact Bv a b c
theorem Fo (a b:Rat) {c:Rat} (h:0≤c):okT (YE a b c):=by
 unfold YE;split
 ·exact K9 _
 ·rename_i hs;refine YG ?_;by_cases h1:c=0
  ·exact .inl h1
  ·exact .inr ⟨by grind,hs⟩
theorem okT.norm {r:Rt} (h:okT r) (h0:¬(r.a=0∧r.b=0)):w5 r≠0:=by
 unfold w5;rcases h with⟨h1,h2⟩|⟨h1,h2,h3⟩
 ·rw[h1,h2];grind
 ·intro e;refine Fl h3 (r.a/r.b) ?_;have:r.a*r.a=r.b*r.b*r.c:=by grind
  grind
theorem P3 (r:Rt) (h:okT r):ofR (w5 r)=rv r*(ofR r.a-ofR r.b*jh r.c):=by
 have e:∀s:Rl,s*s=ofR r.c→ofR (w5 r)=(ofR r.a+ofR r.b*s)*(ofR r.a-ofR r.b*s):=by intro s hs;unfold w5;rw[kG,qV,qV,qV,←hs];obtain⟨s,rfl⟩:=s.rep;exact xC fun n=>by simp only[xZ,z8,jN,jO];grind
 exact e _ (kH h.nn)
theorem okT.zero {r:Rt} (h:okT r):rv r=0↔r.a=0∧r.b=0:=by
 constructor
 ·intro e;by_cases h0:r.a=0∧r.b=0
  ·exact h0
  ·exfalso;have h1:=h.norm h0;have h2:=P3 r h;rw[e,zml]at h2;exact h1 (Q4.1 h2)
 ·rintro⟨h1,h2⟩;unfold rv;rw[h1,h2,xH,zml,ad0]
theorem KA {x:Rat}:sr x=0↔x=0:=by
 rcases kh x with⟨h,e⟩|⟨h,e⟩|⟨h,e⟩<;>rw[e]<;>grind
theorem ZR {x:Rat}:sr x<0↔x<0:=by
 rcases kh x with⟨h,e⟩|⟨h,e⟩|⟨h,e⟩<;>rw[e]<;>grind
theorem N7 {x:Rat}:0<sr x↔0<x:=by
 rcases kh x with⟨h,e⟩|⟨h,e⟩|⟨h,e⟩<;>rw[e]<;>grind
theorem X0 (x:Rat):(sr x==0)=decide (x=0):=by
 rcases kh x with⟨h,e⟩|⟨h,e⟩|⟨h,e⟩<;>rw[e]<;>symm
 ·exact decide_eq_false (by grind)
 ·exact decide_eq_true h
 ·exact decide_eq_false (by grind)
theorem tG {r:Rt} (h:okT r):sg (rv r)=(if sr r.a=sr r.b then sr r.a else if sr r.b=0 then sr r.a else if sr r.a=0 then sr r.b else if 0<sr (w5 r)then sr r.a else sr r.b):=by
 unfold rv;rw[←HR r.a r.b h.nn];unfold tw;have e:sr r.b*sr r.c=sr r.b:=by
  rcases h with⟨h1,h2⟩|⟨_,h1,_⟩
  ·rw[h1,h2];rfl
  ·have:sr r.c=1:=by unfold sr;rw[if_pos h1]
   rw[this,W2]
 have hn:r.a*r.a-r.b*r.b*r.c=w5 r:=rfl;rw[e,hn];by_cases h1:sr r.b=0
 ·rw[if_pos (.inl h1)];by_cases h2:sr r.a=sr r.b
  ·rw[if_pos h2]
  ·rw[if_neg h2,if_pos h1]
 by_cases h2:sr r.a=sr r.b
 ·rw[if_pos (.inr h2),if_pos h2]
 rw[if_neg (by simp[h1,h2]),if_neg h2,if_neg h1];split
 ·rfl
 ·rename_i h3;have hnz:w5 r≠0:=h.norm fun k=>h3 (KA.2 k.1)
  rcases kh (w5 r)with⟨h4,e4⟩|⟨h4,e4⟩|⟨h4,e4⟩<;>rw[e4]
  ·simp
  ·exact absurd h4 hnz
  ·rcases kh r.a with⟨_,e5⟩|⟨_,e5⟩|⟨_,e5⟩<;>rcases kh r.b with⟨_,e6⟩|⟨_,e6⟩|⟨_,e6⟩<;>simp[e5,e6]at h1 h2 h3 ⊢
theorem KB (x:Rat): -1≤sr x∧sr x≤1:=by rcases kh x with⟨_,e⟩|⟨_,e⟩|⟨_,e⟩<;>omega
theorem Bw (x:Rl): -1≤sg x∧sg x≤1:=by rcases zh x with⟨_,e⟩|⟨_,e⟩|⟨_,e⟩<;>omega
theorem okP.nn {p:P5} (h:okP p):0≤p.c:=by
 rcases h with⟨_,_,h⟩|⟨_,h,_⟩<;>grind
theorem HU (a b:Rat) {p:P5} (h:okP p) (hb:b=p.u∨b=p.v):okT (kI a b p.c):=by
 unfold kI;split
 ·exact K9 a
 ·rename_i h0;rcases h with⟨h1,h2,_⟩|⟨_,h1,h2⟩
  ·exfalso;rcases hb with rfl|rfl<;>contradiction
  ·exact .inr ⟨h0,h1,h2⟩
theorem N8 (a b c:Rat):rv (kI a b c)=ofR a+ofR b*jh c:=by
 unfold kI;split
 ·rename_i h;rw[Bu,h,xH,zml,ad0]
 ·rfl
theorem Qn {p:P5} (h:okP p):okT (xP p):=HU _ _ h (.inl rfl)
theorem X1 {p:P5} (h:okP p):okT (yP p):=HU _ _ h (.inr rfl)
theorem X2 (p:P5):rv (xP p)=px p:=N8 _ _ _
theorem KC (p:P5):rv (yP p)=py p:=N8 _ _ _
theorem N9 (v:Vc):okP (atV v):= .inl ⟨rfl,rfl,rfl⟩
theorem tH (v:Vc):px (atV v)=ofR v.x:=by
 show ofR v.x+ofR 0*jh 0=_;rw[xH,zml,ad0]
theorem tI (v:Vc):py (atV v)=ofR v.y:=by
 show ofR v.y+ofR 0*jh 0=_;rw[xH,zml,ad0]
theorem c5 {p:P5} (h:okP p):okP (vZ p):=by
 rcases h with⟨h1,h2,h3⟩|⟨h1,h2,h3⟩
 ·exact .inl ⟨by show-p.u=0;grind,h2,h3⟩
 ·exact .inr ⟨fun k=>h1 ⟨by have: -p.u=0:=k.1;grind,k.2⟩,h2,h3⟩
theorem KD (p:P5):px (vZ p)= -px p:=by
 have e:∀s:Rl,ofR (-p.x)+ofR (-p.u)*s= -(ofR p.x+ofR p.u*s):=by intro s;rw[jW,jW];obtain⟨s,rfl⟩:=s.rep;exact xC fun n=>by simp only[xZ,z8,jN,jO];grind
 exact e _
theorem Is (p:P5):py (vZ p)=py p:=rfl
end Eng
end
section
open Go Go.Proofs Eng
namespace Eng
section
variable (Gv:Nat→List A→List A→Prop) (I0:List D→List D→Prop) (M0:List D→Nat) (I1:List D→List D→Prop) (M1:List D→Nat) (I2:List D→List D→Prop) (M2:List D→Nat) (I3:List D→List D→Prop) (M3:List D→Nat) (Q:List A→Prop)
theorem HW (J4:List D→List D→Prop) (J18:List D→List D→Prop) (J20:List D→List D→Prop) (J23:List D→List D→Prop) (es fs:List (List D)):wpF CC Gv (Tf (Tf (Tf (Tf (eO ⟨[.own 12 173 1,.slot 11 (.slice none 0 0),.slot 14 (.int .i64 0)],[],I0,M0⟩ ⟨[.slot 16 (.int .u64 0),.slot 17 (.slice none 0 0)],[.slot 11 (.slice none 0 0),.slot 14 (.int .i64 0),.own 12 173 1],I1,M1⟩ ⟨[.own 19 174 1,.slot 18 (.int .u64 0),.slot 20 (.int .i64 0)],[.slot 11 (.slice none 0 0)],I2,M2⟩) 4 ⟨[],[],J4,fun _=>0⟩) 18 ⟨[.slot 15 (.int .u64 0)],[.slot 11 (.slice none 0 0)],J18,fun _=>0⟩) 20 ⟨[.slot 15 (.int .u64 0)],[.slot 11 (.slice none 0 0)],J20,fun _=>0⟩) 23 ⟨[.slot 16 (.int .u64 0)],[.slot 11 (.slice none 0 0)],J23,fun _=>0⟩) Tryz.f165 [.c (.sl es),.c (.sl fs)] Q=(bB (decide ((J8 es.length)≤2)) (bB (decide ((J8 fs.length)≤2)) (∃i,Gv 166 [aL es] [Bx (Dd .u64 i)]∧∃i_1,Gv 166 [aL fs] [Bx (Dd .u64 i_1)]∧i_1≠0∧∃es,Gv 81 [Bx (Dd .u64 (J3 .u64 (Lv i i_1)))] [aL es]∧i_1≠0∧∃e1,Gv 81 [Bx (Dd .u64 (No i i_1))] [aL e1]∧Q [aL es,aL e1]) (J4 [] [])) (J4 [] [])∧(J4 [] []→(0≤J3 .i64 ((J8 fs.length)-1)∧J3 .i64 ((J8 fs.length)-1)<(J8 fs.length)∧bb (nth [] fs (J9 (J3 .i64 ((J8 fs.length)-1))))=1)∧∃i,cut (nth [] fs (J9 (J3 .i64 ((J8 fs.length)-1)))) 0 1 [Dd .u32 i]∧J3 .u64 (J3 .u64 i+1)≠0∧∃e1,Gv 222 [aL fs,Bx (Dd .u32 (J3 .u32 (J3 .u64 (Lv (1000000000:Int) (J3 .u64 (J3 .u64 i+1))))))] [aL e1]∧(0≤J3 .i64 ((J8 e1.length)-1)∧J3 .i64 ((J8 e1.length)-1)<(J8 e1.length)∧bb (nth [] e1 (J9 (J3 .i64 ((J8 e1.length)-1))))=1)∧∃i_1,cut (nth [] e1 (J9 (J3 .i64 ((J8 e1.length)-1)))) 0 1 [Dd .u32 i_1]∧(0≤J3 .i64 ((J8 es.length)+1)∧J3 .i64 ((J8 es.length)+1)≤J3 .i64 ((J8 es.length)+1)∧room (J9 (J3 .i64 ((J8 es.length)+1))))∧∃e2,Gv 222 [aL es,Bx (Dd .u32 (J3 .u32 (J3 .u64 (Lv (1000000000:Int) (J3 .u64 (J3 .u64 i+1))))))] [aL e2]∧(0≤(J8 e2.length)∧(J8 e2.length)≤(J8 (bb (ba (J9 (J3 .i64 ((J8 es.length)+1))) [Dd .u32 0]))))∧I0 [] [F0 (b4 (J9 (J8 e2.length)) (ba (J9 (J3 .i64 ((J8 es.length)+1))) [Dd .u32 0])),F0 [],dI (J3 .i64 ((J8 e2.length)-1))]∧∀(es e3:List (List D)) (i_2:Int),I0 [] [F0 es,F0 e3,dI i_2]→bB (decide (i_2≥0)) ((0≤i_2∧i_2<(J8 e2.length)∧bb (nth [] e2 (J9 i_2))=1)∧∃i,cut (nth [] e2 (J9 i_2)) 0 1 [Dd .u32 i]∧(room (1+e3.length)∧lens 1 e3)∧∃e4,Gv 142 [aL ([Dd .u32 i]::e3)] [aL e4]∧bB (decide ((J8 e4.length)>(J8 e1.length))) ((0≤(J8 e1.length)∧(J8 e1.length)<(J8 e4.length)∧bb (nth [] e4 (J9 (J8 e1.length)))=1)∧∃i,cut (nth [] e4 (J9 (J8 e1.length))) 0 1 [Dd .u32 i]∧J18 [F0 e4] [Dd .u64 (J3 .u64 (J3 .u64 i*1000000000))]) (J18 [F0 e4] [Dd .u64 0])∧∀(i:Int),J18 [F0 e4] [Dd .u64 i]→bB (decide ((J8 e4.length)≥(J8 e1.length))) ((0≤J3 .i64 ((J8 e1.length)-1)∧J3 .i64 ((J8 e1.length)-1)<(J8 e4.length)∧bb (nth [] e4 (J9 (J3 .i64 ((J8 e1.length)-1))))=1)∧∃i_3,cut (nth [] e4 (J9 (J3 .i64 ((J8 e1.length)-1)))) 0 1 [Dd .u32 i_3]∧J20 [F0 e4] [Dd .u64 (J3 .u64 (i+J3 .u64 i_3))]) (J20 [F0 e4] [Dd .u64 i])∧∀(i:Int),J20 [F0 e4] [Dd .u64 i]→J3 .u64 i_1≠0∧bB (decide (J3 .u64 (Lv i (J3 .u64 i_1))>999999999)) (J23 [F0 e4] [Dd .u64 999999999]) (J23 [F0 e4] [Dd .u64 (J3 .u64 (Lv i (J3 .u64 i_1)))])∧∀(i:Int),J23 [F0 e4] [Dd .u64 i]→∃e5,Gv 222 [aL e1,Bx (Dd .u32 (J3 .u32 i))] [aL e5]∧I1 [F0 e4,dI i_2,F0 es] [Dd .u64 i,F0 e5]∧∀(i:Int) (e6:List (List D)),I1 [F0 e4,dI i_2,F0 es] [Dd .u64 i,F0 e6]→∃i_3,Gv 197 [aL e6,aL e4] [aI i_3]∧bB (decide (i_3>0)) (∃e7,Gv 223 [aL e6,aL e1] [aL e7]∧I1 [F0 e4,dI i_2,F0 es] [Dd .u64 (J3 .u64 (i-1)),F0 e7]∧M1 [Dd .u64 (J3 .u64 (i-1)),F0 e7]<M1 [Dd .u64 i,F0 e6]) (∃e7,Gv 223 [aL e4,aL e6] [aL e7]∧(0≤i_2∧i_2<(J8 es.length))∧0<1∧I0 [] [F0 (upd es (J9 i_2) (upd (nth [] es (J9 i_2)) 0 (Dd .u32 (J3 .u32 i)))),F0 e7,dI (J3 .i64 (i_2-1))]∧M0 [F0 (upd es (J9 i_2) (upd (nth [] es (J9 i_2)) 0 (Dd .u32 (J3 .u32 i)))),F0 e7,dI (J3 .i64 (i_2-1))]<M0 [F0 es,F0 e3,dI i_2])) ((0≤(J8 e3.length)∧(J8 e3.length)≤(J8 e3.length)∧room (J9 (J8 e3.length)))∧I2 [F0 e3] [F0 (ba (J9 (J8 e3.length)) [Dd .u32 0]),Dd .u64 0,dI (J3 .i64 ((J8 e3.length)-1))]∧∀(e4:List (List D)) (i_3 i_4:Int),I2 [F0 e3] [F0 e4,Dd .u64 i_3,dI i_4]→bB (decide (i_4≥0)) ((0≤i_4∧i_4<(J8 e3.length)∧bb (nth [] e3 (J9 i_4))=1)∧∃i_5,cut (nth [] e3 (J9 i_4)) 0 1 [Dd .u32 i_5]∧J3 .u64 (J3 .u32 (J3 .u64 (Lv (1000000000:Int) (J3 .u64 (J3 .u64 i+1)))))≠0∧(0≤i_4∧i_4<(J8 e4.length))∧0<1∧J3 .u64 (J3 .u32 (J3 .u64 (Lv (1000000000:Int) (J3 .u64 (J3 .u64 i+1)))))≠0∧I2 [F0 e3] [F0 (upd e4 (J9 i_4) (upd (nth [] e4 (J9 i_4)) 0 (Dd .u32 (J3 .u32 (J3 .u64 (Lv (J3 .u64 (J3 .u64 (i_3*1000000000)+J3 .u64 i_5)) (J3 .u64 (J3 .u32 (J3 .u64 (Lv (1000000000:Int) (J3 .u64 (J3 .u64 i+1)))))))))))),Dd .u64 (No (J3 .u64 (J3 .u64 (i_3*1000000000)+J3 .u64 i_5)) (J3 .u64 (J3 .u32 (J3 .u64 (Lv (1000000000:Int) (J3 .u64 (J3 .u64 i+1))))))),dI (J3 .i64 (i_4-1))]∧M2 [F0 (upd e4 (J9 i_4) (upd (nth [] e4 (J9 i_4)) 0 (Dd .u32 (J3 .u32 (J3 .u64 (Lv (J3 .u64 (J3 .u64 (i_3*1000000000)+J3 .u64 i_5)) (J3 .u64 (J3 .u32 (J3 .u64 (Lv (1000000000:Int) (J3 .u64 (J3 .u64 i+1)))))))))))),Dd .u64 (No (J3 .u64 (J3 .u64 (i_3*1000000000)+J3 .u64 i_5)) (J3 .u64 (J3 .u32 (J3 .u64 (Lv (1000000000:Int) (J3 .u64 (J3 .u64 i+1))))))),dI (J3 .i64 (i_4-1))]<M2 [F0 e4,Dd .u64 i_3,dI i_4]) (∃e5,Gv 142 [aL es] [aL e5]∧∃es,Gv 142 [aL e4] [aL es]∧Q [aL e5,aL es])))):=by kernel_rfl
end
end Eng
end
section
namespace Eng
open Go
def yc (l:List Nat):List Int:=l.map fun(x:Nat)=>(x:Int)
theorem zP (x:Nat) (l:List Nat):yc (x::l)=(x:Int)::yc l:=rfl
theorem Iu (t:Nat):No (t:Int) 1000000000=((t%1000000000:Nat):Int):=by rw[W0 (by omega)];omega
theorem Iv (t:Nat):Lv (t:Int) 1000000000=((t/1000000000:Nat):Int):=by rw[Int.tdiv_eq_ediv_of_nonneg (by omega)];omega
theorem Fp {by_ c:Nat} (hby:by_≤1000000000) (hc:c≤1000000000) {vs:List Nat} (hv:Limbs vs):∃t:Nat,oh (by_:Int) (c:Int) (yc vs)=(t:Int)∧t≤1000000000000000000∧t+by_*(1000000000*val vs.tail)=c+by_*val vs:=by
 cases vs with
 |nil=>exact⟨c,rfl,by omega,by simp[val]⟩
 |cons y vs=>
  obtain⟨h1,h2⟩:=hv.of_cons;have hp:y*by_≤999999999*1000000000:=cg (by omega) hby;obtain⟨p,a3⟩:∃p,p=y*by_:=⟨_,rfl⟩;rw[←a3]at hp;have hpi:(y:Int)*(by_:Int)=(p:Int):=by rw[a3];exact(T1 _ _).symm
  refine⟨c+p,?_,by omega,?_⟩
  ·simp only[oh,zP];rw[xS (n:=(y:Int)),hpi,xS (n:=(p:Int)),xS];omega
  ·simp only[b8,val,cH];rw[a3,cv y by_];omega
theorem YI {by_:Nat} (hby:by_≤1000000000):∀{us vs:List Nat} {c b:Nat},Limbs us→Limbs vs→vs.length≤us.length→c≤1000000000→b≤1→
 ∃(r:List Nat) (c' b':Nat),wB (by_:Int) (yc us) (yc vs) (c:Int) (b:Int)=(yc r,(c':Int),(b':Int))∧Limbs r∧r.length=us.length∧c'≤1000000000∧b'≤1∧val us+1000000000^us.length*(c'+b')=val r+by_*val vs+c+b
 |[],vs,c,b,_,_,hl,hc,hb=>by have:vs=[]:=bd (by simpa using hl);subst this;exact⟨[],c,b,rfl,Hy,rfl,hc,hb,by simp[val]⟩
 |x::us,vs,c,b,hu,hv,hl,hc,hb=>by
  obtain⟨hx,hu⟩:=hu.of_cons;obtain⟨t,ht,htb,hte⟩:=Fp hby hc hv;have hvt:Limbs vs.tail:=fun y hy=>hv y (bx hy)
  have hlt:vs.tail.length≤us.length:=by rw[b5];simp at hl;omega
  have a3:(yc vs).tail=yc vs.tail:=by cases vs<;>rfl
  have hdm:=fx t 1000000000;have hml:=ey t (show 0<1000000000 by omega);obtain⟨q,hq⟩:∃q,q=t/1000000000:=⟨_,rfl⟩;obtain⟨m,hm⟩:∃m,m=t%1000000000:=⟨_,rfl⟩;have a4:by_*(1000000000*val vs.tail)=1000000000*(by_*val vs.tail):=by rw[ft]
  by_cases hlt2:x<m+b
  ·obtain⟨r,c',b',h1,h2,h3,h4,h5,h6⟩:=YI hby (us:=us) (vs:=vs.tail) (c:=q) (b:=1) hu hvt hlt (by omega) (by omega);refine⟨(x+1000000000-(m+b))::r,c',b',?_,Hx (by omega) h2,by simp[h3],h4,h5,?_⟩
   ·rw[zP,zP];simp only[wB];rw[ht,Iu,Iv,←hq,←hm,xS (n:=(x:Int)),xS (n:=(m:Int)+(b:Int)),xS (n:=(q:Int))];rw[decide_eq_true (show(x:Int)<(m:Int)+(b:Int)by omega)];simp only;rw[a3];have a5:wB (by_:Int) (yc us) (yc vs.tail) (q:Int) 1=(yc r,(c':Int),(b':Int)):=h1;rw[a5,xS (n:=(x:Int)+1000000000),xS,kf];congr 2;omega
   ·simp only[bm,val];rw[dn,cv (1000000000^us.length) 1000000000,c0];rw[a4]at hte;omega
  ·obtain⟨r,c',b',h1,h2,h3,h4,h5,h6⟩:=YI hby (us:=us) (vs:=vs.tail) (c:=q) (b:=0) hu hvt hlt (by omega) (by omega);refine⟨(x-(m+b))::r,c',b',?_,Hx (by omega) h2,by simp[h3],h4,h5,?_⟩
   ·rw[zP,zP];simp only[wB];rw[ht,Iu,Iv,←hq,←hm,xS (n:=(x:Int)),xS (n:=(m:Int)+(b:Int)),xS (n:=(q:Int))];rw[decide_eq_false (show ¬(x:Int)<(m:Int)+(b:Int)by omega)];simp only;rw[a3];have a5:wB (by_:Int) (yc us) (yc vs.tail) (q:Int) 0=(yc r,(c':Int),(b':Int)):=h1;rw[a5,xS,kf];congr 2;omega
   ·simp only[bm,val];rw[dn,cv (1000000000^us.length) 1000000000,c0];rw[a4]at hte;omega
theorem YJ:∀{us vs:List Nat} {c:Nat},Limbs us→Limbs vs→vs.length≤us.length→c≤1→
 ∃(r:List Nat) (c':Nat),Wz (yc us) (yc vs) (c:Int)=yc r∧Limbs r∧r.length=us.length∧c'≤1∧val us+val vs+c=val r+1000000000^us.length*c'
 |[],vs,c,_,_,hl,hc=>by have:vs=[]:=bd (by simpa using hl);subst this;exact⟨[],c,rfl,Hy,rfl,hc,by simp[val]⟩
 |x::us,vs,c,hu,hv,hl,hc=>by
  obtain⟨hx,hu⟩:=hu.of_cons;have hvt:Limbs vs.tail:=fun y hy=>hv y (bx hy)
  have hlt:vs.tail.length≤us.length:=by rw[b5];simp at hl;omega
  have a3:(yc vs).tail=yc vs.tail:=by cases vs<;>rfl
  obtain⟨t,ht,htb,hte⟩:∃t:Nat,aY (x:Int) (c:Int) (yc vs)=(t:Int)∧t≤1999999999∧t+1000000000*val vs.tail=x+c+val vs:=by
   cases vs with
   |nil=>refine⟨x+c,?_,by omega,by simp[val]⟩;simp only[aY,yc,List.map_nil];rw[kf];omega
   |cons y vs=>obtain⟨h1,h2⟩:=hv.of_cons;refine⟨x+c+y,?_,by omega,by simp only[b8,val];omega⟩;simp only[aY,zP];rw[kf (n:=(x:Int)+(c:Int)),kf];omega
  by_cases h:1000000000≤t
  ·obtain⟨r,c',h1,h2,h3,h4,h5⟩:=YJ (us:=us) (vs:=vs.tail) (c:=1) hu hvt hlt (by omega);refine⟨(t-1000000000)::r,c',?_,Hx (by omega) h2,by simp[h3],h4,?_⟩
   ·rw[zP,zP];simp only[Wz];rw[ht,decide_eq_true (show(1000000000:Int)≤(t:Int)by omega)];simp only;rw[a3];have a4:Wz (yc us) (yc vs.tail) 1=yc r:=h1;rw[a4,kf];congr 1;omega
   ·simp only[bm,val];rw[dn,cv (1000000000^us.length) 1000000000,c0];omega
  ·obtain⟨r,c',h1,h2,h3,h4,h5⟩:=YJ (us:=us) (vs:=vs.tail) (c:=0) hu hvt hlt (by omega);refine⟨t::r,c',?_,Hx (by omega) h2,by simp[h3],h4,?_⟩
   ·rw[zP,zP];simp only[Wz];rw[ht,decide_eq_false (show ¬(1000000000:Int)≤(t:Int)by omega)];simp only;rw[a3];have a4:Wz (yc us) (yc vs.tail) 0=yc r:=h1;rw[a4]
   ·simp only[bm,val];rw[dn,cv (1000000000^us.length) 1000000000,c0];omega
end Eng
end
section
namespace Eng
open Go
theorem Fq {P V1 vl V U3 ul U g:Nat} (hV:V=V1*P+vl) (hU:U=U3*P+ul) (hvl:vl<P) (hg:g*V1≤U3) (hgB:g≤1000000000) (hBV:1000000000*P≤V):g*V≤U+V:=by
 have h1:g*V1*P≤U3*P:=c3 P hg;have h2:g*vl≤1000000000*P:=cg hgB (by omega);have h3:g*V=g*V1*P+g*vl:=by rw[hV,cH,c0]
 omega
theorem Fr {P V1 vl V U3 ul U g:Nat} (hV:V=V1*P+vl) (hU:U=U3*P+ul) (hul:ul<P) (hg:U3<g*V1):U<g*V:=by
 have h1:(U3+1)*P≤g*V1*P:=c3 P hg;have h3:g*V=g*V1*P+g*vl:=by rw[hV,cH,c0]
 rw[en,eH]at h1;omega
theorem By {U V g qd L r s:Nat} (hq1:qd*V≤U) (hgq:qd≤g) (_hUL:U<L) (_hrL:r<L) (he:U+L*s=r+g*V) (hs:s=0) (hlt:U<(qd+1)*V):g=qd∧r=U-qd*V:=by
 subst hs;have h1:¬qd+1≤g:=fun h=>by have:=c3 V h;omega
 have:g=qd:=by omega
 subst this;omega
theorem Bz {U V g qd L r s r' c:Nat} (hq1:qd*V≤U) (hg:g*V≤U+V) (_hUL:U<L) (hrL:r<L) (hVL:V≤L) (he:U+L*s=r+g*V) (hs:s≠0) (hr':r'<L) (hc:c≤1) (he2:r+V=r'+L*c) (hlt:U<(qd+1)*V) (hgq:qd≤g):g=qd+1∧r'=U-qd*V:=by
 have hL:L≤L*s:=Nat.le_mul_of_pos_right L (by omega);have h1:qd+1≤g:=by apply cL;intro h;have:=c3 V h;omega
 have h2:g≤qd+1:=by
  apply Nat.le_of_lt_succ;apply cL;intro h;have h3:(qd+2)*V≤g*V:=c3 V h;have h4:(qd+2)*V=(qd+1)*V+V:=by rw[show qd+2=(qd+1)+1 from rfl,en,eH]
  omega
 have:g=qd+1:=by omega
 subst this;refine⟨rfl,?_⟩;have h5:(qd+1)*V=qd*V+V:=by rw[en,eH]
 have hs1:s=1:=by
  have:s<2:=by apply cL;intro h;have:=er L h;omega
  omega
 subst hs1;have hc1:c=1:=by
  rcases fz c 1 with h|h
  ·have:c=0:=by omega
   subst this;omega
  ·omega
 subst hc1;omega
theorem Vw {b s:Nat} (hb:0<b) (hb2:b<1000000000) (hs:s=1000000000/(b+1)):500000000≤b*s∧1≤s∧s*(b+1)≤1000000000:=by
 have h1:=Nat.div_mul_le_self 1000000000 (b+1);have h2:=Nat.lt_div_mul_add (a:=1000000000) (b:=b+1) (by omega);rw[←hs]at h1 h2;have h3:1≤s:=by
  apply cL;intro h;have:s=0:=by omega
  subst this;omega
 obtain⟨b',rfl⟩:∃b',b=b'+1:=⟨b-1,by omega⟩;obtain⟨s',rfl⟩:∃s',s=s'+1:=⟨s-1,by omega⟩;have h4:(b'+1)*(s'+1)=b'*s'+b'+s'+1:=by rw[en,cH];omega
 have h5:(s'+1)*(b'+1+1)=b'*s'+b'+s'+1+(s'+1):=by rw[cH,cv (s'+1) (b'+1),h4];omega
 omega
end Eng
end
