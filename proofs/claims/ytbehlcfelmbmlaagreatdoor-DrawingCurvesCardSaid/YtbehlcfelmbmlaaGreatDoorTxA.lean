/- The greater one of 0 and a number, as the program's max prints. -/
import Derived.Test.YtbehlcfelmbmlaaGreatDoorEngA
import Derived.Test.YtbehlcfelmbmlaaGreatDoorCtxB
import Derived.Test.YtbehlcfelmbmlaaGreatDoorTxP
import Derived.Test.YtbehlcfelmbmlaaGreatDoorLexA
import Derived.Test.YtbehlcfelmbmlaaGreatDoorDivA
import Derived.Test.YtbehlcfelmbmlaaGreatDoorCdA
import Derived.KernelRfl
open Eng.A renaming c→Aa, ag→Ab
open Eng.D renaming bool→Ac, int→Ad, sl→Ae, str→Af
open Go.IntKind renaming wrap→Ah
open Int renaming ofNat→Ai, toNat→Aj, toNat_natCast→Ak, tmod→Al, tdiv→Am
open List renaming length→An, take→Ao, drop→Ap, take_of_length_le→Aq
open List.cons renaming injEq→Ar
open Nat renaming pow_pos→As, div_eq_of_lt→At, lt_or_ge→Au
open UInt8 renaming toNat→Av, ofNat→Aw
section
namespace Eng
end Eng
end

section
open Go Go.Proofs Eng
set_option maxRecDepth 1000000
namespace Eng
section
variable (Gv:Nat→List A→List A→Prop) (Q:List A→Prop) (I0 I1 I2 I3:List D→List D→Prop) (M0 M1 M2 M3:List D→Nat)
theorem PO (p:Bool) (es:List (List D)):wpF CC Gv (Rb ⟨[.slot 3 (.string ⟨#[]⟩),.slot 4 (.int .i64 0)],[],I0,M0⟩ ⟨[.slot 3 (.string ⟨#[]⟩),.slot 5 (.int .u32 0),.slot 6 (.int .i64 0)],[.slot 3 (.string ⟨#[]⟩),.slot 4 (.int .i64 0),.slot 5 (.int .u32 0)],I1,M1⟩ ⟨[.slot 3 (.string ⟨#[]⟩)],[],I2,M2⟩) Tryz.f238 [.ag [.bool p,.sl es]] Q=(
 br (toB (Ac ((Ai es.length)==0))) (Q [Aa (Af [48])]) (I0 [] [Af [],Ad .i64 0]∧∀(s:List UInt8) (n:Int),I0 [] [Af s,Ad .i64 n]→br (toB (Ac (decide (n<(Ai es.length))))) ((0≤n∧n<(Ai es.length)∧An (nth [] es (Aj n))=1)∧∃n1,cut (nth [] es (Aj n)) 0 1 [Ad .u32 n1]∧I1 [Af s,Ad .i64 n,Ad .u32 n1] [Af s,Ad .u32 n1,Ad .i64 0]∧∀(s1:List UInt8) (n2 n3:Int),I1 [Af s,Ad .i64 n,Ad .u32 n1] [Af s1,Ad .u32 n2,Ad .i64 n3]→br (toB (Ac (decide (n3<9)))) ((10:Int)≠(0:Int)∧(0≤Ah .i32 (Ah .u32 (48+Al n2 (10:Int)))∧Ah .i32 (Ah .u32 (48+Al n2 (10:Int)))<128)∧room (1+s1.length)∧(10:Int)≠(0:Int)∧I1 [Af s,Ad .i64 n,Ad .u32 n1] [Af (Aw (Aj (Ah .i32 (Ah .u32 (48+Al n2 (10:Int)))))::s1),Ad .u32 (Ah .u32 (Am n2 (10:Int))),Ad .i64 (Ah .i64 (n3+1))]∧M1 [Af (Aw (Aj (Ah .i32 (Ah .u32 (48+Al n2 (10:Int)))))::s1),Ad .u32 (Ah .u32 (Am n2 (10:Int))),Ad .i64 (Ah .i64 (n3+1))]<M1 [Af s1,Ad .u32 n2,Ad .i64 n3]) (I0 [] [Af s1,Ad .i64 (Ah .i64 (n+1))]∧M0 [Af s1,Ad .i64 (Ah .i64 (n+1))]<M0 [Af s,Ad .i64 n])) (I2 [] [Af s]∧∀(s:List UInt8),I2 [] [Af s]→((0:Int)≤(0:Int)∧0<(Ai s.length))∧br (toB (Ac ((Ai (Av (nth 0 s (Aj (0:Int)))))==48))) (((0:Int)≤(1:Int)∧1≤(Ai s.length)∧(Ai s.length)≤(Ai s.length))∧I2 [] [Af (Ap 1 (Ao (Aj (Ai s.length)) s))]∧M2 [Af (Ap 1 (Ao (Aj (Ai s.length)) s))]<M2 [Af s]) (br p (room (1+s.length)∧Q [Aa (Af (45::s))]) (Q [Aa (Af s)]))))):=by kernel_rfl
end
end Eng
end

section
open Go Go.Proofs Eng
set_option maxRecDepth 1000000
namespace Eng
section
variable (Gv:Nat→List A→List A→Prop) (Q:List A→Prop) (I0 I1 I2 I3:List D→List D→Prop) (M0 M1 M2 M3:List D→Nat)
theorem MX (p q:Bool) (es fs:List (List D)):wpF CC Gv an0 Tryz.f67 [.ag [.bool p,.sl es],.ag [.bool q,.sl fs]] Q=(
 br (toB (Ac (p==q))) (∃n,Gv 127 [Aa (Ae es),Aa (Ae fs)] [Aa (Ad .i64 n)]∧Q [Aa (Ac (n==0))]) (Q [Aa (Ac false)])):=by kernel_rfl
theorem MY (m d:Int):wpF CC Gv an0 Tryz.f76 [.c (.int .i64 m),.c (.int .i64 d)] Q=(
 br (toB (Ac (d==0))) (∃b es,Gv 68 [Aa (Ad .i64 0)] [Ab [Ac b,Ae es]]∧∃b1 e1,Gv 68 [Aa (Ad .i64 1)] [Ab [Ac b1,Ae e1]]∧∃b2 e2 b3 e3,Gv 145 [Ab [Ac b,Ae es],Ab [Ac b1,Ae e1]] [Ab [Ac b2,Ae e2,Ac b3,Ae e3]]∧Q [Ab [Ac b2,Ae e2,Ac b3,Ae e3]]) (∃b es,Gv 68 [Aa (Ad .i64 m)] [Ab [Ac b,Ae es]]∧∃b1 e1,Gv 68 [Aa (Ad .i64 d)] [Ab [Ac b1,Ae e1]]∧∃b2 e2 b3 e3,Gv 145 [Ab [Ac b,Ae es],Ab [Ac b1,Ae e1]] [Ab [Ac b2,Ae e2,Ac b3,Ae e3]]∧Q [Ab [Ac b2,Ae e2,Ac b3,Ae e3]])):=by kernel_rfl
theorem Th (n:Int):wpF CC Gv (fun _=>⟨[.slot 4 (.int .i64 0),.box 3 [.bool false,.slice none 0 0,.bool false,.slice none 0 0]],[],I0,M0⟩) Tryz.f143 [.c (.int .i64 n)] Q=(
 ∃b es b1 e1,Gv 27 [Aa (Ad .i64 1)] [Ab [Ac b,Ae es,Ac b1,Ae e1]]∧I0 [] [Ad .i64 0,Ac b,Ae es,Ac b1,Ae e1]∧∀(n1:Int) (b:Bool) (es:List (List D)) (b2:Bool) (e2:List (List D)),I0 [] [Ad .i64 n1,Ac b,Ae es,Ac b2,Ae e2]→br (toB (Ac (decide (n1<n)))) (∃b3 e3 b4 e4,Gv 27 [Aa (Ad .i64 10)] [Ab [Ac b3,Ae e3,Ac b4,Ae e4]]∧∃b5 e5 b6 e6,Gv 103 [Ab [Ac b,Ae es,Ac b2,Ae e2],Ab [Ac b3,Ae e3,Ac b4,Ae e4]] [Ab [Ac b5,Ae e5,Ac b6,Ae e6]]∧I0 [] [Ad .i64 (Ah .i64 (n1+1)),Ac b5,Ae e5,Ac b6,Ae e6]∧M0 [Ad .i64 (Ah .i64 (n1+1)),Ac b5,Ae e5,Ac b6,Ae e6]<M0 [Ad .i64 n1,Ac b,Ae es,Ac b2,Ae e2]) (Q [Ab [Ac b,Ae es,Ac b2,Ae e2]])):=by kernel_rfl
theorem Ti (p:Bool) (es:List (List D)) (n:Int):wpF CC Gv (fun _=>⟨[.slot 5 (.string ⟨#[]⟩)],[],I0,M0⟩) Tryz.f144 [.ag [.bool p,.sl es],.c (.int .i64 n)] Q=(
 ∃s,Gv 238 [Ab [Ac p,Ae es]] [Aa (Af s)]∧((0:Int)≤(0:Int)∧0<(Ai s.length))∧br (toB (Ac ((Ai (Av (nth 0 s (Aj (0:Int)))))==45))) (((0:Int)≤(1:Int)∧1≤(Ai s.length)∧(Ai s.length)≤(Ai s.length))∧I0 [] [Af (Ap 1 (Ao (Aj (Ai s.length)) s))]∧∀(s:List UInt8),I0 [] [Af s]→br (toB (Ac (decide ((Ai s.length)≤n)))) (room (1+s.length)∧I0 [] [Af (48::s)]∧M0 [Af (48::s)]<M0 [Af s]) (br (toB (Ac (n==0))) (room (1+s.length)∧Q [Aa (Af (45::s))]) (((0:Int)≤(0:Int)∧0≤Ah .i64 ((Ai s.length)-n)∧Ah .i64 ((Ai s.length)-n)≤(Ai s.length))∧room (1+An (Ap 0 (Ao (Aj (Ah .i64 ((Ai s.length)-n))) s)))∧room (An (45::([]++(Ap 0 (Ao (Aj (Ah .i64 ((Ai s.length)-n))) s))))+1)∧(0≤Ah .i64 ((Ai s.length)-n)∧Ah .i64 ((Ai s.length)-n)≤(Ai s.length)∧(Ai s.length)≤(Ai s.length))∧room (An (45::((([]++(Ap (Aj (0:Int)) (Ao (Aj (Ah .i64 ((Ai s.length)-n))) s))))++[46]))+An (Ap (Aj (Ah .i64 ((Ai s.length)-n))) (Ao (Aj (Ai s.length)) s)))∧Q [Aa (Af (45::((((([]++(Ap (Aj (0:Int)) (Ao (Aj (Ah .i64 ((Ai s.length)-n))) s))))++([46])))++(Ap (Aj (Ah .i64 ((Ai s.length)-n))) (Ao (Aj (Ai s.length)) s)))))]))) (I0 [] [Af s]∧∀(s:List UInt8),I0 [] [Af s]→br (toB (Ac (decide ((Ai s.length)≤n)))) (room (1+s.length)∧I0 [] [Af (48::s)]∧M0 [Af (48::s)]<M0 [Af s]) (br (toB (Ac (n==0))) (room (0+s.length)∧Q [Aa (Af s)]) (((0:Int)≤(0:Int)∧0≤Ah .i64 ((Ai s.length)-n)∧Ah .i64 ((Ai s.length)-n)≤(Ai s.length))∧room (0+An (Ap 0 (Ao (Aj (Ah .i64 ((Ai s.length)-n))) s)))∧room (An ([]++Ap 0 (Ao (Aj (Ah .i64 ((Ai s.length)-n))) s))+1)∧(0≤Ah .i64 ((Ai s.length)-n)∧Ah .i64 ((Ai s.length)-n)≤(Ai s.length)∧(Ai s.length)≤(Ai s.length))∧room (An ([]++Ap 0 (Ao (Aj (Ah .i64 ((Ai s.length)-n))) s)++[46])+An (Ap (Aj (Ah .i64 ((Ai s.length)-n))) (Ao (Aj (Ai s.length)) s)))∧Q [Aa (Af ([]++Ap 0 (Ao (Aj (Ah .i64 ((Ai s.length)-n))) s)++[46]++Ap (Aj (Ah .i64 ((Ai s.length)-n))) (Ao (Aj (Ai s.length)) s)))])))):=by kernel_rfl
theorem Tj (p q:Bool) (es fs:List (List D)):wpF CC Gv (fun _=>⟨[.slot 4 (.int .i64 0)],[],I0,M0⟩) Tryz.f75 [.ag [.bool p,.sl es,.bool q,.sl fs]] Q=(
 I0 [] [Ad .i64 0]∧∀(n:Int),I0 [] [Ad .i64 n]→br (toB (Ac (decide (n≤30)))) (∃b e1 b1 e2,Gv 143 [Aa (Ad .i64 n)] [Ab [Ac b,Ae e1,Ac b1,Ae e2]]∧∃b2 e3 b3 e4,Gv 103 [Ab [Ac p,Ae es,Ac q,Ae fs],Ab [Ac b,Ae e1,Ac b1,Ae e2]] [Ab [Ac b2,Ae e3,Ac b3,Ae e4]]∧∃b es,Gv 68 [Aa (Ad .i64 1)] [Ab [Ac b,Ae es]]∧∃b4,Gv 67 [Ab [Ac b3,Ae e4],Ab [Ac b,Ae es]] [Aa (Ac b4)]∧br b4 (∃s,Gv 144 [Ab [Ac b2,Ae e3],Aa (Ad .i64 n)] [Aa (Af s)]∧br (toB (Ac (decide ((Ai s.length)>1000)))) (Q [Aa (Af []),Aa (Ac false)]) (Q [Aa (Af s),Aa (Ac true)])) (I0 [] [Ad .i64 (Ah .i64 (n+1))]∧M0 [Ad .i64 (Ah .i64 (n+1))]<M0 [Ad .i64 n])) (Q [Aa (Af []),Aa (Ac false)])):=by kernel_rfl
theorem MZ (p q:Bool) (es fs:List (List D)):wpF CC Gv an0 Tryz.f77 [.ag [.bool p,.sl es,.bool q,.sl fs]] Q=(
 ∃b e1 b1 e2,Gv 76 [Aa (Ad .i64 1),Aa (Ad .i64 1000)] [Ab [Ac b,Ae e1,Ac b1,Ae e2]]∧∃b2 e3 b3 e4,Gv 103 [Ab [Ac p,Ae es,Ac q,Ae fs],Ab [Ac b,Ae e1,Ac b1,Ae e2]] [Ab [Ac b2,Ae e3,Ac b3,Ae e4]]∧Q [Ab [Ac b2,Ae e3,Ac b3,Ae e4]]):=by kernel_rfl
theorem PP (p q:Bool) (es fs:List (List D)):wpF CC Gv an0 Tryz.f91 [.ag [.bool p,.sl es,.bool q,.sl fs]] Q=(
 ∃b,Gv 108 [Ab [Ac p,Ae es,Ac q,Ae fs]] [Aa (Ac b)]∧br (toB (Ac !b)) (Q [Aa (Ac false)]) (∃b e1 b1 e2,Gv 27 [Aa (Ad .i64 10000000)] [Ab [Ac b,Ae e1,Ac b1,Ae e2]]∧∃n,Gv 171 [Ab [Ac p,Ae es,Ac q,Ae fs],Ab [Ac b,Ae e1,Ac b1,Ae e2]] [Aa (Ad .i64 n)]∧br (toB (Ac (decide (n>0)))) (Q [Aa (Ac false)]) (∃b2 e3 b3 e4,Gv 172 [Ab [Ac p,Ae es,Ac q,Ae fs]] [Ab [Ac b2,Ae e3,Ac b3,Ae e4]]∧∃n,Gv 171 [Ab [Ac b2,Ae e3,Ac b3,Ae e4],Ab [Ac b,Ae e1,Ac b1,Ae e2]] [Aa (Ad .i64 n)]∧br (toB (Ac (decide (n>0)))) (Q [Aa (Ac false)]) (∃b e5 b4 e6,Gv 77 [Ab [Ac p,Ae es,Ac q,Ae fs]] [Ab [Ac b,Ae e5,Ac b4,Ae e6]]∧∃s b5,Gv 75 [Ab [Ac b,Ae e5,Ac b4,Ae e6]] [Aa (Af s),Aa (Ac b5)]∧Q [Aa (Ac b5)])))):=by kernel_rfl
theorem Gu (c:Int):wpF CC Gv an0 Tryz.f162 [.c (.int .u8 c)] Q=(
 br (toB (Ac (decide (c≥97)))) (br (toB (Ac (decide (c≤122)))) (Q [Aa (Ac true)]) (br (toB (Ac (decide (c≥65)))) (Q [Aa (Ac (decide (c≤90)))]) (Q [Aa (Ac false)]))) (br (toB (Ac (decide (c≥65)))) (Q [Aa (Ac (decide (c≤90)))]) (Q [Aa (Ac false)]))):=by kernel_rfl
theorem Tl (c:Int):wpF CC Gv an0 Tryz.f257 [.c (.int .u8 c)] Q=(
 br (toB (Ac (decide (c≥48)))) (Q [Aa (Ac (decide (c≤57)))]) (Q [Aa (Ac false)])):=by kernel_rfl
theorem Na (s:List UInt8):wpF CC Gv (fun _=>⟨[.slot 3 (.int .i64 0)],[],I0,M0⟩) Tryz.f163 [.c (.str s)] Q=(
 I0 [] [Ad .i64 0]∧∀(n:Int),I0 [] [Ad .i64 n]→br (toB (Ac (decide (n<(Ai s.length))))) ((0≤n∧n<(Ai s.length))∧∃b,Gv 162 [Aa (Ad .u8 (Ai (Av (nth 0 s (Aj n)))))] [Aa (Ac b)]∧br b (I0 [] [Ad .i64 (Ah .i64 (n+1))]∧M0 [Ad .i64 (Ah .i64 (n+1))]<M0 [Ad .i64 n]) ((0≤n∧n<(Ai s.length))∧∃b,Gv 257 [Aa (Ad .u8 (Ai (Av (nth 0 s (Aj n)))))] [Aa (Ac b)]∧br b (I0 [] [Ad .i64 (Ah .i64 (n+1))]∧M0 [Ad .i64 (Ah .i64 (n+1))]<M0 [Ad .i64 n]) ((0≤n∧n<(Ai s.length))∧br (toB (Ac ((Ai (Av (nth 0 s (Aj n))))==95))) (I0 [] [Ad .i64 (Ah .i64 (n+1))]∧M0 [Ad .i64 (Ah .i64 (n+1))]<M0 [Ad .i64 n]) ((0≤n∧n<(Ai s.length))∧br (toB (Ac ((Ai (Av (nth 0 s (Aj n))))==45))) (I0 [] [Ad .i64 (Ah .i64 (n+1))]∧M0 [Ad .i64 (Ah .i64 (n+1))]<M0 [Ad .i64 n]) (Q [Aa (Ad .i64 n)]))))) (Q [Aa (Ad .i64 n)])):=by kernel_rfl
theorem Gw (s:List UInt8):wpF CC Gv an0 Tryz.f90 [.c (.str s)] Q=(
 br (toB (Ac (decide ((Ai s.length)>0)))) (br (toB (Ac (decide ((Ai s.length)≤24)))) (((0:Int)≤(0:Int)∧0<(Ai s.length))∧∃b,Gv 162 [Aa (Ad .u8 (Ai (Av (nth 0 s (Aj (0:Int))))))] [Aa (Ac b)]∧br b (∃n,Gv 163 [Aa (Af s)] [Aa (Ad .i64 n)]∧Q [Aa (Ac (n==(Ai s.length)))]) (Q [Aa (Ac false)])) (Q [Aa (Ac false)])) (Q [Aa (Ac false)])):=by kernel_rfl
theorem Tm (s:List UInt8) (k d:Int):wpF CC Gv an0 Tryz.f44 [.ag [.str s,.int .i64 k,.int .i64 d]] Q=(
 br (toB (Ac (decide (d≥1)))) (br (toB (Ac (k==1))) (br (toB (Ac (k==1))) (∃b,Gv 90 [Aa (Af s)] [Aa (Ac b)]∧br b (Q [Aa (Ac (decide (d≤10000000)))]) (Q [Aa (Ac false)])) (br (toB (Ac (k==2))) (br (toB (Ac (k==2))) (∃b,Gv 90 [Aa (Af s)] [Aa (Ac b)]∧br b (Q [Aa (Ac (d==0))]) (Q [Aa (Ac false)])) (Q [Aa (Ac false)])) (br (toB (Ac (k==4))) (∃b,Gv 90 [Aa (Af s)] [Aa (Ac b)]∧br b (Q [Aa (Ac (d==0))]) (Q [Aa (Ac false)])) (Q [Aa (Ac false)])))) (br (toB (Ac (k==3))) (∃b,Gv 90 [Aa (Af s)] [Aa (Ac b)]∧br b (Q [Aa (Ac (decide (d≤10000000)))]) (Q [Aa (Ac false)])) (br (toB (Ac (k==2))) (br (toB (Ac (k==2))) (∃b,Gv 90 [Aa (Af s)] [Aa (Ac b)]∧br b (Q [Aa (Ac (d==0))]) (Q [Aa (Ac false)])) (Q [Aa (Ac false)])) (br (toB (Ac (k==4))) (∃b,Gv 90 [Aa (Af s)] [Aa (Ac b)]∧br b (Q [Aa (Ac (d==0))]) (Q [Aa (Ac false)])) (Q [Aa (Ac false)]))))) (br (toB (Ac (k==1))) (br (toB (Ac (k==1))) (∃b,Gv 90 [Aa (Af s)] [Aa (Ac b)]∧br b (Q [Aa (Ac false)]) (Q [Aa (Ac false)])) (br (toB (Ac (k==2))) (br (toB (Ac (k==2))) (∃b,Gv 90 [Aa (Af s)] [Aa (Ac b)]∧br b (Q [Aa (Ac (d==0))]) (Q [Aa (Ac false)])) (Q [Aa (Ac false)])) (br (toB (Ac (k==4))) (∃b,Gv 90 [Aa (Af s)] [Aa (Ac b)]∧br b (Q [Aa (Ac (d==0))]) (Q [Aa (Ac false)])) (Q [Aa (Ac false)])))) (br (toB (Ac (k==3))) (∃b,Gv 90 [Aa (Af s)] [Aa (Ac b)]∧br b (Q [Aa (Ac false)]) (Q [Aa (Ac false)])) (br (toB (Ac (k==2))) (br (toB (Ac (k==2))) (∃b,Gv 90 [Aa (Af s)] [Aa (Ac b)]∧br b (Q [Aa (Ac (d==0))]) (Q [Aa (Ac false)])) (Q [Aa (Ac false)])) (br (toB (Ac (k==4))) (∃b,Gv 90 [Aa (Af s)] [Aa (Ac b)]∧br b (Q [Aa (Ac (d==0))]) (Q [Aa (Ac false)])) (Q [Aa (Ac false)])))))):=by kernel_rfl
theorem Nb (es:List (List D)) (s:List UInt8):wpF CC Gv (fun _=>⟨[.slot 5 (.int .i64 0)],[],I0,M0⟩) Tryz.f45 [.c (.sl es),.c (.str s)] Q=(
 I0 [] [Ad .i64 0]∧∀(n:Int),I0 [] [Ad .i64 n]→br (toB (Ac (decide (n<(Ai es.length))))) ((0≤n∧n<(Ai es.length)∧An (nth [] es (Aj n))=3)∧∃s1,cut (nth [] es (Aj n)) 0 1 [Af s1]∧br (toB (Ac (s1==s))) (Q [Aa (Ad .i64 n)]) (I0 [] [Ad .i64 (Ah .i64 (n+1))]∧M0 [Ad .i64 (Ah .i64 (n+1))]<M0 [Ad .i64 n])) (Q [Aa (Ad .i64 (-1))])):=by kernel_rfl
theorem Gx (J9:List D→List D→Prop) (k:Int) (s:List UInt8) (ps:List (List D)) (p q:Bool) (l m:List (List D)):wpF CC Gv (WR (fun _=>⟨[.slot 4 (.int .i64 0)],[],I0,M0⟩) 9 ⟨[.slot 3 (.int .i64 0)],[],J9,fun _=>0⟩) Tryz.f46 [.ag [.int .i64 k,.str s,.sl ps,.bool p,.sl l,.bool q,.sl m]] Q=(
 br (toB (Ac (k==1))) (J9 [] [Ad .i64 2]) (br (toB (Ac (k==2))) (J9 [] [Ad .i64 3]) (br (toB (Ac (k==3))) (J9 [] [Ad .i64 1]) (J9 [] [Ad .i64 0])))∧∀(n:Int),J9 [] [Ad .i64 n]→br (toB (Ac (n==0))) (Q [Aa (Ac false)]) (br (toB (Ac ((Ai ps.length) !=n))) (Q [Aa (Ac false)]) (br (toB (Ac (n==1))) (∃b,Gv 91 [Ab [Ac p,Ae l,Ac q,Ae m]] [Aa (Ac b)]∧br (toB (Ac !b)) (Q [Aa (Ac false)]) (∃n1,Gv 92 [Ab [Ac p,Ae l,Ac q,Ae m]] [Aa (Ad .i64 n1)]∧br (toB (Ac (n1 !=1))) (Q [Aa (Ac false)]) (I0 [] [Ad .i64 0]∧∀(n2:Int),I0 [] [Ad .i64 n2]→br (toB (Ac (decide (n2<n)))) ((0≤n2∧n2<(Ai ps.length)∧An (nth [] ps (Aj n2))=8)∧∃b es b1 e1,cut (nth [] ps (Aj n2)) 0 4 [Ac b,Ae es,Ac b1,Ae e1]∧∃b2,Gv 91 [Ab [Ac b,Ae es,Ac b1,Ae e1]] [Aa (Ac b2)]∧br (toB (Ac !b2)) (Q [Aa (Ac false)]) ((0≤n2∧n2<(Ai ps.length)∧An (nth [] ps (Aj n2))=8)∧∃b es b3 e2,cut (nth [] ps (Aj n2)) 4 4 [Ac b,Ae es,Ac b3,Ae e2]∧∃b4,Gv 91 [Ab [Ac b,Ae es,Ac b3,Ae e2]] [Aa (Ac b4)]∧br (toB (Ac !b4)) (Q [Aa (Ac false)]) (I0 [] [Ad .i64 (Ah .i64 (n2+1))]∧M0 [Ad .i64 (Ah .i64 (n2+1))]<M0 [Ad .i64 n2]))) (Q [Aa (Ac true)])))) (I0 [] [Ad .i64 0]∧∀(n1:Int),I0 [] [Ad .i64 n1]→br (toB (Ac (decide (n1<n)))) ((0≤n1∧n1<(Ai ps.length)∧An (nth [] ps (Aj n1))=8)∧∃b es b1 e1,cut (nth [] ps (Aj n1)) 0 4 [Ac b,Ae es,Ac b1,Ae e1]∧∃b2,Gv 91 [Ab [Ac b,Ae es,Ac b1,Ae e1]] [Aa (Ac b2)]∧br (toB (Ac !b2)) (Q [Aa (Ac false)]) ((0≤n1∧n1<(Ai ps.length)∧An (nth [] ps (Aj n1))=8)∧∃b es b3 e2,cut (nth [] ps (Aj n1)) 4 4 [Ac b,Ae es,Ac b3,Ae e2]∧∃b4,Gv 91 [Ab [Ac b,Ae es,Ac b3,Ae e2]] [Aa (Ac b4)]∧br (toB (Ac !b4)) (Q [Aa (Ac false)]) (I0 [] [Ad .i64 (Ah .i64 (n1+1))]∧M0 [Ad .i64 (Ah .i64 (n1+1))]<M0 [Ad .i64 n1]))) (Q [Aa (Ac true)]))))):=by kernel_rfl
theorem Tn (ls es:List (List D)):wpF CC Gv (Vn ⟨[.slot 3 (.int .i64 0)],[],I0,M0⟩ ⟨[.slot 4 (.int .i64 0)],[],I1,M1⟩) Tryz.f16 [.ag [.sl ls,.sl es]] Q=(
 br (toB (Ac (decide ((Ai ls.length)>20)))) (Q [Aa (Ad .i64 3)]) (br (toB (Ac (decide ((Ai es.length)>200)))) (Q [Aa (Ad .i64 3)]) (I0 [] [Ad .i64 0]∧∀(n:Int),I0 [] [Ad .i64 n]→br (toB (Ac (decide (n<(Ai ls.length))))) ((0≤n∧n<(Ai ls.length)∧An (nth [] ls (Aj n))=3)∧∃s n1 n2,cut (nth [] ls (Aj n)) 0 3 [Af s,Ad .i64 n1,Ad .i64 n2]∧∃b,Gv 44 [Ab [Af s,Ad .i64 n1,Ad .i64 n2]] [Aa (Ac b)]∧br (toB (Ac !b)) (Q [Aa (Ad .i64 1)]) ((0≤n∧n<(Ai ls.length)∧An (nth [] ls (Aj n))=3)∧∃s,cut (nth [] ls (Aj n)) 0 1 [Af s]∧∃n3,Gv 45 [Aa (Ae ls),Aa (Af s)] [Aa (Ad .i64 n3)]∧br (toB (Ac (decide (n3<n)))) (Q [Aa (Ad .i64 5)]) (I0 [] [Ad .i64 (Ah .i64 (n+1))]∧M0 [Ad .i64 (Ah .i64 (n+1))]<M0 [Ad .i64 n]))) (I1 [] [Ad .i64 0]∧∀(n:Int),I1 [] [Ad .i64 n]→br (toB (Ac (decide (n<(Ai es.length))))) ((0≤n∧n<(Ai es.length)∧An (nth [] es (Aj n))=7)∧∃s,cut (nth [] es (Aj n)) 1 1 [Af s]∧∃n1,Gv 45 [Aa (Ae ls),Aa (Af s)] [Aa (Ad .i64 n1)]∧br (toB (Ac (decide (n1<0)))) (Q [Aa (Ad .i64 4)]) ((0≤n∧n<(Ai es.length)∧An (nth [] es (Aj n))=7)∧∃n2 s e1 b e2 b1 e3,cut (nth [] es (Aj n)) 0 7 [Ad .i64 n2,Af s,Ae e1,Ac b,Ae e2,Ac b1,Ae e3]∧∃b2,Gv 46 [Ab [Ad .i64 n2,Af s,Ae e1,Ac b,Ae e2,Ac b1,Ae e3]] [Aa (Ac b2)]∧br (toB (Ac !b2)) (Q [Aa (Ad .i64 1)]) (I1 [] [Ad .i64 (Ah .i64 (n+1))]∧M1 [Ad .i64 (Ah .i64 (n+1))]<M1 [Ad .i64 n]))) (Q [Aa (Ad .i64 0)]))))):=by kernel_rfl
theorem To (p q:Bool) (es fs:List (List D)):wpF CC Gv an0 Tryz.f28 [.ag [.bool p,.sl es,.bool q,.sl fs]] Q=(
 br (toB (Ac (decide ((Ai es.length)≤6)))) (Q [Aa (Ac (decide ((Ai fs.length)≤6)))]) (Q [Aa (Ac false)])):=by kernel_rfl
theorem Tp (ls es:List (List D)):wpF CC Gv an0 Tryz.f17 [.ag [.sl ls,.sl es]] Q=(
 br (toB (Ac (decide ((Ai es.length)≤12)))) (∃b,Gv 9 [Ab [Ae ls,Ae es]] [Aa (Ac b)]∧br b (∃n,Gv 16 [Ab [Ae ls,Ae es]] [Aa (Ad .i64 n)]∧Q [Aa (Ac (n==0))]) (Q [Aa (Ac false)])) (Q [Aa (Ac false)])):=by kernel_rfl
end
end Eng
end

section
namespace Eng
open Go Go.Proofs
set_option maxRecDepth 100000
theorem PQ (z:Int):(sgT z).length≤1:=by unfold sgT;split<;>simp
end Eng
end

section
namespace Eng
open Go Go.Proofs
set_option maxRecDepth 100000
end Eng
end

section
namespace Eng
open Go Go.Proofs
set_option maxRecDepth 100000
theorem Nc {l:List Nat} (hl:Limbs l) {k:Nat} (hk:k<l.length):xW 9 l[k]++xW (9*k) (val (l.take k))=xW (9*(k+1)) (val (l.take (k+1))):=by
 have h1:val (l.take k)<10^(9*k):=by have:=qG (hl.take k);rw[List.length_take,Nat.min_eq_left (by omega),Tw]at this;exact this
 have h2:val (l.take (k+1))=val (l.take k)+10^(9*k)*l[k]:=by have:=qD l k;rw[Tw,List.getD_eq_getElem?_getD,List.getElem?_eq_getElem hk,Option.getD_some]at this;exact this
 have h3:val (l.take (k+1))/10^(9*k)=l[k]:=by rw[h2,Nat.add_mul_div_left _ _ (As (by omega)),At h1,Nat.zero_add]
 have h4:val (l.take (k+1))%10^(9*k)=val (l.take k)%10^(9*k):=by rw[h2,Nat.add_mul_mod_self_left]
 rw[show 9*(k+1)=9+9*k by omega,kc (9*k) 9,h3,Yd _ _ _ h4]
theorem PR (z:Int) (hz:(lim z.natAbs).length≤10000000):qe CC 238 [qH z] [.c (.str (ZC z))]:=by
 have a4:=qc z.natAbs;have aa:=qj z.natAbs;have a7:=jY (n:=z.natAbs);generalize hl:lim z.natAbs=l at *;refine qf (anns:=Rb
  ⟨[.slot 3 (.string ⟨#[]⟩),.slot 4 (.int .i64 0)],[],fun _ ds=>∃k:Nat,k≤l.length∧ds=[.str (xW (9*k) (val (l.take k))),.int .i64 (k:Int)],fun ds=>(l.length-toI (nth .undef ds 1)).toNat⟩
  ⟨[.slot 3 (.string ⟨#[]⟩),.slot 5 (.int .u32 0),.slot 6 (.int .i64 0)],[.slot 3 (.string ⟨#[]⟩),.slot 4 (.int .i64 0),.slot 5 (.int .u32 0)],
    fun gs ds=>∃(k j:Nat) (v:Nat),j≤9∧gs=[.str (xW (9*k) (val (l.take k))),.int .i64 (k:Int),.int .u32 (v:Int)]∧ds=[.str (xW j v++xW (9*k) (val (l.take k))),.int .u32 ((v/10^j:Nat):Int),.int .i64 (j:Int)],
    fun ds=>(9-toI (nth .undef ds 2)).toNat⟩
  ⟨[.slot 3 (.string ⟨#[]⟩)],[],fun _ ds=>∃j:Nat,j+1≤9*l.length∧ds=[.str (xW (j+1) z.natAbs)]∧z.natAbs<10^(j+1),fun ds=>(toS (nth .undef ds 0)).length⟩) mixedT Tryz.func238 ?_
 rw[qZ,hl,PO];simp only[Int.ofNat_eq_natCast,qh];have h0:(((l.length:Nat):Int)==0)=decide (z.natAbs=0):=by rw[Bool.eq_iff_iff];simp only[beq_iff_eq,decide_eq_true_eq];rw[←a7];cases l<;>simp;omega
 rw[h0];refine brd (fun h=>?_) (fun hne=>?_)
 ·have:z=0:=by omega
  subst this;rw[Tv (by omega)];exact congrArg (fun s=>[Aa (Af s)]) dec_0.symm
 have a8:0<l.length:=by
  rcases Nat.eq_zero_or_pos l.length with h|h
  ·exact absurd (a7.1 (List.eq_nil_of_length_eq_zero h)) hne
  ·exact h
 refine⟨⟨0,by omega,rfl⟩,?_⟩;rintro s n ⟨k,hk,he⟩;simp only[Ar,D.str.injEq,D.int.injEq,true_and,and_true]at he;obtain⟨rfl,rfl⟩:=he;refine brd (fun h=>?_) (fun h=>?_)
 ·have a0:k<l.length:=by omega
  have hw:Ah .i64 ((k:Int)+1)=((k+1:Nat):Int):=by rw[xL (by omega) (by omega)];omega
  rw[Ak];refine⟨⟨by omega,by omega,qt a0⟩,_,qu a0,⟨k,0,l[k],by omega,rfl,by simp[xW]⟩,?_⟩;rintro s1 n2 n3 ⟨k',j,v,hj,hg,he⟩;simp only[Ar,D.str.injEq,D.int.injEq,true_and,and_true]at hg he;obtain⟨_,a6,hv⟩:=hg;have a6:k'=k:=by omega
  have hv:v=l[k]:=by omega
  subst a6 hv;obtain⟨rfl,rfl,rfl⟩:=he;have hvb:l[k']<1000000000:=a4.get a0;refine brd (fun h2=>?_) (fun h2=>?_)
  ·have hq1:l[k']/10^(j+1)=l[k']/10^j/10:=by rw[Nat.pow_succ,Nat.div_div_eq_div_mul]
   have hqle:l[k']/10^j≤l[k']:=Nat.div_le_self _ _;have hdc:=jB j l[k'];have a1:∀ds:List D,ds=[.str (xW (j+1) l[k']++xW (9*k') (val (l.take k'))),.int .u32 ((l[k']/10^(j+1):Nat):Int),.int .i64 ((j+1:Nat):Int)]→
    ∃(k j:Nat) (v:Nat),j≤9∧[Af (xW (9*k') (val (l.take k'))),Ad .i64 (k':Int),Ad .u32 (l[k']:Int)]=[.str (xW (9*k) (val (l.take k))),.int .i64 (k:Int),.int .u32 (v:Int)]∧ds=[.str (xW j v++xW (9*k) (val (l.take k))),.int .u32 ((v/10^j:Nat):Int),.int .i64 (j:Int)]:=
    fun ds h=>⟨k',j+1,l[k'],by omega,rfl,h⟩
   rw[hq1,hdc]at a1;generalize l[k']/10^j=q at *;have e1:Al (q:Int) 10=((q%10:Nat):Int):=by rw[Int.tmod_eq_emod_of_nonneg (by omega)];omega
   have e2:Am (q:Int) 10=((q/10:Nat):Int):=by rw[Int.tdiv_eq_ediv_of_nonneg (by omega)];omega
   have e3:Ah .u32 (48+((q%10:Nat):Int))=((48+q%10:Nat):Int):=by rw[zK (by omega) (by omega)];omega
   have e4:Ah .i32 ((48+q%10:Nat):Int)=((48+q%10:Nat):Int):=by simp only[Ah,IntKind.bits,IntKind.signed];simp;omega
   have e5:Ah .u32 ((q/10:Nat):Int)=((q/10:Nat):Int):=zK (by omega) (by omega);have e6:Ah .i64 ((j:Int)+1)=((j+1:Nat):Int):=by rw[xL (by omega) (by omega)];omega
   rw[e1,e2,e3,e4,e5,e6,Ak];refine⟨by omega,⟨by omega,by omega⟩,?_,by omega,a1 _ rfl,by simp only[nth,toI];omega⟩;unfold room;rw[List.length_append,xy,xy];omega
  ·have:j=9:=by omega
   subst this;rw[hw];refine⟨⟨k'+1,by omega,?_⟩,by simp only[nth,toI];omega⟩;rw[Nc a4 a0]
 ·have a0:k=l.length:=by omega
  subst a0;rw[List.take_length,aa];have ab:z.natAbs<10^(9*l.length):=by have:=qG a4;rw[aa,Tw]at this;exact this
  obtain⟨m,hm⟩:∃m,9*l.length=m+1:=⟨9*l.length-1,by omega⟩;rw[hm]at ab ⊢;refine⟨⟨m,by omega,rfl,ab⟩,?_⟩;rintro s ⟨j,hj,he,a9⟩;simp only[Ar,D.str.injEq,and_true]at he;subst he;have a3:z.natAbs/10^j%10<10:=Nat.mod_lt _ (by omega);rw[jB];simp only[List.length_cons,xy];refine⟨⟨by omega,by omega⟩,?_⟩;have e0:nth (0:UInt8) (Aw (48+z.natAbs/10^j%10)::xW j z.natAbs) (Aj 0)=Aw (48+z.natAbs/10^j%10):=rfl;rw[e0,Tu a3];have e1:((((48+z.natAbs/10^j%10:Nat)):Int)==48)=decide (z.natAbs/10^j%10=0):=by rw[Bool.eq_iff_iff];simp only[beq_iff_eq,decide_eq_true_eq];omega
  rw[e1];have hq:z.natAbs/10^j<10:=by rw[Nat.div_lt_iff_lt_mul (As (by omega)),←Nat.pow_succ'];exact a9
  refine brd (fun h2=>?_) (fun h2=>?_)
  ·have hq0:z.natAbs/10^j=0:=by generalize z.natAbs/10^j=q at *;omega
   have a2:z.natAbs<10^j:=by
    rcases Au z.natAbs (10^j)with h|h
    ·exact h
    ·have:=Nat.div_pos h (As (by omega));rw[hq0]at this;omega
   rcases j with _|j
   ·rw[Nat.pow_zero]at a2;omega
   refine⟨⟨by omega,by omega,by omega⟩,⟨j,by omega,?_,a2⟩,?_⟩
   ·rw[Ak,Aq (by simp[xy])];rfl
   ·rw[Ak,Aq (by simp[xy])];simp[nth,toS,xy]
  ·have hge:10^j≤z.natAbs:=by
    rcases Au z.natAbs (10^j)with h|h
    ·rw[At h]at h2;omega
    ·exact h
   have a5:=QF hge a9;rw[←jB,a5];have hlen:(Lib.decDigits z.natAbs).length=j+1:=by rw[←a5,xy]
   refine jC (fun h3=>?_) (fun h3=>?_)
   ·have h3:=of_decide_eq_true h3;refine⟨by unfold room;omega,?_⟩;unfold ZC sgT;rw[decide_eq_true h3];rfl
   ·have h3:=of_decide_eq_false h3;unfold ZC sgT;rw[decide_eq_false h3];rfl
end Eng
end
