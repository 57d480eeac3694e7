/- The lists that the chapter's example sorts. -/
import Derived.Test.YtkkodaemmgpgfaaGreatDoorTabB
import Derived.KernelRfl
section
namespace Eng
open Go Go.Proofs
set_option maxRecDepth 1000000
def rqm1 : List D := [.bool true, .sl [[.int .u32 1]], .bool false, .sl [[.int .u32 1]]]
def rq1 : List D := [.bool false, .sl [[.int .u32 1]], .bool false, .sl [[.int .u32 1]]]
def rq3 : List D := [.bool false, .sl [[.int .u32 3]], .bool false, .sl [[.int .u32 1]]]
def xs1 : List (List D) := [rqm1, rq3, rqm1, rq1, rq1, rq3, rqm1, rq1, rq1, rq3]
def xs1s : List (List D) := [rqm1, rqm1, rqm1, rq1, rq1, rq1, rq1, rq3, rq3, rq3]
def ys1 : List (List D) := [rqm1, rq3, rqm1, rq1, rqm1, rq1, rq1, rq3, rq1, rq3]
def ys1s : List (List D) := [rqm1, rqm1, rqm1, rq1, rq1, rq1, rq1, rq3, rq3, rq3]
def xs2 : List (List D) := [rqm1, rq3, rq1, rq3, rqm1, rq1, rq1, rq3]
def xs2s : List (List D) := [rqm1, rqm1, rq1, rq1, rq1, rq3, rq3, rq3]
def ys2 : List (List D) := [rqm1, rq3, rqm1, rq1, rq1, rq3, rq1, rq3]
def ys2s : List (List D) := [rqm1, rqm1, rq1, rq1, rq1, rq3, rq3, rq3]
def st1 : List (List D) := [[.int .i64 0, .int .i64 0, .int .i64 1, .int .i64 1], [.int .i64 1, .int .i64 0, .int .i64 2, .int .i64 1], [.int .i64 0, .int .i64 1, .int .i64 1, .int .i64 2], [.int .i64 1, .int .i64 1, .int .i64 2, .int .i64 2]]
def st1s : List (List D) := st1
def st2 : List (List D) := [[.int .i64 1, .int .i64 0, .int .i64 2, .int .i64 1], [.int .i64 0, .int .i64 1, .int .i64 1, .int .i64 2], [.int .i64 1, .int .i64 1, .int .i64 2, .int .i64 2]]
def st2s : List (List D) := st2
end Eng
end

section
namespace Eng
open Go Go.Proofs
set_option maxRecDepth 1000000
theorem ins_xs1_run : (fun g c t => runFi tabU CC 1000 6 220 4 xs1 [.c (.int .i64 0), .c (.int .i64 10), .c (.fn 49)] g c t) = (fun g c t => some ([], xs1s, 4, g, c, t)) := by kernel_rfl
theorem ins_xs1 : GivesI CC 220 4 xs1 [.c (.int .i64 0), .c (.int .i64 10), .c (.fn 49)] [] xs1s := runFi_ok (C := CC) mixedT tabU_ok rfl rfl fun g c t => congrFun (congrFun (congrFun ins_xs1_run g) c) t
theorem ins_ys1_run : (fun g c t => runFi tabU CC 1000 6 220 4 ys1 [.c (.int .i64 0), .c (.int .i64 10), .c (.fn 49)] g c t) = (fun g c t => some ([], ys1s, 4, g, c, t)) := by kernel_rfl
theorem ins_ys1 : GivesI CC 220 4 ys1 [.c (.int .i64 0), .c (.int .i64 10), .c (.fn 49)] [] ys1s := runFi_ok (C := CC) mixedT tabU_ok rfl rfl fun g c t => congrFun (congrFun (congrFun ins_ys1_run g) c) t
theorem ins_xs2_run : (fun g c t => runFi tabU CC 1000 6 220 4 xs2 [.c (.int .i64 0), .c (.int .i64 8), .c (.fn 49)] g c t) = (fun g c t => some ([], xs2s, 4, g, c, t)) := by kernel_rfl
theorem ins_xs2 : GivesI CC 220 4 xs2 [.c (.int .i64 0), .c (.int .i64 8), .c (.fn 49)] [] xs2s := runFi_ok (C := CC) mixedT tabU_ok rfl rfl fun g c t => congrFun (congrFun (congrFun ins_xs2_run g) c) t
theorem ins_ys2_run : (fun g c t => runFi tabU CC 1000 6 220 4 ys2 [.c (.int .i64 0), .c (.int .i64 8), .c (.fn 49)] g c t) = (fun g c t => some ([], ys2s, 4, g, c, t)) := by kernel_rfl
theorem ins_ys2 : GivesI CC 220 4 ys2 [.c (.int .i64 0), .c (.int .i64 8), .c (.fn 49)] [] ys2s := runFi_ok (C := CC) mixedT tabU_ok rfl rfl fun g c t => congrFun (congrFun (congrFun ins_ys2_run g) c) t
theorem ins_st1_run : (fun g c t => runFi tabU CC 1000 6 165 4 st1 [.c (.int .i64 0), .c (.int .i64 4), .c (.fn 64)] g c t) = (fun g c t => some ([], st1s, 4, g, c, t)) := by kernel_rfl
theorem ins_st1 : GivesI CC 165 4 st1 [.c (.int .i64 0), .c (.int .i64 4), .c (.fn 64)] [] st1s := runFi_ok (C := CC) mixedT tabU_ok rfl rfl fun g c t => congrFun (congrFun (congrFun ins_st1_run g) c) t
theorem ins_st2_run : (fun g c t => runFi tabU CC 1000 6 165 4 st2 [.c (.int .i64 0), .c (.int .i64 3), .c (.fn 64)] g c t) = (fun g c t => some ([], st2s, 4, g, c, t)) := by kernel_rfl
theorem ins_st2 : GivesI CC 165 4 st2 [.c (.int .i64 0), .c (.int .i64 3), .c (.fn 64)] [] st2s := runFi_ok (C := CC) mixedT tabU_ok rfl rfl fun g c t => congrFun (congrFun (congrFun ins_st2_run g) c) t
def T220 : List EntI := [(xs1, [.c (.int .i64 0), .c (.int .i64 10), .c (.fn 49)], [], xs1s), (ys1, [.c (.int .i64 0), .c (.int .i64 10), .c (.fn 49)], [], ys1s), (xs2, [.c (.int .i64 0), .c (.int .i64 8), .c (.fn 49)], [], xs2s), (ys2, [.c (.int .i64 0), .c (.int .i64 8), .c (.fn 49)], [], ys2s)]
theorem T220_ok : AllI CC 220 4 T220 := ⟨ins_xs1, ins_ys1, ins_xs2, ins_ys2, trivial⟩
def T165 : List EntI := [(st1, [.c (.int .i64 0), .c (.int .i64 4), .c (.fn 64)], [], st1s), (st2, [.c (.int .i64 0), .c (.int .i64 3), .c (.fn 64)], [], st2s)]
theorem T165_ok : AllI CC 165 4 T165 := ⟨ins_st1, ins_st2, trivial⟩
noncomputable def K1L : List (Nat × EffF) := [(220, effT 4 T220), (165, effT 4 T165)]
noncomputable def K1 : Cx := CX K1L
instance : EffOk K1 := effOk_all (effX_ok ⟨effAt_T (C' := CX K1L) rfl rfl Tryz.func220 (by simp [Tryz.f220]) (by decide) T220_ok, effAt_T (C' := CX K1L) rfl rfl Tryz.func165 (by simp [Tryz.f165]) (by decide) T165_ok, trivial⟩)
end Eng
end
