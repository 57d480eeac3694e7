/- Closed runs of the sorting: pdq. -/
import Derived.Test.YtkkodaemmgpgfaaGreatDoorSrtA
import Derived.Test.YtkkodaemmgpgfaaGreatDoorInsA
import Derived.KernelRfl
section
namespace Eng
open Go Go.Proofs
set_option maxRecDepth 1000000
theorem pdq_xs1_run : (fun g c t => runFi tabU K1 1000 6 164 4 xs1 [.c (.int .i64 0), .c (.int .i64 10), .c (.int .i64 4), .c (.fn 49)] g c t) = (fun g c t => some ([], xs1s, 4, g, c, t)) := by kernel_rfl
theorem pdq_xs1 : GivesI K1 164 4 xs1 [.c (.int .i64 0), .c (.int .i64 10), .c (.int .i64 4), .c (.fn 49)] [] xs1s := runFi_ok (C := K1) mixedT tabU_okX rfl rfl fun g c t => congrFun (congrFun (congrFun pdq_xs1_run g) c) t
theorem pdq_ys1_run : (fun g c t => runFi tabU K1 1000 6 164 4 ys1 [.c (.int .i64 0), .c (.int .i64 10), .c (.int .i64 4), .c (.fn 49)] g c t) = (fun g c t => some ([], ys1s, 4, g, c, t)) := by kernel_rfl
theorem pdq_ys1 : GivesI K1 164 4 ys1 [.c (.int .i64 0), .c (.int .i64 10), .c (.int .i64 4), .c (.fn 49)] [] ys1s := runFi_ok (C := K1) mixedT tabU_okX rfl rfl fun g c t => congrFun (congrFun (congrFun pdq_ys1_run g) c) t
theorem pdq_xs2_run : (fun g c t => runFi tabU K1 1000 6 164 4 xs2 [.c (.int .i64 0), .c (.int .i64 8), .c (.int .i64 4), .c (.fn 49)] g c t) = (fun g c t => some ([], xs2s, 4, g, c, t)) := by kernel_rfl
theorem pdq_xs2 : GivesI K1 164 4 xs2 [.c (.int .i64 0), .c (.int .i64 8), .c (.int .i64 4), .c (.fn 49)] [] xs2s := runFi_ok (C := K1) mixedT tabU_okX rfl rfl fun g c t => congrFun (congrFun (congrFun pdq_xs2_run g) c) t
theorem pdq_ys2_run : (fun g c t => runFi tabU K1 1000 6 164 4 ys2 [.c (.int .i64 0), .c (.int .i64 8), .c (.int .i64 4), .c (.fn 49)] g c t) = (fun g c t => some ([], ys2s, 4, g, c, t)) := by kernel_rfl
theorem pdq_ys2 : GivesI K1 164 4 ys2 [.c (.int .i64 0), .c (.int .i64 8), .c (.int .i64 4), .c (.fn 49)] [] ys2s := runFi_ok (C := K1) mixedT tabU_okX rfl rfl fun g c t => congrFun (congrFun (congrFun pdq_ys2_run g) c) t
theorem pdq_st1_run : (fun g c t => runFi tabU K1 1000 6 119 4 st1 [.c (.int .i64 0), .c (.int .i64 4), .c (.int .i64 3), .c (.fn 64)] g c t) = (fun g c t => some ([], st1s, 4, g, c, t)) := by kernel_rfl
theorem pdq_st1 : GivesI K1 119 4 st1 [.c (.int .i64 0), .c (.int .i64 4), .c (.int .i64 3), .c (.fn 64)] [] st1s := runFi_ok (C := K1) mixedT tabU_okX rfl rfl fun g c t => congrFun (congrFun (congrFun pdq_st1_run g) c) t
theorem pdq_st2_run : (fun g c t => runFi tabU K1 1000 6 119 4 st2 [.c (.int .i64 0), .c (.int .i64 3), .c (.int .i64 2), .c (.fn 64)] g c t) = (fun g c t => some ([], st2s, 4, g, c, t)) := by kernel_rfl
theorem pdq_st2 : GivesI K1 119 4 st2 [.c (.int .i64 0), .c (.int .i64 3), .c (.int .i64 2), .c (.fn 64)] [] st2s := runFi_ok (C := K1) mixedT tabU_okX rfl rfl fun g c t => congrFun (congrFun (congrFun pdq_st2_run g) c) t
def T164 : List EntI := [(xs1, [.c (.int .i64 0), .c (.int .i64 10), .c (.int .i64 4), .c (.fn 49)], [], xs1s), (ys1, [.c (.int .i64 0), .c (.int .i64 10), .c (.int .i64 4), .c (.fn 49)], [], ys1s), (xs2, [.c (.int .i64 0), .c (.int .i64 8), .c (.int .i64 4), .c (.fn 49)], [], xs2s), (ys2, [.c (.int .i64 0), .c (.int .i64 8), .c (.int .i64 4), .c (.fn 49)], [], ys2s)]
theorem T164_ok : AllI K1 164 4 T164 := ⟨pdq_xs1, pdq_ys1, pdq_xs2, pdq_ys2, trivial⟩
def T119 : List EntI := [(st1, [.c (.int .i64 0), .c (.int .i64 4), .c (.int .i64 3), .c (.fn 64)], [], st1s), (st2, [.c (.int .i64 0), .c (.int .i64 3), .c (.int .i64 2), .c (.fn 64)], [], st2s)]
theorem T119_ok : AllI K1 119 4 T119 := ⟨pdq_st1, pdq_st2, trivial⟩
noncomputable def K2L : List (Nat × EffF) := [(164, effT 4 T164), (119, effT 4 T119)]
noncomputable def K2 : Cx := CX K2L
instance : EffOk K2 := effOk_all (effX_ok ⟨effAt_T (C' := CX K2L) rfl rfl Tryz.func164 (by simp [Tryz.f164]) (by decide) T164_ok, effAt_T (C' := CX K2L) rfl rfl Tryz.func119 (by simp [Tryz.f119]) (by decide) T119_ok, trivial⟩)
end Eng
end

section
namespace Eng
open Go Go.Proofs
set_option maxRecDepth 1000000
theorem srt_xs1_run : (fun g c t => runFi tabU K2 1000 6 115 4 xs1 [.c (.fn 49)] g c t) = (fun g c t => some ([], xs1s, 4, g, c, t)) := by kernel_rfl
theorem srt_xs1 : GivesI K2 115 4 xs1 [.c (.fn 49)] [] xs1s := runFi_ok (C := K2) mixedT tabU_okX rfl rfl fun g c t => congrFun (congrFun (congrFun srt_xs1_run g) c) t
theorem srt_ys1_run : (fun g c t => runFi tabU K2 1000 6 115 4 ys1 [.c (.fn 49)] g c t) = (fun g c t => some ([], ys1s, 4, g, c, t)) := by kernel_rfl
theorem srt_ys1 : GivesI K2 115 4 ys1 [.c (.fn 49)] [] ys1s := runFi_ok (C := K2) mixedT tabU_okX rfl rfl fun g c t => congrFun (congrFun (congrFun srt_ys1_run g) c) t
theorem srt_xs2_run : (fun g c t => runFi tabU K2 1000 6 115 4 xs2 [.c (.fn 49)] g c t) = (fun g c t => some ([], xs2s, 4, g, c, t)) := by kernel_rfl
theorem srt_xs2 : GivesI K2 115 4 xs2 [.c (.fn 49)] [] xs2s := runFi_ok (C := K2) mixedT tabU_okX rfl rfl fun g c t => congrFun (congrFun (congrFun srt_xs2_run g) c) t
theorem srt_ys2_run : (fun g c t => runFi tabU K2 1000 6 115 4 ys2 [.c (.fn 49)] g c t) = (fun g c t => some ([], ys2s, 4, g, c, t)) := by kernel_rfl
theorem srt_ys2 : GivesI K2 115 4 ys2 [.c (.fn 49)] [] ys2s := runFi_ok (C := K2) mixedT tabU_okX rfl rfl fun g c t => congrFun (congrFun (congrFun srt_ys2_run g) c) t
theorem srt_st1_run : (fun g c t => runFi tabU K2 1000 6 63 4 st1 [.c (.fn 64)] g c t) = (fun g c t => some ([], st1s, 4, g, c, t)) := by kernel_rfl
theorem srt_st1 : GivesI K2 63 4 st1 [.c (.fn 64)] [] st1s := runFi_ok (C := K2) mixedT tabU_okX rfl rfl fun g c t => congrFun (congrFun (congrFun srt_st1_run g) c) t
theorem srt_st2_run : (fun g c t => runFi tabU K2 1000 6 63 4 st2 [.c (.fn 64)] g c t) = (fun g c t => some ([], st2s, 4, g, c, t)) := by kernel_rfl
theorem srt_st2 : GivesI K2 63 4 st2 [.c (.fn 64)] [] st2s := runFi_ok (C := K2) mixedT tabU_okX rfl rfl fun g c t => congrFun (congrFun (congrFun srt_st2_run g) c) t
def T115 : List EntI := [(xs1, [.c (.fn 49)], [], xs1s), (ys1, [.c (.fn 49)], [], ys1s), (xs2, [.c (.fn 49)], [], xs2s), (ys2, [.c (.fn 49)], [], ys2s)]
theorem T115_ok : AllI K2 115 4 T115 := ⟨srt_xs1, srt_ys1, srt_xs2, srt_ys2, trivial⟩
def T63 : List EntI := [(st1, [.c (.fn 64)], [], st1s), (st2, [.c (.fn 64)], [], st2s)]
theorem T63_ok : AllI K2 63 4 T63 := ⟨srt_st1, srt_st2, trivial⟩
noncomputable def K3L : List (Nat × EffF) := [(115, effT 4 T115), (63, effT 4 T63), (114, effR1 114 4), (26, effR1 26 25), (116, effR2 116 4), (87, effI)]
noncomputable def K3 : Cx := CX K3L
instance : EffOk K3 := effOk_all (effX_ok ⟨effAt_T (C' := CX K3L) rfl rfl Tryz.func115 (by simp [Tryz.f115]) (by decide) T115_ok, effAt_T (C' := CX K3L) rfl rfl Tryz.func63 (by simp [Tryz.f63]) (by decide) T63_ok, effAt_R1 (C := CX K3L) rfl rfl Tryz.func114 (by simp [Tryz.f114]) (by decide), effAt_R1 (C := CX K3L) rfl rfl Tryz.func26 (by simp [Tryz.f26]) (by decide), effAt_R2 (C := CX K3L) rfl rfl Tryz.func116 (by simp [Tryz.f116]) (by decide), effAt_I (C := CX K3L) rfl rfl Tryz.func87 (by simp [Tryz.f87]) (by decide), trivial⟩)
end Eng
end
