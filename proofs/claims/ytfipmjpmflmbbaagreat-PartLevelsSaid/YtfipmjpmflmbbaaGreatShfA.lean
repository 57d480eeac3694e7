/- A part of the proof. -/
import Derived.Shelf.SortG.Plain
import Derived.Shelf.SortG.SortNone
import Derived.Test.YtfipmjpmflmbbaaGreatProg
section
namespace Go.Proofs
open Go.Shelf
def Tryz.sortI64_ren : Go.Shelf.Ren := ⟨fun | 53 => 27 | 64 => 53 | 63 => 52 | 78 => 101 | 79 => 102 | 70 => 92 | 71 => 93 | 72 => 94 | 73 => 95 | 74 => 96 | 75 => 97 | 59 => 98 | 76 => 99 | 77 => 100 | 88 => 155 | 89 => 156 | 90 => 157 | 91 => 158 | 92 => 159 | 68 => 160 | 96 => 220 | n => n, fun | 22 => 32 | 23 => 2 | 3 => 3 | 51 => 101 | 0 => 0 | 67 => 149 | 69 => 128 | 4 => 4 | 61 => 142 | 60 => 141 | 44 => 115 | 5 => 5 | 9 => 9 | 75 => 188 | 79 => 192 | 83 => 228 | 84 => 229 | n => n, fun | n => n⟩
theorem Tryz.sortI64 : Go.Proofs.SlLaysN.n53 Tryz.prog Tryz.sortI64_ren := {
  mixed := by kernel_rfl
  f53 := ⟨Tryz.f27.name, by decide, Tryz.func27.trans (congrArg some (by kernel_rfl))⟩
  f59 := ⟨Tryz.f98.name, by decide, Tryz.func98.trans (congrArg some (by kernel_rfl))⟩
  f63 := ⟨Tryz.f52.name, by decide, Tryz.func52.trans (congrArg some (by kernel_rfl))⟩
  f64 := Tryz.func53.trans (congrArg some (by kernel_rfl))
  f68 := ⟨Tryz.f160.name, by decide, Tryz.func160.trans (congrArg some (by kernel_rfl))⟩
  f70 := ⟨Tryz.f92.name, by decide, Tryz.func92.trans (congrArg some (by kernel_rfl))⟩
  f71 := ⟨Tryz.f93.name, by decide, Tryz.func93.trans (congrArg some (by kernel_rfl))⟩
  f72 := ⟨Tryz.f94.name, by decide, Tryz.func94.trans (congrArg some (by kernel_rfl))⟩
  f73 := ⟨Tryz.f95.name, by decide, Tryz.func95.trans (congrArg some (by kernel_rfl))⟩
  f74 := ⟨Tryz.f96.name, by decide, Tryz.func96.trans (congrArg some (by kernel_rfl))⟩
  f75 := ⟨Tryz.f97.name, by decide, Tryz.func97.trans (congrArg some (by kernel_rfl))⟩
  f76 := ⟨Tryz.f99.name, by decide, Tryz.func99.trans (congrArg some (by kernel_rfl))⟩
  f77 := ⟨Tryz.f100.name, by decide, Tryz.func100.trans (congrArg some (by kernel_rfl))⟩
  f78 := Tryz.func101.trans (congrArg some (by kernel_rfl))
  f79 := Tryz.func102.trans (congrArg some (by kernel_rfl))
  f88 := ⟨Tryz.f155.name, by decide, Tryz.func155.trans (congrArg some (by kernel_rfl))⟩
  f89 := Tryz.func156.trans (congrArg some (by kernel_rfl))
  f90 := Tryz.func157.trans (congrArg some (by kernel_rfl))
  f91 := ⟨Tryz.f158.name, by decide, Tryz.func158.trans (congrArg some (by kernel_rfl))⟩
  f92 := ⟨Tryz.f159.name, by decide, Tryz.func159.trans (congrArg some (by kernel_rfl))⟩
  f96 := ⟨Tryz.f220.name, by decide, Tryz.func220.trans (congrArg some (by kernel_rfl))⟩
  t0 := Tryz.underlying0
  a0 := Tryz.isAgg0
  z0 := Tryz.sizeOf0
  v0 := Tryz.zeroValue0
  t3 := Tryz.underlying3
  a3 := Tryz.isAgg3
  z3 := Tryz.sizeOf3
  v3 := Tryz.zeroValue3
  t4 := Tryz.underlying4
  a4 := Tryz.isAgg4
  z4 := Tryz.sizeOf4
  v4 := Tryz.zeroValue4
  t5 := Tryz.underlying5
  a5 := Tryz.isAgg5
  z5 := Tryz.sizeOf5
  v5 := Tryz.zeroValue5
  t9 := Tryz.underlying9
  a9 := Tryz.isAgg9
  z9 := Tryz.sizeOf9
  v9 := Tryz.zeroValue9
  t22 := Tryz.underlying32
  a22 := Tryz.isAgg32
  z22 := Tryz.sizeOf32
  v22 := Tryz.zeroValue32
  t23 := Tryz.underlying2
  a23 := Tryz.isAgg2
  z23 := Tryz.sizeOf2
  v23 := Tryz.zeroValue2
  t44 := Tryz.underlying115
  a44 := Tryz.isAgg115
  z44 := Tryz.sizeOf115
  v44 := Tryz.zeroValue115
  t51 := Tryz.underlying101
  a51 := Tryz.isAgg101
  z51 := Tryz.sizeOf101
  v51 := Tryz.zeroValue101
  t60 := Tryz.underlying141
  a60 := Tryz.isAgg141
  z60 := Tryz.sizeOf141
  v60 := Tryz.zeroValue141
  t61 := Tryz.underlying142
  a61 := Tryz.isAgg142
  z61 := Tryz.sizeOf142
  v61 := Tryz.zeroValue142
  t67 := Tryz.underlying149
  a67 := Tryz.isAgg149
  z67 := Tryz.sizeOf149
  v67 := Tryz.zeroValue149
  t69 := Tryz.underlying128
  a69 := Tryz.isAgg128
  z69 := Tryz.sizeOf128
  v69 := Tryz.zeroValue128
  t75 := Tryz.underlying188
  a75 := Tryz.isAgg188
  z75 := Tryz.sizeOf188
  v75 := Tryz.zeroValue188
  t79 := Tryz.underlying192
  a79 := Tryz.isAgg192
  z79 := Tryz.sizeOf192
  v79 := Tryz.zeroValue192
  t83 := Tryz.underlying228
  a83 := Tryz.isAgg228
  z83 := Tryz.sizeOf228
  v83 := Tryz.zeroValue228
  t84 := Tryz.underlying229
  a84 := Tryz.isAgg229
  z84 := Tryz.sizeOf229
  v84 := Tryz.zeroValue229 }
end Go.Proofs
end
