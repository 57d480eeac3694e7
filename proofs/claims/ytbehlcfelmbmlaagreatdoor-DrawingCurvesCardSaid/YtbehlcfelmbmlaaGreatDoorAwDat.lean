/- Data of closed runs, printed by a program (gather). -/
import Derived.Test.YtbehlcfelmbmlaaGreatDoorExA
import Derived.Test.YtbehlcfelmbmlaaGreatDoorTabB
import Derived.Test.YtbehlcfelmbmlaaGreatDoorTabF
import Derived.KernelRfl
section
namespace Eng.Aw
open Go Go.Proofs
set_option maxRecDepth 1000000
def F : D := .bool false
def T : D := .bool true
def u (n : Int) : List D := [.int .u32 n]
abbrev LD := List D
def N : LD := []
end Eng.Aw
open Eng Eng.Aw
def List.f (x : LD) : LD := F :: x
def List.t (x : LD) : LD := T :: x
def List.p0 (x : LD) : LD := F :: .sl [u 1] :: F :: .sl [u 1000] :: x
def List.p1 (x : LD) : LD := F :: .sl [u 1] :: F :: .sl [u 1] :: x
def List.p2 (x : LD) : LD := F :: .sl [] :: F :: .sl [u 1] :: x
def List.p3 (x : LD) : LD := F :: .sl [u 10] :: F :: .sl [u 1] :: x
def List.p4 (x : LD) : LD := F :: .sl [u 1] :: F :: .sl [u 2] :: x
def List.p5 (x : LD) : LD := F :: .sl [u 10000] :: F :: .sl [u 1] :: x
def List.p6 (x : LD) : LD := F :: .sl [u 500] :: F :: .sl [u 1] :: x
def List.p7 (x : LD) : LD := F :: .sl [] :: F :: .sl [] :: x
def List.p8 (x : LD) : LD := F :: .sl [u 5] :: F :: .sl [u 1] :: x
def List.p9 (x : LD) : LD := F :: .sl [u 5000] :: F :: .sl [u 1] :: x
def List.p10 (x : LD) : LD := F :: .sl [u 1000] :: F :: .sl [u 1] :: x
def List.p11 (x : LD) : LD := T :: .sl [u 500] :: F :: .sl [u 1] :: x
def List.p12 (x : LD) : LD := F :: .sl [u 1000000] :: F :: .sl [u 1] :: x
def List.p13 (x : LD) : LD := T :: .sl [u 1] :: F :: .sl [u 1] :: x
def List.p14 (x : LD) : LD := F :: .sl [u 4000] :: F :: .sl [u 1] :: x
def List.p15 (x : LD) : LD := F :: .sl [u 6000] :: F :: .sl [u 1] :: x
namespace Eng.Aw
def G (e : xN) := qe K3 e.1 e.2.2.1 e.2.2.2
theorem n : PK K3 [] := trivial
theorem c {e : xN} {es : List xN} (h : G e) (k : PK K3 es) : PK K3 (e :: es) := ⟨h, k⟩
theorem r {es : List xN} {e : xN} (h : PK K3 es) (hr : YF (BL es SX) K3 1000 40 e.1 e.2.2.1 = some e.2.2.2) : G e := Qt (C := K3) mixedT (PL (C := K3) (ents := es) h MW) 40 _ _ _ hr
def d0 : LD := [.str [116, 111, 112], .int .i64 1, .int .i64 2500]
def d1 : LD := [F, .sl [u 1]]
def d2 : LD := (.int .i64 1 :: (.str [116, 111, 112] :: (.sl [N.p2.p2, N.p6.p5] :: N.p7)))
def d3 : LD := (.int .i64 3 :: (.str [116, 111, 112] :: (.sl [N.p9.p9] :: N.p10)))
def d4 : LD := [.sl [d0], .sl [d2, d3]]
def d5 : LD := [.int .i64 1, .int .i64 0, .str [108, 97, 121, 101, 114]]
def d6 : LD := [.int .i64 1, .int .i64 6, .str [116, 111, 112]]
def d7 : LD := [.int .i64 1, .int .i64 10, .str [112, 111, 99, 107, 101, 116]]
def d8 : LD := [.int .i64 2, .int .i64 17, .str [50, 46, 53]]
def d9 : LD := [.int .i64 1, .int .i64 0, .str [108, 105, 110, 101]]
def d10 : LD := [.int .i64 1, .int .i64 5, .str [116, 111, 112]]
def d11 : LD := [.int .i64 2, .int .i64 9, .str [48]]
def d12 : LD := [.int .i64 2, .int .i64 11, .str [48]]
def d13 : LD := [.int .i64 2, .int .i64 13, .str [49, 48]]
def d14 : LD := [.int .i64 2, .int .i64 16, .str [48, 46, 53]]
def d15 : LD := [.int .i64 1, .int .i64 0, .str [99, 105, 114, 99, 108, 101]]
def d16 : LD := [.int .i64 1, .int .i64 7, .str [116, 111, 112]]
def d17 : LD := [.int .i64 2, .int .i64 11, .str [53]]
def d18 : LD := [.int .i64 2, .int .i64 13, .str [53]]
def d19 : LD := [.int .i64 2, .int .i64 15, .str [49]]
def d20 : LD := N.p2.p2.p9
def e15 : xN := (61, 2092389417626259744, [.c (.sl [d0]), .c (.str [116, 111, 112])], [.c (.int .i64 0)])
def e16 : xN := (36, 1218307023819708085, [.c (.sl [d0])], [.c (.int .i64 0)])
def e24 : xN := (142, 37154714403932137, [.c (.int .i64 1), .c (.int .i64 1000)], [.ag N.p0])
def e29 : xN := (124, 54914859356128450, [.ag d1, .ag d1], [.ag N.p1, .c (.int .i64 0)])
def e34 : xN := (73, 74335803756512401, [.ag N.p2], [.c (.str [48]), .c (T)])
def e44 : xN := (73, 613108183738747026, [.ag N.p3], [.c (.str [49, 48]), .c (T)])
def e57 : xN := (73, 613105709837584531, [.ag N.p4], [.c (.str [48, 46, 53]), .c (T)])
def e59 : xN := (79, 1715009390126876428, [.ag d2], [.c (T)])
def e67 : xN := (73, 613106809349212306, [.ag N.p8], [.c (.str [53]), .c (T)])
def e76 : xN := (73, 613105709837584530, [.ag N.p1], [.c (.str [49]), .c (T)])
def e78 : xN := (79, 1168977460555171795, [.ag d3], [.c (T)])
def e89 : xN := (10, 864678264358198672, [.ag d4], [.c (.str [108, 97, 121, 101, 114, 32, 116, 111, 112, 32, 112, 111, 99, 107, 101, 116, 32, 50, 46, 53, 10, 108, 105, 110, 101, 32, 116, 111, 112, 32, 48, 32, 48, 32, 49, 48, 32, 48, 46, 53, 10, 99, 105, 114, 99, 108, 101, 32, 116, 111, 112, 32, 53, 32, 53, 32, 49, 10]), .c (.int .i64 0)])
def e100 : xN := (149, 813015592421787248, [.c (.str [108, 97, 121, 101, 114, 32, 116, 111, 112, 32, 112, 111, 99, 107, 101, 116, 32, 50, 46, 53, 10, 108, 105, 110, 101, 32, 116, 111, 112, 32, 48, 32, 48, 32, 49, 48, 32, 48, 46, 53, 10, 99, 105, 114, 99, 108, 101, 32, 116, 111, 112, 32, 53, 32, 53, 32, 49, 10]), .c (.str [10]), .c (.int .i64 0), .c (.int .i64 (-1))], [.c (.sl [[.str [108, 97, 121, 101, 114, 32, 116, 111, 112, 32, 112, 111, 99, 107, 101, 116, 32, 50, 46, 53]], [.str [108, 105, 110, 101, 32, 116, 111, 112, 32, 48, 32, 48, 32, 49, 48, 32, 48, 46, 53]], [.str [99, 105, 114, 99, 108, 101, 32, 116, 111, 112, 32, 53, 32, 53, 32, 49]], [.str []]])])
def e114 : xN := (152, 36028814198898784, [.c (.int .u8 32)], [.c (F)])
def e140 : xN := (159, 52802672095317, [.c (.str [50, 46, 53])], [.c (.str [50, 53]), .c (.int .i64 1), .c (T)])
def e145 : xN := (245, 36028822797324405, [.c (.str [50, 53])], [.ag [F, .sl [u 25]], .c (.int .i64 0)])
def e153 : xN := (81, 868612973750829919, [.c (.str [108, 97, 121, 101, 114, 32, 116, 111, 112, 32, 112, 111, 99, 107, 101, 116, 32, 50, 46, 53])], [.c (.sl [d5, d6, d7, d8]), .c (.int .i64 0), .c (.int .i64 0)])
def e177 : xN := (124, 54641901294391457, [.ag [F, .sl []], .ag d1], [.ag N.p2, .c (.int .i64 0)])
def e178 : xN := (156, 72075186236557392, [.c (.str [48])], [.ag N.p2, .c (.int .i64 0)])
def e197 : xN := (245, 36028822797322352, [.c (.str [49, 48])], [.ag [F, .sl [u 10]], .c (.int .i64 0)])
def e198 : xN := (156, 36028822797322352, [.c (.str [49, 48])], [.ag N.p3, .c (.int .i64 0)])
def e216 : xN := (245, 72075186236557397, [.c (.str [53])], [.ag [F, .sl [u 5]], .c (.int .i64 0)])
def e220 : xN := (156, 52802663706709, [.c (.str [48, 46, 53])], [.ag N.p4, .c (.int .i64 0)])
def e222 : xN := (81, 2037373886692670206, [.c (.str [108, 105, 110, 101, 32, 116, 111, 112, 32, 48, 32, 48, 32, 49, 48, 32, 48, 46, 53])], [.c (.sl [d9, d10, d11, d12, d13, d14]), .c (.int .i64 0), .c (.int .i64 0)])
def e236 : xN := (156, 72075186236557397, [.c (.str [53])], [.ag N.p8, .c (.int .i64 0)])
def e254 : xN := (156, 72075186236557393, [.c (.str [49])], [.ag N.p1, .c (.int .i64 0)])
def e255 : xN := (81, 1500104313025960599, [.c (.str [99, 105, 114, 99, 108, 101, 32, 116, 111, 112, 32, 53, 32, 53, 32, 49])], [.c (.sl [d15, d16, d17, d18, d19]), .c (.int .i64 0), .c (.int .i64 0)])
def e260 : xN := (326, 387335991063008392, [.c (.str [50, 53, 48, 48]), .c (.int .i64 10), .c (.int .i64 64)], [.c (.int .u64 2500), .c (.ifc true)])
def e264 : xN := (39, 2295647272068524808, [.c (.sl [d5, d6, d7, d8])], [.ag d0, .c (T)])
def e271 : xN := (40, 617561565703226042, [.c (.sl [d9, d10, d11, d12, d13, d14])], [.ag d2, .c (T)])
def e278 : xN := (40, 68495402535407712, [.c (.sl [d15, d16, d17, d18, d19])], [.ag d3, .c (T)])
def e279 : xN := (13, 1417523710804650328, [.c (.str [108, 97, 121, 101, 114, 32, 116, 111, 112, 32, 112, 111, 99, 107, 101, 116, 32, 50, 46, 53, 10, 108, 105, 110, 101, 32, 116, 111, 112, 32, 48, 32, 48, 32, 49, 48, 32, 48, 46, 53, 10, 99, 105, 114, 99, 108, 101, 32, 116, 111, 112, 32, 53, 32, 53, 32, 49, 10])], [.ag d4, .c (.int .i64 0), .c (.int .i64 0)])
def e287 : xN := (94, 4198400, [], [.ag N.p7.p7.p7.p7.p7.p7.p7.p7.p7.p7.f.p2.p2.p2.p2.p2.p2.f])
def e291 : xN := (47, 329827061654248256, [.ag N.p2.p2, .ag N.p6.p5], [.ag N.p2.p2.p6.p2.p5.p2.p2.p2.p2.p2.f.p2.p2.p2.p2.p5.p11.f, .c (.int .i64 0)])
def e294 : xN := (298, 1189531410846665408, [.ag [F, .sl [u 1000000]]], [.ag [F, .sl [u 1000]], .c (.int .i64 0)])
def e296 : xN := (298, 1189531410845665409, [.ag d1], [.ag d1, .c (.int .i64 0)])
def e298 : xN := (220, 887983341903677586, [.ag N.p12], [.ag N.p10, .c (T)])
def e303 : xN := (122, 1691582377937350495, [.ag N.p9, .ag N.p2, .ag N.p12], [.ag d20, .c (.int .i64 0)])
def e306 : xN := (184, 1378593286672864332, [.ag N.p9, .ag N.p13, .ag N.p9, .ag N.p2, .ag N.p12], [.ag N.p2.p2.p9.p2.p14])
def e311 : xN := (184, 1378030336719443020, [.ag N.p9, .ag N.p1, .ag N.p9, .ag N.p2, .ag N.p12], [.ag N.p2.p2.p9.p2.p15])
def e313 : xN := (49, 1188042627362533104, [.ag N.p12.p9.p9], [.c (.sl [N.p2.p2.p9.p2.p15.p2.p2.p9.p2.p14.f.p12.p9.p9.p2.p2.p2.t, N.p2.p2.p9.p2.p14.p2.p2.p9.p2.p15.f.p12.p9.p9.p2.p2.p2.t])])
def e321 : xN := (126, 79767531096714705, [.ag N.p2.p2.p2], [.ag [F, .sl []]])
def e337 : xN := (124, 1207836363962977425, [.ag [F, .sl [u 4000]], .ag d1], [.ag N.p14, .c (.int .i64 0)])
def e343 : xN := (126, 1813658815399538213, [.ag N.p2.p2.p14], [.ag [F, .sl [u 4000]]])
def e348 : xN := (124, 1207836363962978425, [.ag [F, .sl [u 6000]], .ag d1], [.ag N.p15, .c (.int .i64 0)])
def e354 : xN := (126, 1813658816448114213, [.ag N.p2.p2.p15], [.ag [F, .sl [u 6000]]])
def e359 : xN := (124, 1207836363962977925, [.ag [F, .sl [u 5000]], .ag d1], [.ag N.p9, .c (.int .i64 0)])
def e365 : xN := (126, 1813658815923826213, [.ag d20], [.ag [F, .sl [u 5000]]])
def e366 : xN := (66, 2274457126089194655, [.c (.sl [N.p2.p2.p2, N.p2.p2.p5, N.p2.p2.p14, N.p2.p2.p15, d20, N.p2.p2.p14, N.p2.p2.p15, d20])], [.ag N.p2, .ag N.p5])
def e378 : xN := (66, 1700283085228529547, [.c (.sl [N.p2.p2.p2, N.p2.p2.p6, d20, d20, N.p2.p2.p14, d20, d20, N.p2.p2.p15])], [.ag N.p2, .ag N.p15])
def e379 : xN := (25, 864678264358198672, [.ag d4], [.ag N.p15.p5.p2.p2, .c (.int .i64 0)])
def e383 : xN := (67, 54914859356128450, [.ag d1, .ag d1], [.c (T)])
def e388 : xN := (26, 1498298231373057438, [.ag N.p5, .ag N.p5], [.c (T)])
def e393 : xN := (41, 1661754043815734660, [.ag d2, .ag d2], [.c (T)])
def e401 : xN := (41, 1947694017674660251, [.ag d3, .ag d3], [.c (T)])
def e402 : xN := (14, 1763993001409401379, [.ag d4, .ag d4], [.c (T)])
def e406 : xN := (8, 4198400, [], [.c (T)])
end Eng.Aw
end
