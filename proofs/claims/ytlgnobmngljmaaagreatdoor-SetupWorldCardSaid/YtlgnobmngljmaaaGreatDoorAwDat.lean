/- Data of closed runs, printed by a program (gather). -/
import Derived.Test.YtlgnobmngljmaaaGreatDoorPbA
import Derived.Test.YtlgnobmngljmaaaGreatDoorPaC
import Derived.KernelRfl
section
namespace Eng.Aw
open Go Go.Proofs
set_option maxRecDepth 1000000
def F : D := .bool false
def T : D := .bool true
def u (n : Int) : List D := [.int .u32 n]
abbrev LD := List D
def N : LD := []
end Eng.Aw
open Eng Eng.Aw
def List.f (x : LD) : LD := F :: x
def List.t (x : LD) : LD := T :: x
def List.p0 (x : LD) : LD := F :: .sl [] :: F :: .sl [u 1] :: x
def List.p1 (x : LD) : LD := F :: .sl [u 30000] :: F :: .sl [u 1] :: x
def List.p2 (x : LD) : LD := F :: .sl [u 5000] :: F :: .sl [u 1] :: x
def List.p3 (x : LD) : LD := F :: .sl [u 40000] :: F :: .sl [u 1] :: x
def List.p4 (x : LD) : LD := F :: .sl [u 35000] :: F :: .sl [u 1] :: x
def List.p5 (x : LD) : LD := F :: .sl [u 10000] :: F :: .sl [u 1] :: x
def List.p6 (x : LD) : LD := T :: .sl [u 30000] :: F :: .sl [u 1] :: x
def List.p7 (x : LD) : LD := T :: .sl [u 5000] :: F :: .sl [u 1] :: x
def List.p8 (x : LD) : LD := T :: .sl [u 20000] :: F :: .sl [u 1] :: x
def List.p9 (x : LD) : LD := F :: .sl [u 225000000, u 1] :: F :: .sl [u 1] :: x
def List.p10 (x : LD) : LD := F :: .sl [u 925000000] :: F :: .sl [u 1] :: x
def List.p11 (x : LD) : LD := F :: .sl [u 400000000] :: F :: .sl [u 1] :: x
def List.p12 (x : LD) : LD := F :: .sl [u 25000000] :: F :: .sl [u 1] :: x
def List.p13 (x : LD) : LD := F :: .sl [u 425000000] :: F :: .sl [u 1] :: x
def List.p14 (x : LD) : LD := F :: .sl [u 20000] :: F :: .sl [u 1] :: x
def List.p15 (x : LD) : LD := F :: .sl [u 700000000] :: F :: .sl [u 1] :: x
def List.p16 (x : LD) : LD := T :: .sl [u 10000] :: F :: .sl [u 1] :: x
def List.p17 (x : LD) : LD := F :: .sl [u 50000000, u 1] :: F :: .sl [u 1] :: x
def List.p18 (x : LD) : LD := F :: .sl [u 900000000] :: F :: .sl [u 1] :: x
namespace Eng.Aw
section
variable [Env]
def G (e : EntH) := Gives CS e.1 e.2.2.1 e.2.2.2
theorem n : AllG CS [] := trivial
theorem c {e : EntH} {es : List EntH} (h : G e) (k : AllG CS es) : AllG CS (e :: es) := ⟨h, k⟩
theorem r {es : List EntH} {e : EntH} (h : AllG CS es) (hr : runF (tabH es tabS) CS 1000 40 e.1 e.2.2.1 = some e.2.2.2) : G e := runF_ok (C := CS) mixedT (tabH_ok (C := CS) (ents := es) h tabS_ok) 40 _ _ _ hr
end
def d0 : LD := [.int .i64 1, .int .i64 0, .str [115, 116, 111, 99, 107]]
def d1 : LD := [.int .i64 2, .int .i64 6, .str [48]]
def d2 : LD := [.int .i64 2, .int .i64 8, .str [48]]
def d3 : LD := [.int .i64 2, .int .i64 10, .str [49, 48, 48]]
def d4 : LD := [.int .i64 2, .int .i64 14, .str [54, 48]]
def d5 : LD := [.int .i64 2, .int .i64 17, .str [50, 48]]
def d6 : LD := [.int .i64 2, .int .i64 20, .str [53]]
def d7 : LD := [.int .i64 1, .int .i64 0, .str [99, 108, 97, 109, 112]]
def d8 : LD := [.int .i64 2, .int .i64 10, .str [49, 48]]
def d9 : LD := [.int .i64 2, .int .i64 13, .str [49, 48]]
def d10 : LD := [.int .i64 2, .int .i64 16, .str [56, 46, 53]]
def d11 : LD := [.int .i64 2, .sl [[.int .i64 1, .int .i64 0, .str [115, 97, 102, 101]], [.int .i64 2, .int .i64 5, .str [49, 53]]]]
def d12 : LD := N.p2.p1
def e21 : EntH := (141, 36028814198898784, [.c (.int .u8 32)], [.c (F)])
def e36 : EntH := (145, 72075186236557392, [.c (.str [48])], [.ag N.p0, .c (.int .i64 0)])
def e47 : EntH := (152, 52802667905104, [.c (.str [49, 48, 48])], [.c (.str [49, 48, 48]), .c (.int .i64 0), .c (T)])
def e61 : EntH := (152, 36028822797332592, [.c (.str [54, 48])], [.c (.str [54, 48]), .c (.int .i64 0), .c (T)])
def e75 : EntH := (152, 36028822797324400, [.c (.str [50, 48])], [.c (.str [50, 48]), .c (.int .i64 0), .c (T)])
def e90 : EntH := (152, 72075186236557397, [.c (.str [53])], [.c (.str [53]), .c (.int .i64 0), .c (T)])
def e96 : EntH := (83, 808993135184661815, [.c (.str [115, 116, 111, 99, 107, 32, 48, 32, 48, 32, 49, 48, 48, 32, 54, 48, 32, 50, 48, 32, 53])], [.c (.sl [d0, d1, d2, d3, d4, d5, d6]), .c (.int .i64 0), .c (.int .i64 0)])
def e111 : EntH := (152, 36028822797322357, [.c (.str [49, 53])], [.c (.str [49, 53]), .c (.int .i64 0), .c (T)])
def e134 : EntH := (152, 36028822797322352, [.c (.str [49, 48])], [.c (.str [49, 48]), .c (.int .i64 0), .c (T)])
def e151 : EntH := (152, 52802697261141, [.c (.str [56, 46, 53])], [.c (.str [56, 53]), .c (.int .i64 1), .c (T)])
def e162 : EntH := (83, 1812260221757931270, [.c (.str [99, 108, 97, 109, 112, 32, 48, 32, 48, 32, 49, 48, 32, 49, 48, 32, 56, 46, 53])], [.c (.sl [d7, d1, d2, d8, d9, d10]), .c (.int .i64 0), .c (.int .i64 0)])
def e164 : EntH := (42, 1286387237377166174, [.c (.str [115, 116, 111, 99, 107, 32, 48, 32, 48, 32, 49, 48, 48, 32, 54, 48, 32, 50, 48, 32, 53, 10, 115, 97, 102, 101, 32, 49, 53, 10, 99, 108, 97, 109, 112, 32, 48, 32, 48, 32, 49, 48, 32, 49, 48, 32, 56, 46, 53, 10])], [.c (.sl [[.int .i64 1, .sl [d0, d1, d2, d3, d4, d5, d6]], d11, [.int .i64 3, .sl [d7, d1, d2, d8, d9, d10]]]), .c (.int .i64 0), .c (.int .i64 0)])
def e169 : EntH := (86, 72075186236557392, [.c (.str [48])], [.c (.int .i64 0), .c (.int .i64 0)])
def e171 : EntH := (220, 496108941362053256, [.c (.str [49, 48, 48, 48, 48, 48]), .c (.int .i64 10), .c (.int .i64 64)], [.c (.int .i64 100000), .c (.ifc true)])
def e179 : EntH := (220, 441397113847890008, [.c (.str [50, 48, 48, 48, 48]), .c (.int .i64 10), .c (.int .i64 64)], [.c (.int .i64 20000), .c (.ifc true)])
def e186 : EntH := (43, 2176617281349261744, [.c (.sl [d0, d1, d2, d3, d4, d5, d6]), .c (.str [115, 116, 111, 99, 107]), .c (.int .i64 6)], [.c (.sl [[.int .i64 0], [.int .i64 0], [.int .i64 100000], [.int .i64 60000], [.int .i64 20000], [.int .i64 5000]]), .c (T)])
def e190 : EntH := (153, 441397109563408472, [.c (.str [49, 53, 48, 48, 48]), .c (.int .i64 10), .c (.int .i64 64)], [.c (.int .i64 15000), .c (.ifc true)])
def e202 : EntH := (43, 1632001626017116847, [.c (.sl [d7, d1, d2, d8, d9, d10]), .c (.str [99, 108, 97, 109, 112]), .c (.int .i64 5)], [.c (.sl [[.int .i64 0], [.int .i64 0], [.int .i64 10000], [.int .i64 10000], [.int .i64 8500]]), .c (T)])
def e212 : EntH := (225, 1128461920206028701, [.ag d12, .ag N.p3.p1], [.ag N.p4.p0])
def e215 : EntH := (225, 382467892896378889, [.ag N.p0.p0, .ag N.p0.p5], [.ag N.p0.p5])
def e218 : EntH := (225, 1613980527229527312, [.ag d12, .ag N.p0.p0], [.ag N.p7.p6])
def e222 : EntH := (225, 71661288754623447, [.ag d12, .ag N.p0.p5], [.ag N.p7.p8])
def e226 : EntH := (229, 48581126989629121, [.ag N.p0, .ag N.p0], [.ag N.p0])
def e228 : EntH := (227, 1349249328794672200, [.ag N.p4.p0, .ag N.p4.p0], [.ag N.p9])
def e233 : EntH := (156, 2193905159319095676, [.ag d12, .ag N.p3.p1, .ag N.p0.p0], [.ag N.p10])
def e235 : EntH := (303, 1449974651698695585, [.ag N.p11, .ag N.p12], [.ag N.p13])
def e238 : EntH := (302, 1210520713611528105, [.ag N.p1, .ag N.p0], [.ag N.p1])
def e245 : EntH := (302, 1498298231700737438, [.ag N.p1, .ag N.p5], [.ag N.p14])
def e257 : EntH := (90, 1510947405284253604, [.ag d12, .ag N.p3.p1, .ag N.p0.p0, .ag N.p0.p5], [.ag N.p13])
def e259 : EntH := (225, 135406133899063042, [.ag N.p0.p5, .ag N.p5.p5], [.ag N.p5.p0])
def e261 : EntH := (225, 831985206845996879, [.ag d12, .ag N.p5.p5], [.ag N.p2.p8])
def e262 : EntH := (226, 553919425773731879, [.ag N.p4.p0, .ag N.p2.p8], [.ag N.p15])
def e271 : EntH := (156, 1469386137281053305, [.ag d12, .ag N.p3.p1, .ag N.p5.p5], [.ag N.p11])
def e293 : EntH := (90, 78823696296964601, [.ag d12, .ag N.p3.p1, .ag N.p0.p5, .ag N.p5.p5], [.ag N.p11])
def e297 : EntH := (225, 1144486119790718986, [.ag N.p5.p5, .ag N.p5.p0], [.ag N.p0.p16])
def e298 : EntH := (225, 603882365814419476, [.ag d12, .ag N.p5.p0], [.ag N.p2.p6])
def e299 : EntH := (226, 698034613849587790, [.ag N.p4.p0, .ag N.p2.p6], [.ag N.p17])
def e306 : EntH := (156, 2198210757025233573, [.ag d12, .ag N.p3.p1, .ag N.p5.p0], [.ag N.p18])
def e317 : EntH := (225, 399982731978928677, [.ag N.p5.p0, .ag N.p0.p0], [.ag N.p16.p0])
def e335 : EntH := (90, 1528462244366803392, [.ag d12, .ag N.p3.p1, .ag N.p5.p0, .ag N.p0.p0], [.ag N.p18])
def e336 : EntH := (44, 408526727268574355, [.ag [.int .i64 0, .int .i64 0, .int .i64 10000, .int .i64 10000, .int .i64 8500], .ag [.int .i64 30000, .int .i64 5000], .ag [.int .i64 30000, .int .i64 40000], .c (.int .i64 20000)], [.c (F)])
def e339 : EntH := (4, 4198400, [], [.c (T)])
end Eng.Aw
end
