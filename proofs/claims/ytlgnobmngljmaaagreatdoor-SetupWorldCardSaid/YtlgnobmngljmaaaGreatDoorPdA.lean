/- What the runs at tokens say. -/
import Derived.Test.YtlgnobmngljmaaaGreatDoorPcA
import Derived.Test.YtlgnobmngljmaaaGreatDoorCtF
import Derived.Test.YtlgnobmngljmaaaGreatDoorTk1
import Derived.Test.YtlgnobmngljmaaaGreatDoorTk2
import Derived.Test.YtlgnobmngljmaaaGreatDoorTk3
import Derived.Test.YtlgnobmngljmaaaGreatDoorTk4
import Derived.Test.YtlgnobmngljmaaaGreatDoorTk5
import Derived.Test.YtlgnobmngljmaaaGreatDoorTk6
import Derived.Test.YtlgnobmngljmaaaGreatDoorTk7
import Derived.Test.YtlgnobmngljmaaaGreatDoorTk8
import Derived.Test.YtlgnobmngljmaaaGreatDoorTk9
import Derived.Test.YtlgnobmngljmaaaGreatDoorTk10
import Derived.Test.YtlgnobmngljmaaaGreatDoorTk11
import Derived.Test.YtlgnobmngljmaaaGreatDoorTk12
import Derived.Test.YtlgnobmngljmaaaGreatDoorTk13
import Derived.Test.YtlgnobmngljmaaaGreatDoorTk14
import Derived.Test.YtlgnobmngljmaaaGreatDoorTk15
import Derived.Test.YtlgnobmngljmaaaGreatDoorTk16
import Derived.Test.YtlgnobmngljmaaaGreatDoorTk17
import Derived.Test.YtlgnobmngljmaaaGreatDoorTk18
import Derived.Test.YtlgnobmngljmaaaGreatDoorTk19
import Derived.Test.YtlgnobmngljmaaaGreatDoorAw5
section
namespace Eng
open Go Go.Proofs
set_option maxRecDepth 1000000
theorem awake_ok [Env]:Gives CS 4 [] [.c (.bool true)]:=Aw.g339
theorem tk_go [Env] [TokOk] {e:EntH} (h:Tk.G e) {f:Nat} {al rs:List A} (hh:(e.1,e.2.2.1,e.2.2.2)=(f,al,rs)):Gives CC f al rs:=by
 obtain⟨f',k,al',rs'⟩:=e;obtain⟨rfl,h2⟩:=Prod.mk.inj hh;obtain⟨rfl,rfl⟩:=Prod.mk.inj h2;exact gives_cx (C:=KT) (C':=CC) rfl rfl h
theorem con_runs [Env] [TokOk]:∀k l,k<5→l<5→∃v,Gives CC 15 [.ag regT,.ag (ptT (plX k) (plY l))] [.c (.int .i64 v)]∧Gives CC 15 [.ag wantT,.ag (ptT (plX k) (plY l))] [.c (.int .i64 v)]:=by
 intro k l hk hl
 match k,hk,l,hl with
 |0,_,0,_=>exact⟨(-1),tk_go Tk.g659 (by kernel_rfl),tk_go Tk.g1165 (by kernel_rfl)⟩
 |0,_,1,_=>exact⟨(-1),tk_go Tk.g683 (by kernel_rfl),tk_go Tk.g1176 (by kernel_rfl)⟩
 |0,_,2,_=>exact⟨(-1),tk_go Tk.g708 (by kernel_rfl),tk_go Tk.g1186 (by kernel_rfl)⟩
 |0,_,3,_=>exact⟨(-1),tk_go Tk.g729 (by kernel_rfl),tk_go Tk.g1197 (by kernel_rfl)⟩
 |0,_,4,_=>exact⟨(-1),tk_go Tk.g750 (by kernel_rfl),tk_go Tk.g1207 (by kernel_rfl)⟩
 |1,_,0,_=>exact⟨(-1),tk_go Tk.g782 (by kernel_rfl),tk_go Tk.g1222 (by kernel_rfl)⟩
 |1,_,1,_=>exact⟨0,tk_go Tk.g784 (by kernel_rfl),tk_go Tk.g1224 (by kernel_rfl)⟩
 |1,_,2,_=>exact⟨0,tk_go Tk.g810 (by kernel_rfl),tk_go Tk.g1232 (by kernel_rfl)⟩
 |1,_,3,_=>exact⟨0,tk_go Tk.g816 (by kernel_rfl),tk_go Tk.g1236 (by kernel_rfl)⟩
 |1,_,4,_=>exact⟨(-1),tk_go Tk.g850 (by kernel_rfl),tk_go Tk.g1250 (by kernel_rfl)⟩
 |2,_,0,_=>exact⟨(-1),tk_go Tk.g888 (by kernel_rfl),tk_go Tk.g1264 (by kernel_rfl)⟩
 |2,_,1,_=>exact⟨0,tk_go Tk.g899 (by kernel_rfl),tk_go Tk.g1270 (by kernel_rfl)⟩
 |2,_,2,_=>exact⟨1,tk_go Tk.g920 (by kernel_rfl),tk_go Tk.g1282 (by kernel_rfl)⟩
 |2,_,3,_=>exact⟨0,tk_go Tk.g939 (by kernel_rfl),tk_go Tk.g1292 (by kernel_rfl)⟩
 |2,_,4,_=>exact⟨(-1),tk_go Tk.g960 (by kernel_rfl),tk_go Tk.g1304 (by kernel_rfl)⟩
 |3,_,0,_=>exact⟨(-1),tk_go Tk.g982 (by kernel_rfl),tk_go Tk.g1315 (by kernel_rfl)⟩
 |3,_,1,_=>exact⟨0,tk_go Tk.g984 (by kernel_rfl),tk_go Tk.g1317 (by kernel_rfl)⟩
 |3,_,2,_=>exact⟨0,tk_go Tk.g1008 (by kernel_rfl),tk_go Tk.g1329 (by kernel_rfl)⟩
 |3,_,3,_=>exact⟨0,tk_go Tk.g1018 (by kernel_rfl),tk_go Tk.g1335 (by kernel_rfl)⟩
 |3,_,4,_=>exact⟨(-1),tk_go Tk.g1042 (by kernel_rfl),tk_go Tk.g1347 (by kernel_rfl)⟩
 |4,_,0,_=>exact⟨(-1),tk_go Tk.g1069 (by kernel_rfl),tk_go Tk.g1357 (by kernel_rfl)⟩
 |4,_,1,_=>exact⟨(-1),tk_go Tk.g1092 (by kernel_rfl),tk_go Tk.g1369 (by kernel_rfl)⟩
 |4,_,2,_=>exact⟨(-1),tk_go Tk.g1111 (by kernel_rfl),tk_go Tk.g1379 (by kernel_rfl)⟩
 |4,_,3,_=>exact⟨(-1),tk_go Tk.g1134 (by kernel_rfl),tk_go Tk.g1391 (by kernel_rfl)⟩
 |4,_,4,_=>exact⟨(-1),tk_go Tk.g1153 (by kernel_rfl),tk_go Tk.g1401 (by kernel_rfl)⟩
theorem runs_ok {ρ:Nat→Rat} {x0 y0 x1 y1:Int} (h:AtZ ρ x0 y0 x1 y1) (ht: @TokOk (envZ ρ x0 y0 x1 y1)): @RunsOk (envZ ρ x0 y0 x1 y1):=by
 letI:Env:=envZ ρ x0 y0 x1 y1
 haveI:TokOk:=ht
 haveI:BdOk:=bdOk h ht (allG_cx (C:=KT) (C':=CC) rfl rfl Tk.tabL_ok)
 exact⟨tk_go Tk.g1457 (by kernel_rfl),tk_go Tk.g485 (by kernel_rfl),tk_go Tk.g611 (by kernel_rfl),tk_go Tk.g620 (by kernel_rfl),con_runs⟩
end Eng
end
