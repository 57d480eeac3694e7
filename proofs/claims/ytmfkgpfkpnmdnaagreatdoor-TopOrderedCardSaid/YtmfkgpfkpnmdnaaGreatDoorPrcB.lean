import Derived.Test.YtmfkgpfkpnmdnaaGreatDoorPaE
section
namespace Eng
open Go Go.Proofs
set_option maxRecDepth 1000000
section
variable [Env]
theorem ord0:Gives CC 12 [.c (.int .i64 ((0:Nat):Int)),.c (.sl (prD []))] [.c (.sl (iR [])),.c (.int .i64 0)]:=yk (C:=CB1) rfl rfl (by kernel_rfl)
theorem Iv:Gives CC 14 [.c (.int .i64 ((0:Nat):Int)),.c (.sl (prD [])),.c (.sl (iR []))] [.c (.bool true)]:=yk (C:=CB1) rfl rfl (by kernel_rfl)
theorem ord1:Gives CC 12 [.c (.int .i64 ((1:Nat):Int)),.c (.sl (prD []))] [.c (.sl (iR [0])),.c (.int .i64 0)]:=yk (C:=CB1) rfl rfl (by kernel_rfl)
theorem Iw:Gives CC 14 [.c (.int .i64 ((1:Nat):Int)),.c (.sl (prD [])),.c (.sl (iR [0]))] [.c (.bool true)]:=yk (C:=CB1) rfl rfl (by kernel_rfl)
theorem ord2:Gives CC 12 [.c (.int .i64 ((2:Nat):Int)),.c (.sl (prD [(0,1)]))] [.c (.sl (iR [0,1])),.c (.int .i64 0)]:=yk (C:=CB1) rfl rfl (by kernel_rfl)
theorem Ix:Gives CC 14 [.c (.int .i64 ((2:Nat):Int)),.c (.sl (prD [(0,1)])),.c (.sl (iR [0,1]))] [.c (.bool true)]:=yk (C:=CB1) rfl rfl (by kernel_rfl)
theorem ord3:Gives CC 12 [.c (.int .i64 ((3:Nat):Int)),.c (.sl (prD [(0,1)]))] [.c (.sl (iR [0,1,2])),.c (.int .i64 0)]:=yk (C:=CB1) rfl rfl (by kernel_rfl)
theorem Iy:Gives CC 14 [.c (.int .i64 ((3:Nat):Int)),.c (.sl (prD [(0,1)])),.c (.sl (iR [0,1,2]))] [.c (.bool true)]:=yk (C:=CB1) rfl rfl (by kernel_rfl)
theorem Iz:Gives CC 14 [.c (.int .i64 ((3:Nat):Int)),.c (.sl (prD [(0,1)])),.c (.sl (iR [0,2,1]))] [.c (.bool true)]:=yk (C:=CB1) rfl rfl (by kernel_rfl)
theorem I4:Gives CC 14 [.c (.int .i64 ((3:Nat):Int)),.c (.sl (prD [(0,1)])),.c (.sl (iR [2,0,1]))] [.c (.bool true)]:=yk (C:=CB1) rfl rfl (by kernel_rfl)
theorem ord4:Gives CC 12 [.c (.int .i64 ((3:Nat):Int)),.c (.sl (prD [(0,1),(0,2),(1,2)]))] [.c (.sl (iR [0,1,2])),.c (.int .i64 0)]:=yk (C:=CB1) rfl rfl (by kernel_rfl)
theorem I5:Gives CC 14 [.c (.int .i64 ((3:Nat):Int)),.c (.sl (prD [(0,1),(0,2),(1,2)])),.c (.sl (iR [0,1,2]))] [.c (.bool true)]:=yk (C:=CB1) rfl rfl (by kernel_rfl)
theorem ord5:Gives CC 12 [.c (.int .i64 ((4:Nat):Int)),.c (.sl (prD [(0,1),(0,3),(1,3),(2,3)]))] [.c (.sl (iR [0,1,2,3])),.c (.int .i64 0)]:=yk (C:=CB1) rfl rfl (by kernel_rfl)
theorem I6:Gives CC 14 [.c (.int .i64 ((4:Nat):Int)),.c (.sl (prD [(0,1),(0,3),(1,3),(2,3)])),.c (.sl (iR [0,1,2,3]))] [.c (.bool true)]:=yk (C:=CB1) rfl rfl (by kernel_rfl)
theorem I7:Gives CC 14 [.c (.int .i64 ((4:Nat):Int)),.c (.sl (prD [(0,1),(0,3),(1,3),(2,3)])),.c (.sl (iR [0,2,1,3]))] [.c (.bool true)]:=yk (C:=CB1) rfl rfl (by kernel_rfl)
theorem I8:Gives CC 14 [.c (.int .i64 ((4:Nat):Int)),.c (.sl (prD [(0,1),(0,3),(1,3),(2,3)])),.c (.sl (iR [2,0,1,3]))] [.c (.bool true)]:=yk (C:=CB1) rfl rfl (by kernel_rfl)
theorem nd_0:Gives CC 10 [.c (.sl (jx []))] [.c (.sl (prD []))]:=yk (C:=CB0) rfl rfl (by kernel_rfl)
theorem nd_P (t0:Int) (e0:List Int) (t1:Int) (e1:List Int):Gives CC 10 [.c (.sl (jx [⟨1,0,t0,e0⟩,⟨2,0,t1,e1⟩]))] [.c (.sl (prD [(0,1)]))]:=yk (C:=CB0) rfl rfl (by kernel_rfl)
theorem eo (t0:Int) (e0:List Int):Gives CC 10 [.c (.sl (jx [⟨1,0,t0,e0⟩]))] [.c (.sl (prD []))]:=yk (C:=CB0) rfl rfl (by kernel_rfl)
theorem er (t0:Int) (e0:List Int):Gives CC 10 [.c (.sl (jx [⟨3,0,t0,e0⟩]))] [.c (.sl (prD []))]:=yk (C:=CB0) rfl rfl (by kernel_rfl)
theorem nd_O (t0:Int) (e0:List Int):Gives CC 10 [.c (.sl (jx [⟨5,0,t0,e0⟩]))] [.c (.sl (prD []))]:=yk (C:=CB0) rfl rfl (by kernel_rfl)
theorem I9 (t0:Int) (e0:List Int) (t1:Int) (e1:List Int) (t2:Int) (e2:List Int):Gives CC 10 [.c (.sl (jx [⟨1,0,t0,e0⟩,⟨2,0,t1,e1⟩,⟨1,1,t2,e2⟩]))] [.c (.sl (prD [(0,1)]))]:=yk (C:=CB0) rfl rfl (by kernel_rfl)
theorem IA (t0:Int) (e0:List Int) (t1:Int) (e1:List Int) (t2:Int) (e2:List Int):Gives CC 10 [.c (.sl (jx [⟨1,0,t0,e0⟩,⟨2,0,t1,e1⟩,⟨3,1,t2,e2⟩]))] [.c (.sl (prD [(0,1)]))]:=yk (C:=CB0) rfl rfl (by kernel_rfl)
theorem ew (t0:Int) (e0:List Int) (t1:Int) (e1:List Int) (t2:Int) (e2:List Int):Gives CC 10 [.c (.sl (jx [⟨1,0,t0,e0⟩,⟨2,0,t1,e1⟩,⟨5,1,t2,e2⟩]))] [.c (.sl (prD [(0,1),(0,2),(1,2)]))]:=yk (C:=CB0) rfl rfl (by kernel_rfl)
theorem IB (t0:Int) (e0:List Int) (t1:Int) (e1:List Int):Gives CC 10 [.c (.sl (jx [⟨1,0,t0,e0⟩,⟨5,1,t1,e1⟩]))] [.c (.sl (prD [(0,1)]))]:=yk (C:=CB0) rfl rfl (by kernel_rfl)
theorem IC (t0:Int) (e0:List Int) (t1:Int) (e1:List Int):Gives CC 10 [.c (.sl (jx [⟨3,0,t0,e0⟩,⟨5,1,t1,e1⟩]))] [.c (.sl (prD [(0,1)]))]:=yk (C:=CB0) rfl rfl (by kernel_rfl)
theorem DH (t0:Int) (e0:List Int) (t1:Int) (e1:List Int) (t2:Int) (e2:List Int) (t3:Int) (e3:List Int):Gives CC 10 [.c (.sl (jx [⟨1,0,t0,e0⟩,⟨2,0,t1,e1⟩,⟨1,1,t2,e2⟩,⟨5,2,t3,e3⟩]))] [.c (.sl (prD [(0,1),(0,3),(1,3),(2,3)]))]:=yk (C:=CB0) rfl rfl (by kernel_rfl)
theorem DI (t0:Int) (e0:List Int) (t1:Int) (e1:List Int) (t2:Int) (e2:List Int) (t3:Int) (e3:List Int):Gives CC 10 [.c (.sl (jx [⟨1,0,t0,e0⟩,⟨2,0,t1,e1⟩,⟨3,1,t2,e2⟩,⟨5,2,t3,e3⟩]))] [.c (.sl (prD [(0,1),(0,3),(1,3),(2,3)]))]:=yk (C:=CB0) rfl rfl (by kernel_rfl)
end
end Eng
end
