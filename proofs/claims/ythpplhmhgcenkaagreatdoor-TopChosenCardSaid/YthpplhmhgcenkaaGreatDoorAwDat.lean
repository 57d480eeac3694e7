import Derived.Test.YthpplhmhgcenkaaGreatDoorPaG
import Derived.KernelRfl
section
namespace Eng.Aw
open Go Go.Proofs
set_option maxRecDepth 1000000
def F:D:=.bool false
def T:D:=.bool true
def u (n:Int):List D:=[.int .u32 n]
abbrev LD:=List D
def N:LD:=[]
end Eng.Aw
open Eng Eng.Aw
def List.f (x:LD):LD:=F::x
def List.t (x:LD):LD:=T::x
namespace Eng.Aw
section
variable [Env]
def G (e:qe):=Gives CB e.1 e.2.2.1 e.2.2.2
theorem n:Wj CB []:=trivial
theorem c {e:qe}{es:List qe} (h:G e) (k:Wj CB es):Wj CB (e::es):=⟨h,k⟩
theorem r {es:List qe} {e:qe} (h:Wj CB es) (hr:y5 (Bt es iA) CB 1000 40 e.1 e.2.2.1 = some e.2.2.2:=by kernel_rfl):G e:=z2 (C:=CB) mixedT (KL (C:=CB) (ents:=es) h Sg) 40 _ _ _ hr
end
def tT:List A:=[.c T]
def tF:List A:=[.c F]
def o (n:Int):A:=.c (.int .i64 n)
def z (l:List LD):A:=.c (.sl l)
def a (l:LD):A:=.ag l
def e3:qe:=(57,124,[o 20,o 10,o 1,z [[.int .i64 5,.int .i64 5],[.int .i64 8,.int .i64 4]]],tT)
def e33:qe:=(58,984,[o 20,o 10,o 1,z [[.int .i64 5,.int .i64 5],[.int .i64 8,.int .i64 4]],z [[.int .i64 0,.int .i64 1,.int .i64 1,F]],o 1],[a [.int .i64 1,.int .i64 7,.int .i64 1,F],.c (T)])
def e38:qe:=(4,737,[],tT)
end Eng.Aw
end
