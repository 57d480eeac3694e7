import Derived.Test.YtmfkgpfkpnmdnaaGreatDoorPaF
import Derived.Test.YtmfkgpfkpnmdnaaGreatDoorPaD
import Derived.KernelRfl
section
namespace Eng.Aw
open Go Go.Proofs
set_option maxRecDepth 1000000
def F:D:=.bool false
def T:D:=.bool true
def u (n:Int):List D:=[.int .u32 n]
abbrev LD:=List D
def N:LD:=[]
end Eng.Aw
open Eng Eng.Aw
def List.f (x:LD):LD:=F::x
def List.t (x:LD):LD:=T::x
namespace Eng.Aw
section
variable [Env]
def G (e:qg):=Gives CB e.1 e.2.2.1 e.2.2.2
theorem n:KP CB []:=trivial
theorem c {e:qg}{es:List qg} (h:G e) (k:KP CB es):KP CB (e::es):=⟨h,k⟩
theorem r {es:List qg} {e:qg} (h:KP CB es) (hr:wv (Sk es dM) CB 1000 40 e.1 e.2.2.1 = some e.2.2.2:=by kernel_rfl):G e:=z9 (C:=CB) mixedT (K8 (C:=CB) (ents:=es) h Rh) 40 _ _ _ hr
end
def tT:List A:=[.c T]
def tF:List A:=[.c F]
def o (n:Int):A:=.c (.int .i64 n)
def z (l:List LD):A:=.c (.sl l)
def a (l:LD):A:=.ag l
def e3:qg:=(49,124,[o 20,o 10,o 1,z [[.int .i64 5,.int .i64 5],[.int .i64 8,.int .i64 4]]],tT)
def e33:qg:=(50,984,[o 20,o 10,o 1,z [[.int .i64 5,.int .i64 5],[.int .i64 8,.int .i64 4]],z [[.int .i64 0,.int .i64 1,.int .i64 1,F]],o 1],[a [.int .i64 1,.int .i64 7,.int .i64 1,F],.c (T)])
def e38:qg:=(4,737,[],tT)
end Eng.Aw
end
