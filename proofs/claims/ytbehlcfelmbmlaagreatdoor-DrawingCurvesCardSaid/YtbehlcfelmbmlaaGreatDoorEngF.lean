/- The engine, part 33: such calls as calls that turn local objects. -/
import Derived.Test.YtbehlcfelmbmlaaGreatDoorEngE
section
namespace Eng
open Go Go.RowKit
section
variable {C:Cx}
end
end Eng
end

section
namespace Eng
open Go Go.RowKit
section
variable {C:Cx}
theorem L0 {F0:Nat→Prop} {w0:World} {B:Bd} {F:Nat→Prop} {loc:Where} {st:St} {a:Act} {w:World} (h:Conc C B F0 w0 F loc st a w) {fn:Func} {as:List A} (hr:XL C st fn.results.toList=some as) (hfl:∀r∈as,XN r=true):
 a.defers=[]∧∃v,(results fn a.tmps).run C.P w= .ok v w∧∀F':Nat→Prop,WS w F' as v:=by
 obtain⟨us,h1,h2⟩:=v7 h hr;refine⟨h.defers,if h:us.toArray.size=1 then us.toArray[0]else .tuple us.toArray,?_,fun F'=>?_⟩
 ·unfold results;rw[Array.mapM_eq_mapM_toList];simp only[Sem.run_bind,map_eq_pure_bind];have h5:∀g:ResultVar→Sem Value,g=Tz a.tmps→(fn.results.toList.mapM g).run C.P w= .ok us w:=fun g hg=>by rw[hg];exact h1
  rw[h5 _ (by funext r;cases r<;>rfl)];rfl
 ·match as,us,h2 with
  |[a],[u],h2=>exact yX h2.1 (hfl _ (by simp))
  |[],[],h2=>exact⟨#[],rfl,trivial⟩
  |a::b::r,u::v::s,h2=>exact⟨(u::v::s).toArray,by simp,h2.mono_mem fun r hr v hv=>yX hv (hfl r hr)⟩
variable {B:Bd} {F0:Nat→Prop} {w0:World} {F:Nat→Prop} {loc:Where} {st:St} {a:Act} {w:World}
end
end Eng
end

section
namespace Eng
open Go Go.RowKit
section
variable {C:Cx}
end
end Eng
end

section
namespace Eng
open Go Go.RowKit
section
variable {C:Cx}
end
end Eng
end

section
namespace Eng
open Go Go.RowKit
section
variable {C:Cx}
theorem OG {B:Bd} {F0:Nat→Prop} {w0:World} {F:Nat→Prop} {loc:Where} {st:St} {a:Act} {w:World} (hc:Conc C B F0 w0 F loc st a w) {x:Operand} {k s:Nat} {es:List (List D)} (hv:ev st x= .arr k) (hk:nth .none st.objs k= .arr s es false) (hne:es≠[]):
 ∃(g c0:Nat) (cs0:Array Value) (t0:TypeId),loc k=some (g,c0)∧a.eval x= .slice (some ⟨g,0,none⟩) es.length c0∧LentOk C.P w F g c0 cs0 t0 s es:=by
 have a1:=(qO hc x).1;rw[hv]at a1;have a0:=hc.objs k;rw[hk]at a0;obtain⟨q1,q2,q3,q4⟩:=a0;rcases q4 with⟨_,q5⟩|⟨gb,c0,cs0,t0,q5,q6,q7,q8,q9,q10,q11,q12⟩
 ·exact absurd q5 hne
 ·rcases a1 _ _ _ hk with⟨b1,c1,r1,r2⟩|⟨r1,_⟩
  ·rw[q5]at r1;simp only[Option.some.injEq,Prod.mk.injEq]at r1;obtain⟨rfl,rfl⟩:=r1;exact⟨gb,c0,cs0,t0,q5,r2,⟨by simpa using q6,(hc.fresh _ _ _ q5).2,q7,q8,q9,q1,q2,q3,by rw[←hc.prog];exact q11,q10⟩⟩
  ·rw[q5]at r1;simp at r1
end
end Eng
end
