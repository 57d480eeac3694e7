import Derived.Calls
import Derived.Below
import Derived.Tactics
import Derived.Laws.Sem
import Derived.WalkKit
import Derived.DeepKeys
open Array renaming getElem?_setIfInBounds->Aw, ext_getElem?->Bx, getElem?_eq_getElem->Dd
open BitVec renaming ofInt->Hu
open Bool renaming and_eq_true->Hv, not_eq_true'->Hx, eq_iff_iff->Hy
open Classical renaming choose_spec->I0, choose->I1
open Go renaming Obj->I2, sizeOf->I3
open Go.Instr renaming loadAt->J3, sureAddr->J4, findNow->Lm, alloc->Lr
open Go.Op renaming equalIn->Ls, equal->Lv, intCmp->M0, stringOp->M1, intArith->M2
open Go.Program renaming keyLits->M3
open Go.Result renaming andThen_ok->Pl
open Go.Sem renaming run_bind->P1
open Go.Value renaming oneCell'->Sz, cells->Tk
open Go.World renaming cell?_of_block->Ts, size_alloc->U0, cell?->U3
open List renaming getElem_mem->V1, mem_singleton->W0, replicate->W1, mem_map->W2, flatten_cons->bd, mem_cons->be, map_cons->bh, range->bm, all_eq_true->bv, foldlM->bw
open Nat renaming beq->bx, eq_of_beq_eq_true->bF, lt_or_ge->cb, add_zero->cc, succ_mul->cg, le_refl->cm, not_lt->cp, blt->cv, beq_refl->c0
open Option renaming map_eq_some_iff->c1
open Option.some renaming injEq->c2
open Prod.mk renaming injEq->c3
section
namespace Eng
open Go
def nth {α:Type} (d:α):List α->Nat->α
 |[],_=>d
 |x::_,0=>x
 |_::xs,n+1=>nth d xs n
def upd {α:Type}:List α->Nat->α->List α
 |[],_,_=>[]
 |_::xs,0,y=>y::xs
 |x::xs,n+1,y=>x::upd xs n y
inductive D where
 |undef
 |bool (b:Bool)
 |int (k:IntKind) (n:Int)
 |str (s:List UInt8)
 |sl (es:List (List D))
 |ifc (n:Bool)
 |fn (f:Nat)
 |nilP
 |ptr (cs:List D)
 |clo (f:Nat) (ps:List D)
 |tok (p:List (Int×List Nat)) (i:Nat)
 |map (l:List (Int×List UInt8))
 deriving Inhabited
abbrev D.nilI:D:= .ifc true
inductive A where
 |c (d:D)
 |ag (cs:List D)
 deriving Inhabited
def toI:D->Int| .int _ n=>n|_=>0
def toB:D->Bool| .bool b=>b|_=>false
def toS:D->List UInt8| .str s=>s|_=>[]
def toL:D->List (List D)| .sl es=>es|_=>[]
def isI (k:IntKind):D->Bool| .int k' _=>decide (k'=k)|_=>false
def isB:D->Bool| .bool _=>true|_=>false
def isS:D->Bool| .str _=>true|_=>false
def isL:D->Bool| .sl _=>true|_=>false
inductive VC where
 |d (d:D)
 |nil
 |arr (k:Nat)
 |vec (k n:Nat)
 deriving Inhabited
inductive V where
 |any
 |no
 |c (d:D)
 |ag (cs:List D)
 |tp (as:List A)
 |nilS
 |box (k off:Nat)
 |arr (k:Nat)
 |elt (k:Nat) (i off:Nat)
 |sub (k off len:Nat)
 |eref (es:List (List D)) (i off:Nat)
 |gl (g off:Nat)
 |fn (f:Nat)
 |arrAt (k g c t:Nat)
 |boxAt (k g:Nat)
 |pinB (k g:Nat) (ps:List (Nat×Nat×Nat×Nat))
 |tpo (k:Nat) (as:List A)
 |agv (cs:List VC)
 |vec (k n:Nat)
 deriving Inhabited
def VC.v:VC->V
 | .d x=> .c x
 | .nil=> .nilS
 | .arr k=> .arr k
 | .vec k n=> .vec k n
def z5:List VC->List Nat
 |[]=>[]
 | .arr k::r=>k::z5 r
 | .vec k _::r=>k::z5 r
 | .d _::r=>z5 r
 | .nil::r=>z5 r
def un:V->V
 | .arrAt k _ _ _=> .arr k
 | .boxAt k _=> .box k 0
 | .pinB k _ _=> .box k 0
 |v=>v
inductive Obj where
 |none
 |dead
 |box (cells:List V)
 |arr (size:Nat) (es:List (List D)) (fz:Bool)
 |bld (T:Nat) (q:V)
 |vec (cells:List V)
 deriving Inhabited
def xD:Obj->Bool
 | .box _=>true
 | .bld _ _=>true
 | .vec _=>true
 |_=>false
structure St where
 tmps:List V
 objs:List Obj
 dirty:List Nat
inductive R where
 |fail
 |ok (v:V) (up:List (Nat×Obj))
 |cond (c:Prop) [dc:Decidable c] (v:V) (up:List (Nat×Obj))
 |look (z:List Value) (row:List D) (off:Nat) (ag:Bool)
 |call (f:Nat) (as:List A) (sh:List (Bool×List Value)) (up:List (Nat×Obj))
structure Cx where
 P:Program
 G:Nat->Option (List D)
 bt:Nat->Bool
 eff:Nat->Option (Option Nat->List V->List Obj->R)
 keep:TypeId->Option Nat->Bool
 wd:Nat->Bool
def cnd (b:Bool) (X:Prop):Prop:=match b with|true=>X|false=>False
def br (b:Bool) (X Y:Prop):Prop:=match b with|true=>X|false=>Y
def room (n:Nat):Prop:=n<=1073741824
instance (n:Nat):Decidable (room n):=inferInstanceAs (Decidable (n<=1073741824))
def QK (n:Nat):Prop:=n<=4000000000000
instance (n:Nat):Decidable (QK n):=inferInstanceAs (Decidable (n<=4000000000000))
def Hh (b:Bool) (n:Nat):Prop:=match b with
 |true=>QK n
 |false=>room n
instance (b:Bool) (n:Nat):Decidable (Hh b n):=match b with
 |true=>inferInstanceAs (Decidable (QK n))
 |false=>inferInstanceAs (Decidable (room n))
def roomS (s n:Nat):Prop:=n<=1073741824\/(s=4/\n<=4000000000000)
theorem roomS.le {s n m:Nat} (h:roomS s n) (hm:m<=n):roomS s m:=by
 rcases h with h|⟨h,k⟩
 .exact .inl (by omega)
 .exact .inr ⟨h,by omega⟩
theorem roomS.one {n:Nat} (h:roomS 1 n):n<=1073741824:=by rcases h with h|⟨h,_⟩<;>omega
theorem roomS.max {s n:Nat} (h:roomS s n):n<=4000000000000:=by rcases h with h|⟨_,h⟩<;>omega
def xG:Value->D
 | .bool b=> .bool b
 | .int k n=> .int k n
 | .string s=> .str s.data.toList
 | .slice none 0 0=> .sl []
 | .nilIface=> .nilI
 | .pointer none=> .nilP
 |_=> .undef
def v8:Value->V
 | .bool b=> .c (.bool b)
 | .int k n=> .c (.int k n)
 | .string s=> .c (.str s.data.toList)
 | .slice none 0 0=> .nilS
 | .nilIface=> .c .nilI
 | .pointer none=> .c .nilP
 | .agg cs=>match cs.toList.all Sz with
  |true=> .ag (cs.toList.map xG)
  |false=> .any
 |_=> .any
def ev (st:St):Operand->V
 | .tmp t=>un (nth .any st.tmps t)
 | .const v=>v8 v
 | .global g=> .gl g 0
 | .func f=> .c (.fn f)
def wk (P:Program) (t:TypeId):Bool:=
 match P.underlying t with
 |some (.struct _)=>true
 |some (.array _ _)=>true
 |_=>false
def zN (P:Program) (t:TypeId):Option (List Value):=
 match P.info? t with
 |some i=>match i.zero with
  |some v=>match v.cells.toList.all Sz&&bx i.size v.cells.toList.length&&(match v with| .agg _=>wk P t|_=>!wk P t)&&(P.underlying t).isSome with
   |true=>some v.cells.toList
   |false=>none
  |none=>none
 |none=>none
def KU (P:Program) (t:TypeId):Option TypeId:=
 match P.underlying t with
 |some (.slice e)=>some e
 |_=>none
def typed:Value->D->D
 | .int k _,d=> .int k (toI d)
 | .bool _,d=> .bool (toB d)
 | .string _,d=> .str (toS d)
 | .slice ..,d=> .sl (toL d)
 |_,d=>d
def jp:Value->D->Bool
 | .int k _,d=>isI k d
 | .bool _,d=>isB d
 | .string _,d=>isS d
 | .slice ..,d=>isL d
 |_,_=>true
def UN (P:Program):List TypeId->Option (List (Bool×List Value))
 |[]=>some []
 |t::ts=>match zN P t,UN P ts with
  |some z,some r=>some ((wk P t,z)::r)
  |_,_=>none
structure R4 where
 b:Bool
 l:List (List D)
 c:Bool
 m:List (List D)
structure P20 where
 x:R4
 u:R4
 y:R4
 v:R4
 c:R4
structure C66 where
 arc:Bool
 la:R4
 lb:R4
 lc:R4
 cx:R4
 cy:R4
 cq:R4
 cw:Bool
 fr:P20
 tt:P20
def rk (r:R4) (t:List D):List D:= .bool r.b:: .sl r.l:: .bool r.c:: .sl r.m::t
def pk (p:P20) (t:List D):List D:=rk p.x (rk p.u (rk p.y (rk p.v (rk p.c t))))
def ck (c:C66) (t:List D):List D:= .bool c.arc::rk c.la (rk c.lb (rk c.lc (rk c.cx (rk c.cy (rk c.cq (.bool c.cw::pk c.fr (pk c.tt t)))))))
def Nx:List Value->Option (List Value)
 | .bool _:: .slice .. :: .bool _:: .slice .. ::r=>some r
 |_=>none
def wA:Nat->List Value->Option (List Value)
 |0,z=>some z
 |n+1,z=>match Nx z with
  |some r=>wA n r
  |none=>none
def Hi:List Value->Option (List Value)
 | .bool _::r=>match wA 6 r with
  |some (.bool _::q)=>wA 10 q
  |_=>none
 |_=>none
def exG (g:Bool):Nat->List Value->(List D->Prop)->Prop
 |0,_,_=>False
 |_+1,[],K=>K []
 |n+1,z::r,K=>match Hi (z::r)with
  |some q=>∃x:C66,exG g n q λds=>K (ck x ds)
  |none=>match wA 5 (z::r)with
   |some q=>∃x:P20,exG g n q λds=>K (pk x ds)
   |none=>match(match g with|true=>Nx (z::r)|false=>none)with
    |some q=>∃x:R4,exG g n q λds=>K (rk x ds)
    |none=>match z with
     | .int k _=>∃i:Int,exG g n r λds=>K (.int k i::ds)
     | .bool _=>∃b:Bool,exG g n r λds=>K (.bool b::ds)
     | .string _=>∃s:List UInt8,exG g n r λds=>K (.str s::ds)
     | .slice .. =>∃es:List (List D),exG g n r λds=>K (.sl es::ds)
     | .nilIface=>∃b:Bool,exG g n r λds=>K (.ifc b::ds)
     |_=>∃d:D,exG g n r λds=>K (d::ds)
def cA:List Value->Bool
 |_::_::_::_::_::_::_::_::_=>true
 |_=>false
def JA (z:List Value) (K:List D->Prop):Prop:=exG true (z.length+1) z K
def Hj:List (Bool×List Value)->(List A->Prop)->Prop
 |[],K=>K []
 |(true,z)::r,K=>JA z λds=>Hj r λas=>K (.ag ds::as)
 |(false,z)::r,K=>JA z λds=>Hj r λas=>K (.c (nth .undef ds 0)::as)
def aA:Value->Bool
 | .int .. =>false
 | .bool _=>false
 | .string _=>false
 | .nilIface=>false
 |_=>true
def jB:List Value->Bool
 |[]=>false
 |v::r=>aA v||jB r
def zc:List (Bool×List Value)->Bool
 |[]=>false
 |(_,[])::_=>true
 |(_,z)::r=>jB z||zc r
def ZC:List A->V
 |[.c d]=> .c d
 |[.ag cs]=> .ag cs
 |as=> .tp as
def qx (objs:List Obj) (d:Nat):Bool:=
 match nth .dead objs d with
 | .none=>true
 |_=>false
def KV (objs:List Obj):VC->Option (D×List (Nat×Obj))
 | .d d=>some (d,[])
 | .nil=>some (.sl [],[])
 | .arr k=>match nth .none objs k with
  | .arr s es _=>some (.sl es,[(k,.arr s es true)])
  |_=>none
 | .vec _ _=>none
def dataC (objs:List Obj):List VC->Option (List D×List (Nat×Obj))
 |[]=>some ([],[])
 |c::r=>match KV objs c,dataC objs r with
  |some (d,u),some (ds,us)=>some (d::ds,u++us)
  |_,_=>none
def cellsOf (objs:List Obj):V->Option (List D×List (Nat×Obj))
 | .c d=>some ([d],[])
 | .ag cs=>some (cs,[])
 | .nilS=>some ([.sl []],[])
 | .arr k=>match nth .none objs k with
  | .arr s es _=>some ([.sl es],[(k,.arr s es true)])
  |_=>none
 | .agv cs=>dataC objs cs
 |_=>none
def toA (objs:List Obj):V->Option (A×List (Nat×Obj))
 | .c d=>some (.c d,[])
 | .ag cs=>some (.ag cs,[])
 | .nilS=>some (.c (.sl []),[])
 | .arr k=>match nth .none objs k with
  | .arr s es _=>some (.c (.sl es),[(k,.arr s es true)])
  |_=>none
 | .agv cs=>match dataC objs cs with
  |some (ds,u)=>some (.ag ds,u)
  |none=>none
 |_=>none
def j5 (objs:List Obj):List V->Option (List A×List (Nat×Obj))
 |[]=>some ([],[])
 |v::vs=>match toA objs v,j5 objs vs with
  |some (a,u),some (as,us)=>some (a::as,u++us)
  |_,_=>none
def vM (objs:List Obj):V->Option (List (List D)×List (Nat×Obj))
 | .c (.sl es)=>some (es,[])
 | .nilS=>some ([],[])
 | .arr k=>match nth .none objs k with
  | .arr s es _=>some (es,[(k,.arr s es true)])
  |_=>none
 |_=>none
def v9 (objs:List Obj):V->Option (List (List D))
 | .sub k o l=>match nth .none objs k with
  | .arr _ es _=>some ((es.drop o).take l)
  |_=>none
 |v=>match vM objs v with
  |some (es,_)=>some es
  |none=>none
def seg (cs:List D):Nat->Nat->List D
 |_,0=>[]
 |off,n+1=>nth .undef cs off::seg cs (off+1) n
def qB:List V->Option (List D)
 |[]=>some []
 | .c d::r=>(qB r).map (d:: ·)
 | .nilS::r=>(qB r).map (.sl []:: ·)
 |_::_=>none
def Ny:List V->Option (List VC)
 |[]=>some []
 | .c d::r=>(Ny r).map (.d d:: ·)
 | .nilS::r=>(Ny r).map (.nil:: ·)
 | .arr k::r=>(Ny r).map (.arr k:: ·)
 | .vec k n::r=>(Ny r).map (.vec k n:: ·)
 |_::_=>none
def KW:List V->Nat->List VC->List V
 |cs,_,[]=>cs
 |cs,off,d::ds=>KW (upd cs off d.v) (off+1) ds
def Xl:Value->VC
 | .slice none 0 0=> .nil
 |v=> .d (xG v)
def NO:List VC->Nat->List D->List VC
 |cs,_,[]=>cs
 |cs,off,d::ds=>NO (upd cs off (.d d)) (off+1) ds
def E2 (cs:List V):Nat->Nat->List V
 |_,0=>[]
 |off,n+1=>nth .any cs off::E2 cs (off+1) n
def UO:List V->Nat->List D->List V
 |cs,_,[]=>cs
 |cs,off,d::ds=>UO (upd cs off (.c d)) (off+1) ds
def UP:List D->Nat->List D->List D
 |cs,_,[]=>cs
 |cs,off,d::ds=>UP (upd cs off d) (off+1) ds
def Xm (P:Program) (t:TypeId) (f:Nat):Option (Nat×TypeId):=
 match P.underlying t with
 |some (.struct fs)=>match fs[f]? with
  |some fd=>some (fd.offset,fd.type)
  |none=>none
 |_=>none
def cB:BinOp->Bool
 | .shl=>true
 | .shr=>true
 |_=>false
def shV (op:BinOp) (k:IntKind) (a b:Int):R:=
 match op with
 | .shl=> .cond (0<=b) (.c (.int k (k.wrap (a*2^(min b.toNat k.bits))))) []
 | .shr=> .cond (0<=b) (.c (.int k (a.fdiv (2^(min b.toNat k.bits))))) []
 |_=> .fail
def nmT:List (Int×List Nat)->Option Int
 |[(c,[])]=>match decide (0<=c)&&decide (c<4)with
  |true=>some c
  |false=>none
 |_=>none
def E3 (op:BinOp) (x y:V):R:=
 match x,y with
 | .c (.int k a),.c (.int k' b)=>
  match cB op with
  |true=>shV op k a b
  |false=>match decide (k=k')with
  |false=> .fail
  |true=>match op with
   | .add=> .ok (.c (.int k (k.wrap (a+b)))) []
   | .sub=> .ok (.c (.int k (k.wrap (a-b)))) []
   | .mul=> .ok (.c (.int k (k.wrap (a*b)))) []
   | .quo=> .cond (b≠0) (.c (.int k (k.wrap (a.tdiv b)))) []
   | .rem=> .cond (b≠0) (.c (.int k (a.tmod b))) []
   | .eql=> .ok (.c (.bool (a==b))) []
   | .neq=> .ok (.c (.bool (a !=b))) []
   | .lss=> .ok (.c (.bool (decide (a<b)))) []
   | .leq=> .ok (.c (.bool (decide (a<=b)))) []
   | .gtr=> .ok (.c (.bool (decide (a>b)))) []
   | .geq=> .ok (.c (.bool (decide (a>=b)))) []
   | .and=> .ok (.c (.int k (k.wrap ((Hu k.bits a&&&Hu k.bits b).toNat:Int)))) []
   | .or=> .ok (.c (.int k (k.wrap ((Hu k.bits a|||Hu k.bits b).toNat:Int)))) []
   | .xor=> .ok (.c (.int k (k.wrap ((Hu k.bits a^^^Hu k.bits b).toNat:Int)))) []
   | .andNot=> .ok (.c (.int k (k.wrap ((Hu k.bits a&&&~~~(Hu k.bits b)).toNat:Int)))) []
   |_=> .fail
 | .c (.str s),.c (.str t)=>
  match op with
  | .add=> .cond (room (s.length+t.length)) (.c (.str (s++t))) []
  | .eql=> .ok (.c (.bool (s==t))) []
  | .neq=> .ok (.c (.bool (!(s==t)))) []
  |_=> .fail
 | .c (.tok p i),.c (.tok q j)=>match bx i 9&&bx j 9,nmT p,nmT q with
  |true,some c,some c'=>match op with
   | .eql=> .ok (.c (.bool (c==c'))) []
   | .neq=> .ok (.c (.bool (c !=c'))) []
   |_=> .fail
  |_,_,_=> .fail
 |_,_=> .fail
def vC:D->Option Value
 | .int k n=>some (.int k n)
 | .bool b=>some (.bool b)
 | .str s=>some (.string ⟨⟨s⟩⟩)
 |_=>none
def zQ:List D->Option (List Value)
 |[]=>some []
 |d::r=>match vC d,zQ r with
  |some v,some vs=>some (v::vs)
  |_,_=>none
def UQ:Lit->Lit->Option Bool
 | .bool p,.bool q=>some (p==q)
 | .int k n,.int k' m=>some (decide (k=k')&&decide (n=m))
 | .string s,.string t=>some (s==t)
 |_,_=>none
def yl:List Lit->List Lit->Option Bool
 |[],[]=>some true
 |l::r,l'::r'=>match UQ l l',yl r r' with
  |some p,some q=>some (p&&q)
  |_,_=>none
 |_,_=>none
def aC (P:Program) (t:TypeId) (us vs:List Value):Option Bool:=
 match P.keyTypeAt 100 t&&(!P.eqGuardType P.depth t&&(bx us.length (P.cellsOf t)&&bx vs.length (P.cellsOf t)))with
 |true=>match P.keyLits 100 t us,P.keyLits 100 t vs with
  |some l,some l'=>yl l l'
  |_,_=>none
 |false=>none
def KX (P:Program) (t:TypeId) (d:D):Bool:=
 match P.underlying t,d with
 |some .bool,.bool _=>true
 |some (.int q),.int k _=>decide (q=k)
 |some .string,.str _=>true
 |_,_=>false
def kB (P:Program):List Field->Nat->List D->Bool
 |[],_,[]=>true
 |f::fs,i,d::ds=>bx f.offset i&&(bx (P.cellsOf f.type) 1&&(KX P f.type d&&kB P fs (i+1) ds))
 |_,_,_=>false
def wfD:D->Prop
 | .int k n=>k.min<=n/\n<=k.max
 | .str s=>room s.length
 |_=>True
def ZD:List D->Prop
 |[]=>True
 |d::r=>wfD d/\ZD r
instance decWfD (d:D):Decidable (wfD d):=match d with
 | .int k n=>inferInstanceAs (Decidable (k.min<=n/\n<=k.max))
 | .str s=>inferInstanceAs (Decidable (room s.length))
 | .undef| .bool _| .sl _| .ifc _| .fn _| .nilP| .ptr _| .clo .. | .tok .. | .map _=>isTrue trivial
instance decWfAll:(ds:List D)->Decidable (ZD ds)
 |[]=>isTrue trivial
 |d::r=>match decWfD d,decWfAll r with
  |isTrue h,isTrue g=>isTrue ⟨h,g⟩
  |isFalse h,_=>isFalse λe=>h e.1
  |_,isFalse g=>isFalse λe=>g e.2
def eqF:D->D->Bool
 | .bool p,.bool q=>p==q
 | .int _ n,.int _ m=>decide (n=m)
 | .str s,.str t=>s==t
 |_,_=>false
def E4:List D->List D->Bool
 |[],[]=>true
 |c::r,d::s=>eqF c d&&E4 r s
 |_,_=>false
def UR (P:Program) (t:TypeId) (cs ds:List D):Bool:=
 match P.underlying t with
 |some (.struct fs)=>P.keyTypeAt 100 t&&(!P.eqGuardType P.depth t&&(bx cs.length (P.cellsOf t)&&(bx ds.length (P.cellsOf t)&&(fs.all (·.name != "_")&&(kB P fs.toList 0 cs&&kB P fs.toList 0 ds)))))
 |_=>false
def E5 (P:Program) (op:BinOp) (t:TypeId) (x y:V):R:=
 match x,y with
 | .ag cs,.ag ds=>match UR P t cs ds with
  |true=>match op with
   | .eql=> .cond (ZD cs/\ZD ds) (.c (.bool (E4 cs ds))) []
   | .neq=> .cond (ZD cs/\ZD ds) (.c (.bool (!(E4 cs ds)))) []
   |_=> .fail
  |false=> .fail
 |_,_=> .fail
def eqV (P:Program) (op:BinOp) (t:TypeId) (x y:V):R:=
 match P.underlying t with
 |some .bool=>match x,y with
  | .c (.bool a),.c (.bool b)=>match op with
   | .eql=> .ok (.c (.bool (a==b))) []
   | .neq=> .ok (.c (.bool (!(a==b)))) []
   |_=> .fail
  |_,_=> .fail
 |some (.struct _)=>E5 P op t x y
 |_=>E3 op x y
def vD:Operand->Bool
 | .const _=>true
 |_=>false
def SR (P:Program) (op:BinOp) (t:TypeId) (x y:Operand) (vx vy:V):R:=
 match P.underlying t with
 |some (.interface _)=>match vx,vy with
  | .c (.ifc a),.c (.ifc b)=>match(vD y&&b)||(vD x&&a)with
   |true=>match op with
    | .eql=> .ok (.c (.bool (a&&b))) []
    | .neq=> .ok (.c (.bool (!(a&&b)))) []
    |_=> .fail
   |false=> .fail
  |_,_=> .fail
 |some (.slice _)=>match vx,vy with
  | .c (.sl es),.nilS=>match op with
   | .eql=> .cond (0<es.length) (.c (.bool false)) []
   | .neq=> .cond (0<es.length) (.c (.bool true)) []
   |_=> .fail
  |_,_=> .fail
 |_=>eqV P op t vx vy
def mxV (big:Bool) (x y:V):R:=
 match x,y with
 | .c (.int k a),.c (.int k' b)=>match decide (k=k')with
  |true=>match big with
   |true=> .ok (.c (.int k (match decide (a<b)with|true=>b|false=>a))) []
   |false=> .ok (.c (.int k (match decide (b<a)with|true=>b|false=>a))) []
  |false=> .fail
 |_,_=> .fail
def ym (s:List UInt8):List (List D):=s.map λc=>[.int .u8 c.toNat]
def US (P:Program) (src dst:TypeId):Bool:=
 match P.underlying src,P.underlying dst with
 |some .string,some (.slice e)=>match P.underlying e with
  |some (.int .u8)=>true
  |_=>false
 |_,_=>false
def unV (op:UnOp) (x:V):R:=
 match op,x with
 | .not,.c (.bool b)=> .ok (.c (.bool (!b))) []
 | .neg,.c (.int k n)=> .ok (.c (.int k (k.wrap (0-n)))) []
 |_,_=> .fail
def NQ (P:Program) (dst:TypeId) (x:V):R:=
 match P.underlying dst,x with
 |some (.int k),.c (.int _ n)=> .ok (.c (.int k (k.wrap n))) []
 |some .string,.c (.int .i32 n)=> .cond (0<=n/\n<128) (.c (.str [UInt8.ofNat n.toNat])) []
 |_,_=> .fail
def kf (d:Int):Option V->Option Int
 |none=>some d
 |some (.c (.int _ n))=>some n
 |_=>none
def xW (ρ:Operand->V):Option Operand->Option V
 |none=>none
 |some x=>some (ρ x)
def lens (n:Nat) (es:List (List D)):Prop:=∀e∈es,e.length=n
def NR (n:Nat):List (List D)->Bool
 |[]=>true
 |e::r=>bx e.length n&&NR n r
theorem KY (n:Nat):∀es,NR n es=true↔lens n es
 |[]=>by simp[NR,lens]
 |e::r=>by
  have ih:=KY n r;simp only[NR,Hv,ih,lens,be];constructor
  .rintro⟨h1,h2⟩ x (rfl|hx)
   .exact bF h1
   .exact h2 x hx
  .intro h;refine⟨?_,λx hx=>h x (.inr hx)⟩;rw[h e (.inl rfl)];simp
instance (n:Nat) (es:List (List D)):Decidable (lens n es):=decidable_of_iff _ (KY n es)
def KZ (P:Program) (t:TypeId) (objs:List Obj) (x:V) (lo hi mx:Option V):R:=
 match P.underlying t with
 |some .string=>match x with
  | .c (.str s)=>match kf 0 lo,kf s.length hi with
   |some l,some h=>match mx with
    |none=> .cond (0<=l/\l<=h/\h<=s.length) (.c (.str ((s.take h.toNat).drop l.toNat))) []
    |some _=> .fail
   |_,_=> .fail
  |_=> .fail
 |some (.slice e)=>match zN P e,vM objs x with
  |some z,some (es,us)=>match kf 0 lo,kf es.length hi with
   |some l,some h=>match mx with
    |none=> .cond (0<=l/\l<=h/\h<=es.length/\lens z.length es) (.c (.sl ((es.take h.toNat).drop l.toNat))) us
    |some m=>match kf 0 (some m),hi with
     |some m,some _=> .cond (0<=l/\l<=h/\h<=m/\m<=es.length/\lens z.length es) (.c (.sl ((es.take h.toNat).drop l.toNat))) us
     |_,_=> .fail
   |_,_=> .fail
  |_,_=> .fail
 |_=> .fail
def nilB:V->Bool
 | .nilS=>true
 |_=>false
def Wa (P:Program) (t:TypeId) (objs:List Obj) (x:V) (lo hi mx:Option V):R:=
 match nilB x with
 |false=>KZ P t objs x lo hi mx
 |true=>match P.underlying t,mx with
  |some (.slice e),none=>match zN P e,kf 0 lo,kf 0 hi with
   |some _,some l,some h=> .cond (0<=l/\l<=h/\h<=0) .nilS []
   |_,_,_=> .fail
  |_,_=> .fail
def V0 (P:Program) (t:TypeId) (objs:List Obj) (x:V) (lo hi mx:Option V):R:=
 match P.underlying t with
 |some (.slice e)=>match zN P e,x with
  |some z,.arr k=>match nth .none objs k with
   | .arr s es _=>match lo,mx with
    |none,none=>match bx s z.length,kf es.length hi with
     |true,some h=> .cond (0<=h/\h<=es.length) (.sub k 0 h.toNat) []
     |_,_=> .fail
    |_,_=>match bx s z.length,kf 0 lo,kf es.length hi,mx with
     |true,some l,some h,none=> .cond (0<=l/\l<=h/\h<=es.length) (.sub k l.toNat (h.toNat-l.toNat)) []
     |_,_,_,_=> .fail
   |_=> .fail
  |_,_=> .fail
 |_=> .fail
def xX (objs:List Obj) (ρ:Operand->V):List (Nat×Operand)->Option (List (Nat×List D)×List (Nat×Obj))
 |[]=>some ([],[])
 |(i,x)::r=>match cellsOf objs (ρ x),xX objs ρ r with
  |some (ds,u),some (ps,us)=>some ((i,ds)::ps,u++us)
  |_,_=>none
def QQ (P:Program) (t:TypeId):Option (List (Nat×Nat)):=
 match P.underlying t with
 |some (.struct fs)=>fs.toList.mapM λf=>(P.info? f.type).map λi=>(f.offset,i.size)
 |some (.array n e)=>match P.info? e with
  |some i=>some ((bm n).map λk=>(k*i.size,i.size))
  |none=>none
 |_=>none
def Wb (places:List (Nat×Nat)):List (Nat×List D)->List D->Option (List D)
 |[],cs=>some cs
 |(i,ds)::r,cs=>match places[i]? with
  |some (off,size)=>match decide (ds.length=size)&&decide (off+ds.length<=cs.length)with
   |true=>Wb places r (UP cs off ds)
   |false=>none
  |none=>none
def Q1 (places:List (Nat×Nat)):List (Nat×List D)->List VC->Option (List VC)
 |[],cs=>some cs
 |(i,ds)::r,cs=>match places[i]? with
  |some (off,size)=>match decide (ds.length=size)&&decide (off+ds.length<=cs.length)with
   |true=>Q1 places r (NO cs off ds)
   |false=>none
  |none=>none
def vc1 (objs:List Obj):V->Option VC
 | .c d=>some (.d d)
 | .nilS=>some .nil
 | .arr k=>match nth .none objs k with
  | .arr _ _ _=>some (.arr k)
  |_=>none
 | .vec k n=>match nth .none objs k with
  | .vec _=>some (.vec k n)
  |_=>none
 |_=>none
def zO (objs:List Obj) (ρ:Operand->V) (places:List (Nat×Nat)):Nat->List (Nat×Operand)->Option (List VC)
 |_,[]=>some []
 |j,(i,x)::r=>match places[i]?,vc1 objs (ρ x),zO objs ρ places (j+1) r with
  |some (off,size),some c,some cs=>match bx off j&&bx size 1 with
   |true=>some (c::cs)
   |false=>none
  |_,_,_=>none
def Xn (ρ:Operand->V):List (Nat×Operand)->Bool
 |[]=>false
 |(_,x)::r=>(match ρ x with
  | .arr _=>true
  | .vec _ _=>true
  |_=>false)||Xn ρ r
def Xo (size:Nat):List (Nat×List D)->List (List D)->Option (List (List D))
 |[],es=>some es
 |(i,ds)::r,es=>match decide (ds.length=size)&&decide (i<es.length)with
  |true=>Xo size r (upd es i ds)
  |false=>none
def aD (P:Program) (t:TypeId):Option (Nat×TypeId):=
 match P.underlying t with
 |some (.array n e)=>some (n,e)
 |_=>none
def NS (C:Cx) (t:TypeId) (objs:List Obj) (p:V):R:=
 match zN C.P t with
 |none=> .fail
 |some z=>match p with
  | .box k off=>match nth .none objs k with
   | .box cells=>match wk C.P t with
    |true=>match decide (off+z.length<=cells.length)with
     |true=>match qB (E2 cells off z.length)with
      |some ds=> .ok (.ag ds) []
      |none=>match Ny (E2 cells off z.length)with
       |some cs=> .ok (.agv cs) []
       |none=> .fail
     |false=> .fail
    |false=>match decide (off<cells.length)with
     |true=> .ok (nth .any cells off) []
     |false=> .fail
   | .vec cells=>match wk C.P t with
    |true=> .fail
    |false=>match decide (off<cells.length)with
     |true=> .ok (nth .any cells off) []
     |false=> .fail
   |_=> .fail
  | .eref es i off=> .look z (nth [] es i) off (wk C.P t)
  | .elt k i off=>match nth .none objs k with
   | .arr _ es _=> .look z (nth [] es i) off (wk C.P t)
   |_=> .fail
  |_=> .fail
def Y4 (C:Cx) (t:TypeId) (objs:List Obj) (p x:V):R:=
 match zN C.P t with
 |none=> .fail
 |some z=>match p with
  | .box k off=>match nth .none objs k with
   | .box cells=>match wk C.P t with
    |true=>match x with
     | .ag ds=>match decide (ds.length=z.length)&&decide (off+ds.length<=cells.length)with
      |true=> .ok .any [(k,.box (UO cells off ds))]
      |false=> .fail
     | .agv ds=>match decide (ds.length=z.length)&&decide (off+ds.length<=cells.length)with
      |true=> .ok .any [(k,.box (KW cells off ds))]
      |false=> .fail
     |_=> .fail
    |false=>match x with
     | .c d=>match decide (off<cells.length)&&decide (z.length=1)with
      |true=> .ok .any [(k,.box (upd cells off (.c d)))]
      |false=> .fail
     | .nilS=>match decide (off<cells.length)&&decide (z.length=1)with
      |true=> .ok .any [(k,.box (upd cells off .nilS))]
      |false=> .fail
     | .arr j=>match nth .none objs j with
      | .arr .. =>match decide (off<cells.length)&&decide (z.length=1)with
       |true=> .ok .any [(k,.box (upd cells off (.arr j)))]
       |false=> .fail
      |_=> .fail
     |_=> .fail
   | .vec cells=>match x with
    | .arr j=>match nth .none objs j with
     | .arr .. =>match decide (off<cells.length)&&(decide (z.length=1)&&!wk C.P t)with
      |true=> .ok .any [(k,.vec (upd cells off (.arr j)))]
      |false=> .fail
     |_=> .fail
    |_=> .fail
   |_=> .fail
  | .elt k i off=>match nth .none objs k with
   | .arr s es false=>match x with
    | .c d=>match decide (z.length=1)&&!wk C.P t with
     |true=> .cond (off<s) .any [(k,.arr s (upd es i (upd (nth [] es i) off d)) false)]
     |false=> .fail
    | .ag ds=>match decide (ds.length=z.length)&&wk C.P t with
     |true=> .cond (off+ds.length<=s) .any [(k,.arr s (upd es i (UP (nth [] es i) off ds)) false)]
     |false=> .fail
    |_=> .fail
   |_=> .fail
  |_=> .fail
def SS (objs:List Obj):V->Option (List V×List (Nat×Obj))
 | .nilS=>some ([],[])
 | .vec k n=>match nth .none objs k with
  | .vec cells=>match bx n cells.length with
   |true=>some (cells,[(k,.dead)])
   |false=>none
  |_=>none
 |_=>none
def vN (P:Program) (d:Nat) (objs:List Obj) (e:TypeId) (x y:V):R:=
 match SS objs x,SS objs y,zN P e with
 |some (xs,up),some ([v],_),some [.slice none 0 0]=>match decide (P.bytesOf e<=4096)&&decide (up.all λp=>!bx p.1 d)with
  |true=> .cond (room (xs.length+1)) (.vec d (xs.length+1)) (up++[(d,.vec (xs++[v]))])
  |false=> .fail
 |_,_,_=> .fail
def cC:V->Bool
 | .vec _ _=>true
 |_=>false
def Xp (C:Cx) (dst:Option Nat) (objs:List Obj) (ts:Array TypeId) (x y:V):R:=
 match dst with
 |none=> .fail
 |some d=>match qx objs d with
  |false=> .fail
  |true=>match ts.toList with
   |[t,t2]=>match KU C.P t,decide (t2=t)with
    |some e,true=>match cC y with
     |true=>vN C.P d objs e x y
     |false=>match v9 objs y,zN C.P e with
     |some ys,some z=>match decide (C.P.bytesOf e<=4096)&&decide (0<z.length)with
      |true=>match x with
       | .nilS=> .cond (Hh (bx (C.P.bytesOf e) 56&&bx z.length 4) ys.length/\lens z.length ys) (.arr d) [(d,.arr z.length ys false)]
       | .arr k=>match nth .none objs k with
        | .arr s es false=>match decide (s=z.length)&&!decide (k=d)with
         |true=> .cond (Hh (bx (C.P.bytesOf e) 56&&bx z.length 4) (es.length+ys.length)/\lens z.length ys) (.arr d) [(k,.dead),(d,.arr s (es++ys) false)]
         |false=> .fail
        |_=> .fail
       | .sub k o n=>match bx o 0,nth .none objs k with
        |true,.arr s es false=>match decide (s=z.length)&&!decide (k=d)with
         |true=> .cond (Hh (bx (C.P.bytesOf e) 56&&bx z.length 4) ((es.take n).length+ys.length)/\lens z.length ys) (.arr d) [(k,.dead),(d,.arr s (es.take n++ys) false)]
         |false=> .fail
        |_,_=> .fail
       |_=> .fail
      |false=> .fail
     |_,_=> .fail
    |_,_=> .fail
   |_=> .fail
def EW (P:Program) (objs:List Obj) (ts:Array TypeId) (x:V):R:=
 match ts.toList with
 |[t]=>match P.underlying t with
  |some .string=>match x with
   | .c (.str s)=> .ok (.c (.int .i64 s.length)) []
   |_=> .fail
  |some (.slice _)=>match x with
   | .c (.sl es)=> .ok (.c (.int .i64 es.length)) []
   | .nilS=> .ok (.c (.int .i64 0)) []
   | .arr k=>match nth .none objs k with
    | .arr _ es _=> .ok (.c (.int .i64 es.length)) []
    |_=> .fail
   | .sub k _ l=>match nth .none objs k with
    | .arr _ _ _=> .ok (.c (.int .i64 l)) []
    |_=> .fail
   | .vec k n=>match nth .none objs k with
    | .vec _=> .ok (.c (.int .i64 n)) []
    |_=> .fail
   |_=> .fail
  |_=> .fail
 |_=> .fail
def Xq (C:Cx) (objs:List Obj) (ts:Array TypeId) (x:V):R:=
 match ts.toList with
 |[t]=>match KU C.P t with
  |some e=>match zN C.P e,x with
   |some z,.sub k o l=>match nth .none objs k with
    | .arr s es false=>match bx s z.length with
     |true=> .cond (0<l) .any [(k,.arr s (es.take o++(W1 l (z.map xG)++es.drop (o+l))) false)]
     |false=> .fail
    |_=> .fail
   |_,_=> .fail
  |none=> .fail
 |_=> .fail
def kC (C:Cx) (objs:List Obj) (f:Nat) (args:List V):R:=
 match C.P.funcs[f]? with
 |none=> .fail
 |some fn=>match fn.body.isSome&&!(fn.name== "runtime.NumGoroutine")with
  |false=> .fail
  |true=>match j5 objs args,UN C.P fn.resultTypes.toList with
   |some (as,us),some sh=>match zc sh with
    |true=> .call f as sh us
    |false=> .call f as sh []
   |_,_=> .fail
def kD (s:Nat):Nat->List D->List (List D)
 |0,_=>[]
 |n+1,cs=>cs.take s::kD s n (cs.drop s)
def NT (C:Cx) (g len:Nat) (e:TypeId):Option (List (List D)):=
 match C.G g with
 |some cs=>match decide (0<C.P.cellsOf e)&&decide (cs.length=len*C.P.cellsOf e)with
  |true=>some (kD (C.P.cellsOf e) len cs)
  |false=>none
 |none=>none
def RB:V->Option Nat
 | .gl g 0=>some g
 |_=>none
def UT (C:Cx) (t:TypeId) (g:Nat) (lo hi mx:Option V):R:=
 match C.P.underlying t,lo,hi,mx with
 |some (.array len e),none,none,none=>match NT C g len e with
  |some es=> .ok (.c (.sl es)) []
  |none=> .fail
 |_,_,_,_=> .fail
def vc (C:Cx) (objs:List Obj) (t:TypeId) (x i:V):R:=
 match i with
 | .c (.int _ n)=>match C.P.underlying t with
  |some (.slice e)=>match x with
   | .c (.sl es)=>match decide (0<C.P.cellsOf e)with
    |true=> .cond (0<=n/\n<es.length/\(nth [] es n.toNat).length=C.P.cellsOf e) (.eref es n.toNat 0) []
    |false=> .fail
   | .arr k=>match nth .none objs k with
    | .arr s es _=>match decide (s=C.P.cellsOf e)with
     |true=> .cond (0<=n/\n<es.length) (.elt k n.toNat 0) []
     |false=> .fail
    |_=> .fail
   | .sub k o l=>match nth .none objs k with
    | .arr s _ _=>match decide (s=C.P.cellsOf e)with
     |true=> .cond (0<=n/\n<l) (.elt k (o+n.toNat) 0) []
     |false=> .fail
    |_=> .fail
   | .vec k l=>match nth .none objs k with
    | .vec _=>match decide (C.P.cellsOf e=1)with
     |true=> .cond (0<=n/\n<l) (.box k n.toNat) []
     |false=> .fail
    |_=> .fail
   |_=> .fail
  |some (.array len e)=>match x with
   | .box k off=>match nth .none objs k with
    | .box _=>match n with
     | .ofNat m=>match decide (m<len)&&decide (0<C.P.cellsOf e)with
      |true=> .ok (.box k (off+m*C.P.cellsOf e)) []
      |false=> .fail
     |_=> .fail
    |_=> .fail
   | .gl g 0=>match NT C g len e with
    |some es=> .cond (0<=n/\n<len) (.eref es n.toNat 0) []
    |none=> .fail
   | .eref es j off=>match n with
    | .ofNat m=>match decide (m<len)&&decide (0<C.P.cellsOf e)with
     |true=> .ok (.eref es j (off+m*C.P.cellsOf e)) []
     |false=> .fail
    |_=> .fail
   |_=> .fail
  |_=> .fail
 |_=> .fail
def V2 (objs:List Obj):List V->Option (List D×List (Nat×Obj))
 |[]=>some ([],[])
 |v::r=>match v with
  | .box k 0=>match nth .none objs k with
   | .box cells=>match qB cells,V2 objs r with
    |some ds,some (ps,us)=>some (.ptr ds::ps,(k,.dead)::us)
    |_,_=>none
   |_=>none
  | .eref [ds] 0 0=>match V2 objs r with
   |some (ps,us)=>some (.ptr ds::ps,us)
   |none=>none
  |_=>none
def funV (f:Nat):List D->V
 |[]=> .c (.fn f)
 |ps=> .c (.clo f ps)
def JB (ρ:Operand->V):List (Nat×Operand)->V
 |[(0,x)]=>ρ x
 |_=> .any
def Xr (P:Program) (d:Nat) (objs:List Obj) (e:TypeId) (len:Nat) (v:V):R:=
 match v with
 | .arr j=>match nth .none objs j with
  | .arr .. =>match bx len 1,zN P e with
   |true,some [.slice none 0 0]=> .ok (.vec d 1) [(d,.vec [.arr j])]
   |_,_=> .fail
  |_=> .fail
 |_=> .fail
def xl (C:Cx) (o:Oper) (ρ:Operand->V) (objs:List Obj):R:=
 match o.op with
 | .move x| .assign x=> .ok (ρ x) []
 | .pick c a b=>match ρ c with
  | .c (.bool t)=>match t with
   |true=> .ok (ρ a) []
   |false=> .ok (ρ b) []
  |_=> .fail
 | .alloc t=>match o.dst with
  |some d=>match qx objs d,zN C.P t with
   |true,some z=>match C.bt t with
    |false=> .ok (.box d 0) [(d,.box (z.map v8))]
    |true=>match z with
     |[.pointer none,.slice none 0 0]=> .ok (.box d 0) [(d,.bld t .nilS)]
     |_=> .fail
   |_,_=> .fail
  |none=> .fail
 | .box t x=>match o.dst with
  |some d=>match qx objs d with
   |true=>match wk C.P t,ρ x with
    |true,.ag cs=> .ok (.box d 0) [(d,.box (cs.map V.c))]
    |true,.agv cs=>match z5 cs with
     |[]=> .ok (.box d 0) [(d,.box (cs.map VC.v))]
     |_=> .fail
    |false,.c v=> .ok (.box d 0) [(d,.box [.c v])]
    |false,.nilS=> .ok (.box d 0) [(d,.box [.nilS])]
    |_,_=> .fail
   |false=> .fail
  |none=> .fail
 | .build t parts=>match zN C.P t,QQ C.P t with
  |some z,some pl=>match C.keep t o.dst&&(Xn ρ parts.toList&&bx parts.toList.length z.length)with
   |true=>match zO objs ρ pl 0 parts.toList with
    |some cs=> .ok (.agv cs) []
    |none=> .fail
   |false=>match xX objs ρ parts.toList with
    |some (ps,us)=>match C.keep t o.dst with
     |false=>match Wb pl ps (z.map xG)with
      |some cs=> .ok (.ag cs) us
      |none=> .fail
     |true=>match Q1 pl ps (z.map Xl)with
      |some cs=> .ok (.agv cs) us
      |none=> .fail
    |none=> .fail
  |_,_=> .fail
 | .buildSlice t len parts=>match o.dst with
  |some d=>match qx objs d,KU C.P t with
   |true,some e=>match C.keep t o.dst with
    |true=>Xr C.P d objs e len (JB ρ parts.toList)
    |false=>match zN C.P e,xX objs ρ parts.toList with
     |some z,some (ps,us)=>match Xo z.length ps (W1 len (z.map xG))with
      |some es=>match decide (len*z.length<=1000)&&decide (0<z.length)with
       |true=> .ok (.arr d) (us++[(d,.arr z.length es false)])
       |false=> .fail
      |none=> .fail
     |_,_=> .fail
   |_,_=> .fail
  |none=> .fail
 | .load t a=>NS C t objs (ρ a)
 | .store t a x=>Y4 C t objs (ρ a) (ρ x)
 | .nilCheck x=>match ρ x with
  | .box k off=>match nth .none objs k with
   | .box _=> .ok (.box k off) []
   |_=> .fail
  |_=> .fail
 | .binOp op t x y _=>SR C.P op t x y (ρ x) (ρ y)
 | .unOp op _ x=>unV op (ρ x)
 | .convert src dst x=>match US C.P src dst with
  |true=>match ρ x with
   | .c (.str s)=> .cond (room s.length) (.c (.sl (ym s))) []
   |_=> .fail
  |false=>match C.P.underlying src with
   |some _=>NQ C.P dst (ρ x)
   |none=> .fail
 | .makeSlice t l c=>match o.dst with
  |some d=>match qx objs d,KU C.P t with
   |true,some e=>match zN C.P e,ρ l,ρ c with
    |some z,.c (.int .i64 l),.c (.int .i64 c)=>match decide (C.P.bytesOf e<=4096)&&decide (0<z.length)with
     |true=>match C.keep t o.dst with
      |false=> .cond (0<=l/\l<=c/\room c.toNat) (.arr d) [(d,.arr z.length (W1 l.toNat (z.map xG)) false)]
      |true=>match z with
       |[.slice none 0 0]=> .cond (0<=l/\l=c/\room c.toNat) (.vec d l.toNat) [(d,.vec (W1 l.toNat .nilS))]
       |_=> .fail
     |false=> .fail
    |_,_,_=> .fail
   |_,_=> .fail
  |none=> .fail
 | .slice t x lo hi mx=>match RB (ρ x)with
  |some g=>UT C t g (xW ρ lo) (xW ρ hi) (xW ρ mx)
  |none=>match C.keep t o.dst&&!nilB (ρ x)with
   |false=>Wa C.P t objs (ρ x) (xW ρ lo) (xW ρ hi) (xW ρ mx)
   |true=>V0 C.P t objs (ρ x) (xW ρ lo) (xW ρ hi) (xW ρ mx)
 | .fieldAddr t x f=>match Xm C.P t f with
  |some (off,ft)=>match decide (C.P.cellsOf ft=0)with
   |true=> .fail
   |false=>match ρ x with
    | .box k o=>match nth .none objs k with
     | .box _=> .ok (.box k (o+off)) []
     |_=> .fail
    | .elt k i o=>match nth .none objs k with
     | .arr .. => .ok (.elt k i (o+off)) []
     |_=> .fail
    | .eref es i o=> .ok (.eref es i (o+off)) []
    |_=> .fail
  |none=> .fail
 | .field t x f=>match Xm C.P t f,ρ x with
  |some (off,ft),.ag cs=>match zN C.P ft with
   |some z=>match decide (off+z.length<=cs.length)with
    |true=>match wk C.P ft with
     |true=> .ok (.ag (seg cs off z.length)) []
     |false=>match decide (0<z.length)with
      |true=> .ok (.c (nth .undef cs off)) []
      |false=> .fail
    |false=> .fail
   |none=> .fail
  |_,_=> .fail
 | .indexAddr t x i=>vc C objs t (ρ x) (ρ i)
 | .index t x i=>match C.P.underlying t,ρ x,ρ i with
  |some .string,.c (.str s),.c (.int _ n)=> .cond (0<=n/\n<s.length) (.c (.int .u8 (nth 0 s n.toNat).toNat)) []
  |_,_,_=> .fail
 | .makeFunc fn first captured=>match fn,first.toList with
  | .func f,[]=>match V2 objs (captured.toList.map ρ)with
   |some (ps,us)=> .ok (funV f ps) us
   |none=> .fail
  |_,_=> .fail
 | .extract x i=>match ρ x with
  | .tp as=>match decide (i<as.length)with
   |true=>match nth (A.c .undef) as i with
    | .c d=> .ok (.c d) []
    | .ag cs=> .ok (.ag cs) []
   |false=> .fail
  | .tpo k as=>match i with
   |0=> .ok (.arr k) []
   |j+1=>match decide (j<as.length)with
    |true=>match nth (A.c .undef) as j with
     | .c d=> .ok (.c d) []
     | .ag cs=> .ok (.ag cs) []
    |false=> .fail
  |_=> .fail
 | .call c=>match c.callee with
  | .value (.func f)=>match C.eff f with
   |some e=>e o.dst (c.args.toList.map ρ) objs
   |none=>kC C objs f (c.args.toList.map ρ)
  | .value (.tmp t)=>match ρ (.tmp t)with
   | .c (.fn f)=>match C.eff f with
    |some _=> .fail
    |none=>kC C objs f (c.args.toList.map ρ)
   | .c (.clo f ps)=>match C.eff f with
    |some _=> .fail
    |none=>kC C objs f (c.args.toList.map ρ++ps.map V.c)
   |_=> .fail
  | .builtin .len=>match c.args.toList with
   |[x]=>EW C.P objs c.argTypes (ρ x)
   |_=> .fail
  | .builtin .append=>match c.args.toList with
   |[x,y]=>Xp C o.dst objs c.argTypes (ρ x) (ρ y)
   |_=> .fail
  | .builtin .clear=>match c.args.toList with
   |[x]=>Xq C objs c.argTypes (ρ x)
   |_=> .fail
  | .builtin .max=>match c.args.toList with
   |[x,y]=>mxV true (ρ x) (ρ y)
   |_=> .fail
  | .builtin .min=>match c.args.toList with
   |[x,y]=>mxV false (ρ x) (ρ y)
   |_=> .fail
  |_=> .fail
 |_=> .fail
def upds (objs:List Obj):List (Nat×Obj)->List Obj
 |[]=>objs
 |(k,o)::r=>upds (upd objs k o) r
def jw:List (Nat×Obj)->List Nat->List Nat
 |[],l=>l
 |(k,_)::r,l=>k::jw r l
def St.put (st:St) (dst:Option Nat) (v:V) (up:List (Nat×Obj)):St:=
 ⟨match dst with|some t=>upd st.tmps t v|none=>st.tmps,upds st.objs up,jw up st.dirty⟩
def cut (row:List D) (off n:Nat) (ds:List D):Prop:=seg row off n=ds/\off+n<=row.length
def opW (C:Cx) (Gv:Nat->List A->List A->Prop) (o:Oper) (st:St) (K:St->Prop):Prop:=
 match xl C o (ev st) st.objs with
 | .fail=>False
 | .ok v up=>K (st.put o.dst v up)
 | .cond (dc:=_) c v up=>c/\K (st.put o.dst v up)
 | .look z row off ag=>JA z λds=>cut row off z.length ds/\K (st.put o.dst (match ag with|true=> .ag ds|false=> .c (nth .undef ds 0)) [])
 | .call f as sh up=>Hj sh λrs=>Gv f as rs/\K (st.put o.dst (ZC rs) up)
def vE (ops:Array Oper) (j:Nat):Option Nat:=
 match ops[j]? with
 |some o=>o.dst
 |none=>none
def NU (C:Cx) (Gv:Nat->List A->List A->Prop) (ops:Array Oper) (o:Oper) (st:St) (K:St->Prop):Prop:=
 match o.guard with
 |none=>opW C Gv o st K
 |some (j,want)=>match vE ops j with
  |none=>False
  |some t=>match nth .any st.tmps t with
   | .c d=>cnd (isB d) (br (toB d)
    (match want with
     |true=>opW C Gv o ⟨upd st.tmps t (.c (.bool true)),st.objs,st.dirty⟩ K
     |false=>K (St.put ⟨upd st.tmps t (.c (.bool true)),st.objs,st.dirty⟩ o.dst .no []))
    (match want with
     |false=>opW C Gv o ⟨upd st.tmps t (.c (.bool false)),st.objs,st.dirty⟩ K
     |true=>K (St.put ⟨upd st.tmps t (.c (.bool false)),st.objs,st.dirty⟩ o.dst .no [])))
   | .no=>K (St.put st o.dst .no [])
   |_=>False
def wpL (C:Cx) (Gv:Nat->List A->List A->Prop) (ops:Array Oper):List Oper->St->(St->Prop)->Prop
 |[],st,K=>K st
 |o::rest,st,K=>NU C Gv ops o st λs=>wpL C Gv ops rest s K
end Eng
end
section
namespace Eng
open Go
def cls (C:Cx) (o:Oper):Nat:=
 match o.op with
 | .move _| .assign _| .pick .. | .alloc _| .box .. | .binOp .. | .unOp .. | .convert .. | .makeSlice .. | .field .. | .index .. | .extract .. =>0
 | .load .. | .nilCheck _| .fieldAddr .. | .build .. | .buildSlice .. | .slice .. | .indexAddr .. =>1
 | .call c=>match c.callee with
  | .value (.func f)=>match C.eff f with
   |some _=>2
   |none=>1
  | .value (.tmp _)=>1
  | .builtin .len=>1
  |_=>2
 |_=>2
def Y5 (m j:Nat):Bool:=bx (Nat.land (Nat.shiftRight m j) 1) 1
def vF (es:List Edge) (anc:List Nat):Nat:=
 match es with
 |[]=>0
 |e::r=>match Region.binds .any e with
  |true=>Nat.lor (Nat.lor (Nat.pow 2 e.on) (nth 0 anc e.on)) (vF r anc)
  |false=>vF r anc
def anc:List Oper->List Nat->List Nat
 |[],acc=>acc
 |o::r,acc=>anc r (acc++[vF o.after.toList acc])
def k9:Nat->List Nat->Bool
 |_,[]=>false
 |n,m::r=>match bx n m with
  |true=>true
  |false=>k9 n r
def RC:Operand->List Nat
 | .tmp t=>[t]
 |_=>[]
def looks (ops:List Oper) (o:Oper):List Nat:=
 (o.op.operands.toList.flatMap RC)++
 (match o.guard with
  |some (j,_)=>match(nth default ops j).dst with
   |some t=>[t]
   |none=>[]
  |none=>[])
def aE (o:Oper):List Nat:=
 match o.dst with
 |some t=>[t]
 |none=>[]
def UU (C:Cx) (o:Oper):List Nat:=
 match o.dst with
 |some t=>match o.op with
  | .call c=>match c.callee with
   | .value (.func f)=>match C.wd f with
    |true=>[t,t+1]
    |false=>[t]
   |_=>[t]
  |_=>[t]
 |none=>[]
def NV:List Nat->List Nat->Bool
 |[],_=>true
 |a::r,l=>!k9 a l&&NV r l
def NW (C:Cx) (ops:List Oper) (a b:Oper):Bool:=
 NV (UU C a) (UU C b)&&NV (aE a) (looks ops b)&&NV (aE b) (looks ops a)
def NX (C:Cx) (a b:Oper):Bool:=
 bx (cls C a) 0||bx (cls C b) 0||(bx (cls C a) 1&&bx (cls C b) 1)
def ST (C:Cx) (ops:List Oper) (a b:Oper):Bool:=NW C ops a b&&NX C a b
abbrev Rec:=List Nat×List Nat
def EX (a b:Rec):Bool:=NV a.2 b.1&&NV b.2 a.1&&NV a.2 b.2
def UV (C:Cx) (ops:List Oper) (a b:Oper) (ra rb:Rec):Bool:=NW C ops a b&&(NX C a b||EX ra rb)
def Xs (C:Cx) (ops:List Oper) (a:Oper) (ancA:Nat):List Oper->Nat->Bool
 |[],_=>true
 |b::r,j=>(Y5 ancA j||ST C ops b a)&&Xs C ops a ancA r (j+1)
def V3 (es:List Edge) (i:Nat):Bool:=
 match es with
 |[]=>true
 |e::r=>(match Region.binds .any e with|true=>cv e.on i|false=>true)&&V3 r i
def vd (C:Cx) (all:List Oper) (an:List Nat):List Oper->Nat->Bool
 |[],_=>true
 |o::r,i=>Xs C all o (nth 0 an i) (all.take i) 0&&V3 o.after.toList i&&vd C all an r (i+1)
def ve (C:Cx) (ops:List Oper):Bool:=vd C ops (anc ops []) ops 0
def yn (C:Cx) (ops:List Oper) (a:Oper) (ra:Rec) (ancA:Nat):List Oper->List Rec->Nat->Bool
 |[],_,_=>true
 |b::r,rs,j=>(Y5 ancA j||UV C ops b a (nth ([],[]) rs 0) ra)&&yn C ops a ra ancA r (rs.drop 1) (j+1)
def kE (C:Cx) (all:List Oper) (recs:List Rec) (an:List Nat):List Oper->Nat->Bool
 |[],_=>true
 |o::r,i=>yn C all o (nth ([],[]) recs i) (nth 0 an i) (all.take i) recs 0&&V3 o.after.toList i&&kE C all recs an r (i+1)
def wB (C:Cx) (ops:List Oper) (recs:List Rec):Bool:=kE C ops recs (anc ops []) ops 0
def qh:V->List Nat
 | .box k _=>[k]
 | .arr k=>[k]
 | .elt k _ _=>[k]
 | .sub k _ _=>[k]
 | .arrAt k _ _ _=>[k]
 | .boxAt k _=>[k]
 | .pinB k _ ps=>k::ps.map (·.1)
 | .tpo k _=>[k]
 | .agv cs=>z5 cs
 | .vec k _=>[k]
 |_=>[]
def V4 (ρ:Operand->V):List Operand->List Nat
 |[]=>[]
 |x::r=>qh (ρ x)++V4 ρ r
def Wc (ob:List Obj):List Nat->List Nat
 |[]=>[]
 |k::r=>(match nth .none ob k with
  | .bld _ q=>k::qh q
  |_=>[k])++Wc ob r
def jS:List V->List Nat
 |[]=>[]
 |v::r=>qh v++jS r
def jQ (ob:List Obj):List Nat->List Nat
 |[]=>[]
 |k::r=>(match nth .none ob k with
  | .bld _ q=>k::qh q
  | .box cs=>k::jS cs
  | .vec cs=>k::jS cs
  |_=>[k])++jQ ob r
def wC (ob:List Obj) (l:List Nat):List Nat:=jQ ob (jQ ob l)
def UW (o:Oper):Bool:=match o.op with
 | .call c=>match c.callee with
  | .value (.func _)=>true
  |_=>false
 |_=>false
def opk (o:Oper) (ρ:Operand->V) (ob:List Obj):List Nat:=match UW o with
 |true=>wC ob (V4 ρ o.op.operands.toList)
 |false=>Wc ob (V4 ρ o.op.operands.toList)
def aF (C:Cx) (Gv:Nat->List A->List A->Prop) (ops:Array Oper):List Oper->St->List Rec->(St->List Rec->Prop)->Prop
 |[],st,rs,K=>K st rs
 |o::rest,st,rs,K=>NU C Gv ops o ⟨st.tmps,st.objs,[]⟩ λs=>aF C Gv ops rest ⟨s.tmps,s.objs,s.dirty++st.dirty⟩ (rs++[(opk o (ev st) st.objs,s.dirty)]) K
inductive X where
 |normal
 |exit (id:Nat)
 |ret
inductive MC where
 |dat (z:Value)
 |own (key size:Nat)
inductive Loc where
 |slot (s:Nat) (z:Value)
 |box (k:Nat) (zs:List Value)
 |own (s key size:Nat)
 |bld (k T key:Nat)
 |mix (k:Nat) (ms:List MC)
structure Ann where
 locs:List Loc
 gh:List Loc
 inv:List D->List D->Prop
 meas:List D->Nat
def zS:Code->Nat
 | .seq a b=>zS a+zS b
 | .cond _ a b=>zS a+zS b
 | .block _ c=>zS c
 | .loop c=>zS c+1
 |_=>0
def Hk:List Oper->List Nat
 |[]=>[]
 |o::r=>match o.dst with
  |some t=>t::Hk r
  |none=>Hk r
def Z8:Code->List Nat
 | .region _ ops _=>Hk ops.toList
 | .seq a b=>Z8 a++Z8 b
 | .cond _ a b=>Z8 a++Z8 b
 | .block _ c=>Z8 c
 | .loop c=>Z8 c
 |_=>[]
def wD (tmps:List V):List Nat->List V
 |[]=>tmps
 |s::r=>wD (upd tmps s .any) r
def jq (objs:List Obj):List Nat->List Obj
 |[]=>objs
 |s::r=>jq (upd objs s .none) r
def wE (l:List Nat):Nat->List V->List V
 |_,[]=>[]
 |i,v::r=>(match k9 i l with|true=> .any|false=>v)::wE l (i+1) r
def Xt (tmps:List V) (l:List Nat):List V:=wE l 0 tmps
def jT (l:List Nat):Nat->List Obj->List Obj
 |_,[]=>[]
 |i,v::r=>(match k9 i l with|true=> .none|false=>v)::jT l (i+1) r
def kF (objs:List Obj) (l:List Nat):List Obj:=jT l 0 objs
def xY:List MC->List Nat
 |[]=>[]
 | .dat _::r=>xY r
 | .own key _::r=>key::xY r
def qP:List Loc->List Nat
 |[]=>[]
 | .slot s _::r=>s::qP r
 | .own s _ _::r=>s::qP r
 | .box .. ::r=>qP r
 | .bld .. ::r=>qP r
 | .mix .. ::r=>qP r
def xg:List Loc->List Nat
 |[]=>[]
 | .own _ k _::r=>k::xg r
 | .box k _::r=>k::xg r
 | .bld k _ key::r=>k::key::xg r
 | .mix k ms::r=>k::(xY ms++xg r)
 | .slot .. ::r=>xg r
def EY (ks:List Nat):List Nat->Bool
 |[]=>false
 |k::r=>k9 k ks||EY ks r
def Wd (ks:List Nat):V->Bool
 | .box k _=>k9 k ks
 | .arr k=>k9 k ks
 | .elt k _ _=>k9 k ks
 | .sub k _ _=>k9 k ks
 | .arrAt k _ _ _=>k9 k ks
 | .boxAt k _=>k9 k ks
 | .pinB k _ ps=>k9 k ks||EY ks (ps.map (·.1))
 | .tpo k _=>k9 k ks
 | .agv cs=>EY ks (z5 cs)
 | .vec k _=>k9 k ks
 |_=>false
def Q2 (ks:List Nat):List V->Bool
 |[]=>false
 |v::r=>Wd ks v||Q2 ks r
def zj (ks:List Nat):List Obj->Bool
 |[]=>false
 | .box cs::r=>Q2 ks cs||zj ks r
 | .bld _ q::r=>Wd ks q||zj ks r
 | .vec cs::r=>Q2 ks cs||zj ks r
 |_::r=>zj ks r
def RD:Obj->Bool
 | .none=>true
 | .dead=>true
 |_=>false
def NY (key:Nat) (st:St):Bool:=
 cv key st.objs.length&&RD (nth .none st.objs key)&&!Q2 [key] st.tmps&&!zj [key] st.objs
def Nz (k:Nat):List MC->Nat->St->Option St
 |[],_,st=>some st
 | .dat _::r,i,st=>match nth .none st.objs k with
  | .box cells=>match nth .any cells i with
   | .nilS=>Nz k r (i+1) ⟨st.tmps,upd st.objs k (.box (upd cells i (.c (.sl [])))),k::st.dirty⟩
   |_=>Nz k r (i+1) st
  |_=>none
 | .own key size::r,i,st=>match nth .none st.objs k with
  | .box cells=>match nth .any cells i with
   | .nilS=>match NY key st&&cv 0 size with
    |true=>Nz k r (i+1) ⟨st.tmps,upd (upd st.objs key (.arr size [] false)) k (.box (upd cells i (.arr key))),key::k::st.dirty⟩
    |false=>none
   | .arr j=>match bx j key with
    |true=>Nz k r (i+1) ⟨st.tmps,st.objs,key::k::st.dirty⟩
    |false=>match nth .none st.objs j with
     | .arr sz es false=>match NY key st with
      |true=>Nz k r (i+1) ⟨st.tmps,upd (upd (upd st.objs j .dead) key (.arr sz es false)) k (.box (upd cells i (.arr key))),key::j::k::st.dirty⟩
      |false=>none
     |_=>none
   |_=>none
  |_=>none
def kg:List Loc->St->Option St
 |[],st=>some st
 | .slot s _::r,st=>match nth .any st.tmps s with
  | .nilS=>kg r ⟨upd st.tmps s (.c (.sl [])),st.objs,st.dirty⟩
  | .arr k=>match nth .none st.objs k with
   | .arr sz es _=>kg r ⟨upd st.tmps s (.c (.sl es)),upd st.objs k (.arr sz es true),k::st.dirty⟩
   |_=>none
  |_=>kg r st
 | .box k _::r,st=>match nth .none st.objs k with
  | .box cells=>match qB cells with
   |some ds=>kg r ⟨st.tmps,upd st.objs k (.box (ds.map V.c)),k::st.dirty⟩
   |none=>none
  |_=>none
 | .own s key size::r,st=>match nth .any st.tmps s with
  | .nilS=>match NY key st&&cv 0 size with
   |true=>kg r ⟨upd st.tmps s (.arr key),upd st.objs key (.arr size [] false),key::st.dirty⟩
   |false=>none
  | .arr k=>match bx k key with
   |true=>kg r ⟨st.tmps,st.objs,key::st.dirty⟩
   |false=>match nth .none st.objs k with
    | .arr sz es false=>match NY key st with
     |true=>kg r ⟨upd st.tmps s (.arr key),upd (upd st.objs k .dead) key (.arr sz es false),key::k::st.dirty⟩
     |false=>none
    |_=>none
  | .sub k off len=>match off,nth .none st.objs k with
   |0,.arr sz es false=>match NY key st with
    |true=>kg r ⟨upd st.tmps s (.arr key),upd (upd st.objs k .dead) key (.arr sz (es.take len) false),key::k::st.dirty⟩
    |false=>none
   |_,_=>none
  |_=>none
 | .bld k T key::r,st=>match nth .none st.objs k with
  | .bld T' q=>match bx T' T with
   |true=>match q with
    | .nilS=>match NY key st with
     |true=>kg r ⟨st.tmps,upd (upd st.objs key (.arr 1 [] false)) k (.bld T' (.arr key)),key::k::st.dirty⟩
     |false=>none
    | .arr j=>match bx j key with
     |true=>kg r ⟨st.tmps,st.objs,key::k::st.dirty⟩
     |false=>match nth .none st.objs j with
      | .arr sz es false=>match bx sz 1&&NY key st with
       |true=>kg r ⟨st.tmps,upd (upd (upd st.objs j .dead) key (.arr sz es false)) k (.bld T' (.arr key)),key::j::k::st.dirty⟩
       |false=>none
      |_=>none
    |_=>none
   |false=>none
  |_=>none
 | .mix k ms::r,st=>match Nz k ms 0 ⟨st.tmps,st.objs,k::st.dirty⟩with
  |some st'=>kg r st'
  |none=>none
def isC:V->Bool
 | .c _=>true
 |_=>false
def toC:V->D
 | .c d=>d
 |_=> .undef
def xj:List Value->List V->Bool
 |[],[]=>true
 |z::zs,v::vs=>isC v&&jp z (toC v)&&xj zs vs
 |_,_=>false
def SU (key size:Nat) (v:V) (ob:List Obj):Bool:=
 match v with
 | .arr key'=>match nth .none ob key with
  | .arr sz _ false=>bx key' key&&bx sz size
  |_=>false
 |_=>false
def jY:List MC->List V->List Obj->Bool
 |[],[],_=>true
 | .dat z::ms,v::vs,ob=>isC v&&jp z (toC v)&&jY ms vs ob
 | .own key size::ms,v::vs,ob=>SU key size v ob&&jY ms vs ob
 |_,_,_=>false
def NZ (key:Nat) (ob:List Obj):D:=
 match nth .none ob key with
 | .arr _ es _=> .sl es
 |_=> .undef
def KM:List MC->List V->List Obj->List D
 | .dat _::ms,v::vs,ob=>toC v::KM ms vs ob
 | .own key _::ms,_::vs,ob=>NZ key ob::KM ms vs ob
 |_,_,_=>[]
def Y6:List MC->Nat->List D->List Obj->List Obj
 |[],_,_,ob=>ob
 | .dat _::ms,i,us,ob=>Y6 ms (i+1) us ob
 | .own key size::ms,i,us,ob=>Y6 ms (i+1) us (upd ob key (.arr size (toL (nth .undef us i)) false))
def SV:List MC->Nat->List D->List V
 |[],_,_=>[]
 | .dat _::ms,i,us=> .c (nth .undef us i)::SV ms (i+1) us
 | .own key _::ms,i,us=> .arr key::SV ms (i+1) us
def zsM:List MC->List Value
 |[]=>[]
 | .dat z::r=>z::zsM r
 | .own .. ::r=> .slice none 0 0::zsM r
def xL:List Loc->St->Bool
 |[],_=>true
 | .slot s z::r,st=>isC (nth .any st.tmps s)&&jp z (toC (nth .any st.tmps s))&&xL r st
 | .box k zs::r,st=>match nth .none st.objs k with
  | .box cells=>xj zs cells&&xL r st
  |_=>false
 | .own s key size::r,st=>match nth .any st.tmps s with
  | .arr k=>match nth .none st.objs key with
   | .arr sz _ false=>bx k key&&bx sz size&&xL r st
   |_=>false
  |_=>false
 | .bld k T key::r,st=>match nth .none st.objs k with
  | .bld T' (.arr key')=>match nth .none st.objs key with
   | .arr sz _ false=>bx T' T&&bx key' key&&bx sz 1&&xL r st
   |_=>false
  |_=>false
 | .mix k ms::r,st=>match nth .none st.objs k with
  | .box cells=>jY ms cells st.objs&&xL r st
  |_=>false
def xK:List Loc->St->List D
 |[],_=>[]
 | .slot s _::r,st=>toC (nth .any st.tmps s)::xK r st
 | .box k _::r,st=>(match nth .none st.objs k with
  | .box cells=>cells.map toC
  |_=>[])++xK r st
 | .own _ key _::r,st=>(match nth .none st.objs key with
  | .arr _ es _=> .sl es
  |_=> .undef)::xK r st
 | .bld _ _ key::r,st=>(match nth .none st.objs key with
  | .arr _ es _=> .sl es
  |_=> .undef)::xK r st
 | .mix k ms::r,st=>(match nth .none st.objs k with
  | .box cells=>KM ms cells st.objs
  |_=>[])++xK r st
def Hl:List Nat->List Nat->List Nat
 |[],_=>[]
 |a::r,l=>match k9 a l with
  |true=>Hl r l
  |false=>a::Hl r l
def EZ (mt ms:List Nat) (locs:List Loc) (st:St):Option St:=
 match kg locs ⟨Xt st.tmps (Hl mt (qP locs)),st.objs,st.dirty⟩with
 |none=>none
 |some s1=>match Q2 ms s1.tmps||zj ms (kF s1.objs ms)||!xL locs ⟨s1.tmps,kF s1.objs ms,[]⟩with
  |true=>none
  |false=>some ⟨s1.tmps,kF s1.objs ms,ms++s1.dirty⟩
def QR:Code->Option Nat
 | .region id _ _=>some id
 | .seq a _=>QR a
 | .block _ c=>QR c
 | .loop c=>QR c
 |_=>none
def RE (anns:Nat->Ann) (b:Code):Option Ann:=
 match QR b with
 |some r=>match anns (1000000+r)with
  |⟨.box k []::ls,gh,inv,meas⟩=>match bx k 999999 with
   |true=>some ⟨ls,gh,inv,meas⟩
   |false=>none
  |_=>none
 |none=>none
def Xu (anns:Nat->Ann) (b:Code):List Nat:=
 match RE anns b with
 |some J=>qP J.locs
 |none=>[]
def N0 (base:Nat->Ann) (r:Nat) (J:Ann):Nat->Ann:=λn=>
 match bx n (1000000+r)with
 |true=>⟨.box 999999 []::J.locs,J.gh,J.inv,J.meas⟩
 |false=>base n
def jC (anns:Nat->Ann):Nat->Code->List Nat
 |_,.region _ ops _=>Hk ops.toList
 |n,.seq a b=>jC anns n a++(jC anns (n+zS a) b++Xu anns b)
 |n,.cond _ a b=>jC anns n a++jC anns (n+zS a) b
 |n,.block _ c=>jC anns n c
 |n,.loop c=>qP (anns n).locs++jC anns (n+1) c
 |_,_=>[]
def putCells:List Value->Nat->List D->List V
 |[],_,_=>[]
 |_::zs,i,us=> .c (nth .undef us i)::putCells zs (i+1) us
def fill:List Loc->Nat->List D->St->St
 |[],_,_,st=>st
 | .slot s _::r,i,us,st=>fill r (i+1) us ⟨upd st.tmps s (.c (nth .undef us i)),st.objs,st.dirty⟩
 | .box k zs::r,i,us,st=>fill r (i+zs.length) us ⟨st.tmps,upd st.objs k (.box (putCells zs i us)),st.dirty⟩
 | .own s key size::r,i,us,st=>fill r (i+1) us ⟨upd st.tmps s (.arr key),upd st.objs key (.arr size (toL (nth .undef us i)) false),st.dirty⟩
 | .bld k T key::r,i,us,st=>fill r (i+1) us ⟨st.tmps,upd (upd st.objs key (.arr 1 (toL (nth .undef us i)) false)) k (.bld T (.arr key)),st.dirty⟩
 | .mix k ms::r,i,us,st=>fill r (i+ms.length) us ⟨st.tmps,upd (Y6 ms i us st.objs) k (.box (SV ms i us)),st.dirty⟩
def UX (g:Bool):Nat->List Value->(List D->Prop)->Prop
 |0,_,_=>False
 |_+1,[],K=>K []
 |n+1,z::r,K=>match Hi (z::r)with
  |some q=>∀x:C66,UX g n q λus=>K (ck x us)
  |none=>match wA 5 (z::r)with
   |some q=>∀x:P20,UX g n q λus=>K (pk x us)
   |none=>match(match g with|true=>Nx (z::r)|false=>none)with
    |some q=>∀x:R4,UX g n q λus=>K (rk x us)
    |none=>match z with
     | .int k _=>∀i:Int,UX g n r λus=>K (.int k i::us)
     | .bool _=>∀b:Bool,UX g n r λus=>K (.bool b::us)
     | .string _=>∀s:List UInt8,UX g n r λus=>K (.str s::us)
     | .slice .. =>∀es:List (List D),UX g n r λus=>K (.sl es::us)
     |_=>∀d:D,UX g n r λus=>K (d::us)
def cD (z:List Value) (K:List D->Prop):Prop:=UX (cA z) (z.length+1) z K
def Hm:List Loc->List Value
 |[]=>[]
 | .slot _ z::r=>z::Hm r
 | .box _ zs::r=>zs++Hm r
 | .own .. ::r=> .slice none 0 0::Hm r
 | .bld .. ::r=> .slice none 0 0::Hm r
 | .mix _ ms::r=>zsM ms++Hm r
def We:List Nat->List Nat->Bool
 |[],_=>true
 |a::r,l=>k9 a l&&We r l
def aG {α:Type}:List α->(List α->Prop)->Prop
 |[],k=>k []
 |x::r,k=>aG r λr'=>k (x::r')
theorem V5 {α:Type}:∀(l:List α) (k:List α->Prop),aG l k=k l
 |[],_=>rfl
 |_::r,_=>V5 r _
def SW (st:St) (k:St->Prop):Prop:=aG st.tmps λt=>aG st.objs λo=>k ⟨t,o,st.dirty⟩
theorem V6 (st:St) (k:St->Prop):SW st k=k st:=by
 unfold SW;rw[V5,V5]
def cE (p:Prop):Prop:=p
def wpC (C:Cx) (Gv:Nat->List A->List A->Prop) (anns:Nat->Ann):Nat->Code->(X->St->Prop)->St->Prop
 |_,.skip,Q,st=>Q .normal st
 |_,.region _ ops d,Q,st=>match d with
  |true=>match ve C ops.toList with
   |true=>wpL C Gv ops ops.toList st λs=>SW s (Q .normal)
   |false=>aF C Gv ops ops.toList st [] λs rs=>cnd (wB C ops.toList rs) (SW s (Q .normal))
  |false=>wpL C Gv ops ops.toList st λs=>SW s (Q .normal)
 |n,.seq a b,Q,st=>match RE anns b with
  |none=>wpC C Gv anns n a (λe s=>match e with
   | .normal=>wpC C Gv anns (n+zS a) b Q s
   | .exit i=>Q (.exit i) s
   | .ret=>Q .ret s) st
  |some J=>cE (wpC C Gv anns n a (λe s=>match e with
   | .normal=>match EZ (jC anns n a) (Z8 a) J.locs s with
    |none=>False
    |some m'=>cnd (We m'.dirty (Z8 a++xg J.locs)) (J.inv (xK J.gh st) (xK J.locs m'))
   | .exit i=>Q (.exit i) ⟨s.tmps,s.objs,s.dirty++st.dirty⟩
   | .ret=>Q .ret ⟨s.tmps,s.objs,s.dirty++st.dirty⟩) ⟨st.tmps,st.objs,[]⟩)/\
   cD (Hm J.locs) λus=>J.inv (xK J.gh st) us->SW (fill J.locs 0 us ⟨Xt st.tmps (jC anns n a++qP J.locs),kF st.objs (Z8 a++xg J.locs),Z8 a++(xg J.locs++st.dirty)⟩) (wpC C Gv anns (n+zS a) b Q)
 |n,.cond c x y,Q,st=>match ev st c with
  | .c d=>cnd (isB d) (br (toB d) (wpC C Gv anns n x Q st) (wpC C Gv anns (n+zS x) y Q st))
  |_=>False
 |n,.block id c,Q,st=>wpC C Gv anns n c (λe s=>match e with
  | .normal=>Q .normal s
  | .exit i=>match bx i id with
   |true=>Q .normal s
   |false=>Q (.exit i) s
  | .ret=>Q .ret s) st
 |_,.exit id,Q,st=>Q (.exit id) st
 |_,.ret,Q,st=>Q .ret st
 |n,.loop body,Q,st=>
  match EZ (jC anns (n+1) body) (Z8 body) (anns n).locs st with
  |none=>False
  |some m=>(anns n).inv (xK (anns n).gh m) (xK (anns n).locs m)/\cD (Hm (anns n).locs) λus=>(anns n).inv (xK (anns n).gh m) us->
   SW (fill (anns n).locs 0 us ⟨m.tmps,m.objs,[]⟩) (wpC C Gv anns (n+1) body (λe s=>match e with
    | .normal=>match EZ (jC anns (n+1) body) (Z8 body) (anns n).locs s with
     |none=>False
     |some m'=>cnd (We m'.dirty (Z8 body++xg (anns n).locs)) ((anns n).inv (xK (anns n).gh m) (xK (anns n).locs m')/\(anns n).meas (xK (anns n).locs m')<(anns n).meas us)
    | .exit i=>Q (.exit i) ⟨s.tmps,s.objs,s.dirty++m.dirty⟩
    | .ret=>Q .ret ⟨s.tmps,s.objs,s.dirty++m.dirty⟩))
 |_,_,_,_=>False
def UY (objs:List Obj) (cells:List V):Option (List D):=
 match Ny cells with
 |some cs=>match dataC objs cs with
  |some (ds,_)=>some ds
  |none=>none
 |none=>none
def toR (objs:List Obj):V->Option A
 | .vec k n=>match nth .none objs k with
  | .vec cells=>match bx n cells.length,UY objs cells with
   |true,some ds=>some (.c (.sl (ds.map λd=>[d])))
   |_,_=>none
  |_=>none
 |v=>match toA objs v with
  |some (a,_)=>some a
  |none=>none
def Xv (objs:List Obj):List V->Option (List D)
 |[]=>some []
 |v::r=>match toR objs v,Xv objs r with
  |some (.c d),some ds=>some (d::ds)
  |_,_=>none
def resD (C:Cx) (st:St):List ResultVar->Option (List A)
 |[]=>some []
 | .tmp t::r=>match toR st.objs (nth .any st.tmps t),resD C st r with
  |some a,some as=>some (a::as)
  |_,_=>none
 | .cell a t::r=>match nth .any st.tmps a with
  | .box k 0=>match nth .none st.objs k,zN C.P t with
   | .box cells,some z=>match decide (cells.length=z.length),Xv st.objs cells,resD C st r with
    |true,some ds,some as=>match wk C.P t with
     |true=>some (.ag ds::as)
     |false=>some (.c (nth .undef ds 0)::as)
    |_,_,_=>none
   |_,_=>none
  |_=>none
def Oa:A->V
 | .c (.ptr cs)=> .eref [cs] 0 0
 | .c d=> .c d
 | .ag cs=> .ag cs
def ki (n:Nat) (args:List A):St:=
 ⟨args.map Oa++W1 (n-args.length) .any,W1 (n+8) .none,[]⟩
def wpF (C:Cx) (Gv:Nat->List A->List A->Prop) (anns:Nat->Ann) (fn:Func) (args:List A) (Q:List A->Prop):Prop:=
 match fn.body with
 |none=>False
 |some c=>wpC C Gv anns 0 c (λe s=>match e with
  | .normal| .ret=>match resD C s fn.results.toList with
   |some as=>Q as
   |none=>False
  | .exit _=>False) (ki fn.ntmps args)
abbrev an0:Nat->Ann:=λ_=>⟨[],[],λ_ _=>True,λ_=>0⟩
end Eng
end
section
namespace Eng
open Go Go.RowKit
class Env where
 E:List (Int×List Nat)->Nat->D
 fl:∀p i,Nat.ble 4 i=true->(∃b,E p i= .bool b)\/∃k n,E p i= .int k n
 nd:∀c c':Int,0<=c->c<4->0<=c'->c'<4->∃n n',E [(c,[])] 9= .int .i64 n/\E [(c',[])] 9= .int .i64 n'/\(n=n'↔c=c')
variable [Env]
def Ob:List (Int×List UInt8)->Int->Option (List UInt8)
 |[],_=>none
 |(k,s)::r,n=>match decide (k=n)with
  |true=>some s
  |false=>Ob r n
def SX (es:Array MapEntry) (l:List (Int×List UInt8)):Prop:=
 ∀n:Int,match Ob l n with
  |some s=>∃i,Lm (.int .i64) (.int .i64 n) es.toList 0=some (some (i,.string ⟨⟨s⟩⟩))
  |none=>Lm (.int .i64) (.int .i64 n) es.toList 0=some none
inductive CD (w:World) (F:Nat->Prop):D->Value->Prop
 |undef (v:Value) (h:v.oneCell'=true):CD w F .undef v
 |bool (b:Bool):CD w F (.bool b) (.bool b)
 |int (k:IntKind) (n:Int):CD w F (.int k n) (.int k n)
 |str (s:List UInt8):CD w F (.str s) (.string ⟨⟨s⟩⟩)
 |nil (a:Option Addr) (c:Nat):CD w F (.sl []) (.slice a 0 c)
 |sl (es:List (List D)) (b o c size:Nat) (vs:Nat->Value) (hlc:es.length<=c) (hs:∀e∈es,e.length=size) (hF:F b)
  (hc:∀j,j<es.length*size->w.cell? ⟨b,o+j,none⟩=some (vs j)) (hd:∀j,j<es.length*size->CD w F (nth .undef es.flatten j) (vs j)):
  CD w F (.sl es) (.slice (some ⟨b,o,none⟩) es.length c)
 |nilI:CD w F (.ifc true) .nilIface
 |someI (t:Nat) (v:Value) (h:(Value.iface t v).oneCell'=true):CD w F (.ifc false) (.iface t v)
 |nilP:CD w F .nilP (.pointer none)
 |fn (f:Nat):CD w F (.fn f) (.func (.func f) #[] #[])
 |ptr (cs:List D) (b o:Nat) (vs:Nat->Value) (hF:F b) (hc:∀j,j<cs.length->w.cell? ⟨b,o+j,none⟩=some (vs j)) (hd:∀j,j<cs.length->CD w F (nth .undef cs j) (vs j)):CD w F (.ptr cs) (.pointer (some ⟨b,o,none⟩))
 |clo (f:Nat) (ps:List D) (vs:Nat->Value) (hd:∀j,j<ps.length->CD w F (nth .undef ps j) (vs j)):CD w F (.clo f ps) (.func (.func f) #[] ((bm ps.length).map vs).toArray)
 |tok (p:List (Int×List Nat)) (i:Nat) (v:Value) (h:CD w F (Env.E p i) v):CD w F (.tok p i) v
 |map (l:List (Int×List UInt8)) (r:Nat) (es:Array MapEntry) (cl:Nat) (hF:F r) (hb:w.heap[r]? =some (.map es cl)) (hm:SX es l):CD w F (.map l) (.map (some r))
theorem CD.one {w:World} {F:Nat->Prop} {d:D} {v:Value} (h:CD w F d v):v.oneCell'=true:=by
 induction h<;>first|assumption|rfl
theorem CD.mono {w w':World} {F F':Nat->Prop} {d:D} {v:Value} (h:CD w F d v) (hF:∀b,F b->F' b) (hw:∀b,F b->w'.heap[b]? =w.heap[b]?):CD w' F' d v:=by
 induction h with
 |undef v h=>exact .undef v h
 |bool b=>exact .bool b
 |int k n=>exact .int k n
 |str s=>exact .str s
 |nil a c=>exact .nil a c
 |sl es b o c size vs hlc hs hFb hc _ ih=>refine .sl es b o c size vs hlc hs (hF _ hFb) (λj hj=>?_) (λj hj=>ih j hj);rw[<-hc j hj];exact Ts (w:=w) (hw b hFb)
 |nilI=>exact .nilI
 |someI t v h=>exact .someI t v h
 |nilP=>exact .nilP
 |fn f=>exact .fn f
 |ptr cs b o vs hFb hc _ ih=>refine .ptr cs b o vs (hF _ hFb) (λj hj=>?_) (λj hj=>ih j hj);rw[<-hc j hj];exact Ts (w:=w) (hw b hFb)
 |clo f ps vs _ ih=>exact .clo f ps vs λj hj=>ih j hj
 |tok p i v _ ih=>exact .tok p i v ih
 |map l r es cl hFr hb hm=>exact .map l r es cl (hF _ hFr) (by rw[hw r hFr];exact hb) hm
def All2 {α β:Type} (R:α->β->Prop):List α->List β->Prop
 |[],[]=>True
 |a::as,b::bs=>R a b/\All2 R as bs
 |_,_=>False
omit [Env] in
theorem All2.length {α β:Type} {R:α->β->Prop}:∀{as:List α} {bs:List β},All2 R as bs->as.length=bs.length
 |[],[],_=>rfl
 |_::as,_::bs,h=>by simp[All2.length h.2]
 |[],_::_,h=>h.elim
 |_::_,[],h=>h.elim
omit [Env] in
theorem All2.mono {α β:Type} {R R':α->β->Prop} (hR:∀a b,R a b->R' a b):∀{as:List α} {bs:List β},All2 R as bs->All2 R' as bs
 |[],[],_=>trivial
 |_::_,_::_,h=>⟨hR _ _ h.1,All2.mono hR h.2⟩
 |[],_::_,h=>h.elim
 |_::_,[],h=>h.elim
omit [Env] in
theorem All2.mono_mem {α β:Type} {R R':α->β->Prop}:∀{as:List α} {bs:List β},(∀a∈as,∀b,R a b->R' a b)->All2 R as bs->All2 R' as bs
 |[],[],_,_=>trivial
 |a::as,b::bs,hR,h=>⟨hR a (by simp) _ h.1,All2.mono_mem (λa ha=>hR a (by simp[ha])) h.2⟩
 |[],_::_,_,h=>h.elim
 |_::_,[],_,h=>h.elim
omit [Env] in
theorem All2.nth {α β:Type} {R:α->β->Prop} (d:α) (e:β):∀(as:List α) (bs:List β) (i:Nat),All2 R as bs->i<as.length->R (Eng.nth d as i) (Eng.nth e bs i)
 |_::_,_::_,0,h,_=>h.1
 |_::as,_::bs,i+1,h,hi=>All2.nth d e as bs i h.2 (by simpa using hi)
 |[],[],_,_,hi=>absurd hi (by simp)
 |[],_::_,_,h,_=>h.elim
 |_::_,[],_,h,_=>h.elim
omit [Env] in
theorem All2.upd {α β:Type} {R:α->β->Prop} {a:α} {b:β} (hab:R a b):∀{as:List α} {bs:List β} {i:Nat},All2 R as bs->All2 R (Eng.upd as i a) (Eng.upd bs i b)
 |[],[],_,_=>trivial
 |_::_,_::_,0,h=>⟨hab,h.2⟩
 |_::_,_::_,_+1,h=>⟨h.1,All2.upd hab h.2⟩
 |[],_::_,_,h=>h.elim
 |_::_,[],_,h=>h.elim
omit [Env] in
theorem All2.append {α β:Type} {R:α->β->Prop}:∀{as as':List α} {bs bs':List β},All2 R as bs->All2 R as' bs'->All2 R (as++as') (bs++bs')
 |[],_,[],_,_,h'=>h'
 |_::_,_,_::_,_,h,h'=>⟨h.1,All2.append h.2 h'⟩
 |[],_,_::_,_,h,_=>h.elim
 |_::_,_,[],_,h,_=>h.elim
omit [Env] in
theorem qw {α:Type} (d:α):∀(l:List α) (i:Nat),nth d l i=l[i]?.getD d
 |[],_=>by simp[nth]
 |_::_,0=>by simp[nth]
 |_::xs,i+1=>by simp[nth,qw d xs i]
omit [Env] in
theorem qk {α:Type} (d:α) {l:List α} {i:Nat} (h:i<l.length):nth d l i=l[i]:=by simp[qw,h]
omit [Env] in
theorem qC {α:Type} (d:α) {l:List α} {i:Nat} (h:l.length<=i):nth d l i=d:=by simp[qw,h]
omit [Env] in
theorem xh {α:Type}:∀(l:List α) (i:Nat) (y:α),upd l i y=l.set i y
 |[],_,_=>by simp[upd]
 |_::_,0,_=>by simp[upd]
 |_::xs,i+1,y=>by simp[upd,xh xs i y]
omit [Env] in
theorem qj {α:Type} (l:List α) (i:Nat) (y:α):(upd l i y).length=l.length:=by simp[xh]
omit [Env] in
theorem xS {α:Type} (d:α) (l:List α) (i j:Nat) (y:α):nth d (upd l i y) j=if i=j/\i<l.length then y else nth d l j:=by
 simp only[qw,xh,List.getElem?_set];by_cases h:i=j
 .subst h;by_cases h':i<l.length<;>simp[h']
 .simp[h]
omit [Env] in
theorem qa {α:Type} (d:α) (l:List α) {i j:Nat} (y:α) (h:i≠j):nth d (upd l i y) j=nth d l j:=by simp[xS,h]
omit [Env] in
theorem qb {α:Type} (d:α) (l:List α) {i:Nat} (y:α) (h:i<l.length):nth d (upd l i y) i=y:=by simp[xS,h]
omit [Env] in
theorem qT {α:Type} {d:α} {l:List α} {i:Nat} (h:i<l.length):nth d l i∈l:=by rw[qk _ h];exact V1 h
def CA (w:World) (F:Nat->Prop):A->Value->Prop
 | .c d,v=>CD w F d v
 | .ag cs,v=>∃vs:Array Value,v= .agg vs/\All2 (CD w F) cs vs.toList
theorem CA.mono {w w':World} {F F':Nat->Prop} {a:A} {v:Value} (h:CA w F a v) (hF:∀b,F b->F' b) (hw:∀b,F b->w'.heap[b]? =w.heap[b]?):CA w' F' a v:=by
 cases a with
 |c d=>exact CD.mono h hF hw
 |ag cs=>obtain⟨vs,rfl,h⟩:=h;exact⟨vs,rfl,h.mono λ_ _ h=>h.mono hF hw⟩
def vO (w:World) (F:Nat->Prop):List A->Value->Prop
 |[a],v=>CA w F a v
 |as,v=>∃vs:Array Value,v= .tuple vs/\All2 (CA w F) as vs.toList
structure Row (w:World) (F:Nat->Prop) (es:List (List D)) (b o size:Nat):Prop where
 hs:∀e∈es,e.length=size
 hF:F b
 hc:∀j,j<es.length*size->∃v,w.cell? ⟨b,o+j,none⟩=some v/\CD w F (nth .undef es.flatten j) v
theorem Row.mono {w w':World} {F F':Nat->Prop} {es:List (List D)} {b o size:Nat} (h:Row w F es b o size) (hF:∀b,F b->F' b) (hw:∀b,F b->w'.heap[b]? =w.heap[b]?):Row w' F' es b o size:=
 ⟨h.hs,hF _ h.hF,λj hj=>by
  obtain⟨v,h1,h2⟩:=h.hc j hj;exact⟨v,by rw[<-h1];exact Ts (w:=w) (hw _ h.hF),h2.mono hF hw⟩⟩
def UZ (P:Program) (T:Nat):Nat:=
 match P.underlying T with
 |some (.struct fs)=>match fs[1]? with
  |some f=>match KU P f.type with
   |some e=>e
   |none=>0
  |none=>0
 |_=>0
structure Where where
 P:Program
 at':Nat->Option (Nat×Nat)
 ty:Nat->Nat
instance:CoeFun Where (λ_=>Nat->Option (Nat×Nat)):=⟨Where.at'⟩
def CVC (loc:Where) (objs:List Obj) (w:World) (F:Nat->Prop):VC->Value->Prop
 | .d d,v=>CD w F d v
 | .nil,v=>v= .slice none 0 0
 | .arr k,v=>(∀s es fz,nth .none objs k= .arr s es fz->(∃b c,loc k=some (b,c)/\v= .slice (some ⟨b,0,none⟩) es.length c)\/(loc k=none/\es=[]/\v= .slice none 0 0))/\v.oneCell'=true
 | .vec k n,v=>(∀o,nth .none objs k=o->xD o=true->∃b c,loc k=some (b,c)/\v= .slice (some ⟨b,0,none⟩) n c)/\v.oneCell'=true
def CV (loc:Where) (objs:List Obj) (w:World) (F:Nat->Prop):V->Value->Prop
 | .any,_=>True
 | .no,v=>v=undef
 | .c d,v=>CD w F d v
 | .ag cs,v=>∃vs:Array Value,v= .agg vs/\All2 (CD w F) cs vs.toList
 | .tp as,v=>∃vs:Array Value,v= .tuple vs/\All2 (CA w F) as vs.toList
 | .nilS,v=>v= .slice none 0 0
 | .box k off,v=>∀o,nth .none objs k=o->xD o=true->∃b c,loc k=some (b,c)/\v= .pointer (some ⟨b,off,none⟩)
 | .arr k,v=>∀s es fz,nth .none objs k= .arr s es fz->(∃b c,loc k=some (b,c)/\v= .slice (some ⟨b,0,none⟩) es.length c)\/(loc k=none/\es=[]/\v= .slice none 0 0)
 | .elt k i off,v=>∀s es fz,nth .none objs k= .arr s es fz->∃b c,loc k=some (b,c)/\i<es.length/\v= .pointer (some ⟨b,i*s+off,none⟩)
 | .sub k off len,v=>∀s es fz,nth .none objs k= .arr s es fz->(∃b c,loc k=some (b,c)/\off+len<=es.length/\v= .slice (some ⟨b,off*s,none⟩) len (c-off))\/(s≠0/\loc k=none/\es=[]/\off=0/\len=0/\v= .slice none 0 0)\/(s≠0/\0<off/\off<=es.length/\len=0/\∃ad c,v= .slice ad 0 c)
 | .eref es i off,v=>∃b o size,v= .pointer (some ⟨b,o+i*size+off,none⟩)/\i<es.length/\Row w F es b o size
 | .gl g off,v=>v= .pointer (some ⟨g,off,none⟩)
 | .fn f,v=>v= .func (.func f) #[] #[]
 | .arrAt k g c t,v=>∀s es fz,nth .none objs k= .arr s es fz->(loc k=some (g,c)/\loc.ty k=t)/\v= .slice (some ⟨g,0,none⟩) es.length c
 | .boxAt k g,v=>∀o,nth .none objs k=o->xD o=true->(∃c,loc k=some (g,c))/\v= .pointer (some ⟨g,0,none⟩)
 | .pinB k g ps,v=>(∀o,nth .none objs k=o->xD o=true->(∃c,loc k=some (g,c))/\v= .pointer (some ⟨g,0,none⟩))/\∀p∈ps,(xD (nth .none objs p.1)=true->loc p.1=some (p.2.1,p.2.2.1))/\∀s es fz,nth .none objs p.1= .arr s es fz->loc p.1=some (p.2.1,p.2.2.1)/\loc.ty p.1=p.2.2.2
 | .tpo k as,v=>∃x ys,v= .tuple (x::ys).toArray/\(∀s es fz,nth .none objs k= .arr s es fz->∃b c,loc k=some (b,c)/\x= .slice (some ⟨b,0,none⟩) es.length c)/\All2 (CA w F) as ys
 | .agv cs,v=>∃vs:Array Value,v= .agg vs/\All2 (CVC loc objs w F) cs vs.toList
 | .vec k n,v=>∀o,nth .none objs k=o->xD o=true->∃b c,loc k=some (b,c)/\v= .slice (some ⟨b,0,none⟩) n c
theorem CVC.v {loc:Where} {objs:List Obj} {w:World} {F:Nat->Prop} {c:VC} {v:Value} (h:CVC loc objs w F c v):CV loc objs w F c.v v:=by
 cases c with
 |arr k=>exact h.1
 |vec k n=>exact h.1
 |_=>exact h
theorem CVC.of {loc:Where} {objs:List Obj} {w:World} {F:Nat->Prop} {c:VC} {v:Value} (h:CV loc objs w F c.v v) (h1:v.oneCell'=true):CVC loc objs w F c v:=by
 cases c with
 |arr k=>exact⟨h,h1⟩
 |vec k n=>exact⟨h,h1⟩
 |_=>exact h
theorem CVC.one {loc:Where} {objs:List Obj} {w:World} {F:Nat->Prop} {c:VC} {v:Value} (h:CVC loc objs w F c v):v.oneCell'=true:=by
 cases c with
 |arr k=>exact h.2
 |vec k n=>exact h.2
 |d d=>exact CD.one h
 |nil=>rw[show v= .slice none 0 0 from h];rfl
omit [Env] in
theorem xx {k:Nat}:∀{cs:List VC},k∈z5 cs↔∃c∈cs,k∈qh c.v
 |[]=>by simp[z5]
 | .d d::r=>by simp[z5,xx (cs:=r),VC.v,qh]
 | .nil::r=>by simp[z5,xx (cs:=r),VC.v,qh]
 | .arr j::r=>by simp[z5,xx (cs:=r),VC.v,qh]
 | .vec j n::r=>by simp[z5,xx (cs:=r),VC.v,qh]
omit [Env] in
theorem wF {k:Nat} {cs:List VC} (h:VC.arr k∈cs):k∈z5 cs:=xx.2 ⟨_,h,by simp[VC.v,qh]⟩
omit [Env] in
theorem wG {k n:Nat} {cs:List VC} (h:VC.vec k n∈cs):k∈z5 cs:=xx.2 ⟨_,h,by simp[VC.v,qh]⟩
def Ref (objs:List Obj):V->Prop
 | .box k _| .arr k| .elt k _ _| .sub k _ _| .arrAt k _ _ _| .boxAt k _| .tpo k _| .vec k _=>nth .none objs k≠ .none
 | .agv cs=>∀k∈z5 cs,nth .none objs k≠ .none
 | .pinB k _ ps=>nth .none objs k≠ .none/\∀p∈ps,nth .none objs p.1≠ .none
 |_=>True
omit [Env] in
theorem Ref.cell {objs:List Obj} {cs:List VC} (h:Ref objs (.agv cs)) {c:VC} (hc:c∈cs):Ref objs c.v:=by
 cases c with
 |arr k=>exact h k (wF hc)
 |vec k n=>exact h k (wG hc)
 |_=>trivial
def CO (loc:Where) (objs:List Obj) (w:World) (F:Nat->Prop) (k:Nat):Obj->Prop
 | .none| .dead=>loc k=none
 | .box cells=>∃b c,∃cs:Array Value,∃t,loc k=some (b,c)/\¬F b/\w.heap[b]? =some (.cells cs t (0,0))/\All2 (λv x=>CV loc objs w F v x/\x.oneCell'=true) cells cs.toList/\∀v∈cells,Ref objs v
 | .bld T q=>∃b c p v,loc k=some (b,c)/\¬F b/\w.heap[b]? =some (.cells #[p,v] T (0,0))/\(p= .pointer none\/p= .pointer (some ⟨b,0,none⟩))/\CV loc objs w F q v/\Ref objs q/\∀j,q= .arr j->loc.ty j=UZ loc.P T
 | .vec cells=>∃b c,∃cs:Array Value,∃t,loc k=some (b,c)/\¬F b/\w.heap[b]? =some (.cells cs t (0,0))/\cs.size=c/\(cells.length<=c/\c<=9223372036854775807)/\
  (∀j,j<cells.length->∃x,cs[j]? =some x/\CV loc objs w F (nth .any cells j) x/\x.oneCell'=true)/\(∀v∈cells,Ref objs v)/\loc.P.cellsOf t=1/\room cells.length
 | .arr s es fz=>roomS s es.length/\0<s/\(∀e∈es,e.length=s)/\((loc k=none/\es=[])\/∃b c,∃cs:Array Value,∃t,loc k=some (b,c)/\(if fz then F b else ¬F b)/\w.heap[b]? =some (.cells cs t (0,0))/\
  cs.size=c*s/\(es.length<=c/\c<=9223372036854775807)/\(∀j,j<es.length*s->∃v,cs[j]? =some v/\CD w F (nth .undef es.flatten j) v)/\loc.P.cellsOf t=s/\loc.ty k=t)
def Inv (C:Cx) (F:Nat->Prop) (w:World):Prop:=
 ∀g cs,C.G g=some cs->F g/\∃(vs:Array Value) (t:TypeId) (fr:Nat×Nat),w.heap[g]? =some (.cells vs t fr)/\All2 (CD w F) cs vs.toList
theorem Inv.mono {C:Cx} {w w':World} {F F':Nat->Prop} (h:Inv C F w) (hF:∀b,F b->F' b) (hw:∀b,F b->w'.heap[b]? =w.heap[b]?):Inv C F' w':=λg cs hg=>by
 obtain⟨h1,vs,t,fr,h2,h3⟩:=h g cs hg;exact⟨hF _ h1,vs,t,fr,by rw[hw g h1];exact h2,h3.mono λ_ _ h=>h.mono hF hw⟩
structure Bd where
 n:Nat
 X:Nat->Prop
def Own (B:Bd) (b:Nat):Prop:=B.n<=b\/B.X b
structure BelowX (B:Bd) (w w':World):Prop where
 os:w'.os=w.os
 tape:w'.tape=w.tape
 output:w'.output=w.output
 size:w.heap.size<=w'.heap.size
 block:∀k,k<B.n->¬B.X k->w'.heap[k]? =w.heap[k]?
omit [Env] in
theorem BelowX.refl (B:Bd) (w:World):BelowX B w w:=⟨rfl,rfl,rfl,cm _,λ_ _ _=>rfl⟩
omit [Env] in
theorem BelowX.trans {B:Bd} {a b c:World} (h:BelowX B a b) (k:BelowX B b c):BelowX B a c:=
 ⟨k.os.trans h.os,k.tape.trans h.tape,k.output.trans h.output,Nat.le_trans h.size k.size,λi hi hx=>(k.block i hi hx).trans (h.block i hi hx)⟩
omit [Env] in
theorem BelowX.of {B:Bd} {n:Nat} {w w':World} (h:Below n w w') (hn:B.n<=n):BelowX B w w':=⟨h.os,h.tape,h.output,h.size,λk hk _=>h.block k (Nat.lt_of_lt_of_le hk hn)⟩
omit [Env] in
theorem BelowX.drew {B:Bd} {a w:World} (h:BelowX B a w):BelowX B a w.drew:=h.trans (.of ((Below.refl B.n w).drew) (cm _))
omit [Env] in
theorem BelowX.alloc {B:Bd} {a w:World} (h:BelowX B a w) (hB:B.n<=w.heap.size) (o:I2):BelowX B a (w.alloc o):=h.trans (.of ((Below.refl B.n w).alloc hB o) (cm _))
omit [Env] in
theorem BelowX.toBelow {n:Nat} {w w':World} (h:BelowX ⟨n,λ_=>False⟩ w w'):Below n w w':=⟨h.os,h.tape,h.output,h.size,λk hk=>h.block k hk (λh=>h)⟩
structure Conc (C:Cx) (B:Bd) (F0:Nat->Prop) (w0:World) (F:Nat->Prop) (loc:Where) (st:St) (a:Act) (w:World):Prop where
 prog:loc.P=C.P
 below:BelowX B w0 w
 hB:B.n<=w.heap.size
 defers:a.defers=[]
 tmps:All2 (CV loc st.objs w F) st.tmps a.tmps.toList
 refs:∀v∈st.tmps,Ref st.objs v
 objs:∀k,CO loc st.objs w F k (nth .none st.objs k)
 inj:∀k k' b c c',loc k=some (b,c)->loc k'=some (b,c')->k=k'
 fresh:∀k b c,loc k=some (b,c)->Own B b/\b<w.heap.size
 bound:∀b,F b->b<w.heap.size
 fsub:∀b,F b->F0 b\/Own B b
 fsup:∀b,F0 b->F b
 inv:Inv C F w
def St.has (C:Cx) (B:Bd) (F0:Nat->Prop) (w0:World) (st:St) (a:Act) (w:World):Prop:=∃F loc,Conc C B F0 w0 F loc st a w
def Gives (C:Cx) (f:Nat) (args res:List A):Prop:=
 ∀(w:World) (F:Nat->Prop) (vs:List Value),(∀b,F b->b<w.heap.size)->Inv C F w->All2 (CA w F) args vs->
  Calls C.P f vs.toArray w λe w'=>Below w.heap.size w w'/\∃v,e= .returned v/\vO w' (λb=>F b\/(w.heap.size<=b/\b<w'.heap.size)) res v
structure Le (objs objs':List Obj) (loc loc':Where):Prop where
 prog:loc'.P=loc.P
 ty:∀k,nth .none objs k≠ .none->loc'.ty k=loc.ty k
 there:∀k,nth .none objs k≠ .none->nth .none objs' k≠ .none
 box:∀k o',nth .none objs k≠ .none->nth .none objs' k=o'->xD o'=true->xD (nth .none objs k)=true/\loc' k=loc k
 arr:∀k s es' fz',nth .none objs k≠ .none->nth .none objs' k= .arr s es' fz'->(∃es fz,nth .none objs k= .arr s es fz/\es'.length=es.length)/\loc' k=loc k
omit [Env] in
theorem Le.refl (objs:List Obj) (loc:Where):Le objs objs loc loc:=
 ⟨rfl,λ_ _=>rfl,λ_ h=>h,λ_ _ _ h hb=>⟨h▸hb,rfl⟩,λ_ _ es' fz' _ h=>⟨⟨es',fz',h,rfl⟩,rfl⟩⟩
omit [Env] in
theorem Ref.le {objs objs':List Obj} {loc loc':Where} (h:Le objs objs' loc loc') {v:V} (hv:Ref objs v):Ref objs' v:=by
 cases v<;>first|exact h.there _ hv|trivial|exact λk hk=>h.there _ (hv k hk)|exact⟨h.there _ hv.1,λp hp=>h.there _ (hv.2 p hp)⟩
theorem CVC.le {loc loc':Where} {objs objs':List Obj} {w w':World} {F F':Nat->Prop} (hF:∀b,F b->F' b) (hw:∀b,F b->w'.heap[b]? =w.heap[b]?) (hl:Le objs objs' loc loc') {c:VC} {x:Value}
 (hr:Ref objs c.v) (h:CVC loc objs w F c x):CVC loc' objs' w' F' c x:=by
 cases c with
 |d d=>exact CD.mono h hF hw
 |nil=>exact h
 |arr k=>
  refine⟨?_,h.2⟩;intro s es' fz' hc;obtain⟨⟨es,fz,a2,a1⟩,a0⟩:=hl.arr k s es' fz' hr hc;rcases h.1 s es fz a2 with⟨b,c,h1,h2⟩|⟨h1,h2,h3⟩
  .exact .inl ⟨b,c,by rw[a0];exact h1,by rw[a1];exact h2⟩
  .subst h2;exact .inr ⟨by rw[a0];exact h1,by simpa using a1,h3⟩
 |vec k n=>refine⟨?_,h.2⟩;intro o' hc hbx;obtain⟨a2,a0⟩:=hl.box k o' hr hc hbx;obtain⟨b,c,h1,h2⟩:=h.1 _ rfl a2;exact⟨b,c,by rw[a0];exact h1,h2⟩
theorem CVC.mem {loc:Where} {objs:List Obj} {w w':World} {F F':Nat->Prop} (hF:∀b,F b->F' b) (hw:∀b,F b->w'.heap[b]? =w.heap[b]?) {c:VC} {x:Value} (h:CVC loc objs w F c x):CVC loc objs w' F' c x:=by
 cases c with
 |d d=>exact CD.mono h hF hw
 |_=>exact h
theorem CV.le {loc loc':Where} {objs objs':List Obj} {w w':World} {F F':Nat->Prop} (hF:∀b,F b->F' b) (hw:∀b,F b->w'.heap[b]? =w.heap[b]?) (hl:Le objs objs' loc loc') {v:V} {x:Value}
 (hr:Ref objs v) (h:CV loc objs w F v x):CV loc' objs' w' F' v x:=by
 cases v with
 |any=>trivial
 |no=>exact h
 |c d=>exact CD.mono h hF hw
 |ag cs=>obtain⟨vs,rfl,h⟩:=h;exact⟨vs,rfl,h.mono λ_ _ h=>h.mono hF hw⟩
 |tp as=>obtain⟨vs,rfl,h⟩:=h;exact⟨vs,rfl,h.mono λ_ _ h=>h.mono hF hw⟩
 |nilS=>exact h
 |box k off=>intro o' hc a5;obtain⟨a1,a0⟩:=hl.box k o' hr hc a5;obtain⟨b,c,h1,h2⟩:=h _ rfl a1;exact⟨b,c,by rw[a0];exact h1,h2⟩
 |arr k=>
  intro s a3 a4 hc;obtain⟨⟨es,fz,a1,a2⟩,a0⟩:=hl.arr k s a3 a4 hr hc;rcases h s es fz a1 with⟨b,c,h1,h2⟩|⟨h1,h2,h3⟩
  .exact .inl ⟨b,c,by rw[a0];exact h1,by rw[a2];exact h2⟩
  .subst h2;exact .inr ⟨by rw[a0];exact h1,by simpa using a2,h3⟩
 |elt k i off=>intro s a3 a4 hc;obtain⟨⟨es,fz,a1,a2⟩,a0⟩:=hl.arr k s a3 a4 hr hc;obtain⟨b,c,h1,h2,h3⟩:=h s es fz a1;exact⟨b,c,by rw[a0];exact h1,by omega,h3⟩
 |sub k off len=>
  intro s a3 a4 hc;obtain⟨⟨es,fz,a1,a2⟩,a0⟩:=hl.arr k s a3 a4 hr hc;rcases h s es fz a1 with⟨b,c,h1,h2,h3⟩|⟨h0,h1,h2,h3⟩|⟨h0,h1,h2,h3⟩
  .exact .inl ⟨b,c,by rw[a0];exact h1,by omega,h3⟩
  .subst h2;exact .inr (.inl ⟨h0,by rw[a0];exact h1,by simpa using a2,h3⟩)
  .exact .inr (.inr ⟨h0,h1,by omega,h3⟩)
 |eref es i off=>obtain⟨b,o,a6,h1,h2,h3⟩:=h;exact⟨b,o,a6,h1,h2,h3.mono hF hw⟩
 |gl g off=>exact h
 |fn f=>exact h
 |arrAt k g c t=>intro s a3 a4 hc;obtain⟨⟨es,fz,a1,a2⟩,a0⟩:=hl.arr k s a3 a4 hr hc;obtain⟨h1,h2⟩:=h s es fz a1;exact⟨⟨by rw[a0];exact h1.1,by rw[hl.ty k hr];exact h1.2⟩,by rw[a2];exact h2⟩
 |boxAt k g=>intro o' hc a5;obtain⟨a1,a0⟩:=hl.box k o' hr hc a5;obtain⟨⟨c,h1⟩,h2⟩:=h _ rfl a1;exact⟨⟨c,by rw[a0];exact h1⟩,h2⟩
 |vec k n=>intro o' hc a5;obtain⟨a1,a0⟩:=hl.box k o' hr hc a5;obtain⟨b,c,h1,h2⟩:=h _ rfl a1;exact⟨b,c,by rw[a0];exact h1,h2⟩
 |pinB k g ps=>
  refine⟨λo' hc a5=>?_,λp hp=>⟨λa5=>?_,λs a3 a4 hc=>?_⟩⟩
  .obtain⟨a1,a0⟩:=hl.box k o' hr.1 hc a5;obtain⟨⟨c,h1⟩,h2⟩:=h.1 _ rfl a1;exact⟨⟨c,by rw[a0];exact h1⟩,h2⟩
  .obtain⟨a1,a0⟩:=hl.box p.1 _ (hr.2 p hp) rfl a5;rw[a0];exact(h.2 p hp).1 a1
  .obtain⟨⟨es,fz,a1,_⟩,a0⟩:=hl.arr p.1 s a3 a4 (hr.2 p hp) hc;obtain⟨h1,h2⟩:=(h.2 p hp).2 s es fz a1;exact⟨by rw[a0];exact h1,by rw[hl.ty _ (hr.2 p hp)];exact h2⟩
 |tpo k as=>obtain⟨x,ys,rfl,h1,h2⟩:=h;refine⟨x,ys,rfl,λs a3 a4 hc=>?_,h2.mono λ_ _ h=>h.mono hF hw⟩;obtain⟨⟨es,fz,a1,a2⟩,a0⟩:=hl.arr k s a3 a4 hr hc;obtain⟨b,c,h3,h4⟩:=h1 s es fz a1;exact⟨b,c,by rw[a0];exact h3,by rw[a2];exact h4⟩
 |agv cs=>obtain⟨vs,rfl,h⟩:=h;exact⟨vs,rfl,h.mono_mem λc hc y hy=>CVC.le hF hw hl (Ref.cell hr hc) hy⟩
theorem CV.un {loc:Where} {objs:List Obj} {w:World} {F:Nat->Prop} {v:V} {x:Value} (h:CV loc objs w F v x):CV loc objs w F (un v) x:=by
 cases v with
 |arrAt k g c t=>intro s es fz hc;obtain⟨h1,h2⟩:=h s es fz hc;exact .inl ⟨g,c,h1.1,h2⟩
 |boxAt k g=>intro o hc hb;obtain⟨⟨c,h1⟩,h2⟩:=h o hc hb;exact⟨g,c,h1,h2⟩
 |pinB k g ps=>intro o hc hb;obtain⟨⟨c,h1⟩,h2⟩:=h.1 o hc hb;exact⟨g,c,h1,h2⟩
 |_=>exact h
omit [Env] in
theorem Ref.un {objs:List Obj} {v:V} (h:Ref objs v):Ref objs (un v):=by
 cases v<;>first|exact h|exact h.1
theorem CV.mem {loc:Where} {objs:List Obj} {w w':World} {F F':Nat->Prop} (hF:∀b,F b->F' b) (hw:∀b,F b->w'.heap[b]? =w.heap[b]?) {v:V} {x:Value} (h:CV loc objs w F v x):CV loc objs w' F' v x:=by
 cases v with
 |c d=>exact CD.mono h hF hw
 |ag cs=>obtain⟨vs,rfl,h⟩:=h;exact⟨vs,rfl,h.mono λ_ _ h=>h.mono hF hw⟩
 |tp as=>obtain⟨vs,rfl,h⟩:=h;exact⟨vs,rfl,h.mono λ_ _ h=>h.mono hF hw⟩
 |eref es i off=>obtain⟨b,o,a0,h1,h2,h3⟩:=h;exact⟨b,o,a0,h1,h2,h3.mono hF hw⟩
 |tpo k as=>obtain⟨x,ys,rfl,h1,h2⟩:=h;exact⟨x,ys,rfl,h1,h2.mono λ_ _ h=>h.mono hF hw⟩
 |agv cs=>obtain⟨vs,rfl,h⟩:=h;exact⟨vs,rfl,h.mono λc y hy=>CVC.mem hF hw hy⟩
 |_=>exact h
theorem CO.le {loc loc':Where} {objs objs':List Obj} {w w':World} {F F':Nat->Prop} {k:Nat} {o:Obj} (hF:∀b,F b->F' b) (hw:∀b,F b->w'.heap[b]? =w.heap[b]?) (hl:Le objs objs' loc loc')
 (hloc:loc' k=loc k) (hty:loc'.ty k=loc.ty k) (hb:∀b c,loc k=some (b,c)->w'.heap[b]? =w.heap[b]?/\(¬F b->¬F' b)) (h:CO loc objs w F k o):CO loc' objs' w' F' k o:=by
 cases o with
 |none=>exact hloc.trans h
 |dead=>exact hloc.trans h
 |box cells=>obtain⟨b,c,cs,t,h1,h2,h3,h4,h5⟩:=h;obtain⟨q1,q2⟩:=hb b c h1;refine⟨b,c,cs,t,by rw[hloc];exact h1,q2 h2,by rw[q1];exact h3,h4.mono_mem λv hv x hx=>⟨CV.le hF hw hl (h5 v hv) hx.1,hx.2⟩,λv hv=>(h5 v hv).le hl⟩
 |vec cells=>
  obtain⟨b,c,cs,t,h1,h2,h3,h4,h5,h7,h8,h9⟩:=h;obtain⟨q1,q2⟩:=hb b c h1;exact⟨b,c,cs,t,by rw[hloc];exact h1,q2 h2,by rw[q1];exact h3,h4,h5,λj hj=>by
   obtain⟨x,r1,r2,r3⟩:=h7 j hj;exact⟨x,r1,CV.le hF hw hl (h8 _ (qT hj)) r2,r3⟩,λv hv=>(h8 v hv).le hl,by rw[hl.prog];exact h9.1,h9.2⟩
 |bld T q=>
  obtain⟨b,c,p,v,h1,h2,h3,h4,h5,h6⟩:=h;obtain⟨q1,q2⟩:=hb b c h1;exact⟨b,c,p,v,by rw[hloc];exact h1,q2 h2,by rw[q1];exact h3,h4,CV.le hF hw hl h6.1 h5,h6.1.le hl,λj hj=>by
   subst hj;rw[hl.prog,hl.ty j h6.1];exact h6.2 j rfl⟩
 |arr s es fz=>
  obtain⟨h1,h2,h3,h4⟩:=h;refine⟨h1,h2,h3,?_⟩;rcases h4 with⟨h4,h5⟩|⟨b,c,cs,t,h4,h5,h6,h7,h8,h9⟩
  .exact .inl ⟨by rw[hloc];exact h4,h5⟩
  .obtain⟨q1,q2⟩:=hb b c h4;refine .inr ⟨b,c,cs,t,by rw[hloc];exact h4,?_,by rw[q1];exact h6,h7,h8,λj hj=>?_,by rw[hl.prog];exact h9.2.1,by rw[hty];exact h9.2.2⟩
   .cases fz
    .exact q2 h5
    .exact hF _ h5
   .obtain⟨v,r1,r2⟩:=h9.1 j hj;exact⟨v,r1,r2.mono hF hw⟩
omit [Env] in
theorem Act.put_tmps (a:Act) (dst:Option Nat) (x:Value):(a.put dst x).tmps.toList=(match dst with|some t=>upd a.tmps.toList t x|none=>a.tmps.toList):=by
 cases dst with
 |none=>rfl
 |some t=>simp[Act.put,xh]
omit [Env] in
theorem Act.put_def (a:Act) (dst:Option Nat) (x:Value):(a.put dst x).defers=a.defers:=by cases dst<;>rfl
omit [Env] in
theorem xJ {α:Type} {l:List α} {i:Nat} {y z:α} (h:z∈upd l i y):z∈l\/z=y:=by
 rw[xh]at h;exact List.mem_or_eq_of_mem_set h
theorem Conc.step {C:Cx} {B:Bd} {F0:Nat->Prop} {w0:World} {F F':Nat->Prop} {loc loc':Where} {st:St} {a:Act} {w w':World} {up:List (Nat×Obj)} {v:V} {x:Value} {dst:Option Nat}
 (h:Conc C B F0 w0 F loc st a w) (hF:∀b,F b->F' b) (hw:∀b,F b->w'.heap[b]? =w.heap[b]?) (hl:Le st.objs (upds st.objs up) loc loc') (hbelow:BelowX B w0 w') (hB':B.n<=w'.heap.size)
 (hobjs:∀k,CO loc' (upds st.objs up) w' F' k (nth .none (upds st.objs up) k)) (hinj:∀k k' b c c',loc' k=some (b,c)->loc' k'=some (b,c')->k=k')
 (hfresh:∀k b c,loc' k=some (b,c)->Own B b/\b<w'.heap.size) (hbound:∀b,F' b->b<w'.heap.size) (hfsub:∀b,F' b->F0 b\/Own B b)
 (hv:CV loc' (upds st.objs up) w' F' v x) (hr:Ref (upds st.objs up) v):Conc C B F0 w0 F' loc' (st.put dst v up) (a.put dst x) w':=by
 have ht:All2 (CV loc' (upds st.objs up) w' F') st.tmps a.tmps.toList:=h.tmps.mono_mem λv hv x hx=>CV.le hF hw hl (h.refs v hv) hx
 have a0:∀v∈st.tmps,Ref (upds st.objs up) v:=λv hv=>(h.refs v hv).le hl
 refine⟨hl.prog.trans h.prog,hbelow,hB',by rw[Act.put_def];exact h.defers,?_,?_,hobjs,hinj,hfresh,hbound,hfsub,λb hb=>hF _ (h.fsup b hb),h.inv.mono hF hw⟩
 .rw[Act.put_tmps];cases dst with
  |none=>exact ht
  |some t=>exact All2.upd hv ht
 .cases dst with
  |none=>exact a0
  |some t=>
   intro u hu;rcases xJ hu with hu|rfl
   .exact a0 u hu
   .exact hr
theorem Conc.pure {C:Cx} {B:Bd} {F0:Nat->Prop} {w0:World} {F:Nat->Prop} {loc:Where} {st:St} {a:Act} {w:World} {v:V} {x:Value} {dst:Option Nat}
 (h:Conc C B F0 w0 F loc st a w) (hv:CV loc st.objs w F v x) (hr:Ref st.objs v):Conc C B F0 w0 F loc (st.put dst v []) (a.put dst x) w:=
 h.step (up:=[]) (λ_ h=>h) (λ_ _=>rfl) (Le.refl _ _) h.below h.hB h.objs h.inj h.fresh h.bound h.fsub hv hr
theorem yr (w:World) (F:Nat->Prop) (v:Value) (h:v.oneCell'=true):CD w F (xG v) v:=by
 unfold xG;split
 .exact .bool _
 .exact .int _ _
 .exact .str _
 .exact .nil _ _
 .exact .nilI
 .exact .nilP
 .exact .undef _ h
omit [Env] in
theorem Y7 {α β:Type} {R:α->β->Prop} {f:β->α}:∀{l:List β},(∀b∈l,R (f b) b)->All2 R (l.map f) l
 |[],_=>trivial
 |b::l,h=>⟨h b (by simp),Y7 λc hc=>h c (by simp[hc])⟩
theorem Xw (loc:Where) (objs:List Obj) (w:World) (F:Nat->Prop) (v:Value):CV loc objs w F (v8 v) v/\Ref objs (v8 v):=by
 unfold v8;split
 .exact⟨.bool _,trivial⟩
 .exact⟨.int _ _,trivial⟩
 .exact⟨.str _,trivial⟩
 .exact⟨rfl,trivial⟩
 .exact⟨.nilI,trivial⟩
 .exact⟨.nilP,trivial⟩
 .rename_i cs;split
  .rename_i a0;refine⟨⟨cs,rfl,?_⟩,trivial⟩;exact Y7 λb hb=>yr w F b (bv.1 a0 b hb)
  .exact⟨trivial,trivial⟩
 .exact⟨trivial,trivial⟩
omit [Env] in
theorem QS (t:Array Value) (i:Nat):nth undef t.toList i=t.getD i undef:=by simp[qw]
theorem qU {C:Cx} {B:Bd} {F0:Nat->Prop} {w0:World} {F:Nat->Prop} {loc:Where} {st:St} {a:Act} {w:World} (h:Conc C B F0 w0 F loc st a w) (x:Operand):
 CV loc st.objs w F (ev st x) (a.eval x)/\Ref st.objs (ev st x):=by
 cases x with
 |tmp t=>
  simp only[ev,Act.eval];by_cases ht:t<st.tmps.length
  .refine⟨CV.un ?_,Ref.un ?_⟩
   .rw[<-QS];exact h.tmps.nth _ _ _ _ _ ht
   .rw[qk _ ht];exact h.refs _ (V1 ht)
  .rw[qC _ (cp.1 ht)];exact⟨trivial,trivial⟩
 |const v=>exact Xw _ _ _ _ _
 |global g=>exact⟨rfl,trivial⟩
 |func f=>exact⟨CD.fn f,trivial⟩
theorem wH {C:Cx} {B:Bd} {F0:Nat->Prop} {w0:World} {F:Nat->Prop} {loc:Where} {st:St} {a:Act} {w:World} (h:Conc C B F0 w0 F loc st a w) (t:Nat):
 CV loc st.objs w F (nth .any st.tmps t) (a.eval (.tmp t))/\Ref st.objs (nth .any st.tmps t):=by
 simp only[Act.eval];by_cases ht:t<st.tmps.length
 .refine⟨?_,?_⟩
  .rw[<-QS];exact h.tmps.nth _ _ _ _ _ ht
  .rw[qk _ ht];exact h.refs _ (V1 ht)
 .rw[qC _ (cp.1 ht)];exact⟨trivial,trivial⟩
end Eng
end
section
namespace Eng
open Go Go.RowKit
variable [Env]
def Does (C:Cx) (B:Bd) (F0:Nat->Prop) (w0:World) (o:Oper) (a:Act) (w:World) (st':St):Prop:=
 ∃nx x w',(execOp a.eval o).run C.P w= .ok nx w'/\(nx= .value x\/(nx= .skip/\x=undef))/\St.has C B F0 w0 st' (a.put o.dst x) w'
theorem Does.wp {C:Cx} {B:Bd} {F0:Nat->Prop} {w0:World} {o:Oper} {a:Act} {w:World} {st':St} {next:Act->World->Prop} {Q:Exit->Act->World->Prop}
 (h:Does C B F0 w0 o a w st') (hn:∀a' w',St.has C B F0 w0 st' a' w'->next a' w'):o.wp C.P a w next Q:=by
 obtain⟨nx,x,w',a1,hx,a0⟩:=h;unfold Oper.wp;rw[a1];rcases hx with rfl|⟨rfl,rfl⟩
 .exact hn _ _ a0
 .exact hn _ _ a0
section
variable {C:Cx} {B:Bd} {F0:Nat->Prop} {w0:World} {F:Nat->Prop} {loc:Where} {st:St} {a:Act} {w:World}
theorem qV {o:Oper} {v:V} {x:Value} (h:Conc C B F0 w0 F loc st a w) (hrun:(execOp a.eval o).run C.P w= .ok (.value x) w) (hv:CV loc st.objs w F v x) (hr:Ref st.objs v):
 Does C B F0 w0 o a w (st.put o.dst v []):=⟨_,x,w,hrun,.inl rfl,F,loc,h.pure hv hr⟩
omit [Env] in
theorem qM {P:Program} {t:TypeId} {d:TypeDesc} (h:P.underlying t=some d) (w:World):(underlying t).run P w= .ok d w:=by
 simp[underlying,h]
omit [Env] in
theorem xy {P:Program} {t:TypeId} {z:List Value} (h:zN P t=some z):∃i v,P.info? t=some i/\i.zero=some v/\v.cells.toList=z/\i.size=z.length/\(∀x∈z,x.oneCell'=true)/\(match v with| .agg _=>wk P t=true|_=>wk P t=false)/\∃d,P.underlying t=some d:=by
 unfold zN at h;split at h
 .rename_i i hi;split at h
  .rename_i v hv;split at h
   .rename_i hc;simp only[Hv]at hc;obtain⟨⟨⟨h1,h2⟩,h3⟩,h4⟩:=hc;have hz:v.cells.toList=z:=by simpa using h
    subst hz;refine⟨i,v,hi,hv,rfl,bF h2,λx hx=>bv.1 h1 x hx,?_,Option.isSome_iff_exists.1 h4⟩;cases v<;>simpa using h3
   .exact absurd h (by simp)
  .exact absurd h (by simp)
 .exact absurd h (by simp)
omit [Env] in
theorem vf {P:Program} {t:TypeId} {z:List Value} (h:zN P t=some z) (w:World):(isAgg t).run P w= .ok (wk P t) w:=by
 obtain⟨_,_,_,_,_,_,_,_,d,hd⟩:=xy h;simp only[isAgg,P1,qM hd,Pl,wk,hd];cases d<;>rfl
omit [Env] in
theorem zT {P:Program} {t:TypeId} {z:List Value} (h:zN P t=some z):P.cellsOf t=z.length:=by
 obtain⟨i,v,hi,_,_,hs,_⟩:=xy h;simp[Program.cellsOf,hi,hs]
omit [Env] in
theorem Oc {P:Program} {t:TypeId} {z:List Value} (h:zN P t=some z) (w:World):∃v:Value,(zeroValue t).run P w= .ok v w/\v.cells.toList=z:=by
 obtain⟨i,v,hi,hv,hz,_⟩:=xy h;exact⟨v,by simp[zeroValue,typeInfo,hi,hv],hz⟩
omit [Env] in
theorem xe {P:Program} {t:TypeId} {z:List Value} (h:zN P t=some z) (w:World):(I3 t).run P w=Result.ok z.length w:=by
 obtain⟨i,v,hi,_,_,hs,_⟩:=xy h;simp[I3,typeInfo,hi,hs]
omit [Env] in
theorem qI {objs:List Obj} {d:Nat} (h:qx objs d=true):nth .none objs d= .none/\d<objs.length:=by
 unfold qx at h;by_cases hd:d<objs.length
 .rw[qk _ hd]at h ⊢;split at h
  .rename_i h1;exact⟨h1,hd⟩
  .simp at h
 .rw[qC _ (cp.1 hd)]at h;simp at h
theorem Conc.redirty {dt:List Nat} (h:Conc C B F0 w0 F loc st a w):Conc C B F0 w0 F loc ⟨st.tmps,st.objs,dt⟩ a w:=
 ⟨h.prog,h.below,h.hB,h.defers,h.tmps,h.refs,h.objs,h.inj,h.fresh,h.bound,h.fsub,h.fsup,h.inv⟩
def at_ (loc:Where) (d:Nat) (p:Nat×Nat) (t:Nat:=0):Where:=⟨loc.P,λk=>if k=d then some p else loc k,λk=>if k=d then t else loc.ty k⟩
omit [Env] in
theorem SY {objs:List Obj} {d tt:Nat} {ob:Obj} {p:Nat×Nat} (hd:qx objs d=true):Le objs (upd objs d ob) loc (at_ loc d p tt):=by
 obtain⟨a0,hlt⟩:=qI hd;refine⟨rfl,λk hk=>by
  have:k≠d:=λe=>by subst e;exact absurd a0 hk
  simp[at_,this],λk hk=>?_,λk o' hk hc hbx=>?_,λk s' es' fz' hk hc=>?_⟩
 .by_cases hkd:d=k
  .subst hkd;exact absurd a0 hk
  .rw[qa _ _ _ hkd];exact hk
 .by_cases hkd:d=k
  .subst hkd;exact absurd a0 hk
  .rw[qa _ _ _ hkd]at hc;exact⟨by rw[hc];exact hbx,by simp[at_,Ne.symm hkd]⟩
 .by_cases hkd:d=k
  .subst hkd;exact absurd a0 hk
  .rw[qa _ _ _ hkd]at hc;exact⟨⟨_,_,hc,rfl⟩,by simp[at_,Ne.symm hkd]⟩
theorem Conc.new {dst:Option Nat} {d:Nat} {ob:Obj} {v:V} {x:Value} {cs:Array Value} {t:TypeId} {cap tt:Nat} (h:Conc C B F0 w0 F loc st a w) (hd:qx st.objs d=true)
 (hob:CO (at_ loc d (w.heap.size,cap) tt) (upd st.objs d ob) (w.alloc (.cells cs t)) F d ob)
 (hv:CV (at_ loc d (w.heap.size,cap) tt) (upd st.objs d ob) (w.alloc (.cells cs t)) F v x) (hr:Ref (upd st.objs d ob) v):
 Conc C B F0 w0 F (at_ loc d (w.heap.size,cap) tt) (st.put dst v [(d,ob)]) (a.put dst x) (w.alloc (.cells cs t)):=by
 obtain⟨a1,hlt⟩:=qI hd;have hw:∀b,F b->(w.alloc (.cells cs t)).heap[b]? =w.heap[b]? :=λb hb=>Below.heap_alloc _ _ _ (h.bound b hb)
 have a0:Le st.objs (upd st.objs d ob) loc (at_ loc d (w.heap.size,cap) tt):=SY hd;refine h.step (up:=[(d,ob)]) (λ_ h=>h) hw a0 (h.below.alloc h.hB _) (by have:=h.hB;rw[U0];omega) (λk=>?_) ?_ ?_ ?_ h.fsub hv hr
 .show CO _ (upd st.objs d ob) _ _ _ (nth .none (upd st.objs d ob) k);by_cases hk:d=k
  .subst hk;rw[qb _ _ _ hlt];exact hob
  .rw[qa _ _ _ hk];refine CO.le (λ_ h=>h) hw a0 (by simp[at_,Ne.symm hk]) (by simp[at_,Ne.symm hk]) (λb c hb=>⟨Below.heap_alloc _ _ _ (h.fresh _ _ _ hb).2,λh=>h⟩) (h.objs k)
 .intro k k' b c c' h1 h2;have hf:=h.fresh;simp only[at_]at h1 h2;split at h1<;>split at h2
  .rw[‹k=d›,‹k'=d›]
  .simp only[c2,c3]at h1;have:=(hf _ _ _ h2).2;omega
  .simp only[c2,c3]at h2;have:=(hf _ _ _ h1).2;omega
  .exact h.inj _ _ _ _ _ h1 h2
 .intro k b c h1;simp only[at_]at h1;have hB:=h.hB;rw[U0];split at h1
  .simp only[c2,c3]at h1;exact⟨.inl (by omega),by omega⟩
  .have:=h.fresh _ _ _ h1;exact⟨this.1,by omega⟩
 .intro b hb;have:=h.bound b hb;rw[U0];omega
theorem Conc.freeze1 {k s:Nat} {es:List (List D)} {fz:Bool} (h:Conc C B F0 w0 F loc st a w) (hk:nth .none st.objs k= .arr s es fz):
 Conc C B F0 w0 (λb=>F b\/∃c,loc k=some (b,c)) loc ⟨st.tmps,upd st.objs k (.arr s es true),st.dirty⟩ a w:=by
 have a1:k<st.objs.length:=by
  rcases cb k st.objs.length with h1|h1
  .exact h1
  .rw[qC _ h1]at hk;simp at hk
 have a2:Le st.objs (upd st.objs k (.arr s es true)) loc loc:=by
  refine⟨rfl,λ_ _=>rfl,λj hj=>?_,λj o' hj hc hbx=>?_,λj s' es' fz' hj hc=>?_⟩
  .by_cases hkj:k=j
   .subst hkj;rw[qb _ _ _ a1];simp
   .rw[qa _ _ _ hkj];exact hj
  .by_cases hkj:k=j
   .subst hkj;rw[qb _ _ _ a1]at hc;rw[<-hc]at hbx;simp[xD]at hbx
   .rw[qa _ _ _ hkj]at hc;exact⟨by rw[hc];exact hbx,rfl⟩
  .by_cases hkj:k=j
   .subst hkj;rw[qb _ _ _ a1]at hc;simp only[Obj.arr.injEq]at hc;obtain⟨rfl,rfl,rfl⟩:=hc;exact⟨⟨_,_,hk,rfl⟩,rfl⟩
   .rw[qa _ _ _ hkj]at hc;exact⟨⟨_,_,hc,rfl⟩,rfl⟩
 have hF:∀b,F b->(F b\/∃c,loc k=some (b,c)):=λb hb=> .inl hb
 have:=h.step (dst:=none) (v:= .any) (x:=undef) (up:=[(k,.arr s es true)]) (loc':=loc) (F':=λb=>F b\/∃c,loc k=some (b,c)) hF (λ_ _=>rfl) a2 h.below h.hB (λj=>?_) h.inj h.fresh ?_ ?_ trivial trivial
 .exact this.redirty
 .show CO _ (upd st.objs k (.arr s es true)) _ _ _ (nth .none (upd st.objs k (.arr s es true)) j);by_cases hkj:k=j
  .subst hkj;rw[qb _ _ _ a1];have h0:=h.objs k;rw[hk]at h0;obtain⟨h1,h2,h3,h4⟩:=h0;refine⟨h1,h2,h3,?_⟩;rcases h4 with h4|⟨b,c,cs,t,h4,h5,h6,h7,h8,h9⟩
   .exact .inl h4
   .refine .inr ⟨b,c,cs,t,h4,.inr ⟨c,h4⟩,h6,h7,h8,λj hj=>?_,h9.2⟩;obtain⟨v,r1,r2⟩:=h9.1 j hj;exact⟨v,r1,r2.mono hF λ_ _=>rfl⟩
  .rw[qa _ _ _ hkj];refine CO.le hF (λ_ _=>rfl) a2 rfl rfl (λb c hb=>⟨rfl,λhn a0=>?_⟩) (h.objs j);rcases a0 with a0|⟨c',a0⟩
   .exact hn a0
   .exact hkj (h.inj _ _ _ _ _ a0 hb)
 .intro b hb;rcases hb with hb|⟨c,hb⟩
  .exact h.bound b hb
  .exact(h.fresh _ _ _ hb).2
 .intro b hb;rcases hb with hb|⟨c,hb⟩
  .exact h.fsub b hb
  .exact .inr (h.fresh _ _ _ hb).1
def Frz (objs:List Obj) (us:List (Nat×Obj)):Prop:=∀p∈us,∃s es fz,nth .none objs p.1= .arr s es fz/\p.2= .arr s es true
omit [Env] in
theorem Frz.nil (objs:List Obj):Frz objs []:=λ_ h=>absurd h (by simp)
omit [Env] in
theorem Frz.append {objs:List Obj} {us us':List (Nat×Obj)} (h:Frz objs us) (h':Frz objs us'):Frz objs (us++us'):=λp hp=>by
 rcases List.mem_append.1 hp with hp|hp
 .exact h p hp
 .exact h' p hp
omit [Env] in
theorem Frz.step {objs:List Obj} {k s:Nat} {es:List (List D)} {fz:Bool} {us:List (Nat×Obj)} (hk:nth .none objs k= .arr s es fz) (h:Frz objs us):Frz (upd objs k (.arr s es true)) us:=λp hp=>by
 obtain⟨s',es',fz',h1,h2⟩:=h p hp;rw[xS];split
 .rename_i hc;obtain⟨hc1,hc2⟩:=hc;rw[<-hc1,hk]at h1;simp only[Obj.arr.injEq]at h1;obtain⟨rfl,rfl,rfl⟩:=h1;exact⟨_,_,_,rfl,h2⟩
 .exact⟨_,_,_,h1,h2⟩
theorem Conc.freezes:∀{us:List (Nat×Obj)} {st:St} {F:Nat->Prop} (_:Conc C B F0 w0 F loc st a w) (_:Frz st.objs us) (dt:List Nat),
 ∃F':Nat->Prop,Conc C B F0 w0 F' loc ⟨st.tmps,upds st.objs us,dt⟩ a w/\(∀b,F b->F' b)/\∀p∈us,∀b c,loc p.1=some (b,c)->F' b
 |[],st,F,h,_,dt=>⟨F,h.redirty,λ_ h=>h,λ_ h=>absurd h (by simp)⟩
 |(k,o)::us,st,F,h,hf,dt=>by
  obtain⟨s,es,fz,h1,h2⟩:=hf (k,o) (by simp);simp only at h1 h2;subst h2;have h3:=h.freeze1 h1;obtain⟨F',h4,h5,h6⟩:=Conc.freezes (us:=us) h3 (Frz.step h1 λp hp=>hf p (by simp[hp])) dt;refine⟨F',h4,λb hb=>h5 b (.inl hb),λp hp b c hl=>?_⟩;rcases be.1 hp with rfl|hp
  .exact h5 b (.inr ⟨c,hl⟩)
  .exact h6 p hp b c hl
theorem ZR {objs:List Obj} {F':Nat->Prop} {k s:Nat} {es:List (List D)} {fz:Bool} {x:Value} (hk:nth .none objs k= .arr s es fz) (ho:CO loc objs w F k (.arr s es fz)) (hv:CV loc objs w F (.arr k) x)
 (hF:∀b,F b->F' b) (hb:∀b c,loc k=some (b,c)->F' b):CD w F' (.sl es) x:=by
 obtain⟨h1,h2,h3,h4⟩:=ho;rcases hv s es fz hk with⟨b,c,q1,rfl⟩|⟨q1,rfl,rfl⟩
 .rcases h4 with⟨h4,h5⟩|⟨b',c',cs,t,h4,h5,h6,h7,h8,h9⟩
  .rw[h4]at q1;exact absurd q1 (by simp)
  .rw[h4]at q1;simp only[c2,c3]at q1;obtain⟨rfl,rfl⟩:=q1;refine .sl es b' 0 c' s (λj=>cs.getD j undef) h8.1 h3 (hb _ _ h4) (λj hj=>?_) (λj hj=>?_)
   .obtain⟨v,r1,r2⟩:=h9.1 j hj;simp[U3,h6,r1]
   .obtain⟨v,r1,r2⟩:=h9.1 j hj;have:cs.getD j undef=v:=by simp[r1]
    rw[this];exact r2.mono hF λ_ _=>rfl
 .exact .nil _ _
theorem Od {c:VC} {x:Value} {d:D} {us:List (Nat×Obj)} (h:Conc C B F0 w0 F loc st a w) (hc:KV st.objs c=some (d,us)) (hv:CVC loc st.objs w F c x):
 Frz st.objs us/\∀F':Nat->Prop,(∀b,F b->F' b)->(∀p∈us,∀b c,loc p.1=some (b,c)->F' b)->CD w F' d x:=by
 unfold KV at hc;split at hc
 .simp only[c2,c3]at hc;obtain⟨rfl,rfl⟩:=hc;exact⟨Frz.nil _,λF' hF _=>CD.mono hv hF λ_ _=>rfl⟩
 .simp only[c2,c3]at hc;obtain⟨rfl,rfl⟩:=hc;have h1:x= .slice none 0 0:=hv;subst h1;exact⟨Frz.nil _,λF' hF _=>CD.nil _ _⟩
 .rename_i k;split at hc
  .rename_i s es fz hk;simp only[c2,c3]at hc;obtain⟨rfl,rfl⟩:=hc;refine⟨λp hp=>?_,λF' hF hb=>?_⟩
   .simp only[W0]at hp;subst hp;exact⟨_,_,_,hk,rfl⟩
   .have h0:=h.objs k;rw[hk]at h0;exact ZR hk h0 hv.1 hF (λb c hl=>hb (k,.arr s es true) (by simp) b c hl)
  .simp at hc
 .simp at hc
theorem yt:∀{cs:List VC} {xs:List Value} {ds:List D} {us:List (Nat×Obj)} (_:Conc C B F0 w0 F loc st a w) (_:dataC st.objs cs=some (ds,us)) (_:All2 (CVC loc st.objs w F) cs xs),
 Frz st.objs us/\∀F':Nat->Prop,(∀b,F b->F' b)->(∀p∈us,∀b c,loc p.1=some (b,c)->F' b)->All2 (CD w F') ds xs
 |[],[],ds,us,h,hc,_=>by simp only[dataC,c2,c3]at hc;obtain⟨rfl,rfl⟩:=hc;exact⟨Frz.nil _,λ_ _ _=>trivial⟩
 |v::vs,x::xs,ds,us,h,hc,hv=>by
  simp only[dataC]at hc;split at hc
  .rename_i d u as us' h1 h2;simp only[c2,c3]at hc;obtain⟨rfl,rfl⟩:=hc;obtain⟨q1,q2⟩:=Od h h1 hv.1;obtain⟨r1,r2⟩:=yt h h2 hv.2;exact⟨q1.append r1,λF' hF hb=>⟨q2 F' hF λp hp=>hb p (by simp[hp]),r2 F' hF λp hp=>hb p (by simp[hp])⟩⟩
  .simp at hc
 |[],_::_,_,_,_,_,h=>h.elim
 |_::_,[],_,_,_,_,h=>h.elim
theorem Hn {v:V} {x:Value} {ds:List D} {us:List (Nat×Obj)} (h:Conc C B F0 w0 F loc st a w) (hc:cellsOf st.objs v=some (ds,us)) (hv:CV loc st.objs w F v x):
 Frz st.objs us/\∀F':Nat->Prop,(∀b,F b->F' b)->(∀p∈us,∀b c,loc p.1=some (b,c)->F' b)->All2 (CD w F') ds x.cells.toList:=by
 unfold cellsOf at hc;split at hc
 .rename_i d;simp only[c2,c3]at hc;obtain⟨rfl,rfl⟩:=hc;refine⟨Frz.nil _,λF' hF _=>?_⟩;have h1:CD w F d x:=hv;have h2:=h1.one;have h3:x.cells.toList=[x]:=by cases x<;>first|rfl|simp[Sz]at h2
  rw[h3];exact⟨h1.mono hF λ_ _=>rfl,trivial⟩
 .rename_i cs;simp only[c2,c3]at hc;obtain⟨rfl,rfl⟩:=hc;obtain⟨vs,rfl,h1⟩:=hv;exact⟨Frz.nil _,λF' hF _=>h1.mono λ_ _ h=>h.mono hF λ_ _=>rfl⟩
 .simp only[c2,c3]at hc;obtain⟨rfl,rfl⟩:=hc;have h1:x= .slice none 0 0:=hv;subst h1;exact⟨Frz.nil _,λF' hF _=>⟨.nil _ _,trivial⟩⟩
 .rename_i k;split at hc
  .rename_i s es fz hk;simp only[c2,c3]at hc;obtain⟨rfl,rfl⟩:=hc;refine⟨λp hp=>?_,λF' hF hb=>?_⟩
   .simp only[W0]at hp;subst hp;exact⟨_,_,_,hk,rfl⟩
   .have h0:=h.objs k;rw[hk]at h0;have h1:=ZR hk h0 hv hF (λb c hl=>hb (k,.arr s es true) (by simp) b c hl);have h2:=h1.one;have h3:x.cells.toList=[x]:=by cases x<;>first|rfl|simp[Sz]at h2
    rw[h3];exact⟨h1,trivial⟩
  .simp at hc
 .obtain⟨vs,rfl,h1⟩:=hv;exact yt h hc h1
 .simp at hc
theorem RF {v:V} {x:Value} {d:A} {us:List (Nat×Obj)} (h:Conc C B F0 w0 F loc st a w) (hc:toA st.objs v=some (d,us)) (hv:CV loc st.objs w F v x):
 Frz st.objs us/\∀F':Nat->Prop,(∀b,F b->F' b)->(∀p∈us,∀b c,loc p.1=some (b,c)->F' b)->CA w F' d x:=by
 unfold toA at hc;split at hc
 .simp only[c2,c3]at hc;obtain⟨rfl,rfl⟩:=hc;exact⟨Frz.nil _,λF' hF _=>CA.mono (a:= .c _) hv hF λ_ _=>rfl⟩
 .simp only[c2,c3]at hc;obtain⟨rfl,rfl⟩:=hc;exact⟨Frz.nil _,λF' hF _=>CA.mono (a:= .ag _) hv hF λ_ _=>rfl⟩
 .simp only[c2,c3]at hc;obtain⟨rfl,rfl⟩:=hc;have h1:x= .slice none 0 0:=hv;subst h1;exact⟨Frz.nil _,λF' hF _=>CD.nil _ _⟩
 .rename_i k;split at hc
  .rename_i s es fz hk;simp only[c2,c3]at hc;obtain⟨rfl,rfl⟩:=hc;refine⟨λp hp=>?_,λF' hF hb=>?_⟩
   .simp only[W0]at hp;subst hp;exact⟨_,_,_,hk,rfl⟩
   .have h0:=h.objs k;rw[hk]at h0;exact ZR hk h0 hv hF (λb c hl=>hb (k,.arr s es true) (by simp) b c hl)
  .simp at hc
 .split at hc
  .rename_i ds us' h2;simp only[c2,c3]at hc;obtain⟨rfl,rfl⟩:=hc;obtain⟨vs,rfl,h1⟩:=hv;obtain⟨q1,q2⟩:=yt h h2 h1;exact⟨q1,λF' hF hb=>⟨vs,rfl,q2 F' hF hb⟩⟩
  .simp at hc
 .simp at hc
theorem jZ:∀{vs:List V} {xs:List Value} {ds:List A} {us:List (Nat×Obj)} (_:Conc C B F0 w0 F loc st a w) (_:j5 st.objs vs=some (ds,us)) (_:All2 (CV loc st.objs w F) vs xs),
 Frz st.objs us/\∀F':Nat->Prop,(∀b,F b->F' b)->(∀p∈us,∀b c,loc p.1=some (b,c)->F' b)->All2 (CA w F') ds xs
 |[],[],ds,us,h,hc,_=>by simp only[j5,c2,c3]at hc;obtain⟨rfl,rfl⟩:=hc;exact⟨Frz.nil _,λ_ _ _=>trivial⟩
 |v::vs,x::xs,ds,us,h,hc,hv=>by
  simp only[j5]at hc;split at hc
  .rename_i d u as us' h1 h2;simp only[c2,c3]at hc;obtain⟨rfl,rfl⟩:=hc;obtain⟨q1,q2⟩:=RF h h1 hv.1;obtain⟨r1,r2⟩:=jZ h h2 hv.2;exact⟨q1.append r1,λF' hF hb=>⟨q2 F' hF λp hp=>hb p (by simp[hp]),r2 F' hF λp hp=>hb p (by simp[hp])⟩⟩
  .simp at hc
 |[],_::_,_,_,_,_,hv=>hv.elim
 |_::_,[],_,_,_,_,hv=>hv.elim
theorem Oe {v:V} {x:Value} {es:List (List D)} {us:List (Nat×Obj)} (h:Conc C B F0 w0 F loc st a w) (hc:vM st.objs v=some (es,us)) (hv:CV loc st.objs w F v x):
 Frz st.objs us/\∀F':Nat->Prop,(∀b,F b->F' b)->(∀p∈us,∀b c,loc p.1=some (b,c)->F' b)->CD w F' (.sl es) x:=by
 unfold vM at hc;split at hc
 .simp only[c2,c3]at hc;obtain⟨rfl,rfl⟩:=hc;exact⟨Frz.nil _,λF' hF _=>CD.mono hv hF λ_ _=>rfl⟩
 .simp only[c2,c3]at hc;obtain⟨rfl,rfl⟩:=hc;have h1:x= .slice none 0 0:=hv;subst h1;exact⟨Frz.nil _,λF' hF _=>CD.nil _ _⟩
 .rename_i k;split at hc
  .rename_i s es' fz hk;simp only[c2,c3]at hc;obtain⟨rfl,rfl⟩:=hc;refine⟨λp hp=>?_,λF' hF hb=>?_⟩
   .simp only[W0]at hp;subst hp;exact⟨_,_,_,hk,rfl⟩
   .have h0:=h.objs k;rw[hk]at h0;exact ZR hk h0 hv hF (λb c hl=>hb (k,.arr s es' true) (by simp) b c hl)
  .simp at hc
 .simp at hc
theorem CD.slice_inv {es:List (List D)} {x:Value} (h:CD w F (.sl es) x):(∃ad c,x= .slice ad es.length c/\es.length<=c/\(es=[]\/∃b o size,ad=some ⟨b,o,none⟩/\Row w F es b o size)):=by
 cases h with
 |nil a c=>exact⟨a,c,rfl,Nat.zero_le _,.inl rfl⟩
 |sl _ b o c size vs hlc hs hF hc hd=>exact⟨_,c,rfl,hlc,.inr ⟨b,o,size,rfl,hs,hF,λj hj=>⟨_,hc j hj,hd j hj⟩⟩⟩
theorem Row.CD {es:List (List D)} {b o size c:Nat} (h:Row w F es b o size) (hlc:es.length<=c):CD w F (.sl es) (.slice (some ⟨b,o,none⟩) es.length c):=by
 have hx:∀j,∃v,j<es.length*size->w.cell? ⟨b,o+j,none⟩=some v/\Eng.CD w F (nth .undef es.flatten j) v:=λj=>by
  by_cases hj:j<es.length*size
  .obtain⟨v,h1,h2⟩:=h.hc j hj;exact⟨v,λ_=>⟨h1,h2⟩⟩
  .exact⟨undef,λh=>absurd h hj⟩
 let f:Nat->Value:=λj=>I1 (hx j)
 exact .sl es b o c size f hlc h.hs h.hF (λj hj=>(I0 (hx j) hj).1) (λj hj=>(I0 (hx j) hj).2)
end
end Eng
end
section
namespace Eng
open Go Go.RowKit
variable [Env]
def VS (loc:Where) (objs:List Obj) (w:World) (F:Nat->Prop) (run:Result Value):R->Prop
 | .fail=>True
 | .ok v up=>up=[]/\∃x,run= .ok x w/\CV loc objs w F v x/\Ref objs v
 | .cond (dc:=_) c v up=>c->up=[]/\∃x,run= .ok x w/\CV loc objs w F v x/\Ref objs v
 | .look .. =>False
 | .call .. =>False
section
variable {loc:Where} {objs:List Obj} {F:Nat->Prop} {w:World}
theorem Q3 {run:Result Value} {k:IntKind} {n:Int} (h:run= .ok (.int k n) w):VS loc objs w F run (.ok (.c (.int k n)) []):=⟨rfl,_,h,.int _ _,trivial⟩
theorem jD {run:Result Value} {b:Bool} (h:run= .ok (.bool b) w):VS loc objs w F run (.ok (.c (.bool b)) []):=⟨rfl,_,h,.bool _,trivial⟩
omit [Env] in
theorem Ho (s u:List UInt8):(⟨⟨s⟩⟩:ByteArray)++⟨⟨u⟩⟩=⟨⟨s++u⟩⟩:=by
 apply ByteArray.ext;simp
omit [Env] in
theorem Ta {p:List (Int×List Nat)} {c:Int} (h:nmT p=some c):p=[(c,[])]/\0<=c/\c<4:=by
 unfold nmT at h;split at h
 .split at h
  .rename_i hc;simp only[Hv,decide_eq_true_eq]at hc;cases h;exact⟨rfl,hc⟩
  .cases h
 .cases h
theorem SZ {P:Program} {op:BinOp} {t:TypeId} {vx vy:V} {x y:Value} (hx:CV loc objs w F vx x) (hy:CV loc objs w F vy y):VS loc objs w F ((binOp op t x y).run P w) (E3 op vx vy):=by
 unfold E3;split
 .rename_i k p k' q;have h1:x= .int k p:=by cases(hx:CD _ _ _ _);rfl
  have h2:y= .int k' q:=by cases(hy:CD _ _ _ _);rfl
  subst h1 h2;split
  .rename_i a1;unfold shV;cases op<;>first
    |trivial
    |(simp[cB]at a1;done)
    |(intro h;refine Q3 ?_;have hn:¬q<0:=(by omega);simp[binOp,Op.shift,hn];done)
  split
  .trivial
  .rename_i hk;have hk:k=k':=by simpa using hk
   subst hk;cases op<;>first
    |trivial
    |(rename_i a1;simp[cB]at a1;done)
    |(refine Q3 ?_;simp[binOp,M2];done)
    |(refine Q3 ?_;simp[binOp,Op.intBits];done)
    |(refine jD ?_;simp[binOp,M0];done)
    |(intro h;refine Q3 ?_;simp[binOp,Op.intDiv,h];done)
 .rename_i s u;have h1:x= .string ⟨⟨s⟩⟩:=by cases(hx:CD _ _ _ _);rfl
  have h2:y= .string ⟨⟨u⟩⟩:=by cases(hy:CD _ _ _ _);rfl
  subst h1 h2;have hs:(⟨⟨s⟩⟩:ByteArray).size=s.length:=rfl;have hu:(⟨⟨u⟩⟩:ByteArray).size=u.length:=rfl;cases op<;>first
   |trivial
   |(refine jD ?_;simp[binOp,M1];done)
   |skip
  intro h;refine⟨rfl,.string ⟨⟨s++u⟩⟩,?_,CD.str _,trivial⟩;unfold room at h;simp only[binOp,M1,hs,hu];rw[if_neg (by simp[IntKind.max,IntKind.signed,IntKind.bits];omega),Ho];rfl
 .rename_i p i q j;split
  .rename_i c c' a0 hp hq;rw[Hv]at a0;obtain rfl:=bF a0.1;obtain rfl:=bF a0.2;obtain⟨rfl,b1,b2⟩:=Ta hp;obtain⟨rfl,b3,b4⟩:=Ta hq;obtain⟨n,n',e1,e2,e3⟩:=Env.nd c c' b1 b2 b3 b4;have h1:x= .int .i64 n:=by
    cases(hx:CD _ _ _ _)with
    |tok _ _ _ h=>rw[e1]at h;cases h;rfl
   have h2:y= .int .i64 n':=by
    cases(hy:CD _ _ _ _)with
    |tok _ _ _ h=>rw[e2]at h;cases h;rfl
   subst h1 h2;cases op<;>first
    |trivial
    |skip
   .have e:(c==c')=(n==n'):=by rw[Hy,beq_iff_eq,beq_iff_eq,e3]
    rw[e];refine jD ?_;simp[binOp,M0]
   .have e:(c !=c')=(n !=n'):=by
     have e:(c==c')=(n==n'):=by rw[Hy,beq_iff_eq,beq_iff_eq,e3]
     show(!(c==c'))=!(n==n');rw[e]
    rw[e];refine jD ?_;simp[binOp,M0]
  .trivial
 .trivial
omit [Env] in
theorem ZE {P:Program} {t:TypeId} (hu:P.underlying t=some .bool) (p q:Bool) (w:World):(Lv t (.bool p) (.bool q)).run P w= .ok (p==q) w:=by
 show(Ls (9999+1) t (.bool p) (.bool q)).run P w=_;rw[Ls];simp only[P1,qM hu,Pl];rfl
theorem Tb {d:D} {u v:Value} (h:vC d=some u) (hc:CD w F d v):v=u:=by
 unfold vC at h;split at h<;>simp only[c2,reduceCtorEq]at h<;>subst h<;>cases hc<;>rfl
theorem kj:∀{ds:List D} {us vs:List Value},zQ ds=some us->All2 (CD w F) ds vs->vs=us
 |[],us,[],h,_=>by simpa [zQ]using h.symm
 |[],_,_::_,_,hc=>hc.elim
 |_::_,_,[],_,hc=>hc.elim
 |d::ds,us,v::vs,h,hc=>by
  unfold zQ at h;split at h
  .rename_i u us' h1 h2;simp only[c2]at h;subst h;rw[Tb h1 hc.1,kj h2 hc.2]
  .simp at h
omit [Env] in
theorem Of {l l':Lit} {b:Bool} (h:UQ l l'=some b):b=true↔l=l':=by
 unfold UQ at h;split at h<;>simp only[c2,reduceCtorEq]at h<;>subst h<;>simp
omit [Env] in
theorem Wf:∀{l l':List Lit} {b:Bool},yl l l'=some b->(b=true↔l=l')
 |[],[],b,h=>by simp[yl]at h;simp[h]
 |[],_::_,_,h=>by simp[yl]at h
 |_::_,[],_,h=>by simp[yl]at h
 |x::l,y::l',b,h=>by
  unfold yl at h;split at h
  .rename_i p q h1 h2;simp only[c2]at h;subst h;rw[Hv,Of h1,Wf h2,List.cons.injEq]
  .simp at h
omit [Env] in
theorem Tc {P:Program} {t:TypeId} {fs:Array Field} (hu:P.underlying t=some (.struct fs)) {us vs:List Value} {b:Bool} (h:aC P t us vs=some b):
 (Lv t (.agg us.toArray) (.agg vs.toArray)).run P w= .ok b w/\P.eqGuardType P.depth t=false:=by
 unfold aC at h;split at h
 .rename_i hk;simp only[Hv,Hx]at hk;obtain⟨h1,h2,h3,h4⟩:=hk;have h3:=bF h3;have h4:=bF h4;split at h
  .rename_i l l' e1 e2;have fx:∀zs:List Value,zs.length=P.cellsOf t->(Value.agg zs.toArray).formed P t=true:=by intro zs hz;simp only[Value.formed,hu,List.size_toArray,hz,beq_self_eq_true]
   obtain⟨r,hr,a0⟩:=run_equalIn_deep (P:=P) 9900 100 t h1 w 100 100 (.agg us.toArray) (.agg vs.toArray) l l' (fx _ h3) (fx _ h4) (by simpa [Tk]using e1) (by simpa [Tk]using e2);have hb:=Wf h;have:r=b:=by rw[Hy,a0,hb]
   subst this;exact⟨hr,h2⟩
  .simp at h
 .simp at h
omit [Env] in
theorem vg {xs:Array Value} {us:List Value} (h:xs.toList=us):xs=us.toArray:=by rw[<-h]
def Hp:D->Lit
 | .bool b=> .bool b
 | .int k n=> .int k n
 | .str s=> .string s
 |_=> .bool false
omit [Env] in
theorem V7 {P:Program} {t:TypeId} {d:D} {u:Value} {n:Nat} (h:KX P t d=true) (hw:wfD d) (hp:vC d=some u):P.keyLits (n+1) t [u]=some [Hp d]:=by
 unfold KX at h;split at h
 .rename_i b hu;simp only[vC,c2]at hp;subst hp;unfold M3;simp only[hu,Hp]
 .rename_i q k m hu;simp only[vC,c2]at hp;subst hp;have hq:q=k:=of_decide_eq_true h;subst hq;have hw:q.min<=m/\m<=q.max:=hw;unfold M3;simp only[hu,Hp];rw[if_pos ⟨trivial,by simp[Lit.wf,hw.1,hw.2]⟩]
 .rename_i s hu;simp only[vC,c2]at hp;subst hp;have hw:s.length<=1073741824:=hw;unfold M3;simp only[hu,Hp];rw[if_pos (by show s.length<=maxLen;unfold maxLen;omega)]
 .simp at h
omit [Env] in
theorem ZS {P:Program} {n:Nat}:∀{fs:List Field} {i:Nat} {ds:List D} {us pre:List Value},kB P fs i ds=true->ZD ds->zQ ds=some us->pre.length=i->
 fs.mapM (λf=>P.keyLits (n+1) f.type (((pre++us).drop f.offset).take (P.cellsOf f.type)))=some (ds.map λd=>[Hp d])
 |[],_,[],us,pre,_,_,_,_=>rfl
 |f::fs,i,d::ds,us,pre,h,hw,hp,hl=>by
  simp only[kB,Hv]at h;obtain⟨h1,h2,h3,h4⟩:=h;have h1:=bF h1;have h2:=bF h2;unfold zQ at hp;split at hp
  .rename_i u us' e1 e2;simp only[c2]at hp;subst hp;have hd:((pre++u::us').drop f.offset).take (P.cellsOf f.type)=[u]:=by rw[h1,h2,<-hl,List.drop_left];rfl
   rw[List.mapM_cons,hd,V7 h3 hw.1 e1];have ih:=ZS (n:=n) (pre:=pre++[u]) h4 hw.2 e2 (by simp[hl]);rw[List.append_assoc]at ih;have ih:fs.mapM (λf=>P.keyLits (n+1) f.type (((pre++u::us').drop f.offset).take (P.cellsOf f.type)))=some (ds.map λd=>[Hp d]):=ih;rw[ih];rfl
  .simp at hp
 |[],_,_::_,_,_,h,_,_,_=>by simp[kB]at h
 |_::_,_,[],_,_,h,_,_,_=>by simp[kB]at h
omit [Env] in
theorem vQ {P:Program}:∀{fs:List Field} {i:Nat} {ds:List D},kB P fs i ds=true->∃us,zQ ds=some us/\us.length=ds.length
 |[],_,[],_=>⟨[],rfl,rfl⟩
 |f::fs,i,d::ds,h=>by
  simp only[kB,Hv]at h;obtain⟨_,_,h3,h4⟩:=h;obtain⟨us,h5,h6⟩:=vQ h4;unfold KX at h3;split at h3
  .rename_i b _;exact⟨.bool b::us,by simp only[zQ,vC,h5],by simp[h6]⟩
  .rename_i k n _;exact⟨.int k n::us,by simp only[zQ,vC,h5],by simp[h6]⟩
  .rename_i t _;exact⟨.string ⟨⟨t⟩⟩::us,by simp only[zQ,vC,h5],by simp[h6]⟩
  .simp at h3
 |[],_,_::_,h=>by simp[kB]at h
 |_::_,_,[],h=>by simp[kB]at h
omit [Env] in
theorem Wg {P:Program}:∀{fs:List Field} {i:Nat} {cs ds:List D},kB P fs i cs=true->kB P fs i ds=true->yl (cs.map Hp) (ds.map Hp)=some (E4 cs ds)
 |[],_,[],[],_,_=>rfl
 |f::fs,i,c::cs,d::ds,h,g=>by
  simp only[kB,Hv]at h g;obtain⟨_,_,h3,h4⟩:=h;obtain⟨_,_,g3,g4⟩:=g;have ih:=Wg h4 g4;have he:UQ (Hp c) (Hp d)=some (eqF c d):=by
   unfold KX at h3 g3;split at h3
   .rename_i b hu;rw[hu]at g3;cases d<;>first|rfl|(simp at g3;done)
   .rename_i q k m hu;rw[hu]at g3;cases d with
    |int k' m'=>have e1:q=k:=of_decide_eq_true h3;have e2:q=k':=of_decide_eq_true g3;subst e1 e2;simp[Hp,UQ,eqF]
    |_=>simp at g3
   .rename_i s hu;rw[hu]at g3;cases d<;>first|rfl|(simp at g3;done)
   .simp at h3
  simp only[bh,yl,he,ih,E4]
 |[],_,_::_,_,h,_=>by simp[kB]at h
 |_::_,_,[],_,h,_=>by simp[kB]at h
 |[],_,[],_::_,_,g=>by simp[kB]at g
 |_::_,_,_::_,[],_,g=>by simp[kB]at g
omit [Env] in
theorem Wh {P:Program} {t:TypeId} {cs ds:List D} (h:UR P t cs ds=true) (hc:ZD cs) (hd:ZD ds):∃us vs,zQ cs=some us/\zQ ds=some vs/\aC P t us vs=some (E4 cs ds):=by
 unfold UR at h;split at h
 .rename_i fs hu;simp only[Hv,Hx]at h;obtain⟨h1,h2,h3,h4,h5,h6,h7⟩:=h;obtain⟨us,e1,l1⟩:=vQ h6;obtain⟨vs,e2,l2⟩:=vQ h7;have h3:=bF h3;have h4:=bF h4;refine⟨us,vs,e1,e2,?_⟩;have a1:∀(es:List D) (xs:List Value),kB P fs.toList 0 es=true->ZD es->zQ es=some xs->xs.length=P.cellsOf t->P.keyLits 100 t xs=some (es.map Hp):=λes xs hf hw hp hl=>by
   have hm:=ZS (n:=98) (pre:=[]) hf hw hp rfl;unfold M3;simp only[hu];rw[if_pos ⟨hl,h5⟩];have a0:fs.toList.mapM (λf=>P.keyLits 99 f.type ((xs.drop f.offset).take (P.cellsOf f.type)))=some (es.map λd=>[Hp d]):=hm;rw[a0];simp only[Option.map_some,c2];clear hm a0 hf hw hp
   induction es with
   |nil=>rfl
   |cons e es ih=>simp only[bh,bd,List.singleton_append,ih]
  unfold aC;rw[h1,h2];have b1:bx us.length (P.cellsOf t)=true:=by rw[l1,h3];exact c0 _
  have b2:bx vs.length (P.cellsOf t)=true:=by rw[l2,h4];exact c0 _
  rw[b1,b2];simp only[Bool.not_false,Bool.and_self];rw[a1 cs us h6 hc e1 (by rw[l1,h3]),a1 ds vs h7 hd e2 (by rw[l2,h4])];exact Wg h6 h7
 .simp at h
omit [Env] in
theorem Hq {P:Program} {t:TypeId} {cs ds:List D} (h:UR P t cs ds=true):P.eqGuardType P.depth t=false:=by
 unfold UR at h;split at h
 .simp only[Hv,Hx]at h;exact h.2.1
 .simp at h
theorem Ba {P:Program} {op:BinOp} {t:TypeId} {fs:Array Field} (hu:P.underlying t=some (.struct fs)) {vx vy:V} {x y:Value} (hx:CV loc objs w F vx x) (hy:CV loc objs w F vy y):VS loc objs w F ((binOp op t x y).run P w) (E5 P op t vx vy):=by
 unfold E5;split
 .rename_i cs ds;split
  .rename_i hf;obtain⟨xs,rfl,hx⟩:=hx;obtain⟨ys,rfl,hy⟩:=hy;split
   .rintro⟨hc,hd⟩;obtain⟨us,vs,h1,h2,hb⟩:=Wh hf hc hd;have e1:=vg (kj h1 hx);have e2:=vg (kj h2 hy);subst e1 e2;have hr:=(Tc (w:=w) hu hb).1;refine jD ?_;simp only[binOp,P1,hr,Pl];rfl
   .rintro⟨hc,hd⟩;obtain⟨us,vs,h1,h2,hb⟩:=Wh hf hc hd;have e1:=vg (kj h1 hx);have e2:=vg (kj h2 hy);subst e1 e2;have hr:=(Tc (w:=w) hu hb).1;refine jD ?_;simp only[binOp,P1,hr,Pl];rfl
   .trivial
  .trivial
 .trivial
theorem Hr {P:Program} {op:BinOp} {t:TypeId} {fs:Array Field} (_:P.underlying t=some (.struct fs)) {vx vy:V} {x y:Value} {xo yo:Operand} (hx:CV loc objs w F vx x) (hy:CV loc objs w F vy y) (hr:E5 P op t vx vy≠ .fail):
 (eqGuard op t xo yo x y).run P w= .ok () w:=by
 unfold E5 at hr;split at hr
 .rename_i cs ds;split at hr
  .rename_i hf;obtain⟨xs,rfl,hx⟩:=hx;obtain⟨ys,rfl,hy⟩:=hy;have hg:=Hq hf;cases op
   case eql|neq=>simp[eqGuard,hg]
   all_goals rfl
  .exact absurd rfl hr
 .exact absurd rfl hr
theorem Fa {P:Program} {op:BinOp} {t:TypeId} {vx vy:V} {x y:Value} (hx:CV loc objs w F vx x) (hy:CV loc objs w F vy y):VS loc objs w F ((binOp op t x y).run P w) (eqV P op t vx vy):=by
 unfold eqV;split
 .rename_i hu;split
  .rename_i p q;have h1:x= .bool p:=by cases(hx:CD _ _ _ _);rfl
   have h2:y= .bool q:=by cases(hy:CD _ _ _ _);rfl
   subst h1 h2;cases op<;>first
    |trivial
    |(refine jD ?_;simp only[binOp,P1,ZE hu,Pl];rfl)
  .trivial
 .rename_i fs hu;exact Ba hu hx hy
 .exact SZ hx hy
omit [Env] in
theorem ZT {P:Program} {op:BinOp} {t:TypeId} {x y:Operand} {p q:Value} (hp:p.oneCell'=true) (hn:p≠ .nilIface):(eqGuard op t x y p q).run P w= .ok () w:=by
 cases op
 case eql|neq=>
  unfold eqGuard;simp only[Bool.not_true,Bool.false_eq_true,if_false];split
  .simp at hn
  .simp[Sz]at hp
  .rfl
 all_goals rfl
theorem Xx {P:Program} {t:TypeId} {ms:Array (String×TypeId)} (hu:P.underlying t=some (.interface ms)) {a b:Bool} {x y:Value} (hx:CD w F (.ifc a) x) (hy:CD w F (.ifc b) y) (hab:a=true\/b=true):(Lv t x y).run P w= .ok (a&&b) w:=by
 show(Ls (9999+1) t x y).run P w=_;rw[Ls];simp only[P1,qM hu,Pl];cases hx<;>cases hy<;>first
  |rfl
  |simp at hab
theorem Bb {P:Program} {op:BinOp} {t:TypeId} {xo yo:Operand} {vx vy:V} {x y:Value} (hx:CV loc objs w F vx x) (hy:CV loc objs w F vy y):VS loc objs w F ((binOp op t x y).run P w) (SR P op t xo yo vx vy):=by
 unfold SR;split
 .rename_i ms hu;split
  .rename_i a b;split
   .rename_i hab;have a0:a=true\/b=true:=by
     cases a<;>cases b<;>simp at hab ⊢
    have hr:=Xx (P:=P) hu hx hy a0;have hxn:∀k n,x≠ .int k n:=by intro k n e;subst e;cases(hx:CD _ _ _ _)
    cases op<;>first
     |trivial
     |(refine jD ?_
       revert hr;cases(hx:CD _ _ _ _)<;>cases(hy:CD _ _ _ _)<;>intro hr<;>simp[binOp,hr])
   .trivial
  .trivial
 .rename_i el hu;split
  .rename_i es;have hq:∀h:0<es.length,(Lv t x y).run P w= .ok false w/\∃a n c,x= .slice (some a) n c:=λh=>by
    obtain rfl:y= .slice none 0 0:=hy;have hs:∃a n c,x= .slice (some a) n c:=by
     cases(hx:CD _ _ _ _)with
     |nil a c=>simp at h
     |sl=>exact⟨_,_,_,rfl⟩
    obtain⟨a,n,c,rfl⟩:=hs;refine⟨?_,_,_,_,rfl⟩;show(Ls (9999+1) t _ _).run P w=_;rw[Ls];simp only[P1,qM hu,Pl];rfl
   split
   .intro h;obtain⟨h1,a,n,c,rfl⟩:=hq h;exact jD (by simp[binOp,h1])
   .intro h;obtain⟨h1,a,n,c,rfl⟩:=hq h;exact jD (by simp[binOp,h1])
   .trivial
  .trivial
 .exact Fa hx hy
theorem Bc {P:Program} {ts:Array TypeId} {ty:TypeId} {vx vy:V} {x y:Value} (hx:CV loc objs w F vx x) (hy:CV loc objs w F vy y):
 VS loc objs w F ((Builtin.max_ ts ty #[x,y]).run P w) (mxV true vx vy):=by
 unfold mxV;split
 .rename_i k p k' q;have h1:x= .int k p:=by cases(hx:CD _ _ _ _);rfl
  have h2:y= .int k' q:=by cases(hy:CD _ _ _ _);rfl
  subst h1 h2;split
  .rename_i hk;have hk:k=k':=by simpa using hk
   subst hk;refine Q3 ?_;simp only[Builtin.max_,bw,Builtin.max2];by_cases h:p<q<;>simp[h]
  .trivial
 .trivial
theorem Be {P:Program} {ts:Array TypeId} {ty:TypeId} {vx vy:V} {x y:Value} (hx:CV loc objs w F vx x) (hy:CV loc objs w F vy y):
 VS loc objs w F ((Builtin.min_ ts ty #[x,y]).run P w) (mxV false vx vy):=by
 unfold mxV;split
 .rename_i k p k' q;have h1:x= .int k p:=by cases(hx:CD _ _ _ _);rfl
  have h2:y= .int k' q:=by cases(hy:CD _ _ _ _);rfl
  subst h1 h2;split
  .rename_i hk;have hk:k=k':=by simpa using hk
   subst hk;refine Q3 ?_;simp only[Builtin.min_,bw,Builtin.min2];by_cases h:q<p<;>simp[h]
  .trivial
 .trivial
theorem Fb {P:Program} {op:UnOp} {vx:V} {x:Value} (hx:CV loc objs w F vx x):VS loc objs w F ((Op.unary op x).run P w) (unV op vx):=by
 unfold unV;split
 .rename_i b;have h1:x= .bool b:=by cases(hx:CD _ _ _ _);rfl
  subst h1;exact jD rfl
 .rename_i k n;have h1:x= .int k n:=by cases(hx:CD _ _ _ _);rfl
  subst h1;refine Q3 ?_;simp[Op.unary,M2]
 .trivial
theorem Og {P:Program} {src dst:TypeId} {vx:V} {x:Value} {ds:TypeDesc} (hs:P.underlying src=some ds) (hx:CV loc objs w F vx x):VS loc objs w F ((convert src dst x).run P w) (NQ P dst vx):=by
 unfold NQ;split
 .rename_i k _ k' n hd;have h1:x= .int k' n:=by cases(hx:CD _ _ _ _);rfl
  subst h1;refine Q3 ?_;simp only[convert,P1,qM hs,qM hd,Pl];cases ds<;>simp[Conv.intToInt]
 .rename_i _ n hd;have h1:x= .int .i32 n:=by cases(hx:CD _ _ _ _);rfl
  subst h1;rintro⟨h0,h1⟩;refine⟨rfl,.string ⟨⟨[UInt8.ofNat n.toNat]⟩⟩,?_,CD.str _,trivial⟩;obtain⟨m,rfl⟩:∃m:Nat,n=m:=⟨n.toNat,by omega⟩;have hv:Utf8.encode (m:Int)=⟨⟨[UInt8.ofNat ((m:Int)).toNat]⟩⟩:=by
   unfold Utf8.encode;have a0:Utf8.valid (m:Int)=true:=by unfold Utf8.valid;simp;omega
   simp only[a0,if_true];rw[if_pos (by simp;omega)]
  simp only[convert,P1,qM hs,qM hd,Pl];cases ds<;>simp[Conv.intToString,hv]
 .trivial
end
end Eng
end
section
namespace Eng
open Go Go.RowKit
variable [Env]
def Xy:D->Bool
 | .int .. =>true
 | .bool _=>true
 | .str _=>true
 | .ifc _=>true
 | .tok _ i=>Nat.ble 4 i
 |_=>false
def Xz:A->Bool
 | .c d=>Xy d
 | .ag cs=>cs.all Xy
section
variable (C:Cx) (B:Bd) (F0:Nat->Prop) (w0:World) (F:Nat->Prop) (loc:Where) (st:St) (a:Act) (w:World) (o:Oper)
def RS:R->Prop
 | .fail=>True
 | .ok v up=>Does C B F0 w0 o a w (st.put o.dst v up)
 | .cond (dc:=_) c v up=>c->Does C B F0 w0 o a w (st.put o.dst v up)
 | .look z row off ag=>∀ds,cut row off z.length ds->Does C B F0 w0 o a w (st.put o.dst (match ag with|true=> .ag ds|false=> .c (nth .undef ds 0)) [])
 | .call f as sh up=>∀rs,Gives C f as rs->(zc sh=false->∀r∈rs,Xz r=true)->∀(next:Act->World->Prop) (Q:Exit->Act->World->Prop),
  (∀a' w',St.has C B F0 w0 (st.put o.dst (ZC rs) up) a' w'->next a' w')->o.wp C.P a w next Q
end
section
variable {C:Cx} {B:Bd} {F0:Nat->Prop} {w0:World} {F:Nat->Prop} {loc:Where} {st:St} {a:Act} {w:World}
theorem yu {o:Oper} {r:R} {run:Result Value} (h:Conc C B F0 w0 F loc st a w) (hvs:VS loc st.objs w F run r) (hex:∀x,run= .ok x w->(execOp a.eval o).run C.P w= .ok (.value x) w):
 RS C B F0 w0 st a w o r:=by
 cases r with
 |fail=>trivial
 |ok v up=>obtain⟨rfl,x,h1,h2,h3⟩:=hvs;exact qV h (hex x h1) h2 h3
 |cond c v up=>intro hc;obtain⟨rfl,x,h1,h2,h3⟩:=hvs hc;exact qV h (hex x h1) h2 h3
 |look z row off ag=>exact hvs.elim
 |call f as sh up=>exact hvs.elim
theorem qJ {o:Oper} {v:V} {x:Value} (h:Conc C B F0 w0 F loc st a w) (hv:CV loc st.objs w F v x) (hr:Ref st.objs v) (hex:(execOp a.eval o).run C.P w= .ok (.value x) w):
 RS C B F0 w0 st a w o (.ok v []):=qV h hex hv hr
theorem Bf {dst:Option Nat} {x:Operand} {ty:TypeId} {pos:String} {after:Array Edge} {g:Option (Nat×Bool)} (h:Conc C B F0 w0 F loc st a w):
 RS C B F0 w0 st a w ⟨dst,.move x,ty,pos,after,g⟩ (.ok (ev st x) []):=qJ h (qU h x).1 (qU h x).2 rfl
theorem Td {dst:Option Nat} {x:Operand} {ty:TypeId} {pos:String} {after:Array Edge} {g:Option (Nat×Bool)} (h:Conc C B F0 w0 F loc st a w):
 RS C B F0 w0 st a w ⟨dst,.assign x,ty,pos,after,g⟩ (.ok (ev st x) []):=qJ h (qU h x).1 (qU h x).2 rfl
theorem Y8 {x:Value} {b:Bool} (h:CD w F (.bool b) x):x= .bool b:=by cases h;rfl
theorem kG {x:Value} {k:IntKind} {n:Int} (h:CD w F (.int k n) x):x= .int k n:=by cases h;rfl
theorem X0 {x:Value} {s:List UInt8} (h:CD w F (.str s) x):x= .string ⟨⟨s⟩⟩:=by cases h;rfl
theorem Bg {dst:Option Nat} {c x y:Operand} {ty:TypeId} {pos:String} {after:Array Edge} {g:Option (Nat×Bool)} (h:Conc C B F0 w0 F loc st a w):
 RS C B F0 w0 st a w ⟨dst,.pick c x y,ty,pos,after,g⟩ (xl C ⟨dst,.pick c x y,ty,pos,after,g⟩ (ev st) st.objs):=by
 simp only[xl];split
 .rename_i t hc;have h1:=(qU h c).1;rw[hc]at h1;have h2:=Y8 h1;split
  .exact qJ h (qU h x).1 (qU h x).2 (by simp[execOp,h2,asBool])
  .exact qJ h (qU h y).1 (qU h y).2 (by simp[execOp,h2,asBool])
 .trivial
theorem X1 (objs:List Obj) {w:World}:∀{z:List Value},(∀x∈z,x.oneCell'=true)->All2 (λv x=>CV loc objs w F v x/\x.oneCell'=true) (z.map v8) z
 |[],_=>trivial
 |x::z,h=>⟨⟨(Xw loc objs w F x).1,h x (by simp)⟩,X1 objs λy hy=>h y (by simp[hy])⟩
theorem Hs (objs:List Obj) (z:List Value):∀v∈z.map v8,Ref objs v:=by
 intro v hv;obtain⟨x,_,rfl⟩:=W2.1 hv;exact(Xw ⟨default,λ_=>none,λ_=>0⟩ objs default (λ_=>False) x).2
theorem yv {dst:Option Nat} {d:Nat} {cells:List V} {cs:Array Value} {t:TypeId} (h:Conc C B F0 w0 F loc st a w) (hd:qx st.objs d=true)
 (hc:All2 (λv x=>CV (at_ loc d (w.heap.size,0)) (upd st.objs d (.box cells)) (w.alloc (.cells cs t)) F v x/\x.oneCell'=true) cells cs.toList) (hr:∀v∈cells,Ref (upd st.objs d (.box cells)) v):
 St.has C B F0 w0 (st.put dst (.box d 0) [(d,.box cells)]) (a.put dst (.pointer (some ⟨w.heap.size,0,none⟩))) (w.alloc (.cells cs t)):=by
 obtain⟨_,hlt⟩:=qI hd;refine⟨F,at_ loc d (w.heap.size,0),h.new (tt:=0) hd ?_ ?_ ?_⟩
 .refine⟨w.heap.size,0,cs,t,by simp[at_],λhF=>?_,by show(w.heap.push _)[w.heap.size]? =_;simp,hc,hr⟩;have:=h.bound _ hF;omega
 .intro a0 _ _;exact⟨w.heap.size,0,by simp[at_],rfl⟩
 .show nth .none (upd st.objs d (.box cells)) d≠ .none;rw[qb _ _ _ hlt];simp
theorem Oh {dst:Option Nat} {d:Nat} {t:TypeId} (h:Conc C B F0 w0 F loc st a w) (hd:qx st.objs d=true):
 St.has C B F0 w0 (st.put dst (.box d 0) [(d,.bld t .nilS)]) (a.put dst (.pointer (some ⟨w.heap.size,0,none⟩))) (w.alloc (.cells #[.pointer none,.slice none 0 0] t)):=by
 obtain⟨_,hlt⟩:=qI hd;refine⟨F,at_ loc d (w.heap.size,0),h.new (tt:=0) hd ?_ ?_ ?_⟩
 .refine⟨w.heap.size,0,.pointer none,.slice none 0 0,by simp[at_],λhF=>?_,by show(w.heap.push _)[w.heap.size]? =_;simp,.inl rfl,rfl,trivial,λj hj=>by simp at hj⟩;have:=h.bound _ hF;omega
 .intro a0 _ _;exact⟨w.heap.size,0,by simp[at_],rfl⟩
 .show nth .none (upd st.objs d (.bld t .nilS)) d≠ .none;rw[qb _ _ _ hlt];simp
theorem Oi {dst:Option Nat} {t:TypeId} {ty:TypeId} {pos:String} {after:Array Edge} {g:Option (Nat×Bool)} (h:Conc C B F0 w0 F loc st a w):
 RS C B F0 w0 st a w ⟨dst,.alloc t,ty,pos,after,g⟩ (xl C ⟨dst,.alloc t,ty,pos,after,g⟩ (ev st) st.objs):=by
 simp only[xl];split
 .rename_i d;split
  .rename_i z hd hz;obtain⟨v,h1,h2⟩:=Oc hz w;obtain⟨_,_,_,_,_,_,a0,_⟩:=xy hz;split
   .refine⟨_,_,_,?_,.inl rfl,yv (cs:=v.cells) (t:=t) h hd ?_ (Hs _ _)⟩
    .simp[execOp,Lr,h1,newVar,newRow]
    .rw[h2];exact X1 _ a0
   .split
    .have h3:v.cells= #[.pointer none,.slice none 0 0]:=by apply Array.ext';exact h2
     refine⟨_,_,_,?_,.inl rfl,Oh (t:=t) h hd⟩;simp[execOp,Lr,h1,newVar,newRow,h3]
    .trivial
  .trivial
 .trivial
theorem Fc {dst:Option Nat} {t:TypeId} {x:Operand} {ty:TypeId} {pos:String} {after:Array Edge} {g:Option (Nat×Bool)} (h:Conc C B F0 w0 F loc st a w):
 RS C B F0 w0 st a w ⟨dst,.box t x,ty,pos,after,g⟩ (xl C ⟨dst,.box t x,ty,pos,after,g⟩ (ev st) st.objs):=by
 simp only[xl];have hx:=(qU h x).1;have a1:(execOp a.eval ⟨dst,.box t x,ty,pos,after,g⟩).run C.P w= .ok (.value (.pointer (some ⟨w.heap.size,0,none⟩))) (w.alloc (.cells (a.eval x).cells t)):=by simp[execOp,Instr.box,newVar,newRow]
 have a3:∀(cs:Array Value) (b:Nat),F b->(w.alloc (.cells cs t)).heap[b]? =w.heap[b]? :=λcs b hb=>Below.heap_alloc _ _ _ (h.bound b hb)
 split
 .rename_i d;split
  .rename_i hd;split
   .rename_i cs _ hv;rw[hv]at hx;obtain⟨vs,h1,h2⟩:=hx;refine⟨_,_,_,a1,.inl rfl,yv h hd ?_ ?_⟩
    .rw[h1];show All2 _ (cs.map V.c) vs.toList;clear a1 hv h1;generalize vs.toList=l at h2;have:∀(cs:List D) (l:List Value),All2 (CD w F) cs l->∀(a0:List V) (vs:Array Value),All2 (λv x=>CV (at_ loc d (w.heap.size,0)) (upd st.objs d (.box a0)) (w.alloc (.cells vs t)) F v x/\x.oneCell'=true) (cs.map V.c) l:=by
      intro cs
      induction cs with
      |nil=>intro l hl;cases l with|nil=>exact λ_ _=>trivial|cons _ _=>exact hl.elim
      |cons c cs ih=>
       intro l hl;cases l with
       |nil=>exact hl.elim
       |cons y l=>exact λa0 vs=>⟨⟨hl.1.mono (λ_ h=>h) (a3 vs),hl.1.one⟩,ih l hl.2 a0 vs⟩
     exact this cs l h2 _ _
    .intro v hv;obtain⟨_,_,rfl⟩:=W2.1 hv;trivial
   .rename_i cs _ hv;split
    .rename_i a4;rw[hv]at hx;obtain⟨vs,h1,h2⟩:=hx;have a2:∀k,VC.arr k∉cs/\∀n,VC.vec k n∉cs:=λk=>⟨λhk=>by have:=wF hk;rw[a4]at this;simp at this,λn hk=>by have:=wG hk;rw[a4]at this;simp at this⟩
     refine⟨_,_,_,a1,.inl rfl,yv h hd ?_ ?_⟩
     .rw[h1];show All2 _ (cs.map VC.v) vs.toList;clear a1 hv h1 a4;generalize vs.toList=l at h2;have:∀(cs:List VC) (l:List Value),(∀k,VC.arr k∉cs/\∀n,VC.vec k n∉cs)->All2 (CVC loc st.objs w F) cs l->∀(a0:List V) (vs:Array Value),All2 (λv x=>CV (at_ loc d (w.heap.size,0)) (upd st.objs d (.box a0)) (w.alloc (.cells vs t)) F v x/\x.oneCell'=true) (cs.map VC.v) l:=by
       intro cs
       induction cs with
       |nil=>intro l _ hl;cases l with|nil=>exact λ_ _=>trivial|cons _ _=>exact hl.elim
       |cons c cs ih=>
        intro l a2 hl;cases l with
        |nil=>exact hl.elim
        |cons y l=>
         intro a0 vs;refine⟨⟨?_,hl.1.one⟩,ih l (λk=>⟨λhk=>(a2 k).1 (by simp[hk]),λn hk=>(a2 k).2 n (by simp[hk])⟩) hl.2 a0 vs⟩;cases c with
         |d x=>exact CD.mono (show CD w F x y from hl.1) (λ_ h=>h) (a3 vs)
         |nil=>exact hl.1
         |arr k=>exact absurd (by simp) (a2 k).1
         |vec k n=>exact absurd (by simp) ((a2 k).2 n)
      exact this cs l a2 h2 _ _
     .intro v hv;obtain⟨c,hc,rfl⟩:=W2.1 hv;cases c with
      |arr k=>exact absurd hc (a2 k).1
      |vec k n=>exact absurd hc ((a2 k).2 n)
      |_=>trivial
    .trivial
   .rename_i dv _ hv;rw[hv]at hx;have h1:CD w F dv (a.eval x):=hx;have h2:=h1.one;have h3:(a.eval x).cells.toList=[a.eval x]:=by generalize a.eval x=y at h2;cases y<;>first|rfl|simp[Sz]at h2
    refine⟨_,_,_,a1,.inl rfl,yv h hd ?_ ?_⟩
    .rw[h3];exact⟨⟨h1.mono (λ_ h=>h) (a3 _),h2⟩,trivial⟩
    .intro v hv;simp at hv;subst hv;trivial
   .rename_i _ hv;rw[hv]at hx;have h1:a.eval x= .slice none 0 0:=hx;refine⟨_,_,_,a1,.inl rfl,yv h hd ?_ ?_⟩
    .rw[h1];exact⟨⟨rfl,rfl⟩,trivial⟩
    .intro v hv;simp at hv;subst hv;trivial
   .trivial
  .trivial
 .trivial
end
end Eng
end
section
namespace Eng
open Go Go.RowKit
variable [Env]
def qH {α:Type}:List α->Nat->List α->List α
 |cs,_,[]=>cs
 |cs,off,d::ds=>qH (upd cs off d) (off+1) ds
omit [Env] in
theorem xM {α:Type}:∀(vs:List α) (cs:List α) (off:Nat),(qH cs off vs).length=cs.length
 |[],_,_=>rfl
 |v::vs,cs,off=>by simp[qH,xM vs,qj]
omit [Env] in
theorem JC:∀(vs:List D) (cs:List D) (off:Nat),UP cs off vs=qH cs off vs
 |[],_,_=>rfl
 |v::vs,cs,off=>by simp[qH,UP,JC vs]
omit [Env] in
theorem Wi:∀(vs:List VC) (cs:List V) (off:Nat),KW cs off vs=qH cs off (vs.map VC.v)
 |[],cs,off=>rfl
 |v::vs,cs,off=>by simp[qH,KW,Wi vs]
omit [Env] in
theorem Y9:∀(vs:List D) (cs:List V) (off:Nat),UO cs off vs=qH cs off (vs.map V.c)
 |[],_,_=>rfl
 |v::vs,cs,off=>by simp[qH,UO,Y9 vs]
omit [Env] in
theorem All2.upds {α β:Type} {R:α->β->Prop}:∀(ds:List α) (vs:List β) (as:List α) (bs:List β) (off:Nat),All2 R ds vs->All2 R as bs->All2 R (qH as off ds) (qH bs off vs)
 |[],[],_,_,_,_,h=>h
 |_::ds,_::vs,_,_,_,hd,h=>All2.upds ds vs _ _ _ hd.2 (All2.upd hd.1 h)
 |[],_::_,_,_,_,hd,_=>hd.elim
 |_::_,[],_,_,_,hd,_=>hd.elim
omit [Env] in
theorem xZ {α:Type} (d:α):∀(vs:List α) (cs:List α) (off i:Nat),i<off->nth d (qH cs off vs) i=nth d cs i
 |[],_,_,_,_=>rfl
 |v::vs,cs,off,i,h=>by simp only[qH];rw[xZ d vs _ _ _ (by omega),qa _ _ _ (by omega)]
omit [Env] in
theorem zy {α:Type} (d:α):∀(vs:List α) (cs:List α) (off i:Nat),i<vs.length->off+i<cs.length->nth d (qH cs off vs) (off+i)=nth d vs i
 |[],_,_,_,h,_=>absurd h (by simp)
 |v::vs,cs,off,0,_,h2=>by simp only[qH,cc];rw[xZ d vs _ _ _ (by omega),qb _ _ _ (by omega)];rfl
 |v::vs,cs,off,i+1,h,h2=>by have:=zy d vs (Eng.upd cs off v) (off+1) i (by simpa using h) (by rw[qj];omega);simp only[qH];rw[show off+(i+1)=off+1+i by omega,this];rfl
omit [Env] in
theorem jl {α:Type} (d:α):∀(vs:List α) (cs:List α) (off i:Nat),off+vs.length<=i->nth d (qH cs off vs) i=nth d cs i
 |[],_,_,_,_=>rfl
 |v::vs,cs,off,i,h=>by simp only[qH];simp at h;rw[jl d vs _ _ _ (by omega),qa _ _ _ (by omega)]
def setBlk (w:World) (b:Nat) (o:I2):World:={w with heap:=w.heap.setIfInBounds b o}
omit [Env] in
theorem jE {w:World} {b:Nat} {o:I2} (h:b<w.heap.size):(setBlk w b o).heap[b]? =some o:=by simp[setBlk,h]
omit [Env] in
theorem za {w:World} {b i:Nat} {o:I2} (h:b≠i):(setBlk w b o).heap[i]? =w.heap[i]? :=by
 simp only[setBlk];rw[Array.getElem?_setIfInBounds_ne h]
omit [Env] in
theorem zU {w:World} {b:Nat} {o:I2}:(setBlk w b o).heap.size=w.heap.size:=by simp[setBlk]
omit [Env] in
theorem BelowX.setBlk {B:Bd} {w0 w:World} {b:Nat} {o:I2} (h:BelowX B w0 w) (hb:Own B b):BelowX B w0 (setBlk w b o):=
 h.trans ⟨rfl,rfl,rfl,by simp[Eng.setBlk],λk hk hx=>za (λe=>by
  subst e;rcases hb with hb|hb
  .omega
  .exact hx hb)⟩
omit [Env] in
theorem JD {w:World} {b:Nat} {o o':I2}:setBlk (setBlk w b o) b o'=setBlk w b o':=by
 simp only[setBlk];congr 1;apply Bx;intro i;simp only[Aw];split<;>simp_all
omit [Env] in
theorem X2 {w:World} {b:Nat} {o:I2} (h:w.heap[b]? =some o):setBlk w b o=w:=by
 cases w with
 |mk heap tape drawn os output=>
  simp only[setBlk];congr 1;apply Bx;intro i;simp only[Aw];simp only at h;split
  .rename_i hi;subst hi;have:b<heap.size:=by
    rcases cb b heap.size with h1|h1
    .exact h1
    .simp[h1]at h
   rw[Dd this]at h ⊢;simp at h;simp[this,h]
  .rfl
omit [Env] in
theorem V8 {w:World} {b off:Nat} {cs:Array Value} {t:TypeId} {v:Value} (h:w.heap[b]? =some (.cells cs t (0,0))):w.setCell ⟨b,off,none⟩ v=setBlk w b (.cells (cs.setIfInBounds off v) t (0,0)):=by
 simp only[World.setCell,setBlk];congr 1;apply Bx;intro i;simp only[Array.getElem?_modify,Aw];split
 .rename_i hi;subst hi;have:b<w.heap.size:=by
   rcases cb b w.heap.size with h1|h1
   .exact h1
   .simp[h1]at h
  rw[Dd this]at h ⊢;simp at h;simp[this,h]
 .rfl
omit [Env] in
theorem xm (b o n:Nat):(⟨b,o,none⟩:Addr).add n=⟨b,o+n,none⟩:=by
 unfold Addr.add;split<;>simp_all
omit [Env] in
theorem xI {w:World} {b off:Nat} {cs:Array Value} {t:TypeId} (h:w.heap[b]? =some (.cells cs t (0,0))):w.cell? ⟨b,off,none⟩=cs[off]? :=by simp[U3,h]
omit [Env] in
theorem Ht {w:World} {b off:Nat} {cs:Array Value} {t:TypeId} (h:w.heap[b]? =some (.cells cs t (0,0))):w.frozen? ⟨b,off,none⟩=false:=by simp[World.frozen?,h]
omit [Env] in
theorem xU {P:Program} {b o:Nat} {t:TypeId}:∀(vs:List Value) (i:Nat) (w:World) (cs:Array Value),w.heap[b]? =some (.cells cs t (0,0))->o+i+vs.length<=cs.size->(∀v∈vs,v.oneCell'=true)->
 (storeCells ⟨b,o,none⟩ vs i).run P w= .ok () (setBlk w b (.cells (qH cs.toList (o+i) vs).toArray t (0,0)))
 |[],i,w,cs,h,_,_=>by simp only[storeCells,qH,Array.toArray_toList];rw[X2 h];rfl
 |v::vs,i,w,cs,h,hl,hone=>by
  simp at hl;have hb:b<w.heap.size:=by
   rcases cb b w.heap.size with h1|h1
   .exact h1
   .simp[h1]at h
  have hst:(store ((⟨b,o,none⟩:Addr).add i) v).run P w= .ok () (setBlk w b (.cells (cs.setIfInBounds (o+i) v) t (0,0))):=by
   rw[xm,run_store P w _ v _ (hone v (by simp)),xI h,Ht h,V8 h];have:cs[o+i]? =some cs[o+i]:=by simp[show o+i<cs.size by omega]
   rw[this];rfl
  have ih:=xU (P:=P) (o:=o) vs (i+1) (setBlk w b (.cells (cs.setIfInBounds (o+i) v) t (0,0))) _ (jE hb) (by simp;omega) (λx hx=>hone x (by simp[hx]));simp only[storeCells,P1,hst,Pl,ih,JD,qH,Array.toList_setIfInBounds,<-xh];rw[show o+(i+1)=o+i+1 by omega]
section
variable {C:Cx} {B:Bd} {F0:Nat->Prop} {w0:World} {F:Nat->Prop} {loc:Where} {st:St} {a:Act} {w:World}
theorem Conc.writeX (x:Value) {dst:Option Nat} {k:Nat} {ob:Obj} {b c:Nat} {cs:Array Value} {t:TypeId} (h:Conc C B F0 w0 F loc st a w) (hk:k<st.objs.length) (hl:loc k=some (b,c)) (hF:¬F b)
 (hob:CO loc (upd st.objs k ob) (setBlk w b (.cells cs t (0,0))) F k ob)
 (hle:Le st.objs (upd st.objs k ob) loc loc):
 Conc C B F0 w0 F loc (st.put dst .any [(k,ob)]) (a.put dst x) (setBlk w b (.cells cs t (0,0))):=by
 have hf:=h.fresh _ _ _ hl;have hw:∀b',F b'->(setBlk w b (.cells cs t (0,0))).heap[b']? =w.heap[b']? :=λb' hb=>za (λe=>hF (e▸hb))
 refine h.step (up:=[(k,ob)]) (loc':=loc) (λ_ h=>h) hw hle (BelowX.setBlk h.below hf.1) (by rw[zU];exact h.hB) (λj=>?_) h.inj (λj b' c' hj=>by rw[zU];exact h.fresh _ _ _ hj) (λb hb=>by rw[zU];exact h.bound b hb) h.fsub trivial trivial;show CO _ (upd st.objs k ob) _ _ _ (nth .none (upd st.objs k ob) j);by_cases hkj:k=j
 .subst hkj;rw[qb _ _ _ hk];exact hob
 .rw[qa _ _ _ hkj];refine CO.le (λ_ h=>h) hw hle rfl rfl (λb' c' hb=>⟨za (λe=>hkj ?_),λh=>h⟩) (h.objs j);subst e;exact h.inj _ _ _ _ _ hl hb
theorem Conc.write {dst:Option Nat} {k:Nat} {ob:Obj} {b c:Nat} {cs:Array Value} {t:TypeId} (h:Conc C B F0 w0 F loc st a w) (hk:k<st.objs.length) (hl:loc k=some (b,c)) (hF:¬F b)
 (hob:CO loc (upd st.objs k ob) (setBlk w b (.cells cs t (0,0))) F k ob)
 (hle:Le st.objs (upd st.objs k ob) loc loc):
 Conc C B F0 w0 F loc (st.put dst .any [(k,ob)]) (a.put dst undef) (setBlk w b (.cells cs t (0,0))):=
 h.writeX undef hk hl hF hob hle
end
end Eng
end
section
namespace Eng
open Go Go.RowKit
variable [Env]
def JE {α:Type} (f:Nat->α):Nat->Nat->List α
 |_,0=>[]
 |off,n+1=>f off::JE f (off+1) n
omit [Env] in
theorem zV {α:Type} (f:Nat->α):∀(n off:Nat),(bm n).map (λj=>f (off+j))=JE f off n
 |0,_=>rfl
 |n+1,off=>by rw[List.range_succ_eq_map,bh,List.map_map];simp only[JE,cc];rw[<-zV f n (off+1)];congr 1;apply List.map_congr_left;intro j _;simp only[Function.comp,Nat.succ_eq_add_one];rw[show off+(j+1)=off+1+j by omega]
omit [Env] in
theorem vR {α:Type} (f:Nat->α):∀(n off:Nat),(JE f off n).length=n
 |0,_=>rfl
 |n+1,off=>by simp[JE,vR f n]
omit [Env] in
theorem ZU (cs:List D):∀(n off:Nat),seg cs off n=JE (λj=>nth .undef cs j) off n
 |0,_=>rfl
 |n+1,off=>by simp[seg,JE,ZU cs n]
omit [Env] in
theorem X3 (cs:List V):∀(n off:Nat),E2 cs off n=JE (λj=>nth .any cs j) off n
 |0,_=>rfl
 |n+1,off=>by simp[E2,JE,X3 cs n]
omit [Env] in
theorem yw {α β:Type} {R:α->β->Prop} {f:Nat->α} {g:Nat->β}:∀(n off:Nat),(∀j,j<n->R (f (off+j)) (g (off+j)))->All2 R (JE f off n) (JE g off n)
 |0,_,_=>trivial
 |n+1,off,h=>⟨by simpa using h 0 (by omega),yw n (off+1) λj hj=>by
  have:=h (j+1) (by omega)
  rwa [show off+(j+1)=off+1+j by omega]at this⟩
omit [Env] in
theorem QT {α:Type} (d:α) (f:Nat->α):∀(n off i:Nat),i<n->nth d (JE f off n) i=f (off+i)
 |0,_,_,h=>absurd h (by omega)
 |n+1,off,0,_=>rfl
 |n+1,off,i+1,h=>by simp only[JE,nth];rw[QT d f n (off+1) i (by omega),show off+1+i=off+(i+1)by omega]
theorem zb {loc:Where} {objs:List Obj} {w:World} {F:Nat->Prop}:∀{vs:List V} {ds:List D} {xs:List Value},qB vs=some ds->All2 (CV loc objs w F) vs xs->All2 (CD w F) ds xs
 |[],ds,xs,hd,h=>by
  simp only[qB,c2]at hd;subst hd;cases xs with
  |nil=>trivial
  |cons _ _=>exact h.elim
 | .c d::r,ds,[],hd,h=>h.elim
 | .c d::r,ds,x::xs,hd,h=>by simp only[qB,c1]at hd;obtain⟨ds',h1,rfl⟩:=hd;exact⟨h.1,zb h1 h.2⟩
 | .nilS::r,ds,[],hd,h=>h.elim
 | .nilS::r,ds,x::xs,hd,h=>by simp only[qB,c1]at hd;obtain⟨ds',h1,rfl⟩:=hd;have h2:x= .slice none 0 0:=h.1;subst h2;exact⟨.nil _ _,zb h1 h.2⟩
 | .any::_,_,_,hd,_=>by simp[qB]at hd
 | .no::_,_,_,hd,_=>by simp[qB]at hd
 | .ag _::_,_,_,hd,_=>by simp[qB]at hd
 | .tp _::_,_,_,hd,_=>by simp[qB]at hd
 | .box _ _::_,_,_,hd,_=>by simp[qB]at hd
 | .arr _::_,_,_,hd,_=>by simp[qB]at hd
 | .elt _ _ _::_,_,_,hd,_=>by simp[qB]at hd
 | .sub _ _ _::_,_,_,hd,_=>by simp[qB]at hd
 | .eref _ _ _::_,_,_,hd,_=>by simp[qB]at hd
 | .gl _ _::_,_,_,hd,_=>by simp[qB]at hd
 | .fn _::_,_,_,hd,_=>by simp[qB]at hd
 | .arrAt _ _ _ _::_,_,_,hd,_=>by simp[qB]at hd
 | .boxAt _ _::_,_,_,hd,_=>by simp[qB]at hd
 | .pinB _ _ _::_,_,_,hd,_=>by simp[qB]at hd
 | .tpo _ _::_,_,_,hd,_=>by simp[qB]at hd
 | .agv _::_,_,_,hd,_=>by simp[qB]at hd
 | .vec _ _::_,_,_,hd,_=>by simp[qB]at hd
omit [Env] in
theorem JF {α:Type} {f:Nat->α} {x:α}:∀{n off:Nat},x∈JE f off n->∃j,off<=j/\j<off+n/\f j=x
 |0,_,h=>by simp[JE]at h
 |n+1,off,h=>by
  simp only[JE,be]at h;rcases h with rfl|h
  .exact⟨off,by omega,by omega,rfl⟩
  .obtain⟨j,h1,h2,h3⟩:=JF h;exact⟨j,by omega,by omega,h3⟩
omit [Env] in
theorem wI:∀{vs:List V} {cs:List VC},Ny vs=some cs->vs=cs.map VC.v
 |[],cs,h=>by simp only[Ny,c2]at h;subst h;rfl
 |v::r,cs,h=>by
  unfold Ny at h;split at h
  .rename_i e;cases e
  .rename_i e;cases e;simp only[c1]at h;obtain⟨ds,h1,rfl⟩:=h;rw[wI h1];rfl
  .rename_i e;cases e;simp only[c1]at h;obtain⟨ds,h1,rfl⟩:=h;rw[wI h1];rfl
  .rename_i e;cases e;simp only[c1]at h;obtain⟨ds,h1,rfl⟩:=h;rw[wI h1];rfl
  .rename_i e;cases e;simp only[c1]at h;obtain⟨ds,h1,rfl⟩:=h;rw[wI h1];rfl
  .simp at h
theorem JG {loc:Where} {objs:List Obj} {w:World} {F:Nat->Prop}:∀{cs:List VC} {xs:List Value},All2 (λv x=>CV loc objs w F v x/\x.oneCell'=true) (cs.map VC.v) xs->All2 (CVC loc objs w F) cs xs
 |[],[],_=>trivial
 |_::_,_::_,h=>⟨CVC.of h.1.1 h.1.2,JG h.2⟩
 |[],_::_,h=>h.elim
 |_::_,[],h=>h.elim
omit [Env] in
theorem xO {size:Nat}:∀{es:List (List D)} (_:∀e∈es,e.length=size) (i m:Nat),i<es.length->m<size->nth .undef es.flatten (i*size+m)=nth .undef (nth [] es i) m
 |[],_,_,_,hi,_=>absurd hi (by simp)
 |e::es,hs,0,m,_,hm=>by have he:=hs e (by simp);simp only[bd,Nat.zero_mul,Nat.zero_add,nth,qw];rw[List.getElem?_append_left (by omega)]
 |e::es,hs,i+1,m,hi,hm=>by
  have he:=hs e (by simp);have ih:=xO (size:=size) (es:=es) (λe he=>hs e (by simp[he])) i m (by simpa using hi) hm;simp only[bd,qw]at ih ⊢;rw[List.getElem?_append_right (by rw[cg];omega)];rw[show(i+1)*size+m-e.length=i*size+m by rw[cg];omega]
  simpa using ih
omit [Env] in
theorem Wj {i n s m:Nat} (hi:i<n) (hm:m<s):i*s+m<n*s:=by
 have h1:(i+1)*s<=n*s:=Nat.mul_le_mul_right s hi;rw[cg]at h1;omega
section
variable {C:Cx} {B:Bd} {F0:Nat->Prop} {w0:World} {F:Nat->Prop} {loc:Where} {st:St} {a:Act} {w:World}
omit [Env] in
theorem kl {P:Program} {t:TypeId} {z:List Value} {b o:Nat} (hz:zN P t=some z) (f:Nat->Value) (h:∀j,j<z.length->w.cell? ⟨b,o+j,none⟩=some (f (o+j))):
 (J3 t (.pointer (some ⟨b,o,none⟩))).run P w= .ok (match wk P t with|true=> .agg (JE f o z.length).toArray|false=>f o) w\/(wk P t=false/\z.length=0):=by
 have h1:=vf hz w;have h2:=xe hz w;cases ht:wk P t with
 |true=>rw[ht]at h1;have h3:=run_loadCells (P:=P) w ⟨b,o,none⟩ z.length (λj=>f (o+j)) (λj hj=>by rw[xm];exact h j hj);left;simp[J3,J4,loadVar,h1,h2,h3,<-zV]
 |false=>
  rw[ht]at h1;rcases Nat.eq_zero_or_pos z.length with h0|h0
  .exact .inr ⟨rfl,h0⟩
  .have h3:=h 0 h0;left;simp at h3;simp[J3,J4,loadVar,h1,h3]
theorem Bh {dst:Option Nat} {t:TypeId} {x:Operand} {ty:TypeId} {pos:String} {after:Array Edge} {g:Option (Nat×Bool)} (h:Conc C B F0 w0 F loc st a w):
 RS C B F0 w0 st a w ⟨dst,.load t x,ty,pos,after,g⟩ (xl C ⟨dst,.load t x,ty,pos,after,g⟩ (ev st) st.objs):=by
 simp only[xl,NS];have hx:=(qU h x).1;have a4:∀y,(J3 t (a.eval x)).run C.P w= .ok y w->(execOp a.eval ⟨dst,.load t x,ty,pos,after,g⟩).run C.P w= .ok (.value y) w:=λy hy=>by simp[execOp,hy]
 split
 .trivial
 .rename_i z hz;obtain⟨_,zv,_,_,hzc,_,_,hzt,_⟩:=xy hz;have ap:wk C.P t=false->0<z.length:=by intro hf;cases zv<;>simp[hf]at hzt<;>(subst hzc;simp[Tk])
  split
  .rename_i k a0 hv;rw[hv]at hx;split
   .rename_i a1 hk;obtain⟨b,c,hl,hp⟩:=hx _ hk rfl;have an:=h.objs k;rw[hk]at an;obtain⟨b',c',cs,t',a5,ba,ad,a7,a6⟩:=an;rw[hl]at a5;simp only[c2,c3]at a5;obtain⟨rfl,rfl⟩:=a5;have b5:=a7.length;have a2:∀j,j<a1.length->w.cell? ⟨b,j,none⟩=some (nth undef cs.toList j):=λj hj=>by rw[xI ad,qk _ (by omega)];simp at b5;simp[show j<cs.size by omega]
    split
    .rename_i ht;split
     .rename_i b4;have b4:a0+z.length<=a1.length:=by simpa using b4
      split
      .rename_i ds hds;have h1:=kl (w:=w) (b:=b) (o:=a0) hz (λj=>nth undef cs.toList j) (λj hj=>a2 _ (by omega));rcases h1 with h1|⟨h1,_⟩
       .rw[ht]at h1;rw[hp]at a4;refine qJ h ⟨_,rfl,?_⟩ trivial (a4 _ h1);refine zb (loc:=loc) (objs:=st.objs) hds ?_;rw[X3];exact yw _ _ λj hj=>(a7.nth _ _ _ _ _ (by omega)).1
       .rw[ht]at h1;simp at h1
      .split
       .rename_i vcs hvc;have bc:=wI hvc;have h1:=kl (w:=w) (b:=b) (o:=a0) hz (λj=>nth undef cs.toList j) (λj hj=>a2 _ (by omega));rcases h1 with h1|⟨h1,_⟩
        .rw[ht]at h1;rw[hp]at a4;refine qJ h ⟨_,rfl,?_⟩ ?_ (a4 _ h1)
         .refine JG ?_;rw[<-bc,X3];exact yw (R:=λv x=>CV loc st.objs w F v x/\x.oneCell'=true) _ _ λj hj=>a7.nth _ _ _ _ _ (by omega)
         .intro k' hk';obtain⟨c',hc',b2⟩:=xx.1 hk';have hm:c'.v∈E2 a1 a0 z.length:=by rw[bc];exact W2.2 ⟨_,hc',rfl⟩
          have hm2:c'.v∈a1:=by rw[X3]at hm;obtain⟨j,_,hj,e⟩:=JF hm;rw[<-e,qk _ (by omega)];exact V1 _
          have bb:=a6 _ hm2;cases c' with
          |arr j=>simp only[VC.v,qh,W0]at b2;subst b2;exact bb
          |vec j n=>simp only[VC.v,qh,W0]at b2;subst b2;exact bb
          |d d=>simp[VC.v,qh]at b2
          |nil=>simp[VC.v,qh]at b2
        .rw[ht]at h1;simp at h1
       .trivial
     .trivial
    .rename_i ht;split
     .rename_i ag;have ag:a0<a1.length:=by simpa using ag
      have h2:=vf hz w;rw[ht]at h2;rw[hp]at a4;refine qJ h (a7.nth .any undef _ _ _ ag).1 ?_ (a4 _ ?_)
      .rw[qk _ ag];exact a6 _ (V1 ag)
      .simp[J3,J4,loadVar,h2,a2 a0 ag]
     .trivial
   .rename_i a1 hk;obtain⟨b,c,hl,hp⟩:=hx _ hk rfl;have an:=h.objs k;rw[hk]at an;obtain⟨b',c',cs,t',a5,ba,ad,hsz,hlc,a7,a6,_⟩:=an;rw[hl]at a5;simp only[c2,c3]at a5;obtain⟨rfl,rfl⟩:=a5;split
    .trivial
    .rename_i ht;split
     .rename_i ag;have ag:a0<a1.length:=by simpa using ag
      have h2:=vf hz w;rw[ht]at h2;rw[hp]at a4;obtain⟨x,hx1,hx2,_⟩:=a7 a0 ag;refine qJ h hx2 (a6 _ (qT ag)) (a4 _ ?_);have a2:w.cell? ⟨b,a0,none⟩=some x:=by rw[xI ad,hx1]
      simp[J3,J4,loadVar,h2,a2]
     .trivial
   .trivial
  .rename_i es i a0 hv;rw[hv]at hx;obtain⟨b,o,a3,hp,hi,b1⟩:=hx;intro ds b0;obtain⟨al,b4⟩:=b0;have hei:(nth [] es i).length=a3:=by rw[qk _ hi];exact b1.hs _ (V1 hi)
   have a2:∀j,j<z.length->∃v,w.cell? ⟨b,o+i*a3+a0+j,none⟩=some v/\CD w F (nth .undef (nth [] es i) (a0+j)) v:=λj hj=>by obtain⟨v,h1,h2⟩:=b1.hc (i*a3+(a0+j)) (Wj hi (by omega));rw[xO b1.hs _ _ hi (by omega)]at h2;exact⟨v,by rw[<-h1];congr 2;omega,h2⟩
   have b6:∀j,∃v,j<z.length->w.cell? ⟨b,o+i*a3+a0+j,none⟩=some v/\CD w F (nth .undef (nth [] es i) (a0+j)) v:=λj=>by
    by_cases hj:j<z.length
    .obtain⟨v,hv⟩:=a2 j hj;exact⟨v,λ_=>hv⟩
    .exact⟨undef,λh=>absurd h hj⟩
   let f:Nat->Value:=λp=>I1 (b6 (p-(o+i*a3+a0)))
   have hf:∀j,j<z.length->w.cell? ⟨b,o+i*a3+a0+j,none⟩=some (f (o+i*a3+a0+j))/\CD w F (nth .undef (nth [] es i) (a0+j)) (f (o+i*a3+a0+j)):=λj hj=>by have:=I0 (b6 j) hj;simp only[f,Nat.add_sub_cancel_left];exact this
   have h1:=kl (w:=w) (b:=b) (o:=o+i*a3+a0) hz f (λj hj=>(hf j hj).1);rw[hp]at a4;rcases h1 with h1|⟨h1,h2⟩
   .cases ht:wk C.P t with
    |true=>
     rw[ht]at h1;refine qV h (a4 _ h1) ⟨_,rfl,?_⟩ trivial;rw[<-al,ZU];simp only;rw[<-zV,<-zV];have:∀l:List Nat,(∀j∈l,j<z.length)->All2 (CD w F) (l.map λj=>nth .undef (nth [] es i) (a0+j)) (l.map λj=>f (o+i*a3+a0+j)):=by
      intro l
      induction l with
      |nil=>intro _;trivial
      |cons j l ih=>intro hl;exact⟨(hf j (hl j (by simp))).2,ih λj' hj'=>hl j' (by simp[hj'])⟩
     exact this _ λj hj=>by simpa using hj
    |false=>
     rw[ht]at h1;have b3:=ap ht;refine qV h (a4 _ h1) ?_ trivial;have:=(hf 0 b3).2;simp only[cc]at this;show CD w F (nth .undef ds 0) _;rw[<-al,ZU,QT _ _ _ _ _ b3]
     simpa using this
   .have:=ap h1;omega
  .rename_i k i a0 hv;rw[hv]at hx;split
   .rename_i s es fz hk;obtain⟨b,c,hl,hi,hp⟩:=hx s es fz hk;have an:=h.objs k;rw[hk]at an;obtain⟨_,hs0,hs,an⟩:=an;rcases an with⟨a5,_⟩|⟨b',c',cs,t',a5,ba,ad,hsz,hlc,hcs⟩
    .rw[hl]at a5;simp at a5
    rw[hl]at a5;simp only[c2,c3]at a5;obtain⟨rfl,rfl⟩:=a5;intro ds b0;obtain⟨al,b4⟩:=b0;have hei:(nth [] es i).length=s:=by rw[qk _ hi];exact hs _ (V1 hi)
    have hf:∀j,j<z.length->w.cell? ⟨b,i*s+a0+j,none⟩=some (nth undef cs.toList (i*s+a0+j))/\CD w F (nth .undef (nth [] es i) (a0+j)) (nth undef cs.toList (i*s+a0+j)):=λj hj=>by
     obtain⟨v,h1,h2⟩:=hcs.1 (i*s+(a0+j)) (Wj hi (by omega));rw[xO hs _ _ hi (by omega)]at h2;have h3:nth undef cs.toList (i*s+a0+j)=v:=by rw[qw];rw[show i*s+a0+j=i*s+(a0+j)by omega];simp[h1]
     rw[h3,xI ad];refine⟨?_,h2⟩;rw[show i*s+a0+j=i*s+(a0+j)by omega,h1]
    have h1:=kl (w:=w) (b:=b) (o:=i*s+a0) hz (λp=>nth undef cs.toList p) (λj hj=>(hf j hj).1);rw[hp]at a4;rcases h1 with h1|⟨h1,h2⟩
    .cases ht:wk C.P t with
     |true=>
      rw[ht]at h1;refine qV h (a4 _ h1) ⟨_,rfl,?_⟩ trivial;rw[<-al,ZU];simp only;rw[<-zV,<-zV];have:∀l:List Nat,(∀j∈l,j<z.length)->All2 (CD w F) (l.map λj=>nth .undef (nth [] es i) (a0+j)) (l.map λj=>nth undef cs.toList (i*s+a0+j)):=by
       intro l
       induction l with
       |nil=>intro _;trivial
       |cons j l ih=>intro hl;exact⟨(hf j (hl j (by simp))).2,ih λj' hj'=>hl j' (by simp[hj'])⟩
      exact this _ λj hj=>by simpa using hj
     |false=>
      rw[ht]at h1;have b3:=ap ht;refine qV h (a4 _ h1) ?_ trivial;have:=(hf 0 b3).2;simp only[cc]at this;show CD w F (nth .undef ds 0) _;rw[<-al,ZU,QT _ _ _ _ _ b3]
      simpa using this
    .have:=ap h1;omega
   .trivial
  .trivial
end
end Eng
end
