import Derived.Calls
import Derived.Below
import Derived.Tactics
import Derived.Laws.Sem
import Derived.WalkKit
import Derived.DeepKeys
open Array renaming getElem?_setIfInBounds->B0, ext_getElem?->Dd, getElem?_eq_getElem->F2
open BitVec renaming ofInt->Hu
open Bool renaming and_eq_true->Hv, not_eq_true'->Hx
open Classical renaming choose_spec->Hy, choose->HZ
open Go renaming Obj->I0, sizeOf->I1
open Go.Instr renaming loadAt->I2, sureAddr->I3, storeAt->J3, alloc->J4
open Go.Op renaming equalIn->J5, equal->J7, stringOp->J8, intArith->J9
open Go.Program renaming keyLits->Lm
open Go.Result renaming andThen_ok->Lr
open Go.Sem renaming run_bind->Ls
open Go.Value renaming oneCell'->Lv, cells->M0
open Go.World renaming cell?_of_block->M1, size_alloc->M2, cell?->M3
open List renaming flatten_cons->Pl, getElem_mem->P1, replicate->Sz, length_cons->Ts, mem_cons->T1, map_cons->U0, mem_map->U3, range->V1, length_append->W0, foldlM->W1
open Nat renaming beq->W2, lt_or_ge->W3, eq_of_beq_eq_true->W4, succ_mul->aE, add_zero->ba, mul_le_mul_right->bb, le_refl->bc, blt->bd, zero_mul->be, zero_add->bh, beq_refl->bk, not_lt->bm
open Option.some renaming injEq->bv
open Prod.mk renaming injEq->bw
section
namespace Eng
open Go
def nth {α:Type} (d:α):List α->Nat->α
 |[],_=>d
 |x::_,0=>x
 |_::xs,n+1=>nth d xs n
def upd {α:Type}:List α->Nat->α->List α
 |[],_,_=>[]
 |_::xs,0,y=>y::xs
 |x::xs,n+1,y=>x::upd xs n y
inductive D where
 |undef
 |bool (b:Bool)
 |int (k:IntKind) (n:Int)
 |str (s:List UInt8)
 |sl (es:List (List D))
 |ifc (n:Bool)
 |fn (f:Nat)
 |nilP
 |ptr (cs:List D)
 |clo (f:Nat) (ps:List D)
 deriving Inhabited
abbrev D.nilI:D:= .ifc true
inductive A where
 |c (d:D)
 |ag (cs:List D)
 deriving Inhabited
def toI:D->Int| .int _ n=>n|_=>0
def toB:D->Bool| .bool b=>b|_=>false
def toS:D->List UInt8| .str s=>s|_=>[]
def toL:D->List (List D)| .sl es=>es|_=>[]
def isI (k:IntKind):D->Bool| .int k' _=>decide (k'=k)|_=>false
def isB:D->Bool| .bool _=>true|_=>false
def isS:D->Bool| .str _=>true|_=>false
def isL:D->Bool| .sl _=>true|_=>false
inductive V where
 |any
 |no
 |c (d:D)
 |ag (cs:List D)
 |tp (as:List A)
 |nilS
 |box (k off:Nat)
 |arr (k:Nat)
 |elt (k:Nat) (i off:Nat)
 |sub (k off len:Nat)
 |eref (es:List (List D)) (i off:Nat)
 |fn (f:Nat)
 |arrAt (k g c t:Nat)
 |boxAt (k g:Nat)
 deriving Inhabited
def un:V->V
 | .arrAt k _ _ _=> .arr k
 | .boxAt k _=> .box k 0
 |v=>v
inductive Obj where
 |none
 |dead
 |box (cells:List V)
 |arr (size:Nat) (es:List (List D)) (fz:Bool)
 |bld (T:Nat) (q:V)
 deriving Inhabited
def kl:Obj->Bool
 | .box _=>true
 | .bld _ _=>true
 |_=>false
structure St where
 tmps:List V
 objs:List Obj
 dirty:List Nat
inductive R where
 |fail
 |ok (v:V) (up:List (Nat×Obj))
 |cond (c:Prop) [dc:Decidable c] (v:V) (up:List (Nat×Obj))
 |look (z:List Value) (row:List D) (off:Nat) (ag:Bool)
 |call (f:Nat) (as:List A) (sh:List (Bool×List Value)) (up:List (Nat×Obj))
structure Cx where
 P:Program
 G:Nat->Option (List D)
 bt:Nat->Bool
 eff:Nat->Option (Option Nat->List V->List Obj->R)
 keep:TypeId->Option Nat->Bool
 wd:Nat->Bool
def cnd (b:Bool) (X:Prop):Prop:=match b with|true=>X|false=>False
def br (b:Bool) (X Y:Prop):Prop:=match b with|true=>X|false=>Y
def room (n:Nat):Prop:=n<=1073741824
instance (n:Nat):Decidable (room n):=inferInstanceAs (Decidable (n<=1073741824))
def c9 (n:Nat):Prop:=n<=4000000000000
instance (n:Nat):Decidable (c9 n):=inferInstanceAs (Decidable (n<=4000000000000))
def Pw (b:Bool) (n:Nat):Prop:=match b with
 |true=>c9 n
 |false=>room n
instance (b:Bool) (n:Nat):Decidable (Pw b n):=match b with
 |true=>inferInstanceAs (Decidable (c9 n))
 |false=>inferInstanceAs (Decidable (room n))
def roomS (s n:Nat):Prop:=n<=1073741824\/(s=4/\n<=4000000000000)
theorem roomS.le{s n m:Nat}(h:roomS s n)(hm:m<=n):roomS s m:=by
 rcases h with h|⟨h,k⟩
 .exact .inl (by omega)
 .exact .inr ⟨h,by omega⟩
theorem roomS.one{n:Nat}(h:roomS 1 n):n<=1073741824:=by rcases h with h|⟨h,_⟩<;>omega
theorem roomS.max{s n:Nat}(h:roomS s n):n<=4000000000000:=by rcases h with h|⟨_,h⟩<;>omega
def zD:Value->D
 | .bool b=> .bool b
 | .int k n=> .int k n
 | .string s=> .str s.data.toList
 | .slice none 0 0=> .sl []
 | .nilIface=> .nilI
 | .pointer none=> .nilP
 |_=> .undef
def Q0:Value->V
 | .bool b=> .c (.bool b)
 | .int k n=> .c (.int k n)
 | .string s=> .c (.str s.data.toList)
 | .slice none 0 0=> .nilS
 | .nilIface=> .c .nilI
 | .pointer none=> .c .nilP
 | .agg cs=>match cs.toList.all Lv with
  |true=> .ag (cs.toList.map zD)
  |false=> .any
 |_=> .any
def ev (st:St):Operand->V
 | .tmp t=>un (nth .any st.tmps t)
 | .const v=>Q0 v
 | .global _=> .any
 | .func f=> .c (.fn f)
def y9 (P:Program) (t:TypeId):Bool:=
 match P.underlying t with
 |some (.struct _)=>true
 |some (.array _ _)=>true
 |_=>false
def ka (P:Program) (t:TypeId):Option (List Value):=
 match P.info? t with
 |some i=>match i.zero with
  |some v=>match v.cells.toList.all Lv&&W2 i.size v.cells.toList.length&&(match v with| .agg _=>y9 P t|_=>!y9 P t)&&(P.underlying t).isSome with
   |true=>some v.cells.toList
   |false=>none
  |none=>none
 |none=>none
def TW (P:Program) (t:TypeId):Option TypeId:=
 match P.underlying t with
 |some (.slice e)=>some e
 |_=>none
def typed:Value->D->D
 | .int k _,d=> .int k (toI d)
 | .bool _,d=> .bool (toB d)
 | .string _,d=> .str (toS d)
 | .slice ..,d=> .sl (toL d)
 |_,d=>d
def km:Value->D->Bool
 | .int k _,d=>isI k d
 | .bool _,d=>isB d
 | .string _,d=>isS d
 | .slice ..,d=>isL d
 |_,_=>true
def aq (P:Program):List TypeId->Option (List (Bool×List Value))
 |[]=>some []
 |t::ts=>match ka P t,aq P ts with
  |some z,some r=>some ((y9 P t,z)::r)
  |_,_=>none
structure R4 where
 b:Bool
 l:List (List D)
 c:Bool
 m:List (List D)
structure P20 where
 x:R4
 u:R4
 y:R4
 v:R4
 c:R4
structure C66 where
 arc:Bool
 la:R4
 lb:R4
 lc:R4
 cx:R4
 cy:R4
 cq:R4
 cw:Bool
 fr:P20
 tt:P20
def rk (r:R4) (t:List D):List D:= .bool r.b:: .sl r.l:: .bool r.c:: .sl r.m::t
def pk (p:P20) (t:List D):List D:=rk p.x (rk p.u (rk p.y (rk p.v (rk p.c t))))
def ck (c:C66) (t:List D):List D:= .bool c.arc::rk c.la (rk c.lb (rk c.lc (rk c.cx (rk c.cy (rk c.cq (.bool c.cw::pk c.fr (pk c.tt t)))))))
def Fa:List Value->Option (List Value)
 | .bool _:: .slice .. :: .bool _:: .slice .. ::r=>some r
 |_=>none
def yA:Nat->List Value->Option (List Value)
 |0,z=>some z
 |n+1,z=>match Fa z with
  |some r=>yA n r
  |none=>none
def Px:List Value->Option (List Value)
 | .bool _::r=>match yA 6 r with
  |some (.bool _::q)=>yA 10 q
  |_=>none
 |_=>none
def exG (g:Bool):Nat->List Value->(List D->Prop)->Prop
 |0,_,_=>False
 |_+1,[],K=>K []
 |n+1,z::r,K=>match Px (z::r)with
  |some q=>∃x:C66,exG g n q λds=>K (ck x ds)
  |none=>match yA 5 (z::r)with
   |some q=>∃x:P20,exG g n q λds=>K (pk x ds)
   |none=>match(match g with|true=>Fa (z::r)|false=>none)with
    |some q=>∃x:R4,exG g n q λds=>K (rk x ds)
    |none=>match z with
     | .int k _=>∃i:Int,exG g n r λds=>K (.int k i::ds)
     | .bool _=>∃b:Bool,exG g n r λds=>K (.bool b::ds)
     | .string _=>∃s:List UInt8,exG g n r λds=>K (.str s::ds)
     | .slice .. =>∃es:List (List D),exG g n r λds=>K (.sl es::ds)
     | .nilIface=>∃b:Bool,exG g n r λds=>K (.ifc b::ds)
     |_=>∃d:D,exG g n r λds=>K (d::ds)
def pd:List Value->Bool
 |_::_::_::_::_::_::_::_::_=>true
 |_=>false
def YG (z:List Value) (K:List D->Prop):Prop:=exG true (z.length+1) z K
def Fb:List (Bool×List Value)->(List A->Prop)->Prop
 |[],K=>K []
 |(true,z)::r,K=>YG z λds=>Fb r λas=>K (.ag ds::as)
 |(false,z)::r,K=>YG z λds=>Fb r λas=>K (.c (nth .undef ds 0)::as)
def od:Value->Bool
 | .int .. =>false
 | .bool _=>false
 | .string _=>false
 | .nilIface=>false
 |_=>true
def kX:List Value->Bool
 |[]=>false
 |v::r=>od v||kX r
def zN:List (Bool×List Value)->Bool
 |[]=>false
 |(_,[])::_=>true
 |(_,z)::r=>kX z||zN r
def Ht:List A->V
 |[.c d]=> .c d
 |[.ag cs]=> .ag cs
 |as=> .tp as
def qD (objs:List Obj) (d:Nat):Bool:=
 match nth .dead objs d with
 | .none=>true
 |_=>false
def cellsOf (objs:List Obj):V->Option (List D×List (Nat×Obj))
 | .c d=>some ([d],[])
 | .ag cs=>some (cs,[])
 | .nilS=>some ([.sl []],[])
 | .arr k=>match nth .none objs k with
  | .arr s es _=>some ([.sl es],[(k,.arr s es true)])
  |_=>none
 |_=>none
def toA (objs:List Obj):V->Option (A×List (Nat×Obj))
 | .c d=>some (.c d,[])
 | .ag cs=>some (.ag cs,[])
 | .nilS=>some (.c (.sl []),[])
 | .arr k=>match nth .none objs k with
  | .arr s es _=>some (.c (.sl es),[(k,.arr s es true)])
  |_=>none
 |_=>none
def yx (objs:List Obj):List V->Option (List A×List (Nat×Obj))
 |[]=>some ([],[])
 |v::vs=>match toA objs v,yx objs vs with
  |some (a,u),some (as,us)=>some (a::as,u++us)
  |_,_=>none
def QH (objs:List Obj):V->Option (List (List D)×List (Nat×Obj))
 | .c (.sl es)=>some (es,[])
 | .nilS=>some ([],[])
 | .arr k=>match nth .none objs k with
  | .arr s es _=>some (es,[(k,.arr s es true)])
  |_=>none
 |_=>none
def Q1 (objs:List Obj):V->Option (List (List D))
 | .sub k o l=>match nth .none objs k with
  | .arr _ es _=>some ((es.drop o).take l)
  |_=>none
 |v=>match QH objs v with
  |some (es,_)=>some es
  |none=>none
def seg (cs:List D):Nat->Nat->List D
 |_,0=>[]
 |off,n+1=>nth .undef cs off::seg cs (off+1) n
def qC:List V->Option (List D)
 |[]=>some []
 | .c d::r=>(qC r).map (d:: ·)
 | .nilS::r=>(qC r).map (.sl []:: ·)
 |_::_=>none
def oe (cs:List V):Nat->Nat->List V
 |_,0=>[]
 |off,n+1=>nth .any cs off::oe cs (off+1) n
def S6:List V->Nat->List D->List V
 |cs,_,[]=>cs
 |cs,off,d::ds=>S6 (upd cs off (.c d)) (off+1) ds
def zU:List D->Nat->List D->List D
 |cs,_,[]=>cs
 |cs,off,d::ds=>zU (upd cs off d) (off+1) ds
def Kq (P:Program) (t:TypeId) (f:Nat):Option (Nat×TypeId):=
 match P.underlying t with
 |some (.struct fs)=>match fs[f]? with
  |some fd=>some (fd.offset,fd.type)
  |none=>none
 |_=>none
def pe:BinOp->Bool
 | .shl=>true
 | .shr=>true
 |_=>false
def shV (op:BinOp) (k:IntKind) (a b:Int):R:=
 match op with
 | .shl=> .cond (0<=b) (.c (.int k (k.wrap (a*2^(min b.toNat k.bits))))) []
 | .shr=> .cond (0<=b) (.c (.int k (a.fdiv (2^(min b.toNat k.bits))))) []
 |_=> .fail
def hZ (op:BinOp) (x y:V):R:=
 match x,y with
 | .c (.int k a),.c (.int k' b)=>
  match pe op with
  |true=>shV op k a b
  |false=>match decide (k=k')with
  |false=> .fail
  |true=>match op with
   | .add=> .ok (.c (.int k (k.wrap (a+b)))) []
   | .sub=> .ok (.c (.int k (k.wrap (a-b)))) []
   | .mul=> .ok (.c (.int k (k.wrap (a*b)))) []
   | .quo=> .cond (b≠0) (.c (.int k (k.wrap (a.tdiv b)))) []
   | .rem=> .cond (b≠0) (.c (.int k (a.tmod b))) []
   | .eql=> .ok (.c (.bool (a==b))) []
   | .neq=> .ok (.c (.bool (a !=b))) []
   | .lss=> .ok (.c (.bool (decide (a<b)))) []
   | .leq=> .ok (.c (.bool (decide (a<=b)))) []
   | .gtr=> .ok (.c (.bool (decide (a>b)))) []
   | .geq=> .ok (.c (.bool (decide (a>=b)))) []
   | .and=> .ok (.c (.int k (k.wrap ((Hu k.bits a&&&Hu k.bits b).toNat:Int)))) []
   | .or=> .ok (.c (.int k (k.wrap ((Hu k.bits a|||Hu k.bits b).toNat:Int)))) []
   | .xor=> .ok (.c (.int k (k.wrap ((Hu k.bits a^^^Hu k.bits b).toNat:Int)))) []
   |_=> .fail
 | .c (.str s),.c (.str t)=>
  match op with
  | .add=> .cond (room (s.length+t.length)) (.c (.str (s++t))) []
  | .eql=> .ok (.c (.bool (s==t))) []
  | .neq=> .ok (.c (.bool (!(s==t)))) []
  |_=> .fail
 |_,_=> .fail
def Q2:D->Option Value
 | .int k n=>some (.int k n)
 | .bool b=>some (.bool b)
 | .str s=>some (.string ⟨⟨s⟩⟩)
 |_=>none
def jJ:List D->Option (List Value)
 |[]=>some []
 |d::r=>match Q2 d,jJ r with
  |some v,some vs=>some (v::vs)
  |_,_=>none
def S7:Lit->Lit->Option Bool
 | .bool p,.bool q=>some (p==q)
 | .int k n,.int k' m=>some (decide (k=k')&&decide (n=m))
 | .string s,.string t=>some (s==t)
 |_,_=>none
def Xq:List Lit->List Lit->Option Bool
 |[],[]=>some true
 |l::r,l'::r'=>match S7 l l',Xq r r' with
  |some p,some q=>some (p&&q)
  |_,_=>none
 |_,_=>none
def og (P:Program) (t:TypeId) (us vs:List Value):Option Bool:=
 match P.keyTypeAt 100 t&&(!P.eqGuardType P.depth t&&(W2 us.length (P.cellsOf t)&&W2 vs.length (P.cellsOf t)))with
 |true=>match P.keyLits 100 t us,P.keyLits 100 t vs with
  |some l,some l'=>Xq l l'
  |_,_=>none
 |false=>none
def Hw (P:Program) (t:TypeId) (d:D):Bool:=
 match P.underlying t,d with
 |some .bool,.bool _=>true
 |some (.int q),.int k _=>decide (q=k)
 |some .string,.str _=>true
 |_,_=>false
def vH (P:Program):List Field->Nat->List D->Bool
 |[],_,[]=>true
 |f::fs,i,d::ds=>W2 f.offset i&&(W2 (P.cellsOf f.type) 1&&(Hw P f.type d&&vH P fs (i+1) ds))
 |_,_,_=>false
def wfD:D->Prop
 | .int k n=>k.min<=n/\n<=k.max
 | .str s=>room s.length
 |_=>True
def Vp:List D->Prop
 |[]=>True
 |d::r=>wfD d/\Vp r
instance decWfD (d:D):Decidable (wfD d):=match d with
 | .int k n=>inferInstanceAs (Decidable (k.min<=n/\n<=k.max))
 | .str s=>inferInstanceAs (Decidable (room s.length))
 | .undef| .bool _| .sl _| .ifc _| .fn _| .nilP| .ptr _| .clo .. =>isTrue trivial
instance decWfAll:(ds:List D)->Decidable (Vp ds)
 |[]=>isTrue trivial
 |d::r=>match decWfD d,decWfAll r with
  |isTrue h,isTrue g=>isTrue ⟨h,g⟩
  |isFalse h,_=>isFalse λe=>h e.1
  |_,isFalse g=>isFalse λe=>g e.2
def eqF:D->D->Bool
 | .bool p,.bool q=>p==q
 | .int _ n,.int _ m=>decide (n=m)
 | .str s,.str t=>s==t
 |_,_=>false
def ig:List D->List D->Bool
 |[],[]=>true
 |c::r,d::s=>eqF c d&&ig r s
 |_,_=>false
def S8 (P:Program) (t:TypeId) (cs ds:List D):Bool:=
 match P.underlying t with
 |some (.struct fs)=>P.keyTypeAt 100 t&&(!P.eqGuardType P.depth t&&(W2 cs.length (P.cellsOf t)&&(W2 ds.length (P.cellsOf t)&&(fs.all (·.name != "_")&&(vH P fs.toList 0 cs&&vH P fs.toList 0 ds)))))
 |_=>false
def ii (P:Program) (op:BinOp) (t:TypeId) (x y:V):R:=
 match x,y with
 | .ag cs,.ag ds=>match S8 P t cs ds with
  |true=>match op with
   | .eql=> .cond (Vp cs/\Vp ds) (.c (.bool (ig cs ds))) []
   | .neq=> .cond (Vp cs/\Vp ds) (.c (.bool (!(ig cs ds)))) []
   |_=> .fail
  |false=> .fail
 |_,_=> .fail
def eqV (P:Program) (op:BinOp) (t:TypeId) (x y:V):R:=
 match P.underlying t with
 |some .bool=>match x,y with
  | .c (.bool a),.c (.bool b)=>match op with
   | .eql=> .ok (.c (.bool (a==b))) []
   | .neq=> .ok (.c (.bool (!(a==b)))) []
   |_=> .fail
  |_,_=> .fail
 |some (.struct _)=>ii P op t x y
 |_=>hZ op x y
def Q3:Operand->Bool
 | .const _=>true
 |_=>false
def cA (P:Program) (op:BinOp) (t:TypeId) (x y:Operand) (vx vy:V):R:=
 match P.underlying t with
 |some (.interface _)=>match vx,vy with
  | .c (.ifc a),.c (.ifc b)=>match(Q3 y&&b)||(Q3 x&&a)with
   |true=>match op with
    | .eql=> .ok (.c (.bool (a&&b))) []
    | .neq=> .ok (.c (.bool (!(a&&b)))) []
    |_=> .fail
   |false=> .fail
  |_,_=> .fail
 |some (.slice _)=>match vx,vy with
  | .c (.sl es),.nilS=>match op with
   | .eql=> .cond (0<es.length) (.c (.bool false)) []
   | .neq=> .cond (0<es.length) (.c (.bool true)) []
   |_=> .fail
  |_,_=> .fail
 |_=>eqV P op t vx vy
def mxV (big:Bool) (x y:V):R:=
 match x,y with
 | .c (.int k a),.c (.int k' b)=>match decide (k=k')with
  |true=>match big with
   |true=> .ok (.c (.int k (match decide (a<b)with|true=>b|false=>a))) []
   |false=> .ok (.c (.int k (match decide (b<a)with|true=>b|false=>a))) []
  |false=> .fail
 |_,_=> .fail
def Xr (s:List UInt8):List (List D):=s.map λc=>[.int .u8 c.toNat]
def S9 (P:Program) (src dst:TypeId):Bool:=
 match P.underlying src,P.underlying dst with
 |some .string,some (.slice e)=>match P.underlying e with
  |some (.int .u8)=>true
  |_=>false
 |_,_=>false
def unV (op:UnOp) (x:V):R:=
 match op,x with
 | .not,.c (.bool b)=> .ok (.c (.bool (!b))) []
 | .neg,.c (.int k n)=> .ok (.c (.int k (k.wrap (0-n)))) []
 |_,_=> .fail
def Fc (P:Program) (dst:TypeId) (x:V):R:=
 match P.underlying dst,x with
 |some (.int k),.c (.int _ n)=> .ok (.c (.int k (k.wrap n))) []
 |some .string,.c (.int .i32 n)=> .cond (0<=n/\n<128) (.c (.str [UInt8.ofNat n.toNat])) []
 |_,_=> .fail
def ve (d:Int):Option V->Option Int
 |none=>some d
 |some (.c (.int _ n))=>some n
 |_=>none
def jo (ρ:Operand->V):Option Operand->Option V
 |none=>none
 |some x=>some (ρ x)
def lens (n:Nat) (es:List (List D)):Prop:=∀e∈es,e.length=n
def Fd (n:Nat):List (List D)->Bool
 |[]=>true
 |e::r=>W2 e.length n&&Fd n r
theorem H0(n:Nat):∀es,Fd n es=true↔lens n es
 |[]=>by simp[Fd,lens]
 |e::r=>by have ih:=H0 n r;simp only[Fd,Hv,ih,lens,T1];simp
instance (n:Nat) (es:List (List D)):Decidable (lens n es):=decidable_of_iff _ (H0 n es)
def H1 (P:Program) (t:TypeId) (objs:List Obj) (x:V) (lo hi mx:Option V):R:=
 match P.underlying t with
 |some .string=>match x with
  | .c (.str s)=>match ve 0 lo,ve s.length hi with
   |some l,some h=>match mx with
    |none=> .cond (0<=l/\l<=h/\h<=s.length) (.c (.str ((s.take h.toNat).drop l.toNat))) []
    |some _=> .fail
   |_,_=> .fail
  |_=> .fail
 |some (.slice e)=>match ka P e,QH objs x with
  |some z,some (es,us)=>match ve 0 lo,ve es.length hi with
   |some l,some h=>match mx with
    |none=> .cond (0<=l/\l<=h/\h<=es.length/\lens z.length es) (.c (.sl ((es.take h.toNat).drop l.toNat))) us
    |some m=>match ve 0 (some m),hi with
     |some m,some _=> .cond (0<=l/\l<=h/\h<=m/\m<=es.length/\lens z.length es) (.c (.sl ((es.take h.toNat).drop l.toNat))) us
     |_,_=> .fail
   |_,_=> .fail
  |_,_=> .fail
 |_=> .fail
def pg:V->Bool
 | .nilS=>true
 |_=>false
def H2 (P:Program) (t:TypeId) (objs:List Obj) (x:V) (lo hi mx:Option V):R:=
 match pg x with
 |false=>H1 P t objs x lo hi mx
 |true=>match P.underlying t,mx with
  |some (.slice e),none=>match ka P e,ve 0 lo,ve 0 hi with
   |some _,some l,some h=> .cond (0<=l/\l<=h/\h<=0) .nilS []
   |_,_,_=> .fail
  |_,_=> .fail
def TX (P:Program) (t:TypeId) (objs:List Obj) (x:V) (lo hi mx:Option V):R:=
 match P.underlying t with
 |some (.slice e)=>match ka P e,x with
  |some z,.arr k=>match nth .none objs k with
   | .arr s es _=>match lo,mx with
    |none,none=>match W2 s z.length,ve es.length hi with
     |true,some h=> .cond (0<=h/\h<=es.length) (.sub k 0 h.toNat) []
     |_,_=> .fail
    |_,_=>match W2 s z.length,ve 0 lo,ve es.length hi,mx with
     |true,some l,some h,none=> .cond (0<=l/\l<=h/\h<=es.length) (.sub k l.toNat (h.toNat-l.toNat)) []
     |_,_,_,_=> .fail
   |_=> .fail
  |_,_=> .fail
 |_=> .fail
def zS (objs:List Obj) (ρ:Operand->V):List (Nat×Operand)->Option (List (Nat×List D)×List (Nat×Obj))
 |[]=>some ([],[])
 |(i,x)::r=>match cellsOf objs (ρ x),zS objs ρ r with
  |some (ds,u),some (ps,us)=>some ((i,ds)::ps,u++us)
  |_,_=>none
def Nj (P:Program) (t:TypeId):Option (List (Nat×Nat)):=
 match P.underlying t with
 |some (.struct fs)=>fs.toList.mapM λf=>(P.info? f.type).map λi=>(f.offset,i.size)
 |some (.array n e)=>match P.info? e with
  |some i=>some ((V1 n).map λk=>(k*i.size,i.size))
  |none=>none
 |_=>none
def H3 (places:List (Nat×Nat)):List (Nat×List D)->List D->Option (List D)
 |[],cs=>some cs
 |(i,ds)::r,cs=>match places[i]? with
  |some (off,size)=>match decide (ds.length=size)&&decide (off+ds.length<=cs.length)with
   |true=>H3 places r (zU cs off ds)
   |false=>none
  |none=>none
def Kr (size:Nat):List (Nat×List D)->List (List D)->Option (List (List D))
 |[],es=>some es
 |(i,ds)::r,es=>match decide (ds.length=size)&&decide (i<es.length)with
  |true=>Kr size r (upd es i ds)
  |false=>none
def Fe (C:Cx) (t:TypeId) (objs:List Obj) (p:V):R:=
 match ka C.P t with
 |none=> .fail
 |some z=>match p with
  | .box k off=>match nth .none objs k with
   | .box cells=>match y9 C.P t with
    |true=>match decide (off+z.length<=cells.length)with
     |true=>match qC (oe cells off z.length)with
      |some ds=> .ok (.ag ds) []
      |none=> .fail
     |false=> .fail
    |false=>match decide (off<cells.length)with
     |true=> .ok (nth .any cells off) []
     |false=> .fail
   |_=> .fail
  | .eref es i off=> .look z (nth [] es i) off (y9 C.P t)
  | .elt k i off=>match nth .none objs k with
   | .arr _ es _=> .look z (nth [] es i) off (y9 C.P t)
   |_=> .fail
  |_=> .fail
def Nk (C:Cx) (t:TypeId) (objs:List Obj) (p x:V):R:=
 match ka C.P t with
 |none=> .fail
 |some z=>match p with
  | .box k off=>match nth .none objs k with
   | .box cells=>match y9 C.P t with
    |true=>match x with
     | .ag ds=>match decide (ds.length=z.length)&&decide (off+ds.length<=cells.length)with
      |true=> .ok .any [(k,.box (S6 cells off ds))]
      |false=> .fail
     |_=> .fail
    |false=>match x with
     | .c d=>match decide (off<cells.length)&&decide (z.length=1)with
      |true=> .ok .any [(k,.box (upd cells off (.c d)))]
      |false=> .fail
     | .nilS=>match decide (off<cells.length)&&decide (z.length=1)with
      |true=> .ok .any [(k,.box (upd cells off .nilS))]
      |false=> .fail
     | .arr j=>match nth .none objs j with
      | .arr .. =>match decide (off<cells.length)&&decide (z.length=1)with
       |true=> .ok .any [(k,.box (upd cells off (.arr j)))]
       |false=> .fail
      |_=> .fail
     |_=> .fail
   |_=> .fail
  | .elt k i off=>match nth .none objs k with
   | .arr s es false=>match x with
    | .c d=>match decide (z.length=1)&&!y9 C.P t with
     |true=> .cond (off<s) .any [(k,.arr s (upd es i (upd (nth [] es i) off d)) false)]
     |false=> .fail
    | .ag ds=>match decide (ds.length=z.length)&&y9 C.P t with
     |true=> .cond (off+ds.length<=s) .any [(k,.arr s (upd es i (zU (nth [] es i) off ds)) false)]
     |false=> .fail
    |_=> .fail
   |_=> .fail
  |_=> .fail
def Ks (C:Cx) (dst:Option Nat) (objs:List Obj) (ts:Array TypeId) (x y:V):R:=
 match dst with
 |none=> .fail
 |some d=>match qD objs d with
  |false=> .fail
  |true=>match ts.toList with
   |[t,t2]=>match TW C.P t,decide (t2=t)with
    |some e,true=>match Q1 objs y,ka C.P e with
     |some ys,some z=>match decide (C.P.bytesOf e<=4096)&&decide (0<z.length)with
      |true=>match x with
       | .nilS=> .cond (Pw (W2 (C.P.bytesOf e) 56&&W2 z.length 4) ys.length/\lens z.length ys) (.arr d) [(d,.arr z.length ys false)]
       | .arr k=>match nth .none objs k with
        | .arr s es false=>match decide (s=z.length)&&!decide (k=d)with
         |true=> .cond (Pw (W2 (C.P.bytesOf e) 56&&W2 z.length 4) (es.length+ys.length)/\lens z.length ys) (.arr d) [(k,.dead),(d,.arr s (es++ys) false)]
         |false=> .fail
        |_=> .fail
       | .sub k o n=>match W2 o 0,nth .none objs k with
        |true,.arr s es false=>match decide (s=z.length)&&!decide (k=d)with
         |true=> .cond (Pw (W2 (C.P.bytesOf e) 56&&W2 z.length 4) ((es.take n).length+ys.length)/\lens z.length ys) (.arr d) [(k,.dead),(d,.arr s (es.take n++ys) false)]
         |false=> .fail
        |_,_=> .fail
       |_=> .fail
      |false=> .fail
     |_,_=> .fail
    |_,_=> .fail
   |_=> .fail
def iO (P:Program) (objs:List Obj) (ts:Array TypeId) (x:V):R:=
 match ts.toList with
 |[t]=>match P.underlying t with
  |some .string=>match x with
   | .c (.str s)=> .ok (.c (.int .i64 s.length)) []
   |_=> .fail
  |some (.slice _)=>match x with
   | .c (.sl es)=> .ok (.c (.int .i64 es.length)) []
   | .nilS=> .ok (.c (.int .i64 0)) []
   | .arr k=>match nth .none objs k with
    | .arr _ es _=> .ok (.c (.int .i64 es.length)) []
    |_=> .fail
   | .sub k _ l=>match nth .none objs k with
    | .arr _ _ _=> .ok (.c (.int .i64 l)) []
    |_=> .fail
   |_=> .fail
  |_=> .fail
 |_=> .fail
def Kt (C:Cx) (objs:List Obj) (ts:Array TypeId) (x:V):R:=
 match ts.toList with
 |[t]=>match TW C.P t with
  |some e=>match ka C.P e,x with
   |some z,.sub k o l=>match nth .none objs k with
    | .arr s es false=>match W2 s z.length with
     |true=> .cond (0<l) .any [(k,.arr s (es.take o++(Sz l (z.map zD)++es.drop (o+l))) false)]
     |false=> .fail
    |_=> .fail
   |_,_=> .fail
  |none=> .fail
 |_=> .fail
def vI (C:Cx) (objs:List Obj) (f:Nat) (args:List V):R:=
 match C.P.funcs[f]? with
 |none=> .fail
 |some fn=>match fn.body.isSome&&!(fn.name== "runtime.NumGoroutine")with
  |false=> .fail
  |true=>match yx objs args,aq C.P fn.resultTypes.toList with
   |some (as,us),some sh=>match zN sh with
    |true=> .call f as sh us
    |false=> .call f as sh []
   |_,_=> .fail
def Qa (C:Cx) (objs:List Obj) (t:TypeId) (x i:V):R:=
 match i with
 | .c (.int _ n)=>match C.P.underlying t with
  |some (.slice e)=>match x with
   | .c (.sl es)=>match decide (0<C.P.cellsOf e)with
    |true=> .cond (0<=n/\n<es.length/\(nth [] es n.toNat).length=C.P.cellsOf e) (.eref es n.toNat 0) []
    |false=> .fail
   | .arr k=>match nth .none objs k with
    | .arr s es _=>match decide (s=C.P.cellsOf e)with
     |true=> .cond (0<=n/\n<es.length) (.elt k n.toNat 0) []
     |false=> .fail
    |_=> .fail
   | .sub k o l=>match nth .none objs k with
    | .arr s _ _=>match decide (s=C.P.cellsOf e)with
     |true=> .cond (0<=n/\n<l) (.elt k (o+n.toNat) 0) []
     |false=> .fail
    |_=> .fail
   |_=> .fail
  |some (.array len e)=>match x with
   | .box k off=>match nth .none objs k with
    | .box _=>match n with
     | .ofNat m=>match decide (m<len)&&decide (0<C.P.cellsOf e)with
      |true=> .ok (.box k (off+m*C.P.cellsOf e)) []
      |false=> .fail
     |_=> .fail
    |_=> .fail
   | .eref es j off=>match n with
    | .ofNat m=>match decide (m<len)&&decide (0<C.P.cellsOf e)with
     |true=> .ok (.eref es j (off+m*C.P.cellsOf e)) []
     |false=> .fail
    |_=> .fail
   |_=> .fail
  |_=> .fail
 |_=> .fail
def TY (objs:List Obj):List V->Option (List D×List (Nat×Obj))
 |[]=>some ([],[])
 |v::r=>match v with
  | .box k 0=>match nth .none objs k with
   | .box cells=>match qC cells,TY objs r with
    |some ds,some (ps,us)=>some (.ptr ds::ps,(k,.dead)::us)
    |_,_=>none
   |_=>none
  | .eref [ds] 0 0=>match TY objs r with
   |some (ps,us)=>some (.ptr ds::ps,us)
   |none=>none
  |_=>none
def funV (f:Nat):List D->V
 |[]=> .c (.fn f)
 |ps=> .c (.clo f ps)
def xr (C:Cx) (o:Oper) (ρ:Operand->V) (objs:List Obj):R:=
 match o.op with
 | .move x| .assign x=> .ok (ρ x) []
 | .pick c a b=>match ρ c with
  | .c (.bool t)=>match t with
   |true=> .ok (ρ a) []
   |false=> .ok (ρ b) []
  |_=> .fail
 | .alloc t=>match o.dst with
  |some d=>match qD objs d,ka C.P t with
   |true,some z=>match C.bt t with
    |false=> .ok (.box d 0) [(d,.box (z.map Q0))]
    |true=>match z with
     |[.pointer none,.slice none 0 0]=> .ok (.box d 0) [(d,.bld t .nilS)]
     |_=> .fail
   |_,_=> .fail
  |none=> .fail
 | .box t x=>match o.dst with
  |some d=>match qD objs d with
   |true=>match y9 C.P t,ρ x with
    |true,.ag cs=> .ok (.box d 0) [(d,.box (cs.map V.c))]
    |false,.c v=> .ok (.box d 0) [(d,.box [.c v])]
    |false,.nilS=> .ok (.box d 0) [(d,.box [.nilS])]
    |_,_=> .fail
   |false=> .fail
  |none=> .fail
 | .build t parts=>match ka C.P t,Nj C.P t with
  |some z,some pl=>match zS objs ρ parts.toList with
   |some (ps,us)=>match H3 pl ps (z.map zD)with
    |some cs=> .ok (.ag cs) us
    |none=> .fail
   |none=> .fail
  |_,_=> .fail
 | .buildSlice t len parts=>match o.dst with
  |some d=>match qD objs d,TW C.P t with
   |true,some e=>match ka C.P e,zS objs ρ parts.toList with
    |some z,some (ps,us)=>match Kr z.length ps (Sz len (z.map zD))with
     |some es=>match decide (len*z.length<=1000)&&decide (0<z.length)with
      |true=> .ok (.arr d) (us++[(d,.arr z.length es false)])
      |false=> .fail
     |none=> .fail
    |_,_=> .fail
   |_,_=> .fail
  |none=> .fail
 | .load t a=>Fe C t objs (ρ a)
 | .store t a x=>Nk C t objs (ρ a) (ρ x)
 | .nilCheck x=>match ρ x with
  | .box k off=>match nth .none objs k with
   | .box _=> .ok (.box k off) []
   |_=> .fail
  |_=> .fail
 | .binOp op t x y _=>cA C.P op t x y (ρ x) (ρ y)
 | .unOp op _ x=>unV op (ρ x)
 | .convert src dst x=>match S9 C.P src dst with
  |true=>match ρ x with
   | .c (.str s)=> .cond (room s.length) (.c (.sl (Xr s))) []
   |_=> .fail
  |false=>match C.P.underlying src with
   |some _=>Fc C.P dst (ρ x)
   |none=> .fail
 | .makeSlice t l c=>match o.dst with
  |some d=>match qD objs d,TW C.P t with
   |true,some e=>match ka C.P e,ρ l,ρ c with
    |some z,.c (.int .i64 l),.c (.int .i64 c)=>match decide (C.P.bytesOf e<=4096)&&decide (0<z.length)with
     |true=> .cond (0<=l/\l<=c/\room c.toNat) (.arr d) [(d,.arr z.length (Sz l.toNat (z.map zD)) false)]
     |false=> .fail
    |_,_,_=> .fail
   |_,_=> .fail
  |none=> .fail
 | .slice t x lo hi mx=>match C.keep t o.dst&&!pg (ρ x)with
  |false=>H2 C.P t objs (ρ x) (jo ρ lo) (jo ρ hi) (jo ρ mx)
  |true=>TX C.P t objs (ρ x) (jo ρ lo) (jo ρ hi) (jo ρ mx)
 | .fieldAddr t x f=>match Kq C.P t f with
  |some (off,ft)=>match decide (C.P.cellsOf ft=0)with
   |true=> .fail
   |false=>match ρ x with
    | .box k o=>match nth .none objs k with
     | .box _=> .ok (.box k (o+off)) []
     |_=> .fail
    | .elt k i o=>match nth .none objs k with
     | .arr .. => .ok (.elt k i (o+off)) []
     |_=> .fail
    | .eref es i o=> .ok (.eref es i (o+off)) []
    |_=> .fail
  |none=> .fail
 | .field t x f=>match Kq C.P t f,ρ x with
  |some (off,ft),.ag cs=>match ka C.P ft with
   |some z=>match decide (off+z.length<=cs.length)with
    |true=>match y9 C.P ft with
     |true=> .ok (.ag (seg cs off z.length)) []
     |false=>match decide (0<z.length)with
      |true=> .ok (.c (nth .undef cs off)) []
      |false=> .fail
    |false=> .fail
   |none=> .fail
  |_,_=> .fail
 | .indexAddr t x i=>Qa C objs t (ρ x) (ρ i)
 | .index t x i=>match C.P.underlying t,ρ x,ρ i with
  |some .string,.c (.str s),.c (.int _ n)=> .cond (0<=n/\n<s.length) (.c (.int .u8 (nth 0 s n.toNat).toNat)) []
  |_,_,_=> .fail
 | .makeFunc fn first captured=>match fn,first.toList with
  | .func f,[]=>match TY objs (captured.toList.map ρ)with
   |some (ps,us)=> .ok (funV f ps) us
   |none=> .fail
  |_,_=> .fail
 | .extract x i=>match ρ x with
  | .tp as=>match decide (i<as.length)with
   |true=>match nth (A.c .undef) as i with
    | .c d=> .ok (.c d) []
    | .ag cs=> .ok (.ag cs) []
   |false=> .fail
  |_=> .fail
 | .call c=>match c.callee with
  | .value (.func f)=>match C.eff f with
   |some e=>e o.dst (c.args.toList.map ρ) objs
   |none=>vI C objs f (c.args.toList.map ρ)
  | .value (.tmp t)=>match ρ (.tmp t)with
   | .c (.fn f)=>match C.eff f with
    |some _=> .fail
    |none=>vI C objs f (c.args.toList.map ρ)
   | .c (.clo f ps)=>match C.eff f with
    |some _=> .fail
    |none=>vI C objs f (c.args.toList.map ρ++ps.map V.c)
   |_=> .fail
  | .builtin .len=>match c.args.toList with
   |[x]=>iO C.P objs c.argTypes (ρ x)
   |_=> .fail
  | .builtin .append=>match c.args.toList with
   |[x,y]=>Ks C o.dst objs c.argTypes (ρ x) (ρ y)
   |_=> .fail
  | .builtin .clear=>match c.args.toList with
   |[x]=>Kt C objs c.argTypes (ρ x)
   |_=> .fail
  | .builtin .max=>match c.args.toList with
   |[x,y]=>mxV true (ρ x) (ρ y)
   |_=> .fail
  | .builtin .min=>match c.args.toList with
   |[x,y]=>mxV false (ρ x) (ρ y)
   |_=> .fail
  |_=> .fail
 |_=> .fail
def upds (objs:List Obj):List (Nat×Obj)->List Obj
 |[]=>objs
 |(k,o)::r=>upds (upd objs k o) r
def w8:List (Nat×Obj)->List Nat->List Nat
 |[],l=>l
 |(k,_)::r,l=>k::w8 r l
def St.put (st:St) (dst:Option Nat) (v:V) (up:List (Nat×Obj)):St:=
 ⟨match dst with|some t=>upd st.tmps t v|none=>st.tmps,upds st.objs up,w8 up st.dirty⟩
def cut (row:List D) (off n:Nat) (ds:List D):Prop:=seg row off n=ds/\off+n<=row.length
def opW (C:Cx) (Gv:Nat->List A->List A->Prop) (o:Oper) (st:St) (K:St->Prop):Prop:=
 match xr C o (ev st) st.objs with
 | .fail=>False
 | .ok v up=>K (st.put o.dst v up)
 | .cond (dc:=_) c v up=>c/\K (st.put o.dst v up)
 | .look z row off ag=>YG z λds=>cut row off z.length ds/\K (st.put o.dst (match ag with|true=> .ag ds|false=> .c (nth .undef ds 0)) [])
 | .call f as sh up=>Fb sh λrs=>Gv f as rs/\K (st.put o.dst (Ht rs) up)
def Q4 (ops:Array Oper) (j:Nat):Option Nat:=
 match ops[j]? with
 |some o=>o.dst
 |none=>none
def Ff (C:Cx) (Gv:Nat->List A->List A->Prop) (ops:Array Oper) (o:Oper) (st:St) (K:St->Prop):Prop:=
 match o.guard with
 |none=>opW C Gv o st K
 |some (j,want)=>match Q4 ops j with
  |none=>False
  |some t=>match nth .any st.tmps t with
   | .c d=>cnd (isB d) (br (toB d)
    (match want with
     |true=>opW C Gv o ⟨upd st.tmps t (.c (.bool true)),st.objs,st.dirty⟩ K
     |false=>K (St.put ⟨upd st.tmps t (.c (.bool true)),st.objs,st.dirty⟩ o.dst .no []))
    (match want with
     |false=>opW C Gv o ⟨upd st.tmps t (.c (.bool false)),st.objs,st.dirty⟩ K
     |true=>K (St.put ⟨upd st.tmps t (.c (.bool false)),st.objs,st.dirty⟩ o.dst .no [])))
   | .no=>K (St.put st o.dst .no [])
   |_=>False
def wpL (C:Cx) (Gv:Nat->List A->List A->Prop) (ops:Array Oper):List Oper->St->(St->Prop)->Prop
 |[],st,K=>K st
 |o::rest,st,K=>Ff C Gv ops o st λs=>wpL C Gv ops rest s K
end Eng
end
section
namespace Eng
open Go
def cls (C:Cx) (o:Oper):Nat:=
 match o.op with
 | .move _| .assign _| .pick .. | .alloc _| .box .. | .binOp .. | .unOp .. | .convert .. | .makeSlice .. | .field .. | .index .. | .extract .. =>0
 | .load .. | .nilCheck _| .fieldAddr .. | .build .. | .buildSlice .. | .slice .. | .indexAddr .. =>1
 | .call c=>match c.callee with
  | .value (.func f)=>match C.eff f with
   |some _=>2
   |none=>1
  | .value (.tmp _)=>1
  | .builtin .len=>1
  |_=>2
 |_=>2
def Nl (m j:Nat):Bool:=W2 (Nat.land (Nat.shiftRight m j) 1) 1
def Q5 (es:List Edge) (anc:List Nat):Nat:=
 match es with
 |[]=>0
 |e::r=>match Region.binds .any e with
  |true=>Nat.lor (Nat.lor (Nat.pow 2 e.on) (nth 0 anc e.on)) (Q5 r anc)
  |false=>Q5 r anc
def anc:List Oper->List Nat->List Nat
 |[],acc=>acc
 |o::r,acc=>anc r (acc++[Q5 o.after.toList acc])
def V6:Nat->List Nat->Bool
 |_,[]=>false
 |n,m::r=>match W2 n m with
  |true=>true
  |false=>V6 n r
def ar:Operand->List Nat
 | .tmp t=>[t]
 |_=>[]
def looks (ops:List Oper) (o:Oper):List Nat:=
 (o.op.operands.toList.flatMap ar)++
 (match o.guard with
  |some (j,_)=>match(nth default ops j).dst with
   |some t=>[t]
   |none=>[]
  |none=>[])
def oh (o:Oper):List Nat:=
 match o.dst with
 |some t=>[t]
 |none=>[]
def SA (C:Cx) (o:Oper):List Nat:=
 match o.dst with
 |some t=>match o.op with
  | .call c=>match c.callee with
   | .value (.func f)=>match C.wd f with
    |true=>[t,t+1]
    |false=>[t]
   |_=>[t]
  |_=>[t]
 |none=>[]
def Fg:List Nat->List Nat->Bool
 |[],_=>true
 |a::r,l=>!V6 a l&&Fg r l
def Fh (C:Cx) (ops:List Oper) (a b:Oper):Bool:=
 Fg (SA C a) (SA C b)&&Fg (oh a) (looks ops b)&&Fg (oh b) (looks ops a)
def Fi (C:Cx) (a b:Oper):Bool:=
 W2 (cls C a) 0||W2 (cls C b) 0||(W2 (cls C a) 1&&W2 (cls C b) 1)
def cB (C:Cx) (ops:List Oper) (a b:Oper):Bool:=Fh C ops a b&&Fi C a b
abbrev Rec:=List Nat×List Nat
def iP (a b:Rec):Bool:=Fg a.2 b.1&&Fg b.2 a.1&&Fg a.2 b.2
def SC (C:Cx) (ops:List Oper) (a b:Oper) (ra rb:Rec):Bool:=Fh C ops a b&&(Fi C a b||iP ra rb)
def Ku (C:Cx) (ops:List Oper) (a:Oper) (ancA:Nat):List Oper->Nat->Bool
 |[],_=>true
 |b::r,j=>(Nl ancA j||cB C ops b a)&&Ku C ops a ancA r (j+1)
def TZ (es:List Edge) (i:Nat):Bool:=
 match es with
 |[]=>true
 |e::r=>(match Region.binds .any e with|true=>bd e.on i|false=>true)&&TZ r i
def Qb (C:Cx) (all:List Oper) (an:List Nat):List Oper->Nat->Bool
 |[],_=>true
 |o::r,i=>Ku C all o (nth 0 an i) (all.take i) 0&&TZ o.after.toList i&&Qb C all an r (i+1)
def Xs (C:Cx) (ops:List Oper):Bool:=Qb C ops (anc ops []) ops 0
def Xt (C:Cx) (ops:List Oper) (a:Oper) (ra:Rec) (ancA:Nat):List Oper->List Rec->Nat->Bool
 |[],_,_=>true
 |b::r,rs,j=>(Nl ancA j||SC C ops b a (nth ([],[]) rs 0) ra)&&Xt C ops a ra ancA r (rs.drop 1) (j+1)
def vJ (C:Cx) (all:List Oper) (recs:List Rec) (an:List Nat):List Oper->Nat->Bool
 |[],_=>true
 |o::r,i=>Xt C all o (nth ([],[]) recs i) (nth 0 an i) (all.take i) recs 0&&TZ o.after.toList i&&vJ C all recs an r (i+1)
def Xu (C:Cx) (ops:List Oper) (recs:List Rec):Bool:=vJ C ops recs (anc ops []) ops 0
def qn:V->List Nat
 | .box k _=>[k]
 | .arr k=>[k]
 | .elt k _ _=>[k]
 | .sub k _ _=>[k]
 | .arrAt k _ _ _=>[k]
 | .boxAt k _=>[k]
 |_=>[]
def La (ρ:Operand->V):List Operand->List Nat
 |[]=>[]
 |x::r=>qn (ρ x)++La ρ r
def H4 (ob:List Obj):List Nat->List Nat
 |[]=>[]
 |k::r=>(match nth .none ob k with
  | .bld _ q=>k::qn q
  |_=>[k])++H4 ob r
def H5:List V->List Nat
 |[]=>[]
 |v::r=>qn v++H5 r
def yy (ob:List Obj):List Nat->List Nat
 |[]=>[]
 |k::r=>(match nth .none ob k with
  | .bld _ q=>k::qn q
  | .box cs=>k::H5 cs
  |_=>[k])++yy ob r
def iQ (o:Oper):Bool:=match o.op with
 | .call c=>match c.callee with
  | .value (.func _)=>true
  |_=>false
 |_=>false
def opk (o:Oper) (ρ:Operand->V) (ob:List Obj):List Nat:=match iQ o with
 |true=>yy ob (La ρ o.op.operands.toList)
 |false=>H4 ob (La ρ o.op.operands.toList)
def oi (C:Cx) (Gv:Nat->List A->List A->Prop) (ops:Array Oper):List Oper->St->List Rec->(St->List Rec->Prop)->Prop
 |[],st,rs,K=>K st rs
 |o::rest,st,rs,K=>Ff C Gv ops o ⟨st.tmps,st.objs,[]⟩ λs=>oi C Gv ops rest ⟨s.tmps,s.objs,s.dirty++st.dirty⟩ (rs++[(opk o (ev st) st.objs,s.dirty)]) K
inductive X where
 |normal
 |exit (id:Nat)
 |ret
inductive MC where
 |dat (z:Value)
 |own (key size:Nat)
inductive Loc where
 |slot (s:Nat) (z:Value)
 |box (k:Nat) (zs:List Value)
 |own (s key size:Nat)
 |mix (k:Nat) (ms:List MC)
structure Ann where
 locs:List Loc
 gh:List Loc
 inv:List D->List D->Prop
 meas:List D->Nat
def kY:Code->Nat
 | .seq a b=>kY a+kY b
 | .cond _ a b=>kY a+kY b
 | .block _ c=>kY c
 | .loop c=>kY c+1
 |_=>0
def SD:List Oper->List Nat
 |[]=>[]
 |o::r=>match o.dst with
  |some t=>t::SD r
  |none=>SD r
def Lb:Code->List Nat
 | .region _ ops _=>SD ops.toList
 | .seq a b=>Lb a++Lb b
 | .cond _ a b=>Lb a++Lb b
 | .block _ c=>Lb c
 | .loop c=>Lb c
 |_=>[]
def Q6 (tmps:List V):List Nat->List V
 |[]=>tmps
 |s::r=>Q6 (upd tmps s .any) r
def wL (objs:List Obj):List Nat->List Obj
 |[]=>objs
 |s::r=>wL (upd objs s .none) r
def yB (l:List Nat):Nat->List V->List V
 |_,[]=>[]
 |i,v::r=>(match V6 i l with|true=> .any|false=>v)::yB l (i+1) r
def Kv (tmps:List V) (l:List Nat):List V:=yB l 0 tmps
def w9 (l:List Nat):Nat->List Obj->List Obj
 |_,[]=>[]
 |i,v::r=>(match V6 i l with|true=> .none|false=>v)::w9 l (i+1) r
def vK (objs:List Obj) (l:List Nat):List Obj:=w9 l 0 objs
def zF:List MC->List Nat
 |[]=>[]
 | .dat _::r=>zF r
 | .own key _::r=>key::zF r
def qP:List Loc->List Nat
 |[]=>[]
 | .slot s _::r=>s::qP r
 | .own s _ _::r=>s::qP r
 | .box .. ::r=>qP r
 | .mix .. ::r=>qP r
def xL:List Loc->List Nat
 |[]=>[]
 | .own _ k _::r=>k::xL r
 | .box k _::r=>k::xL r
 | .mix k ms::r=>k::(zF ms++xL r)
 | .slot .. ::r=>xL r
def ph (ks:List Nat):List Nat->Bool
 |[]=>false
 |k::r=>V6 k ks||ph ks r
def Lc (ks:List Nat):V->Bool
 | .box k _=>V6 k ks
 | .arr k=>V6 k ks
 | .elt k _ _=>V6 k ks
 | .sub k _ _=>V6 k ks
 | .arrAt k _ _ _=>V6 k ks
 | .boxAt k _=>V6 k ks
 |_=>false
def Kw (ks:List Nat):List V->Bool
 |[]=>false
 |v::r=>Lc ks v||Kw ks r
def jp (ks:List Nat):List Obj->Bool
 |[]=>false
 | .box cs::r=>Kw ks cs||jp ks r
 | .bld _ q::r=>Lc ks q||jp ks r
 |_::r=>jp ks r
def au:Obj->Bool
 | .none=>true
 | .dead=>true
 |_=>false
def cC (key:Nat) (st:St):Bool:=
 bd key st.objs.length&&au (nth .none st.objs key)&&!Kw [key] st.tmps&&!jp [key] st.objs
def EP (k:Nat):List MC->Nat->St->Option St
 |[],_,st=>some st
 | .dat _::r,i,st=>match nth .none st.objs k with
  | .box cells=>match nth .any cells i with
   | .nilS=>EP k r (i+1) ⟨st.tmps,upd st.objs k (.box (upd cells i (.c (.sl [])))),k::st.dirty⟩
   |_=>EP k r (i+1) st
  |_=>none
 | .own key size::r,i,st=>match nth .none st.objs k with
  | .box cells=>match nth .any cells i with
   | .nilS=>match cC key st&&bd 0 size with
    |true=>EP k r (i+1) ⟨st.tmps,upd (upd st.objs key (.arr size [] false)) k (.box (upd cells i (.arr key))),key::k::st.dirty⟩
    |false=>none
   | .arr j=>match W2 j key with
    |true=>EP k r (i+1) ⟨st.tmps,st.objs,key::k::st.dirty⟩
    |false=>match nth .none st.objs j with
     | .arr sz es false=>match cC key st with
      |true=>EP k r (i+1) ⟨st.tmps,upd (upd (upd st.objs j .dead) key (.arr sz es false)) k (.box (upd cells i (.arr key))),key::j::k::st.dirty⟩
      |false=>none
     |_=>none
   |_=>none
  |_=>none
def Qw:List Loc->St->Option St
 |[],st=>some st
 | .slot s _::r,st=>match nth .any st.tmps s with
  | .nilS=>Qw r ⟨upd st.tmps s (.c (.sl [])),st.objs,st.dirty⟩
  | .arr k=>match nth .none st.objs k with
   | .arr sz es _=>Qw r ⟨upd st.tmps s (.c (.sl es)),upd st.objs k (.arr sz es true),k::st.dirty⟩
   |_=>none
  |_=>Qw r st
 | .box k _::r,st=>match nth .none st.objs k with
  | .box cells=>match qC cells with
   |some ds=>Qw r ⟨st.tmps,upd st.objs k (.box (ds.map V.c)),k::st.dirty⟩
   |none=>none
  |_=>none
 | .own s key size::r,st=>match nth .any st.tmps s with
  | .nilS=>match cC key st&&bd 0 size with
   |true=>Qw r ⟨upd st.tmps s (.arr key),upd st.objs key (.arr size [] false),key::st.dirty⟩
   |false=>none
  | .arr k=>match W2 k key with
   |true=>Qw r ⟨st.tmps,st.objs,key::st.dirty⟩
   |false=>match nth .none st.objs k with
    | .arr sz es false=>match cC key st with
     |true=>Qw r ⟨upd st.tmps s (.arr key),upd (upd st.objs k .dead) key (.arr sz es false),key::k::st.dirty⟩
     |false=>none
    |_=>none
  | .sub k off len=>match off,nth .none st.objs k with
   |0,.arr sz es false=>match cC key st with
    |true=>Qw r ⟨upd st.tmps s (.arr key),upd (upd st.objs k .dead) key (.arr sz (es.take len) false),key::k::st.dirty⟩
    |false=>none
   |_,_=>none
  |_=>none
 | .mix k ms::r,st=>match EP k ms 0 ⟨st.tmps,st.objs,k::st.dirty⟩with
  |some st'=>Qw r st'
  |none=>none
def isC:V->Bool
 | .c _=>true
 |_=>false
def toC:V->D
 | .c d=>d
 |_=> .undef
def xm:List Value->List V->Bool
 |[],[]=>true
 |z::zs,v::vs=>isC v&&km z (toC v)&&xm zs vs
 |_,_=>false
def cD (key size:Nat) (v:V) (ob:List Obj):Bool:=
 match v with
 | .arr key'=>match nth .none ob key with
  | .arr sz _ false=>W2 key' key&&W2 sz size
  |_=>false
 |_=>false
def wO:List MC->List V->List Obj->Bool
 |[],[],_=>true
 | .dat z::ms,v::vs,ob=>isC v&&km z (toC v)&&wO ms vs ob
 | .own key size::ms,v::vs,ob=>cD key size v ob&&wO ms vs ob
 |_,_,_=>false
def Fj (key:Nat) (ob:List Obj):D:=
 match nth .none ob key with
 | .arr _ es _=> .sl es
 |_=> .undef
def Ho:List MC->List V->List Obj->List D
 | .dat _::ms,v::vs,ob=>toC v::Ho ms vs ob
 | .own key _::ms,_::vs,ob=>Fj key ob::Ho ms vs ob
 |_,_,_=>[]
def Nm:List MC->Nat->List D->List Obj->List Obj
 |[],_,_,ob=>ob
 | .dat _::ms,i,us,ob=>Nm ms (i+1) us ob
 | .own key size::ms,i,us,ob=>Nm ms (i+1) us (upd ob key (.arr size (toL (nth .undef us i)) false))
def cE:List MC->Nat->List D->List V
 |[],_,_=>[]
 | .dat _::ms,i,us=> .c (nth .undef us i)::cE ms (i+1) us
 | .own key _::ms,i,us=> .arr key::cE ms (i+1) us
def zsM:List MC->List Value
 |[]=>[]
 | .dat z::r=>z::zsM r
 | .own .. ::r=> .slice none 0 0::zsM r
def zT:List Loc->St->Bool
 |[],_=>true
 | .slot s z::r,st=>isC (nth .any st.tmps s)&&km z (toC (nth .any st.tmps s))&&zT r st
 | .box k zs::r,st=>match nth .none st.objs k with
  | .box cells=>xm zs cells&&zT r st
  |_=>false
 | .own s key size::r,st=>match nth .any st.tmps s with
  | .arr k=>match nth .none st.objs key with
   | .arr sz _ false=>W2 k key&&W2 sz size&&zT r st
   |_=>false
  |_=>false
 | .mix k ms::r,st=>match nth .none st.objs k with
  | .box cells=>wO ms cells st.objs&&zT r st
  |_=>false
def z6:List Loc->St->List D
 |[],_=>[]
 | .slot s _::r,st=>toC (nth .any st.tmps s)::z6 r st
 | .box k _::r,st=>(match nth .none st.objs k with
  | .box cells=>cells.map toC
  |_=>[])++z6 r st
 | .own _ key _::r,st=>(match nth .none st.objs key with
  | .arr _ es _=> .sl es
  |_=> .undef)::z6 r st
 | .mix k ms::r,st=>(match nth .none st.objs k with
  | .box cells=>Ho ms cells st.objs
  |_=>[])++z6 r st
def Py:List Nat->List Nat->List Nat
 |[],_=>[]
 |a::r,l=>match V6 a l with
  |true=>Py r l
  |false=>a::Py r l
def norm (mt ms:List Nat) (locs:List Loc) (st:St):Option St:=
 match Qw locs ⟨Kv st.tmps (Py mt (qP locs)),st.objs,st.dirty⟩with
 |none=>none
 |some s1=>match Kw ms s1.tmps||jp ms (vK s1.objs ms)||!zT locs ⟨s1.tmps,vK s1.objs ms,[]⟩with
  |true=>none
  |false=>some ⟨s1.tmps,vK s1.objs ms,ms++s1.dirty⟩
def JD:Code->Option Nat
 | .region id _ _=>some id
 | .seq a _=>JD a
 | .block _ c=>JD c
 | .loop c=>JD c
 |_=>none
def av (anns:Nat->Ann) (b:Code):Option Ann:=
 match JD b with
 |some r=>match anns (1000000+r)with
  |⟨.box k []::ls,gh,inv,meas⟩=>match W2 k 999999 with
   |true=>some ⟨ls,gh,inv,meas⟩
   |false=>none
  |_=>none
 |none=>none
def Kx (anns:Nat->Ann) (b:Code):List Nat:=
 match av anns b with
 |some J=>qP J.locs
 |none=>[]
def V7 (base:Nat->Ann) (r:Nat) (J:Ann):Nat->Ann:=λn=>
 match W2 n (1000000+r)with
 |true=>⟨.box 999999 []::J.locs,J.gh,J.inv,J.meas⟩
 |false=>base n
def kZ (anns:Nat->Ann):Nat->Code->List Nat
 |_,.region _ ops _=>SD ops.toList
 |n,.seq a b=>kZ anns n a++(kZ anns (n+kY a) b++Kx anns b)
 |n,.cond _ a b=>kZ anns n a++kZ anns (n+kY a) b
 |n,.block _ c=>kZ anns n c
 |n,.loop c=>qP (anns n).locs++kZ anns (n+1) c
 |_,_=>[]
def putCells:List Value->Nat->List D->List V
 |[],_,_=>[]
 |_::zs,i,us=> .c (nth .undef us i)::putCells zs (i+1) us
def fill:List Loc->Nat->List D->St->St
 |[],_,_,st=>st
 | .slot s _::r,i,us,st=>fill r (i+1) us ⟨upd st.tmps s (.c (nth .undef us i)),st.objs,st.dirty⟩
 | .box k zs::r,i,us,st=>fill r (i+zs.length) us ⟨st.tmps,upd st.objs k (.box (putCells zs i us)),st.dirty⟩
 | .own s key size::r,i,us,st=>fill r (i+1) us ⟨upd st.tmps s (.arr key),upd st.objs key (.arr size (toL (nth .undef us i)) false),st.dirty⟩
 | .mix k ms::r,i,us,st=>fill r (i+ms.length) us ⟨st.tmps,upd (Nm ms i us st.objs) k (.box (cE ms i us)),st.dirty⟩
def SE (g:Bool):Nat->List Value->(List D->Prop)->Prop
 |0,_,_=>False
 |_+1,[],K=>K []
 |n+1,z::r,K=>match Px (z::r)with
  |some q=>∀x:C66,SE g n q λus=>K (ck x us)
  |none=>match yA 5 (z::r)with
   |some q=>∀x:P20,SE g n q λus=>K (pk x us)
   |none=>match(match g with|true=>Fa (z::r)|false=>none)with
    |some q=>∀x:R4,SE g n q λus=>K (rk x us)
    |none=>match z with
     | .int k _=>∀i:Int,SE g n r λus=>K (.int k i::us)
     | .bool _=>∀b:Bool,SE g n r λus=>K (.bool b::us)
     | .string _=>∀s:List UInt8,SE g n r λus=>K (.str s::us)
     | .slice .. =>∀es:List (List D),SE g n r λus=>K (.sl es::us)
     |_=>∀d:D,SE g n r λus=>K (d::us)
def pi (z:List Value) (K:List D->Prop):Prop:=SE (pd z) (z.length+1) z K
def SF:List Loc->List Value
 |[]=>[]
 | .slot _ z::r=>z::SF r
 | .box _ zs::r=>zs++SF r
 | .own .. ::r=> .slice none 0 0::SF r
 | .mix _ ms::r=>zsM ms++SF r
def H6:List Nat->List Nat->Bool
 |[],_=>true
 |a::r,l=>V6 a l&&H6 r l
def oj {α:Type}:List α->(List α->Prop)->Prop
 |[],k=>k []
 |x::r,k=>oj r λr'=>k (x::r')
theorem Ld{α:Type}:∀(l:List α) (k:List α->Prop),oj l k=k l
 |[],_=>rfl
 |_::r,_=>Ld r _
def cF (st:St) (k:St->Prop):Prop:=oj st.tmps λt=>oj st.objs λo=>k ⟨t,o,st.dirty⟩
theorem Lf(st:St)(k:St->Prop):cF st k=k st:=by
 unfold cF;rw[Ld,Ld]
def pj (p:Prop):Prop:=p
def wpC (C:Cx) (Gv:Nat->List A->List A->Prop) (anns:Nat->Ann):Nat->Code->(X->St->Prop)->St->Prop
 |_,.skip,Q,st=>Q .normal st
 |_,.region _ ops d,Q,st=>match d with
  |true=>match Xs C ops.toList with
   |true=>wpL C Gv ops ops.toList st λs=>cF s (Q .normal)
   |false=>oi C Gv ops ops.toList st [] λs rs=>cnd (Xu C ops.toList rs) (cF s (Q .normal))
  |false=>wpL C Gv ops ops.toList st λs=>cF s (Q .normal)
 |n,.seq a b,Q,st=>match av anns b with
  |none=>wpC C Gv anns n a (λe s=>match e with
   | .normal=>wpC C Gv anns (n+kY a) b Q s
   | .exit i=>Q (.exit i) s
   | .ret=>Q .ret s) st
  |some J=>pj (wpC C Gv anns n a (λe s=>match e with
   | .normal=>match norm (kZ anns n a) (Lb a) J.locs s with
    |none=>False
    |some m'=>cnd (H6 m'.dirty (Lb a++xL J.locs)) (J.inv (z6 J.gh st) (z6 J.locs m'))
   | .exit i=>Q (.exit i) ⟨s.tmps,s.objs,s.dirty++st.dirty⟩
   | .ret=>Q .ret ⟨s.tmps,s.objs,s.dirty++st.dirty⟩) ⟨st.tmps,st.objs,[]⟩)/\
   pi (SF J.locs) λus=>J.inv (z6 J.gh st) us->cF (fill J.locs 0 us ⟨Kv st.tmps (kZ anns n a++qP J.locs),vK st.objs (Lb a++xL J.locs),Lb a++(xL J.locs++st.dirty)⟩) (wpC C Gv anns (n+kY a) b Q)
 |n,.cond c x y,Q,st=>match ev st c with
  | .c d=>cnd (isB d) (br (toB d) (wpC C Gv anns n x Q st) (wpC C Gv anns (n+kY x) y Q st))
  |_=>False
 |n,.block id c,Q,st=>wpC C Gv anns n c (λe s=>match e with
  | .normal=>Q .normal s
  | .exit i=>match W2 i id with
   |true=>Q .normal s
   |false=>Q (.exit i) s
  | .ret=>Q .ret s) st
 |_,.exit id,Q,st=>Q (.exit id) st
 |_,.ret,Q,st=>Q .ret st
 |n,.loop body,Q,st=>
  match norm (kZ anns (n+1) body) (Lb body) (anns n).locs st with
  |none=>False
  |some m=>(anns n).inv (z6 (anns n).gh m) (z6 (anns n).locs m)/\pi (SF (anns n).locs) λus=>(anns n).inv (z6 (anns n).gh m) us->
   cF (fill (anns n).locs 0 us ⟨m.tmps,m.objs,[]⟩) (wpC C Gv anns (n+1) body (λe s=>match e with
    | .normal=>match norm (kZ anns (n+1) body) (Lb body) (anns n).locs s with
     |none=>False
     |some m'=>cnd (H6 m'.dirty (Lb body++xL (anns n).locs)) ((anns n).inv (z6 (anns n).gh m) (z6 (anns n).locs m')/\(anns n).meas (z6 (anns n).locs m')<(anns n).meas us)
    | .exit i=>Q (.exit i) ⟨s.tmps,s.objs,s.dirty++m.dirty⟩
    | .ret=>Q .ret ⟨s.tmps,s.objs,s.dirty++m.dirty⟩))
 |_,_,_,_=>False
def toR (objs:List Obj) (v:V):Option A:=
 match toA objs v with
 |some (a,_)=>some a
 |none=>none
def Lg (C:Cx) (st:St):List ResultVar->Option (List A)
 |[]=>some []
 | .tmp t::r=>match toR st.objs (nth .any st.tmps t),Lg C st r with
  |some a,some as=>some (a::as)
  |_,_=>none
 | .cell a t::r=>match nth .any st.tmps a with
  | .box k 0=>match nth .none st.objs k,ka C.P t with
   | .box cells,some z=>match decide (cells.length=z.length),qC cells,Lg C st r with
    |true,some ds,some as=>match y9 C.P t with
     |true=>some (.ag ds::as)
     |false=>some (.c (nth .undef ds 0)::as)
    |_,_,_=>none
   |_,_=>none
  |_=>none
def cG:A->V
 | .c (.ptr cs)=> .eref [cs] 0 0
 | .c d=> .c d
 | .ag cs=> .ag cs
def Q7 (n:Nat) (args:List A):St:=
 ⟨args.map cG++Sz (n-args.length) .any,Sz (n+8) .none,[]⟩
def wpF (C:Cx) (Gv:Nat->List A->List A->Prop) (anns:Nat->Ann) (fn:Func) (args:List A) (Q:List A->Prop):Prop:=
 match fn.body with
 |none=>False
 |some c=>wpC C Gv anns 0 c (λe s=>match e with
  | .normal| .ret=>match Lg C s fn.results.toList with
   |some as=>Q as
   |none=>False
  | .exit _=>False) (Q7 fn.ntmps args)
end Eng
end
section
namespace Eng
open Go Go.RowKit
inductive CD (w:World) (F:Nat->Prop):D->Value->Prop
 |undef (v:Value) (h:v.oneCell'=true):CD w F .undef v
 |bool (b:Bool):CD w F (.bool b) (.bool b)
 |int (k:IntKind) (n:Int):CD w F (.int k n) (.int k n)
 |str (s:List UInt8):CD w F (.str s) (.string ⟨⟨s⟩⟩)
 |nil (a:Option Addr) (c:Nat):CD w F (.sl []) (.slice a 0 c)
 |sl (es:List (List D)) (b o c size:Nat) (vs:Nat->Value) (hlc:es.length<=c) (hs:∀e∈es,e.length=size) (hF:F b)
  (hc:∀j,j<es.length*size->w.cell? ⟨b,o+j,none⟩=some (vs j)) (hd:∀j,j<es.length*size->CD w F (nth .undef es.flatten j) (vs j)):
  CD w F (.sl es) (.slice (some ⟨b,o,none⟩) es.length c)
 |nilI:CD w F (.ifc true) .nilIface
 |someI (t:Nat) (v:Value) (h:(Value.iface t v).oneCell'=true):CD w F (.ifc false) (.iface t v)
 |nilP:CD w F .nilP (.pointer none)
 |fn (f:Nat):CD w F (.fn f) (.func (.func f) #[] #[])
 |ptr (cs:List D) (b o:Nat) (vs:Nat->Value) (hF:F b) (hc:∀j,j<cs.length->w.cell? ⟨b,o+j,none⟩=some (vs j)) (hd:∀j,j<cs.length->CD w F (nth .undef cs j) (vs j)):CD w F (.ptr cs) (.pointer (some ⟨b,o,none⟩))
 |clo (f:Nat) (ps:List D) (vs:Nat->Value) (hd:∀j,j<ps.length->CD w F (nth .undef ps j) (vs j)):CD w F (.clo f ps) (.func (.func f) #[] ((V1 ps.length).map vs).toArray)
theorem CD.one{w:World}{F:Nat->Prop}{d:D}{v:Value}(h:CD w F d v):v.oneCell'=true:=by
 cases h<;>first|grind|rfl
theorem CD.mono{w w':World}{F F':Nat->Prop}{d:D}{v:Value}(h:CD w F d v)(hF:∀b,F b->F' b)(hw:∀b,F b->w'.heap[b]? =w.heap[b]?):CD w' F' d v:=by
 induction h with
 |undef v h=>exact .undef v h
 |bool b=>exact .bool b
 |int k n=>exact .int k n
 |str s=>exact .str s
 |nil a c=>exact .nil a c
 |sl es b o c size vs hlc hs hFb hc _ ih=>refine .sl es b o c size vs hlc hs (hF _ hFb) (λj hj=>?_) (λj hj=>ih j hj);rw[<-hc j hj];exact M1 (w:=w) (hw b hFb)
 |nilI=>exact .nilI
 |someI t v h=>exact .someI t v h
 |nilP=>exact .nilP
 |fn f=>exact .fn f
 |ptr cs b o vs hFb hc _ ih=>refine .ptr cs b o vs (hF _ hFb) (λj hj=>?_) (λj hj=>ih j hj);rw[<-hc j hj];exact M1 (w:=w) (hw b hFb)
 |clo f ps vs _ ih=>exact .clo f ps vs λj hj=>ih j hj
def All2 {α β:Type} (R:α->β->Prop):List α->List β->Prop
 |[],[]=>True
 |a::as,b::bs=>R a b/\All2 R as bs
 |_,_=>False
theorem All2.length{α β:Type}{R:α->β->Prop}:∀{as:List α} {bs:List β},All2 R as bs->as.length=bs.length
 |[],[],_=>rfl
 |_::as,_::bs,h=>by simp[All2.length h.2]
 |[],_::_,h=>h.elim
 |_::_,[],h=>h.elim
theorem All2.mono{α β:Type}{R R':α->β->Prop}(hR:∀a b,R a b->R' a b):∀{as:List α} {bs:List β},All2 R as bs->All2 R' as bs
 |[],[],_=>trivial
 |_::_,_::_,h=>⟨hR _ _ h.1,All2.mono hR h.2⟩
 |[],_::_,h=>h.elim
 |_::_,[],h=>h.elim
theorem All2.mono_mem{α β:Type}{R R':α->β->Prop}:∀{as:List α} {bs:List β},(∀a∈as,∀b,R a b->R' a b)->All2 R as bs->All2 R' as bs
 |[],[],_,_=>trivial
 |a::as,b::bs,hR,h=>⟨hR a (by simp) _ h.1,All2.mono_mem (λa ha=>hR a (by grind)) h.2⟩
 |[],_::_,_,h=>h.elim
 |_::_,[],_,h=>h.elim
theorem All2.nth{α β:Type}{R:α->β->Prop}(d:α)(e:β):∀(as:List α) (bs:List β) (i:Nat),All2 R as bs->i<as.length->R (Eng.nth d as i) (Eng.nth e bs i)
 |_::_,_::_,0,h,_=>h.1
 |_::as,_::bs,i+1,h,hi=>All2.nth d e as bs i h.2 (by grind)
 |[],[],_,_,hi=>absurd hi (by simp)
 |[],_::_,_,h,_=>h.elim
 |_::_,[],_,h,_=>h.elim
theorem All2.upd{α β:Type}{R:α->β->Prop}{a:α}{b:β}(hab:R a b):∀{as:List α} {bs:List β} {i:Nat},All2 R as bs->All2 R (Eng.upd as i a) (Eng.upd bs i b)
 |[],[],_,_=>trivial
 |_::_,_::_,0,h=>⟨hab,h.2⟩
 |_::_,_::_,_+1,h=>⟨h.1,All2.upd hab h.2⟩
 |[],_::_,_,h=>h.elim
 |_::_,[],_,h=>h.elim
theorem All2.append{α β:Type}{R:α->β->Prop}:∀{as as':List α} {bs bs':List β},All2 R as bs->All2 R as' bs'->All2 R (as++as') (bs++bs')
 |[],_,[],_,_,h'=>h'
 |_::_,_,_::_,_,h,h'=>⟨h.1,All2.append h.2 h'⟩
 |[],_,_::_,_,h,_=>h.elim
 |_::_,_,[],_,h,_=>h.elim
theorem qF{α:Type}(d:α):∀(l:List α) (i:Nat),nth d l i=l[i]?.getD d
 |[],_=>by simp[nth]
 |_::_,0=>by simp[nth]
 |_::xs,i+1=>by simp[nth,qF d xs i]
theorem qm{α:Type}(d:α){l:List α}{i:Nat}(h:i<l.length):nth d l i=l[i]:=by simp[qF,h]
theorem qG{α:Type}(d:α){l:List α}{i:Nat}(h:l.length<=i):nth d l i=d:=by simp[qF,h]
theorem xx{α:Type}:∀(l:List α) (i:Nat) (y:α),upd l i y=l.set i y
 |[],_,_=>by simp[upd]
 |_::_,0,_=>by simp[upd]
 |_::xs,i+1,y=>by simp[upd,xx xs i y]
theorem qi{α:Type}(l:List α)(i:Nat)(y:α):(upd l i y).length=l.length:=by simp[xx]
theorem zn{α:Type}(d:α)(l:List α)(i j:Nat)(y:α):nth d (upd l i y) j=if i=j/\i<l.length then y else nth d l j:=by
 grind [qF,xx]
theorem qb{α:Type}(d:α)(l:List α){i j:Nat}(y:α)(h:i≠j):nth d (upd l i y) j=nth d l j:=by simp[zn,h]
theorem qc{α:Type}(d:α)(l:List α){i:Nat}(y:α)(h:i<l.length):nth d (upd l i y) i=y:=by simp[zn,h]
def CA (w:World) (F:Nat->Prop):A->Value->Prop
 | .c d,v=>CD w F d v
 | .ag cs,v=>∃vs:Array Value,v= .agg vs/\All2 (CD w F) cs vs.toList
theorem CA.mono{w w':World}{F F':Nat->Prop}{a:A}{v:Value}(h:CA w F a v)(hF:∀b,F b->F' b)(hw:∀b,F b->w'.heap[b]? =w.heap[b]?):CA w' F' a v:=by
 cases a with
 |c d=>exact CD.mono h hF hw
 |ag cs=>obtain⟨vs,rfl,h⟩:=h;exact⟨vs,rfl,h.mono λ_ _ h=>h.mono hF hw⟩
def Pz (w:World) (F:Nat->Prop):List A->Value->Prop
 |[a],v=>CA w F a v
 |as,v=>∃vs:Array Value,v= .tuple vs/\All2 (CA w F) as vs.toList
structure Row (w:World) (F:Nat->Prop) (es:List (List D)) (b o size:Nat):Prop where
 hs:∀e∈es,e.length=size
 hF:F b
 hc:∀j,j<es.length*size->∃v,w.cell? ⟨b,o+j,none⟩=some v/\CD w F (nth .undef es.flatten j) v
theorem Row.mono{w w':World}{F F':Nat->Prop}{es:List (List D)}{b o size:Nat}(h:Row w F es b o size)(hF:∀b,F b->F' b)(hw:∀b,F b->w'.heap[b]? =w.heap[b]?):Row w' F' es b o size:=
 ⟨h.hs,hF _ h.hF,λj hj=>by
  obtain⟨v,h1,h2⟩:=h.hc j hj;exact⟨v,by rw[<-h1];exact M1 (w:=w) (hw _ h.hF),h2.mono hF hw⟩⟩
def cJ (P:Program) (T:Nat):Nat:=
 match P.underlying T with
 |some (.struct fs)=>match fs[1]? with
  |some f=>match TW P f.type with
   |some e=>e
   |none=>0
  |none=>0
 |_=>0
structure Where where
 P:Program
 at':Nat->Option (Nat×Nat)
 ty:Nat->Nat
instance:CoeFun Where (λ_=>Nat->Option (Nat×Nat)):=⟨Where.at'⟩
def CV (loc:Where) (objs:List Obj) (w:World) (F:Nat->Prop):V->Value->Prop
 | .any,_=>True
 | .no,v=>v=undef
 | .c d,v=>CD w F d v
 | .ag cs,v=>∃vs:Array Value,v= .agg vs/\All2 (CD w F) cs vs.toList
 | .tp as,v=>∃vs:Array Value,v= .tuple vs/\All2 (CA w F) as vs.toList
 | .nilS,v=>v= .slice none 0 0
 | .box k off,v=>∀o,nth .none objs k=o->kl o=true->∃b c,loc k=some (b,c)/\v= .pointer (some ⟨b,off,none⟩)
 | .arr k,v=>∀s es fz,nth .none objs k= .arr s es fz->(∃b c,loc k=some (b,c)/\v= .slice (some ⟨b,0,none⟩) es.length c)\/(loc k=none/\es=[]/\v= .slice none 0 0)
 | .elt k i off,v=>∀s es fz,nth .none objs k= .arr s es fz->∃b c,loc k=some (b,c)/\i<es.length/\v= .pointer (some ⟨b,i*s+off,none⟩)
 | .sub k off len,v=>∀s es fz,nth .none objs k= .arr s es fz->(∃b c,loc k=some (b,c)/\off+len<=es.length/\v= .slice (some ⟨b,off*s,none⟩) len (c-off))\/(s≠0/\loc k=none/\es=[]/\off=0/\len=0/\v= .slice none 0 0)\/(s≠0/\0<off/\off<=es.length/\len=0/\∃ad c,v= .slice ad 0 c)
 | .eref es i off,v=>∃b o size,v= .pointer (some ⟨b,o+i*size+off,none⟩)/\i<es.length/\Row w F es b o size
 | .fn f,v=>v= .func (.func f) #[] #[]
 | .arrAt k g c t,v=>∀s es fz,nth .none objs k= .arr s es fz->(loc k=some (g,c)/\loc.ty k=t)/\v= .slice (some ⟨g,0,none⟩) es.length c
 | .boxAt k g,v=>∀o,nth .none objs k=o->kl o=true->(∃c,loc k=some (g,c))/\v= .pointer (some ⟨g,0,none⟩)
def Ref (objs:List Obj):V->Prop
 | .box k _| .arr k| .elt k _ _| .sub k _ _| .arrAt k _ _ _| .boxAt k _=>nth .none objs k≠ .none
 |_=>True
def CO (loc:Where) (objs:List Obj) (w:World) (F:Nat->Prop) (k:Nat):Obj->Prop
 | .none| .dead=>loc k=none
 | .box cells=>∃b c,∃cs:Array Value,∃t,loc k=some (b,c)/\¬F b/\w.heap[b]? =some (.cells cs t (0,0))/\All2 (λv x=>CV loc objs w F v x/\x.oneCell'=true) cells cs.toList/\∀v∈cells,Ref objs v
 | .bld T q=>∃b c p v,loc k=some (b,c)/\¬F b/\w.heap[b]? =some (.cells #[p,v] T (0,0))/\(p= .pointer none\/p= .pointer (some ⟨b,0,none⟩))/\CV loc objs w F q v/\Ref objs q/\∀j,q= .arr j->loc.ty j=cJ loc.P T
 | .arr s es fz=>roomS s es.length/\0<s/\(∀e∈es,e.length=s)/\((loc k=none/\es=[])\/∃b c,∃cs:Array Value,∃t,loc k=some (b,c)/\(if fz then F b else ¬F b)/\w.heap[b]? =some (.cells cs t (0,0))/\
  cs.size=c*s/\(es.length<=c/\c<=9223372036854775807)/\(∀j,j<es.length*s->∃v,cs[j]? =some v/\CD w F (nth .undef es.flatten j) v)/\loc.P.cellsOf t=s/\loc.ty k=t)
def Inv (C:Cx) (F:Nat->Prop) (w:World):Prop:=
 ∀g cs,C.G g=some cs->F g/\∃(vs:Array Value) (t:TypeId) (fr:Nat×Nat),w.heap[g]? =some (.cells vs t fr)/\All2 (CD w F) cs vs.toList
theorem Inv.mono{C:Cx}{w w':World}{F F':Nat->Prop}(h:Inv C F w)(hF:∀b,F b->F' b)(hw:∀b,F b->w'.heap[b]? =w.heap[b]?):Inv C F' w':=λg cs hg=>by
 obtain⟨h1,vs,t,fr,h2,h3⟩:=h g cs hg;exact⟨hF _ h1,vs,t,fr,by grind,h3.mono λ_ _ h=>h.mono hF hw⟩
structure Bd where
 n:Nat
 X:Nat->Prop
def Own (B:Bd) (b:Nat):Prop:=B.n<=b\/B.X b
structure BelowX (B:Bd) (w w':World):Prop where
 os:w'.os=w.os
 tape:w'.tape=w.tape
 output:w'.output=w.output
 size:w.heap.size<=w'.heap.size
 block:∀k,k<B.n->¬B.X k->w'.heap[k]? =w.heap[k]?
theorem BelowX.refl(B:Bd)(w:World):BelowX B w w:=⟨rfl,rfl,rfl,bc _,λ_ _ _=>rfl⟩
theorem BelowX.trans{B:Bd}{a b c:World}(h:BelowX B a b)(k:BelowX B b c):BelowX B a c:=
 ⟨k.os.trans h.os,k.tape.trans h.tape,k.output.trans h.output,Nat.le_trans h.size k.size,λi hi hx=>(k.block i hi hx).trans (h.block i hi hx)⟩
theorem BelowX.of{B:Bd}{n:Nat}{w w':World}(h:Below n w w')(hn:B.n<=n):BelowX B w w':=⟨h.os,h.tape,h.output,h.size,λk hk _=>h.block k (Nat.lt_of_lt_of_le hk hn)⟩
theorem BelowX.drew{B:Bd}{a w:World}(h:BelowX B a w):BelowX B a w.drew:=h.trans (.of ((Below.refl B.n w).drew) (bc _))
theorem BelowX.alloc{B:Bd}{a w:World}(h:BelowX B a w)(hB:B.n<=w.heap.size)(o:I0):BelowX B a (w.alloc o):=h.trans (.of ((Below.refl B.n w).alloc hB o) (bc _))
theorem BelowX.toBelow{n:Nat}{w w':World}(h:BelowX ⟨n,λ_=>False⟩ w w'):Below n w w':=⟨h.os,h.tape,h.output,h.size,λk hk=>h.block k hk (λh=>h)⟩
structure Conc (C:Cx) (B:Bd) (F0:Nat->Prop) (w0:World) (F:Nat->Prop) (loc:Where) (st:St) (a:Act) (w:World):Prop where
 prog:loc.P=C.P
 below:BelowX B w0 w
 hB:B.n<=w.heap.size
 defers:a.defers=[]
 tmps:All2 (CV loc st.objs w F) st.tmps a.tmps.toList
 refs:∀v∈st.tmps,Ref st.objs v
 objs:∀k,CO loc st.objs w F k (nth .none st.objs k)
 inj:∀k k' b c c',loc k=some (b,c)->loc k'=some (b,c')->k=k'
 fresh:∀k b c,loc k=some (b,c)->Own B b/\b<w.heap.size
 bound:∀b,F b->b<w.heap.size
 fsub:∀b,F b->F0 b\/Own B b
 fsup:∀b,F0 b->F b
 inv:Inv C F w
def St.has (C:Cx) (B:Bd) (F0:Nat->Prop) (w0:World) (st:St) (a:Act) (w:World):Prop:=∃F loc,Conc C B F0 w0 F loc st a w
def qa (C:Cx) (f:Nat) (args res:List A):Prop:=
 ∀(w:World) (F:Nat->Prop) (vs:List Value),(∀b,F b->b<w.heap.size)->Inv C F w->All2 (CA w F) args vs->
  Calls C.P f vs.toArray w λe w'=>Below w.heap.size w w'/\∃v,e= .returned v/\Pz w' (λb=>F b\/(w.heap.size<=b/\b<w'.heap.size)) res v
structure Le (objs objs':List Obj) (loc loc':Where):Prop where
 prog:loc'.P=loc.P
 ty:∀k,nth .none objs k≠ .none->loc'.ty k=loc.ty k
 there:∀k,nth .none objs k≠ .none->nth .none objs' k≠ .none
 box:∀k o',nth .none objs k≠ .none->nth .none objs' k=o'->kl o'=true->kl (nth .none objs k)=true/\loc' k=loc k
 arr:∀k s es' fz',nth .none objs k≠ .none->nth .none objs' k= .arr s es' fz'->(∃es fz,nth .none objs k= .arr s es fz/\es'.length=es.length)/\loc' k=loc k
theorem Le.refl(objs:List Obj)(loc:Where):Le objs objs loc loc:=
 ⟨rfl,λ_ _=>rfl,λ_ h=>h,λ_ _ _ h hb=>⟨h▸hb,rfl⟩,λ_ _ es' fz' _ h=>⟨⟨es',fz',h,rfl⟩,rfl⟩⟩
theorem Ref.le{objs objs':List Obj}{loc loc':Where}(h:Le objs objs' loc loc'){v:V}(hv:Ref objs v):Ref objs' v:=by
 cases v<;>first|exact h.there _ hv|trivial|exact λk hk=>h.there _ (hv k hk)
theorem CV.le{loc loc':Where}{objs objs':List Obj}{w w':World}{F F':Nat->Prop}(hF:∀b,F b->F' b)(hw:∀b,F b->w'.heap[b]? =w.heap[b]?)(hl:Le objs objs' loc loc'){v:V}{x:Value}(hr:Ref objs v)(h:CV loc objs w F v x):CV loc' objs' w' F' v x:=by
 cases v with
 |any=>trivial
 |no=>exact h
 |c d=>exact CD.mono h hF hw
 |ag cs=>obtain⟨vs,rfl,h⟩:=h;exact⟨vs,rfl,h.mono λ_ _ h=>h.mono hF hw⟩
 |tp as=>obtain⟨vs,rfl,h⟩:=h;exact⟨vs,rfl,h.mono λ_ _ h=>h.mono hF hw⟩
 |nilS=>exact h
 |box k off=>intro o' hc a8;obtain⟨a5,a3⟩:=hl.box k o' hr hc a8;obtain⟨b,c,h1,h2⟩:=h _ rfl a5;exact⟨b,c,by rw[a3];exact h1,h2⟩
 |arr k=>
  intro s a6 a7 hc;obtain⟨⟨es,fz,a5,a4⟩,a3⟩:=hl.arr k s a6 a7 hr hc;rcases h s es fz a5 with⟨b,c,h1,h2⟩|⟨h1,h2,h3⟩
  .exact .inl ⟨b,c,by rw[a3];exact h1,by rw[a4];exact h2⟩
  grind
 |elt k i off=>intro s a6 a7 hc;obtain⟨⟨es,fz,a5,a4⟩,a3⟩:=hl.arr k s a6 a7 hr hc;obtain⟨b,c,h1,h2,h3⟩:=h s es fz a5;exact⟨b,c,by rw[a3];exact h1,by omega,h3⟩
 |sub k off len=>
  intro s a6 a7 hc;obtain⟨⟨es,fz,a5,a4⟩,a3⟩:=hl.arr k s a6 a7 hr hc;rcases h s es fz a5 with⟨b,c,h1,h2,h3⟩|⟨h0,h1,h2,h3⟩|⟨h0,h1,h2,h3⟩
  .exact .inl ⟨b,c,by rw[a3];exact h1,by omega,h3⟩
  .subst h2;exact .inr (.inl ⟨h0,by rw[a3];exact h1,by simpa using a4,h3⟩)
  grind
 |eref es i off=>obtain⟨b,o,a9,h1,h2,h3⟩:=h;exact⟨b,o,a9,h1,h2,h3.mono hF hw⟩
 |fn f=>exact h
 |arrAt k g c t=>intro s a6 a7 hc;obtain⟨⟨es,fz,a5,a4⟩,a3⟩:=hl.arr k s a6 a7 hr hc;obtain⟨h1,h2⟩:=h s es fz a5;exact⟨⟨by rw[a3];exact h1.1,by rw[hl.ty k hr];exact h1.2⟩,by rw[a4];exact h2⟩
 |boxAt k g=>intro o' hc a8;obtain⟨a5,a3⟩:=hl.box k o' hr hc a8;obtain⟨⟨c,h1⟩,h2⟩:=h _ rfl a5;exact⟨⟨c,by rw[a3];exact h1⟩,h2⟩
theorem CV.un{loc:Where}{objs:List Obj}{w:World}{F:Nat->Prop}{v:V}{x:Value}(h:CV loc objs w F v x):CV loc objs w F (un v) x:=by
 cases v with
 |arrAt k g c t=>
  intro s es fz hc;obtain⟨h1,h2⟩:=h s es fz hc
  grind
 |boxAt k g=>
  intro o hc hb;obtain⟨⟨c,h1⟩,h2⟩:=h o hc hb
  grind
 |_=>exact h
theorem Ref.un{objs:List Obj}{v:V}(h:Ref objs v):Ref objs (un v):=by
 cases v<;>exact h
theorem CV.mem{loc:Where}{objs:List Obj}{w w':World}{F F':Nat->Prop}(hF:∀b,F b->F' b)(hw:∀b,F b->w'.heap[b]? =w.heap[b]?){v:V}{x:Value}(h:CV loc objs w F v x):CV loc objs w' F' v x:=by
 cases v with
 |c d=>exact CD.mono h hF hw
 |ag cs=>obtain⟨vs,rfl,h⟩:=h;exact⟨vs,rfl,h.mono λ_ _ h=>h.mono hF hw⟩
 |tp as=>obtain⟨vs,rfl,h⟩:=h;exact⟨vs,rfl,h.mono λ_ _ h=>h.mono hF hw⟩
 |eref es i off=>obtain⟨b,o,a3,h1,h2,h3⟩:=h;exact⟨b,o,a3,h1,h2,h3.mono hF hw⟩
 |_=>exact h
theorem CO.le{loc loc':Where}{objs objs':List Obj}{w w':World}{F F':Nat->Prop}{k:Nat}{o:Obj}(hF:∀b,F b->F' b)(hw:∀b,F b->w'.heap[b]? =w.heap[b]?)(hl:Le objs objs' loc loc')(hloc:loc' k=loc k)(hty:loc'.ty k=loc.ty k)(hb:∀b c,loc k=some (b,c)->w'.heap[b]? =w.heap[b]?/\(¬F b->¬F' b))(h:CO loc objs w F k o):CO loc' objs' w' F' k o:=by
 cases o with
 |none=>exact hloc.trans h
 |dead=>exact hloc.trans h
 |box cells=>obtain⟨b,c,cs,t,h1,h2,h3,h4,h5⟩:=h;obtain⟨q1,q2⟩:=hb b c h1;refine⟨b,c,cs,t,by rw[hloc];exact h1,q2 h2,by rw[q1];exact h3,h4.mono_mem λv hv x hx=>⟨CV.le hF hw hl (h5 v hv) hx.1,hx.2⟩,λv hv=>(h5 v hv).le hl⟩
 |bld T q=>
  obtain⟨b,c,p,v,h1,h2,h3,h4,h5,h6⟩:=h;obtain⟨q1,q2⟩:=hb b c h1;exact⟨b,c,p,v,by rw[hloc];exact h1,q2 h2,by rw[q1];exact h3,h4,CV.le hF hw hl h6.1 h5,h6.1.le hl,λj hj=>by
   subst hj;rw[hl.prog,hl.ty j h6.1];exact h6.2 j rfl⟩
 |arr s es fz=>
  obtain⟨h1,h2,h3,h4⟩:=h;refine⟨h1,h2,h3,?_⟩;rcases h4 with⟨h4,h5⟩|⟨b,c,cs,t,h4,h5,h6,h7,h8,h9⟩
  .exact .inl ⟨by rw[hloc];exact h4,h5⟩
  .obtain⟨q1,q2⟩:=hb b c h4;refine .inr ⟨b,c,cs,t,by rw[hloc];exact h4,?_,by rw[q1];exact h6,h7,h8,λj hj=>?_,by rw[hl.prog];exact h9.2.1,by rw[hty];exact h9.2.2⟩
   .cases fz
    .exact q2 h5
    .exact hF _ h5
   .obtain⟨v,r1,r2⟩:=h9.1 j hj;exact⟨v,r1,r2.mono hF hw⟩
theorem Act.put_tmps(a:Act)(dst:Option Nat)(x:Value):(a.put dst x).tmps.toList=(match dst with|some t=>upd a.tmps.toList t x|none=>a.tmps.toList):=by
 cases dst with
 |none=>rfl
 |some t=>simp[Act.put,xx]
theorem Act.put_def(a:Act)(dst:Option Nat)(x:Value):(a.put dst x).defers=a.defers:=by cases dst<;>rfl
theorem zV{α:Type}{l:List α}{i:Nat}{y z:α}(h:z∈upd l i y):z∈l\/z=y:=by
 rw[xx]at h
 grind
theorem Conc.step{C:Cx}{B:Bd}{F0:Nat->Prop}{w0:World}{F F':Nat->Prop}{loc loc':Where}{st:St}{a:Act}{w w':World}{up:List (Nat×Obj)}{v:V}{x:Value}{dst:Option Nat}(h:Conc C B F0 w0 F loc st a w)(hF:∀b,F b->F' b)(hw:∀b,F b->w'.heap[b]? =w.heap[b]?)(hl:Le st.objs (upds st.objs up) loc loc')(hbelow:BelowX B w0 w')(hB':B.n<=w'.heap.size)(hobjs:∀k,CO loc' (upds st.objs up) w' F' k (nth .none (upds st.objs up) k))(hinj:∀k k' b c c',loc' k=some (b,c)->loc' k'=some (b,c')->k=k')(hfresh:∀k b c,loc' k=some (b,c)->Own B b/\b<w'.heap.size)(hbound:∀b,F' b->b<w'.heap.size)(hfsub:∀b,F' b->F0 b\/Own B b)(hv:CV loc' (upds st.objs up) w' F' v x)(hr:Ref (upds st.objs up) v):Conc C B F0 w0 F' loc' (st.put dst v up) (a.put dst x) w':=by
 have ht:All2 (CV loc' (upds st.objs up) w' F') st.tmps a.tmps.toList:=h.tmps.mono_mem λv hv x hx=>CV.le hF hw hl (h.refs v hv) hx
 have a3:∀v∈st.tmps,Ref (upds st.objs up) v:=λv hv=>(h.refs v hv).le hl
 refine⟨hl.prog.trans h.prog,hbelow,hB',by rw[Act.put_def];exact h.defers,?_,?_,hobjs,hinj,hfresh,hbound,hfsub,λb hb=>hF _ (h.fsup b hb),h.inv.mono hF hw⟩
 .rw[Act.put_tmps];cases dst with
  |none=>exact ht
  |some t=>exact All2.upd hv ht
 .cases dst with
  |none=>exact a3
  |some t=>
   intro u hu;rcases zV hu with hu|rfl
   .exact a3 u hu
   .exact hr
theorem Conc.pure{C:Cx}{B:Bd}{F0:Nat->Prop}{w0:World}{F:Nat->Prop}{loc:Where}{st:St}{a:Act}{w:World}{v:V}{x:Value}{dst:Option Nat}(h:Conc C B F0 w0 F loc st a w)(hv:CV loc st.objs w F v x)(hr:Ref st.objs v):Conc C B F0 w0 F loc (st.put dst v []) (a.put dst x) w:=
 h.step (up:=[]) (λ_ h=>h) (λ_ _=>rfl) (Le.refl _ _) h.below h.hB h.objs h.inj h.fresh h.bound h.fsub hv hr
theorem Ky(w:World)(F:Nat->Prop)(v:Value)(h:v.oneCell'=true):CD w F (zD v) v:=by
 unfold zD;split
 .exact .bool _
 .exact .int _ _
 .exact .str _
 .exact .nil _ _
 .exact .nilI
 .exact .nilP
 .exact .undef _ h
theorem Nn{α β:Type}{R:α->β->Prop}{f:β->α}:∀{l:List β},(∀b∈l,R (f b) b)->All2 R (l.map f) l
 |[],_=>trivial
 |b::l,h=>⟨h b (by simp),Nn λc hc=>h c (by grind)⟩
theorem Kz(loc:Where)(objs:List Obj)(w:World)(F:Nat->Prop)(v:Value):CV loc objs w F (Q0 v) v/\Ref objs (Q0 v):=by
 unfold Q0;split
 .exact⟨.bool _,trivial⟩
 .exact⟨.int _ _,trivial⟩
 .exact⟨.str _,trivial⟩
 .exact⟨rfl,trivial⟩
 .exact⟨.nilI,trivial⟩
 .exact⟨.nilP,trivial⟩
 .rename_i cs;split
  .refine⟨⟨cs,rfl,?_⟩,trivial⟩
   grind [Nn,Ky]
  .exact⟨trivial,trivial⟩
 .exact⟨trivial,trivial⟩
theorem JE(t:Array Value)(i:Nat):nth undef t.toList i=t.getD i undef:=by simp[qF]
theorem xg{C:Cx}{B:Bd}{F0:Nat->Prop}{w0:World}{F:Nat->Prop}{loc:Where}{st:St}{a:Act}{w:World}(h:Conc C B F0 w0 F loc st a w)(x:Operand):
 CV loc st.objs w F (ev st x) (a.eval x)/\Ref st.objs (ev st x):=by
 cases x with
 |tmp t=>
  simp only[ev,Act.eval];by_cases ht:t<st.tmps.length
  .refine⟨CV.un ?_,Ref.un ?_⟩
   .rw[<-JE];exact h.tmps.nth _ _ _ _ _ ht
   .rw[qm _ ht];exact h.refs _ (P1 ht)
  .rw[qG _ (bm.1 ht)];exact⟨trivial,trivial⟩
 |const v=>exact Kz _ _ _ _ _
 |global g=>exact⟨trivial,trivial⟩
 |func f=>exact⟨CD.fn f,trivial⟩
theorem wP{C:Cx}{B:Bd}{F0:Nat->Prop}{w0:World}{F:Nat->Prop}{loc:Where}{st:St}{a:Act}{w:World}(h:Conc C B F0 w0 F loc st a w)(t:Nat):
 CV loc st.objs w F (nth .any st.tmps t) (a.eval (.tmp t))/\Ref st.objs (nth .any st.tmps t):=by
 simp only[Act.eval];by_cases ht:t<st.tmps.length
 .refine⟨?_,?_⟩
  .rw[<-JE];exact h.tmps.nth _ _ _ _ _ ht
  .rw[qm _ ht];exact h.refs _ (P1 ht)
 .rw[qG _ (bm.1 ht)];exact⟨trivial,trivial⟩
end Eng
end
section
namespace Eng
open Go Go.RowKit
def Does (C:Cx) (B:Bd) (F0:Nat->Prop) (w0:World) (o:Oper) (a:Act) (w:World) (st':St):Prop:=
 ∃nx x w',(execOp a.eval o).run C.P w= .ok nx w'/\(nx= .value x\/(nx= .skip/\x=undef))/\St.has C B F0 w0 st' (a.put o.dst x) w'
theorem Does.wp{C:Cx}{B:Bd}{F0:Nat->Prop}{w0:World}{o:Oper}{a:Act}{w:World}{st':St}{next:Act->World->Prop}{Q:Exit->Act->World->Prop}(h:Does C B F0 w0 o a w st')(hn:∀a' w',St.has C B F0 w0 st' a' w'->next a' w'):o.wp C.P a w next Q:=by
 obtain⟨nx,x,w',a4,hx,a3⟩:=h;unfold Oper.wp;rw[a4];rcases hx with rfl|⟨rfl,rfl⟩
 .exact hn _ _ a3
 .exact hn _ _ a3
section
variable {C:Cx}{B:Bd}{F0:Nat->Prop}{w0:World}{F:Nat->Prop}{loc:Where}{st:St}{a:Act}{w:World}
theorem xb{o:Oper}{v:V}{x:Value}(h:Conc C B F0 w0 F loc st a w)(hrun:(execOp a.eval o).run C.P w= .ok (.value x) w)(hv:CV loc st.objs w F v x)(hr:Ref st.objs v):
 Does C B F0 w0 o a w (st.put o.dst v []):=⟨_,x,w,hrun,.inl rfl,F,loc,h.pure hv hr⟩
theorem qN{P:Program}{t:TypeId}{d:TypeDesc}(h:P.underlying t=some d)(w:World):(underlying t).run P w= .ok d w:=by
 simp[underlying,h]
theorem zO{P:Program}{t:TypeId}{z:List Value}(h:ka P t=some z):∃i v,P.info? t=some i/\i.zero=some v/\v.cells.toList=z/\i.size=z.length/\(∀x∈z,x.oneCell'=true)/\(match v with| .agg _=>y9 P t=true|_=>y9 P t=false)/\∃d,P.underlying t=some d:=by
 unfold ka at h;split at h
 .rename_i i hi;split at h
  .rename_i v hv;split at h
   .rename_i hc;simp only[Hv]at hc;obtain⟨⟨⟨h1,h2⟩,h3⟩,h4⟩:=hc;have hz:v.cells.toList=z:=by simpa using h
    subst hz;refine⟨i,v,hi,hv,rfl,W4 h2,λx hx=>List.all_eq_true.1 h1 x hx,?_,Option.isSome_iff_exists.1 h4⟩
    grind
   grind
  grind
 grind
theorem Z1{P:Program}{t:TypeId}{z:List Value}(h:ka P t=some z)(w:World):(isAgg t).run P w= .ok (y9 P t) w:=by
 obtain⟨_,_,_,_,_,_,_,_,d,hd⟩:=zO h;simp only[isAgg,Ls,qN hd,Lr,y9,hd];cases d<;>rfl
theorem QI{P:Program}{t:TypeId}{z:List Value}(h:ka P t=some z):P.cellsOf t=z.length:=by
 obtain⟨i,v,hi,_,_,hs,_⟩:=zO h;simp[Program.cellsOf,hi,hs]
theorem Fk{P:Program}{t:TypeId}{z:List Value}(h:ka P t=some z)(w:World):∃v:Value,(zeroValue t).run P w= .ok v w/\v.cells.toList=z:=by
 obtain⟨i,v,hi,hv,hz,_⟩:=zO h;exact⟨v,by simp[zeroValue,typeInfo,hi,hv],hz⟩
theorem xc{P:Program}{t:TypeId}{z:List Value}(h:ka P t=some z)(w:World):(I1 t).run P w=Result.ok z.length w:=by
 obtain⟨i,v,hi,_,_,hs,_⟩:=zO h;simp[I1,typeInfo,hi,hs]
theorem qR{objs:List Obj}{d:Nat}(h:qD objs d=true):nth .none objs d= .none/\d<objs.length:=by
 unfold qD at h
 grind [qm,qG]
theorem Conc.redirty{dt:List Nat}(h:Conc C B F0 w0 F loc st a w):Conc C B F0 w0 F loc ⟨st.tmps,st.objs,dt⟩ a w:=
 ⟨h.prog,h.below,h.hB,h.defers,h.tmps,h.refs,h.objs,h.inj,h.fresh,h.bound,h.fsub,h.fsup,h.inv⟩
def at_ (loc:Where) (d:Nat) (p:Nat×Nat) (t:Nat:=0):Where:=⟨loc.P,λk=>if k=d then some p else loc k,λk=>if k=d then t else loc.ty k⟩
theorem pn{objs:List Obj}{d tt:Nat}{ob:Obj}{p:Nat×Nat}(hd:qD objs d=true):Le objs (upd objs d ob) loc (at_ loc d p tt):=by
 obtain⟨a3,hlt⟩:=qR hd;refine⟨rfl,λk hk=>by
  have:k≠d:=λe=>by grind
  simp[at_,this],λk hk=>?_,λk o' hk hc hbx=>?_,λk s' es' fz' hk hc=>?_⟩
 .grind [qb]
 .by_cases hkd:d=k
  .grind
  .rw[qb _ _ _ hkd]at hc;exact⟨by grind,by simp[at_,Ne.symm hkd]⟩
 .by_cases hkd:d=k
  .grind
  .rw[qb _ _ _ hkd]at hc;exact⟨⟨_,_,hc,rfl⟩,by simp[at_,Ne.symm hkd]⟩
theorem Conc.new{dst:Option Nat}{d:Nat}{ob:Obj}{v:V}{x:Value}{cs:Array Value}{t:TypeId}{cap tt:Nat}(h:Conc C B F0 w0 F loc st a w)(hd:qD st.objs d=true)(hob:CO (at_ loc d (w.heap.size,cap) tt) (upd st.objs d ob) (w.alloc (.cells cs t)) F d ob)(hv:CV (at_ loc d (w.heap.size,cap) tt) (upd st.objs d ob) (w.alloc (.cells cs t)) F v x)(hr:Ref (upd st.objs d ob) v):
 Conc C B F0 w0 F (at_ loc d (w.heap.size,cap) tt) (st.put dst v [(d,ob)]) (a.put dst x) (w.alloc (.cells cs t)):=by
 obtain⟨a4,hlt⟩:=qR hd;have hw:∀b,F b->(w.alloc (.cells cs t)).heap[b]? =w.heap[b]? :=λb hb=>Below.heap_alloc _ _ _ (h.bound b hb)
 have a3:Le st.objs (upd st.objs d ob) loc (at_ loc d (w.heap.size,cap) tt):=pn hd;refine h.step (up:=[(d,ob)]) (λ_ h=>h) hw a3 (h.below.alloc h.hB _) (by have:=h.hB;rw[M2];omega) (λk=>?_) ?_ ?_ ?_ h.fsub hv hr
 .show CO _ (upd st.objs d ob) _ _ _ (nth .none (upd st.objs d ob) k);by_cases hk:d=k
  .subst hk;rw[qc _ _ _ hlt];exact hob
  .rw[qb _ _ _ hk];refine CO.le (λ_ h=>h) hw a3 (by simp[at_,Ne.symm hk]) (by simp[at_,Ne.symm hk]) (λb c hb=>⟨Below.heap_alloc _ _ _ (h.fresh _ _ _ hb).2,λh=>h⟩) (h.objs k)
 .intro k k' b c c' h1 h2;have hf:=h.fresh;simp only[at_]at h1 h2;split at h1<;>split at h2
  .rw[‹k=d›,‹k'=d›]
  .grind
  .grind
  .exact h.inj _ _ _ _ _ h1 h2
 .intro k b c h1;simp only[at_]at h1;have hB:=h.hB;rw[M2];split at h1
  .simp only[bv,bw]at h1;exact⟨.inl (by omega),by omega⟩
  .have:=h.fresh _ _ _ h1;exact⟨this.1,by omega⟩
 .intro b hb;have:=h.bound b hb;grind
theorem Conc.freeze1{k s:Nat}{es:List (List D)}{fz:Bool}(h:Conc C B F0 w0 F loc st a w)(hk:nth .none st.objs k= .arr s es fz):
 Conc C B F0 w0 (λb=>F b\/∃c,loc k=some (b,c)) loc ⟨st.tmps,upd st.objs k (.arr s es true),st.dirty⟩ a w:=by
 have a5:k<st.objs.length:=by
  rcases W3 k st.objs.length with h1|h1
  .exact h1
  .rw[qG _ h1]at hk;simp at hk
 have a4:Le st.objs (upd st.objs k (.arr s es true)) loc loc:=by
  refine⟨rfl,λ_ _=>rfl,λj hj=>?_,λj o' hj hc hbx=>?_,λj s' es' fz' hj hc=>?_⟩
  .grind [qc,qb]
  .by_cases hkj:k=j
   .subst hkj;rw[qc _ _ _ a5]at hc;rw[<-hc]at hbx;simp[kl]at hbx
   grind [qb]
  grind [qc,Obj.arr.injEq,qb]
 have hF:∀b,F b->(F b\/∃c,loc k=some (b,c)):=λb hb=> .inl hb
 have:=h.step (dst:=none) (v:= .any) (x:=undef) (up:=[(k,.arr s es true)]) (loc':=loc) (F':=λb=>F b\/∃c,loc k=some (b,c)) hF (λ_ _=>rfl) a4 h.below h.hB (λj=>?_) h.inj h.fresh ?_ ?_ trivial trivial
 .exact this.redirty
 .show CO _ (upd st.objs k (.arr s es true)) _ _ _ (nth .none (upd st.objs k (.arr s es true)) j);by_cases hkj:k=j
  .subst hkj;rw[qc _ _ _ a5];have h0:=h.objs k;rw[hk]at h0;obtain⟨h1,h2,h3,h4⟩:=h0;refine⟨h1,h2,h3,?_⟩;rcases h4 with h4|⟨b,c,cs,t,h4,h5,h6,h7,h8,h9⟩
   .exact .inl h4
   .refine .inr ⟨b,c,cs,t,h4,.inr ⟨c,h4⟩,h6,h7,h8,λj hj=>?_,h9.2⟩;obtain⟨v,r1,r2⟩:=h9.1 j hj;exact⟨v,r1,r2.mono hF λ_ _=>rfl⟩
  .rw[qb _ _ _ hkj];refine CO.le hF (λ_ _=>rfl) a4 rfl rfl (λb c hb=>⟨rfl,λhn a3=>?_⟩) (h.objs j);rcases a3 with a3|⟨c',a3⟩
   .exact hn a3
   .exact hkj (h.inj _ _ _ _ _ a3 hb)
 .intro b hb;rcases hb with hb|⟨c,hb⟩
  .exact h.bound b hb
  .exact(h.fresh _ _ _ hb).2
 .intro b hb;rcases hb with hb|⟨c,hb⟩
  .exact h.fsub b hb
  .exact .inr (h.fresh _ _ _ hb).1
def Frz (objs:List Obj) (us:List (Nat×Obj)):Prop:=∀p∈us,∃s es fz,nth .none objs p.1= .arr s es fz/\p.2= .arr s es true
theorem Frz.nil(objs:List Obj):Frz objs []:=λ_ h=>absurd h (by simp)
theorem Frz.append{objs:List Obj}{us us':List (Nat×Obj)}(h:Frz objs us)(h':Frz objs us'):Frz objs (us++us'):=λp hp=>by
 rcases List.mem_append.1 hp with hp|hp
 .exact h p hp
 .exact h' p hp
theorem Frz.step{objs:List Obj}{k s:Nat}{es:List (List D)}{fz:Bool}{us:List (Nat×Obj)}(hk:nth .none objs k= .arr s es fz)(h:Frz objs us):Frz (upd objs k (.arr s es true)) us:=λp hp=>by
 obtain⟨s',es',fz',h1,h2⟩:=h p hp
 grind [zn,Obj.arr.injEq]
theorem Conc.freezes:∀{us:List (Nat×Obj)} {st:St} {F:Nat->Prop} (_:Conc C B F0 w0 F loc st a w) (_:Frz st.objs us) (dt:List Nat),
 ∃F':Nat->Prop,Conc C B F0 w0 F' loc ⟨st.tmps,upds st.objs us,dt⟩ a w/\(∀b,F b->F' b)/\∀p∈us,∀b c,loc p.1=some (b,c)->F' b
 |[],st,F,h,_,dt=>⟨F,h.redirty,λ_ h=>h,λ_ h=>absurd h (by simp)⟩
 |(k,o)::us,st,F,h,hf,dt=>by
  obtain⟨s,es,fz,h1,h2⟩:=hf (k,o) (by simp);subst h2;have h3:=h.freeze1 h1;obtain⟨F',h4,h5,h6⟩:=Conc.freezes (us:=us) h3 (Frz.step h1 λp hp=>hf p (by grind)) dt;refine⟨F',h4,λb hb=>h5 b (.inl hb),λp hp b c hl=>?_⟩
  grind
theorem H7{objs:List Obj}{F':Nat->Prop}{k s:Nat}{es:List (List D)}{fz:Bool}{x:Value}(hk:nth .none objs k= .arr s es fz)(ho:CO loc objs w F k (.arr s es fz))(hv:CV loc objs w F (.arr k) x)(hF:∀b,F b->F' b)(hb:∀b c,loc k=some (b,c)->F' b):CD w F' (.sl es) x:=by
 obtain⟨h1,h2,h3,h4⟩:=ho;rcases hv s es fz hk with⟨b,c,q1,rfl⟩|⟨q1,rfl,rfl⟩
 .rcases h4 with⟨h4,h5⟩|⟨b',c',cs,t,h4,h5,h6,h7,h8,h9⟩
  .grind
  .rw[h4]at q1;simp only[bv,bw]at q1;obtain⟨rfl,rfl⟩:=q1;refine .sl es b' 0 c' s (λj=>cs.getD j undef) h8.1 h3 (hb _ _ h4) (λj hj=>?_) (λj hj=>?_)
   .obtain⟨v,r1,r2⟩:=h9.1 j hj;simp[M3,h6,r1]
   .obtain⟨v,r1,r2⟩:=h9.1 j hj;have:cs.getD j undef=v:=by simp[r1]
    rw[this];exact r2.mono hF λ_ _=>rfl
 .exact .nil _ _
theorem P0{v:V}{x:Value}{ds:List D}{us:List (Nat×Obj)}(h:Conc C B F0 w0 F loc st a w)(hc:cellsOf st.objs v=some (ds,us))(hv:CV loc st.objs w F v x):
 Frz st.objs us/\∀F':Nat->Prop,(∀b,F b->F' b)->(∀p∈us,∀b c,loc p.1=some (b,c)->F' b)->All2 (CD w F') ds x.cells.toList:=by
 unfold cellsOf at hc;split at hc
 .rename_i d;simp only[bv,bw]at hc;obtain⟨rfl,rfl⟩:=hc;refine⟨Frz.nil _,λF' hF _=>?_⟩;have h1:CD w F d x:=hv;have h2:=h1.one;have h3:x.cells.toList=[x]:=by cases x<;>first|rfl|simp[Lv]at h2
  rw[h3];exact⟨h1.mono hF λ_ _=>rfl,trivial⟩
 .rename_i cs;simp only[bv,bw]at hc;obtain⟨rfl,rfl⟩:=hc;obtain⟨vs,rfl,h1⟩:=hv;exact⟨Frz.nil _,λF' hF _=>h1.mono λ_ _ h=>h.mono hF λ_ _=>rfl⟩
 .simp only[bv,bw]at hc;obtain⟨rfl,rfl⟩:=hc;have h1:x= .slice none 0 0:=hv;subst h1;exact⟨Frz.nil _,λF' hF _=>⟨.nil _ _,trivial⟩⟩
 .rename_i k;split at hc
  .rename_i s es fz hk;simp only[bv,bw]at hc;obtain⟨rfl,rfl⟩:=hc;refine⟨λp hp=>?_,λF' hF hb=>?_⟩
   .grind
   .have h0:=h.objs k;rw[hk]at h0;have h1:=H7 hk h0 hv hF (λb c hl=>hb (k,.arr s es true) (by simp) b c hl);have h2:=h1.one;have h3:x.cells.toList=[x]:=by cases x<;>first|rfl|simp[Lv]at h2
    rw[h3];exact⟨h1,trivial⟩
  grind
 grind
theorem aw{v:V}{x:Value}{d:A}{us:List (Nat×Obj)}(h:Conc C B F0 w0 F loc st a w)(hc:toA st.objs v=some (d,us))(hv:CV loc st.objs w F v x):
 Frz st.objs us/\∀F':Nat->Prop,(∀b,F b->F' b)->(∀p∈us,∀b c,loc p.1=some (b,c)->F' b)->CA w F' d x:=by
 unfold toA at hc;split at hc
 .simp only[bv,bw]at hc;obtain⟨rfl,rfl⟩:=hc;exact⟨Frz.nil _,λF' hF _=>CA.mono (a:= .c _) hv hF λ_ _=>rfl⟩
 .simp only[bv,bw]at hc;obtain⟨rfl,rfl⟩:=hc;exact⟨Frz.nil _,λF' hF _=>CA.mono (a:= .ag _) hv hF λ_ _=>rfl⟩
 .simp only[bv,bw]at hc;obtain⟨rfl,rfl⟩:=hc;have h1:x= .slice none 0 0:=hv;subst h1;exact⟨Frz.nil _,λF' hF _=>CD.nil _ _⟩
 .rename_i k;split at hc
  .rename_i s es fz hk;simp only[bv,bw]at hc;obtain⟨rfl,rfl⟩:=hc;refine⟨λp hp=>?_,λF' hF hb=>?_⟩
   .grind
   .have h0:=h.objs k;rw[hk]at h0;exact H7 hk h0 hv hF (λb c hl=>hb (k,.arr s es true) (by simp) b c hl)
  grind
 grind
theorem QJ:∀{vs:List V} {xs:List Value} {ds:List A} {us:List (Nat×Obj)} (_:Conc C B F0 w0 F loc st a w) (_:yx st.objs vs=some (ds,us)) (_:All2 (CV loc st.objs w F) vs xs),
 Frz st.objs us/\∀F':Nat->Prop,(∀b,F b->F' b)->(∀p∈us,∀b c,loc p.1=some (b,c)->F' b)->All2 (CA w F') ds xs
 |[],[],ds,us,h,hc,_=>by obtain⟨rfl,rfl⟩:=hc;exact⟨Frz.nil _,λ_ _ _=>trivial⟩
 |v::vs,x::xs,ds,us,h,hc,hv=>by
  simp only[yx]at hc;split at hc
  .rename_i d u as us' h1 h2;obtain⟨rfl,rfl⟩:=hc;obtain⟨q1,q2⟩:=aw h h1 hv.1;obtain⟨r1,r2⟩:=QJ h h2 hv.2;exact⟨q1.append r1,λF' hF hb=>⟨q2 F' hF λp hp=>hb p (by grind),r2 F' hF λp hp=>hb p (by grind)⟩⟩
  grind
 |[],_::_,_,_,_,_,hv=>hv.elim
 |_::_,[],_,_,_,_,hv=>hv.elim
theorem Fl{v:V}{x:Value}{es:List (List D)}{us:List (Nat×Obj)}(h:Conc C B F0 w0 F loc st a w)(hc:QH st.objs v=some (es,us))(hv:CV loc st.objs w F v x):
 Frz st.objs us/\∀F':Nat->Prop,(∀b,F b->F' b)->(∀p∈us,∀b c,loc p.1=some (b,c)->F' b)->CD w F' (.sl es) x:=by
 unfold QH at hc;split at hc
 .obtain⟨rfl,rfl⟩:=hc;exact⟨Frz.nil _,λF' hF _=>CD.mono hv hF λ_ _=>rfl⟩
 .obtain⟨rfl,rfl⟩:=hc;have h1:x= .slice none 0 0:=hv;subst h1;exact⟨Frz.nil _,λF' hF _=>CD.nil _ _⟩
 .rename_i k;split at hc
  .rename_i s es' fz hk;simp only[bv,bw]at hc;obtain⟨rfl,rfl⟩:=hc;refine⟨λp hp=>?_,λF' hF hb=>?_⟩
   .grind
   .have h0:=h.objs k;rw[hk]at h0;exact H7 hk h0 hv hF (λb c hl=>hb (k,.arr s es' true) (by simp) b c hl)
  grind
 grind
theorem CD.slice_inv{es:List (List D)}{x:Value}(h:CD w F (.sl es) x):(∃ad c,x= .slice ad es.length c/\es.length<=c/\(es=[]\/∃b o size,ad=some ⟨b,o,none⟩/\Row w F es b o size)):=by
 cases h with
 |nil a c=>simp
 |sl _ b o c size vs hlc hs hF hc hd=>exact⟨_,c,rfl,hlc,.inr ⟨b,o,size,rfl,hs,hF,λj hj=>⟨_,hc j hj,hd j hj⟩⟩⟩
theorem Row.CD{es:List (List D)}{b o size c:Nat}(h:Row w F es b o size)(hlc:es.length<=c):CD w F (.sl es) (.slice (some ⟨b,o,none⟩) es.length c):=by
 have hx:∀j,∃v,j<es.length*size->w.cell? ⟨b,o+j,none⟩=some v/\Eng.CD w F (nth .undef es.flatten j) v:=λj=>by
  by_cases hj:j<es.length*size
  .obtain⟨v,h1,h2⟩:=h.hc j hj;grind
  .exact⟨undef,λh=>absurd h hj⟩
 let f:Nat->Value:=λj=>HZ (hx j)
 exact .sl es b o c size f hlc h.hs h.hF (λj hj=>(Hy (hx j) hj).1) (λj hj=>(Hy (hx j) hj).2)
end
end Eng
end
section
namespace Eng
open Go Go.RowKit
def VS (loc:Where) (objs:List Obj) (w:World) (F:Nat->Prop) (run:Result Value):R->Prop
 | .fail=>True
 | .ok v up=>up=[]/\∃x,run= .ok x w/\CV loc objs w F v x/\Ref objs v
 | .cond (dc:=_) c v up=>c->up=[]/\∃x,run= .ok x w/\CV loc objs w F v x/\Ref objs v
 | .look .. =>False
 | .call .. =>False
section
variable {loc:Where}{objs:List Obj}{F:Nat->Prop}{w:World}
theorem Jj{run:Result Value}{k:IntKind}{n:Int}(h:run= .ok (.int k n) w):VS loc objs w F run (.ok (.c (.int k n)) []):=⟨rfl,_,h,.int _ _,trivial⟩
theorem vL{run:Result Value}{b:Bool}(h:run= .ok (.bool b) w):VS loc objs w F run (.ok (.c (.bool b)) []):=⟨rfl,_,h,.bool _,trivial⟩
theorem P2(s u:List UInt8):(⟨⟨s⟩⟩:ByteArray)++⟨⟨u⟩⟩=⟨⟨s++u⟩⟩:=by
 apply ByteArray.ext;simp
theorem cK{P:Program}{op:BinOp}{t:TypeId}{vx vy:V}{x y:Value}(hx:CV loc objs w F vx x)(hy:CV loc objs w F vy y):VS loc objs w F ((binOp op t x y).run P w) (hZ op vx vy):=by
 unfold hZ;split
 .rename_i k p k' q;have h1:x= .int k p:=by cases(hx:CD _ _ _ _);rfl
  have h2:y= .int k' q:=by cases(hy:CD _ _ _ _);rfl
  subst h1 h2;split
  .rename_i a3;unfold shV;cases op<;>first
    |trivial
    |(simp[pe]at a3;done)
    |(intro h;refine Jj ?_;have hn:¬q<0:=(by omega);simp[binOp,Op.shift,hn];done)
  split
  .trivial
  .rename_i hk;have hk:k=k':=by simpa using hk
   subst hk;cases op<;>first
    |trivial
    |(rename_i a3;simp[pe]at a3;done)
    |(refine Jj ?_;simp[binOp,J9];done)
    |(refine Jj ?_;simp[binOp,Op.intBits];done)
    |(refine vL ?_;simp[binOp,Op.intCmp];done)
    |(intro h;refine Jj ?_;simp[binOp,Op.intDiv,h];done)
 .rename_i s u;have h1:x= .string ⟨⟨s⟩⟩:=by cases(hx:CD _ _ _ _);rfl
  have h2:y= .string ⟨⟨u⟩⟩:=by cases(hy:CD _ _ _ _);rfl
  subst h1 h2;have hs:(⟨⟨s⟩⟩:ByteArray).size=s.length:=rfl;have hu:(⟨⟨u⟩⟩:ByteArray).size=u.length:=rfl;cases op<;>first
   |trivial
   |(refine vL ?_;simp[binOp,J8];done)
   |skip
  intro h;refine⟨rfl,.string ⟨⟨s++u⟩⟩,?_,CD.str _,trivial⟩;unfold room at h;simp only[binOp,J8,hs,hu];rw[if_neg (by simp[IntKind.max,IntKind.signed,IntKind.bits];omega),P2];rfl
 .trivial
theorem Vq{P:Program}{t:TypeId}(hu:P.underlying t=some .bool)(p q:Bool)(w:World):(J7 t (.bool p) (.bool q)).run P w= .ok (p==q) w:=by
 show(J5 (9999+1) t (.bool p) (.bool q)).run P w=_;rw[J5];simp only[Ls,qN hu,Lr];rfl
theorem SG{d:D}{u v:Value}(h:Q2 d=some u)(hc:CD w F d v):v=u:=by
 unfold Q2 at h;split at h<;>simp only[bv,reduceCtorEq]at h<;>subst h<;>cases hc<;>rfl
theorem vf:∀{ds:List D} {us vs:List Value},jJ ds=some us->All2 (CD w F) ds vs->vs=us
 |[],us,[],h,_=>by simpa [jJ]using h.symm
 |[],_,_::_,_,hc=>hc.elim
 |_::_,_,[],_,hc=>hc.elim
 |d::ds,us,v::vs,h,hc=>by
  unfold jJ at h;split at h
  .rename_i u us' h1 h2;simp only[bv]at h;subst h;rw[SG h1 hc.1,vf h2 hc.2]
  .simp at h
theorem Fo{l l':Lit}{b:Bool}(h:S7 l l'=some b):b=true↔l=l':=by
 unfold S7 at h;split at h<;>simp only[bv,reduceCtorEq]at h<;>subst h<;>simp
theorem H8:∀{l l':List Lit} {b:Bool},Xq l l'=some b->(b=true↔l=l')
 |[],[],b,h=>by simp[Xq]at h;simp[h]
 |[],_::_,_,h=>by simp[Xq]at h
 |_::_,[],_,h=>by simp[Xq]at h
 |x::l,y::l',b,h=>by
  unfold Xq at h;split at h
  .rename_i p q h1 h2;simp only[bv]at h;subst h;rw[Hv,Fo h1,H8 h2,List.cons.injEq]
  .simp at h
theorem SH{P:Program}{t:TypeId}{fs:Array Field}(hu:P.underlying t=some (.struct fs)){us vs:List Value}{b:Bool}(h:og P t us vs=some b):
 (J7 t (.agg us.toArray) (.agg vs.toArray)).run P w= .ok b w/\P.eqGuardType P.depth t=false:=by
 unfold og at h;split at h
 .rename_i hk;simp only[Hv,Hx]at hk;obtain⟨h1,h2,h3,h4⟩:=hk;have h3:=W4 h3;have h4:=W4 h4;split at h
  .rename_i l l' e1 e2;have fx:∀zs:List Value,zs.length=P.cellsOf t->(Value.agg zs.toArray).formed P t=true:=by intro zs hz;simp only[Value.formed,hu,List.size_toArray,hz,beq_self_eq_true]
   obtain⟨r,hr,a3⟩:=run_equalIn_deep (P:=P) 9900 100 t h1 w 100 100 (.agg us.toArray) (.agg vs.toArray) l l' (fx _ h3) (fx _ h4) (by simpa [M0]using e1) (by simpa [M0]using e2);have hb:=H8 h;have:r=b:=by rw[Bool.eq_iff_iff,a3,hb]
   subst this;exact⟨hr,h2⟩
  .simp at h
 .simp at h
theorem Qc{xs:Array Value}{us:List Value}(h:xs.toList=us):xs=us.toArray:=by rw[<-h]
def P3:D->Lit
 | .bool b=> .bool b
 | .int k n=> .int k n
 | .str s=> .string s
 |_=> .bool false
theorem Lh{P:Program}{t:TypeId}{d:D}{u:Value}{n:Nat}(h:Hw P t d=true)(hw:wfD d)(hp:Q2 d=some u):P.keyLits (n+1) t [u]=some [P3 d]:=by
 unfold Hw at h;split at h
 .rename_i b hu;simp only[Q2,bv]at hp;subst hp;unfold Lm;simp only[hu,P3]
 .rename_i q k m hu;simp only[Q2,bv]at hp;subst hp;have hq:q=k:=of_decide_eq_true h;subst hq;have hw:q.min<=m/\m<=q.max:=hw;unfold Lm;simp only[hu,P3];rw[if_pos ⟨trivial,by simp[Lit.wf,hw.1,hw.2]⟩]
 .rename_i s hu;simp only[Q2,bv]at hp;subst hp;have hw:s.length<=1073741824:=hw;unfold Lm;simp only[hu,P3];rw[if_pos (by show s.length<=maxLen;unfold maxLen;omega)]
 .simp at h
theorem V8{P:Program}{n:Nat}:∀{fs:List Field} {i:Nat} {ds:List D} {us pre:List Value},vH P fs i ds=true->Vp ds->jJ ds=some us->pre.length=i->
 fs.mapM (λf=>P.keyLits (n+1) f.type (((pre++us).drop f.offset).take (P.cellsOf f.type)))=some (ds.map λd=>[P3 d])
 |[],_,[],us,pre,_,_,_,_=>rfl
 |f::fs,i,d::ds,us,pre,h,hw,hp,hl=>by
  simp only[vH,Hv]at h;obtain⟨h1,h2,h3,h4⟩:=h;have h1:=W4 h1;have h2:=W4 h2;unfold jJ at hp;split at hp
  .rename_i u us' e1 e2;simp only[bv]at hp;subst hp;have hd:((pre++u::us').drop f.offset).take (P.cellsOf f.type)=[u]:=by rw[h1,h2,<-hl,List.drop_left];rfl
   rw[List.mapM_cons,hd,Lh h3 hw.1 e1];have ih:=V8 (n:=n) (pre:=pre++[u]) h4 hw.2 e2 (by simp[hl]);rw[List.append_assoc]at ih;have ih:fs.mapM (λf=>P.keyLits (n+1) f.type (((pre++u::us').drop f.offset).take (P.cellsOf f.type)))=some (ds.map λd=>[P3 d]):=ih;rw[ih];rfl
  .simp at hp
 |[],_,_::_,_,_,h,_,_,_=>by simp[vH]at h
 |_::_,_,[],_,_,h,_,_,_=>by simp[vH]at h
theorem QK{P:Program}:∀{fs:List Field} {i:Nat} {ds:List D},vH P fs i ds=true->∃us,jJ ds=some us/\us.length=ds.length
 |[],_,[],_=>⟨[],rfl,rfl⟩
 |f::fs,i,d::ds,h=>by
  simp only[vH,Hv]at h;obtain⟨_,_,h3,h4⟩:=h;obtain⟨us,h5,h6⟩:=QK h4;unfold Hw at h3;split at h3
  .rename_i b _;exact⟨.bool b::us,by simp only[jJ,Q2,h5],by simp[h6]⟩
  .rename_i k n _;exact⟨.int k n::us,by simp only[jJ,Q2,h5],by simp[h6]⟩
  .rename_i t _;exact⟨.string ⟨⟨t⟩⟩::us,by simp only[jJ,Q2,h5],by simp[h6]⟩
  .simp at h3
 |[],_,_::_,h=>by simp[vH]at h
 |_::_,_,[],h=>by simp[vH]at h
theorem H9{P:Program}:∀{fs:List Field} {i:Nat} {cs ds:List D},vH P fs i cs=true->vH P fs i ds=true->Xq (cs.map P3) (ds.map P3)=some (ig cs ds)
 |[],_,[],[],_,_=>rfl
 |f::fs,i,c::cs,d::ds,h,g=>by
  simp only[vH,Hv]at h g;obtain⟨_,_,h3,h4⟩:=h;obtain⟨_,_,g3,g4⟩:=g;have ih:=H9 h4 g4;have he:S7 (P3 c) (P3 d)=some (eqF c d):=by
   unfold Hw at h3 g3;split at h3
   .rename_i b hu;rw[hu]at g3;cases d<;>first|rfl|(simp at g3;done)
   .rename_i q k m hu;rw[hu]at g3;cases d with
    |int k' m'=>have e1:q=k:=of_decide_eq_true h3;have e2:q=k':=of_decide_eq_true g3;subst e1 e2;simp[P3,S7,eqF]
    |_=>simp at g3
   .rename_i s hu;rw[hu]at g3;cases d<;>first|rfl|(simp at g3;done)
   .simp at h3
  simp only[U0,Xq,he,ih,ig]
 |[],_,_::_,_,h,_=>by simp[vH]at h
 |_::_,_,[],_,h,_=>by simp[vH]at h
 |[],_,[],_::_,_,g=>by simp[vH]at g
 |_::_,_,_::_,[],_,g=>by simp[vH]at g
theorem HA{P:Program}{t:TypeId}{cs ds:List D}(h:S8 P t cs ds=true)(hc:Vp cs)(hd:Vp ds):∃us vs,jJ cs=some us/\jJ ds=some vs/\og P t us vs=some (ig cs ds):=by
 unfold S8 at h;split at h
 .rename_i fs hu;simp only[Hv,Hx]at h;obtain⟨h1,h2,h3,h4,h5,h6,h7⟩:=h;obtain⟨us,e1,l1⟩:=QK h6;obtain⟨vs,e2,l2⟩:=QK h7;have h3:=W4 h3;have h4:=W4 h4;refine⟨us,vs,e1,e2,?_⟩;have a4:∀(es:List D) (xs:List Value),vH P fs.toList 0 es=true->Vp es->jJ es=some xs->xs.length=P.cellsOf t->P.keyLits 100 t xs=some (es.map P3):=λes xs hf hw hp hl=>by
   have hm:=V8 (n:=98) (pre:=[]) hf hw hp rfl;unfold Lm;simp only[hu];rw[if_pos ⟨hl,h5⟩];have a3:fs.toList.mapM (λf=>P.keyLits 99 f.type ((xs.drop f.offset).take (P.cellsOf f.type)))=some (es.map λd=>[P3 d]):=hm;rw[a3];simp only[Option.map_some,bv];clear hm a3 hf hw hp
   induction es with
   |nil=>rfl
   |cons e es ih=>simp only[U0,Pl,List.singleton_append,ih]
  unfold og;rw[h1,h2];have b1:W2 us.length (P.cellsOf t)=true:=by rw[l1,h3];exact bk _
  have b2:W2 vs.length (P.cellsOf t)=true:=by rw[l2,h4];exact bk _
  rw[b1,b2];simp only[Bool.not_false,Bool.and_self];rw[a4 cs us h6 hc e1 (by rw[l1,h3]),a4 ds vs h7 hd e2 (by rw[l2,h4])];exact H9 h6 h7
 .simp at h
theorem P4{P:Program}{t:TypeId}{cs ds:List D}(h:S8 P t cs ds=true):P.eqGuardType P.depth t=false:=by
 unfold S8 at h;split at h
 .simp only[Hv,Hx]at h;exact h.2.1
 .simp at h
theorem cM{P:Program}{op:BinOp}{t:TypeId}{fs:Array Field}(hu:P.underlying t=some (.struct fs)){vx vy:V}{x y:Value}(hx:CV loc objs w F vx x)(hy:CV loc objs w F vy y):VS loc objs w F ((binOp op t x y).run P w) (ii P op t vx vy):=by
 unfold ii;split
 .rename_i cs ds;split
  .rename_i hf;obtain⟨xs,rfl,hx⟩:=hx;obtain⟨ys,rfl,hy⟩:=hy;split
   .rintro⟨hc,hd⟩;obtain⟨us,vs,h1,h2,hb⟩:=HA hf hc hd;have e1:=Qc (vf h1 hx);have e2:=Qc (vf h2 hy);subst e1 e2;have hr:=(SH (w:=w) hu hb).1;refine vL ?_;simp only[binOp,Ls,hr,Lr];rfl
   .rintro⟨hc,hd⟩;obtain⟨us,vs,h1,h2,hb⟩:=HA hf hc hd;have e1:=Qc (vf h1 hx);have e2:=Qc (vf h2 hy);subst e1 e2;have hr:=(SH (w:=w) hu hb).1;refine vL ?_;simp only[binOp,Ls,hr,Lr];rfl
   .trivial
  .trivial
 .trivial
theorem P6{P:Program}{op:BinOp}{t:TypeId}{fs:Array Field}(_:P.underlying t=some (.struct fs)){vx vy:V}{x y:Value}{xo yo:Operand}(hx:CV loc objs w F vx x)(hy:CV loc objs w F vy y)(hr:ii P op t vx vy≠ .fail):
 (eqGuard op t xo yo x y).run P w= .ok () w:=by
 unfold ii at hr;split at hr
 .rename_i cs ds;split at hr
  .rename_i hf;obtain⟨xs,rfl,hx⟩:=hx;obtain⟨ys,rfl,hy⟩:=hy;have hg:=P4 hf;cases op
   case eql|neq=>simp[eqGuard,hg]
   all_goals rfl
  .exact absurd rfl hr
 .exact absurd rfl hr
theorem iR{P:Program}{op:BinOp}{t:TypeId}{vx vy:V}{x y:Value}(hx:CV loc objs w F vx x)(hy:CV loc objs w F vy y):VS loc objs w F ((binOp op t x y).run P w) (eqV P op t vx vy):=by
 unfold eqV;split
 .rename_i hu;split
  .rename_i p q;have h1:x= .bool p:=by cases(hx:CD _ _ _ _);rfl
   have h2:y= .bool q:=by cases(hy:CD _ _ _ _);rfl
   subst h1 h2;cases op<;>first
    |trivial
    |(refine vL ?_;simp only[binOp,Ls,Vq hu,Lr];rfl)
  .trivial
 .rename_i fs hu;exact cM hu hx hy
 .exact cK hx hy
theorem V9{P:Program}{op:BinOp}{t:TypeId}{x y:Operand}{p q:Value}(hp:p.oneCell'=true)(hn:p≠ .nilIface):(eqGuard op t x y p q).run P w= .ok () w:=by
 cases op
 case eql|neq=>
  unfold eqGuard;simp only[Bool.not_true,Bool.false_eq_true,if_false];split
  .simp at hn
  .simp[Lv]at hp
  .rfl
 all_goals rfl
theorem K0{P:Program}{t:TypeId}{ms:Array (String×TypeId)}(hu:P.underlying t=some (.interface ms)){a b:Bool}{x y:Value}(hx:CD w F (.ifc a) x)(hy:CD w F (.ifc b) y)(hab:a=true\/b=true):(J7 t x y).run P w= .ok (a&&b) w:=by
 show(J5 (9999+1) t x y).run P w=_;rw[J5];simp only[Ls,qN hu,Lr];cases hx<;>cases hy<;>first
  |rfl
  |simp at hab
theorem cN{P:Program}{op:BinOp}{t:TypeId}{xo yo:Operand}{vx vy:V}{x y:Value}(hx:CV loc objs w F vx x)(hy:CV loc objs w F vy y):VS loc objs w F ((binOp op t x y).run P w) (cA P op t xo yo vx vy):=by
 unfold cA;split
 .rename_i ms hu;split
  .rename_i a b;split
   .rename_i hab;have a3:a=true\/b=true:=by
     cases a<;>cases b<;>simp at hab ⊢
    have hr:=K0 (P:=P) hu hx hy a3;have hxn:∀k n,x≠ .int k n:=by intro k n e;subst e;cases(hx:CD _ _ _ _)
    cases op<;>first
     |trivial
     |(refine vL ?_
       revert hr;cases(hx:CD _ _ _ _)<;>cases(hy:CD _ _ _ _)<;>intro hr<;>simp[binOp,hr])
   .trivial
  .trivial
 .rename_i el hu;split
  .rename_i es;have hq:∀h:0<es.length,(J7 t x y).run P w= .ok false w/\∃a n c,x= .slice (some a) n c:=λh=>by
    obtain rfl:y= .slice none 0 0:=hy;have hs:∃a n c,x= .slice (some a) n c:=by
     cases(hx:CD _ _ _ _)with
     |nil a c=>simp at h
     |sl=>exact⟨_,_,_,rfl⟩
    obtain⟨a,n,c,rfl⟩:=hs;refine⟨?_,_,_,_,rfl⟩;show(J5 (9999+1) t _ _).run P w=_;rw[J5];simp only[Ls,qN hu,Lr];rfl
   split
   .intro h;obtain⟨h1,a,n,c,rfl⟩:=hq h;exact vL (by simp[binOp,h1])
   .intro h;obtain⟨h1,a,n,c,rfl⟩:=hq h;exact vL (by simp[binOp,h1])
   .trivial
  .trivial
 .exact iR hx hy
theorem cO{P:Program}{ts:Array TypeId}{ty:TypeId}{vx vy:V}{x y:Value}(hx:CV loc objs w F vx x)(hy:CV loc objs w F vy y):
 VS loc objs w F ((Builtin.max_ ts ty #[x,y]).run P w) (mxV true vx vy):=by
 unfold mxV;split
 .rename_i k p k' q;have h1:x= .int k p:=by cases(hx:CD _ _ _ _);rfl
  have h2:y= .int k' q:=by cases(hy:CD _ _ _ _);rfl
  subst h1 h2;split
  .rename_i hk;have hk:k=k':=by simpa using hk
   subst hk;refine Jj ?_;simp only[Builtin.max_,W1,Builtin.max2];by_cases h:p<q<;>simp[h]
  .trivial
 .trivial
theorem cP{P:Program}{ts:Array TypeId}{ty:TypeId}{vx vy:V}{x y:Value}(hx:CV loc objs w F vx x)(hy:CV loc objs w F vy y):
 VS loc objs w F ((Builtin.min_ ts ty #[x,y]).run P w) (mxV false vx vy):=by
 unfold mxV;split
 .rename_i k p k' q;have h1:x= .int k p:=by cases(hx:CD _ _ _ _);rfl
  have h2:y= .int k' q:=by cases(hy:CD _ _ _ _);rfl
  subst h1 h2;split
  .rename_i hk;have hk:k=k':=by simpa using hk
   subst hk;refine Jj ?_;simp only[Builtin.min_,W1,Builtin.min2];by_cases h:q<p<;>simp[h]
  .trivial
 .trivial
theorem iS{P:Program}{op:UnOp}{vx:V}{x:Value}(hx:CV loc objs w F vx x):VS loc objs w F ((Op.unary op x).run P w) (unV op vx):=by
 unfold unV;split
 .rename_i b;have h1:x= .bool b:=by cases(hx:CD _ _ _ _);rfl
  subst h1;exact vL rfl
 .rename_i k n;have h1:x= .int k n:=by cases(hx:CD _ _ _ _);rfl
  subst h1;refine Jj ?_;simp[Op.unary,J9]
 .trivial
theorem Fp{P:Program}{src dst:TypeId}{vx:V}{x:Value}{ds:TypeDesc}(hs:P.underlying src=some ds)(hx:CV loc objs w F vx x):VS loc objs w F ((convert src dst x).run P w) (Fc P dst vx):=by
 unfold Fc;split
 .rename_i k _ k' n hd;have h1:x= .int k' n:=by cases(hx:CD _ _ _ _);rfl
  subst h1;refine Jj ?_;simp only[convert,Ls,qN hs,qN hd,Lr];cases ds<;>simp[Conv.intToInt]
 .rename_i _ n hd;have h1:x= .int .i32 n:=by cases(hx:CD _ _ _ _);rfl
  subst h1;rintro⟨h0,h1⟩;refine⟨rfl,.string ⟨⟨[UInt8.ofNat n.toNat]⟩⟩,?_,CD.str _,trivial⟩;obtain⟨m,rfl⟩:∃m:Nat,n=m:=⟨n.toNat,by omega⟩;have hv:Utf8.encode (m:Int)=⟨⟨[UInt8.ofNat ((m:Int)).toNat]⟩⟩:=by
   unfold Utf8.encode;have a3:Utf8.valid (m:Int)=true:=by unfold Utf8.valid;simp;omega
   simp only[a3,if_true];rw[if_pos (by simp;omega)]
  simp only[convert,Ls,qN hs,qN hd,Lr];cases ds<;>simp[Conv.intToString,hv]
 .trivial
end
end Eng
end
section
namespace Eng
open Go Go.RowKit
def K1:D->Bool
 | .int .. =>true
 | .bool _=>true
 | .str _=>true
 | .ifc _=>true
 |_=>false
def Vr:A->Bool
 | .c d=>K1 d
 | .ag cs=>cs.all K1
section
variable (C:Cx)(B:Bd)(F0:Nat->Prop)(w0:World)(F:Nat->Prop)(loc:Where)(st:St)(a:Act)(w:World)(o:Oper)
def RS:R->Prop
 | .fail=>True
 | .ok v up=>Does C B F0 w0 o a w (st.put o.dst v up)
 | .cond (dc:=_) c v up=>c->Does C B F0 w0 o a w (st.put o.dst v up)
 | .look z row off ag=>∀ds,cut row off z.length ds->Does C B F0 w0 o a w (st.put o.dst (match ag with|true=> .ag ds|false=> .c (nth .undef ds 0)) [])
 | .call f as sh up=>∀rs,qa C f as rs->(zN sh=false->∀r∈rs,Vr r=true)->∀(next:Act->World->Prop) (Q:Exit->Act->World->Prop),
  (∀a' w',St.has C B F0 w0 (st.put o.dst (Ht rs) up) a' w'->next a' w')->o.wp C.P a w next Q
end
section
variable {C:Cx}{B:Bd}{F0:Nat->Prop}{w0:World}{F:Nat->Prop}{loc:Where}{st:St}{a:Act}{w:World}
theorem Xv{o:Oper}{r:R}{run:Result Value}(h:Conc C B F0 w0 F loc st a w)(hvs:VS loc st.objs w F run r)(hex:∀x,run= .ok x w->(execOp a.eval o).run C.P w= .ok (.value x) w):
 RS C B F0 w0 st a w o r:=by
 cases r with
 |fail=>trivial
 |ok v up=>obtain⟨rfl,x,h1,h2,h3⟩:=hvs;exact xb h (hex x h1) h2 h3
 |cond c v up=>intro hc;obtain⟨rfl,x,h1,h2,h3⟩:=hvs hc;exact xb h (hex x h1) h2 h3
 |look z row off ag=>exact hvs.elim
 |call f as sh up=>exact hvs.elim
theorem qT{o:Oper}{v:V}{x:Value}(h:Conc C B F0 w0 F loc st a w)(hv:CV loc st.objs w F v x)(hr:Ref st.objs v)(hex:(execOp a.eval o).run C.P w= .ok (.value x) w):
 RS C B F0 w0 st a w o (.ok v []):=xb h hex hv hr
theorem cQ{dst:Option Nat}{x:Operand}{ty:TypeId}{pos:String}{after:Array Edge}{g:Option (Nat×Bool)}(h:Conc C B F0 w0 F loc st a w):
 RS C B F0 w0 st a w ⟨dst,.move x,ty,pos,after,g⟩ (.ok (ev st x) []):=qT h (xg h x).1 (xg h x).2 rfl
theorem SI{dst:Option Nat}{x:Operand}{ty:TypeId}{pos:String}{after:Array Edge}{g:Option (Nat×Bool)}(h:Conc C B F0 w0 F loc st a w):
 RS C B F0 w0 st a w ⟨dst,.assign x,ty,pos,after,g⟩ (.ok (ev st x) []):=qT h (xg h x).1 (xg h x).2 rfl
theorem YH{x:Value}{b:Bool}(h:CD w F (.bool b) x):x= .bool b:=by cases h;rfl
theorem vM{x:Value}{k:IntKind}{n:Int}(h:CD w F (.int k n) x):x= .int k n:=by cases h;rfl
theorem Z2{x:Value}{s:List UInt8}(h:CD w F (.str s) x):x= .string ⟨⟨s⟩⟩:=by cases h;rfl
theorem cT{dst:Option Nat}{c x y:Operand}{ty:TypeId}{pos:String}{after:Array Edge}{g:Option (Nat×Bool)}(h:Conc C B F0 w0 F loc st a w):
 RS C B F0 w0 st a w ⟨dst,.pick c x y,ty,pos,after,g⟩ (xr C ⟨dst,.pick c x y,ty,pos,after,g⟩ (ev st) st.objs):=by
 simp only[xr];split
 .rename_i t hc;have h1:=(xg h c).1;rw[hc]at h1;have h2:=YH h1;split
  .exact qT h (xg h x).1 (xg h x).2 (by simp[execOp,h2,asBool])
  .exact qT h (xg h y).1 (xg h y).2 (by simp[execOp,h2,asBool])
 .trivial
theorem K2(objs:List Obj){w:World}:∀{z:List Value},(∀x∈z,x.oneCell'=true)->All2 (λv x=>CV loc objs w F v x/\x.oneCell'=true) (z.map Q0) z
 |[],_=>trivial
 |x::z,h=>⟨⟨(Kz loc objs w F x).1,h x (by simp)⟩,K2 objs λy hy=>h y (by simp[hy])⟩
theorem P7(objs:List Obj)(z:List Value):∀v∈z.map Q0,Ref objs v:=by
 intro v hv;obtain⟨x,_,rfl⟩:=U3.1 hv;exact(Kz ⟨default,λ_=>none,λ_=>0⟩ objs default (λ_=>False) x).2
theorem JF{dst:Option Nat}{d:Nat}{cells:List V}{cs:Array Value}{t:TypeId}(h:Conc C B F0 w0 F loc st a w)(hd:qD st.objs d=true)(hc:All2 (λv x=>CV (at_ loc d (w.heap.size,0)) (upd st.objs d (.box cells)) (w.alloc (.cells cs t)) F v x/\x.oneCell'=true) cells cs.toList)(hr:∀v∈cells,Ref (upd st.objs d (.box cells)) v):
 St.has C B F0 w0 (st.put dst (.box d 0) [(d,.box cells)]) (a.put dst (.pointer (some ⟨w.heap.size,0,none⟩))) (w.alloc (.cells cs t)):=by
 obtain⟨_,hlt⟩:=qR hd;refine⟨F,at_ loc d (w.heap.size,0),h.new (tt:=0) hd ?_ ?_ ?_⟩
 .refine⟨w.heap.size,0,cs,t,by simp[at_],λhF=>?_,by show(w.heap.push _)[w.heap.size]? =_;simp,hc,hr⟩;have:=h.bound _ hF;omega
 .intro a3 _ _;exact⟨w.heap.size,0,by simp[at_],rfl⟩
 .show nth .none (upd st.objs d (.box cells)) d≠ .none;rw[qc _ _ _ hlt];simp
theorem Fq{dst:Option Nat}{d:Nat}{t:TypeId}(h:Conc C B F0 w0 F loc st a w)(hd:qD st.objs d=true):
 St.has C B F0 w0 (st.put dst (.box d 0) [(d,.bld t .nilS)]) (a.put dst (.pointer (some ⟨w.heap.size,0,none⟩))) (w.alloc (.cells #[.pointer none,.slice none 0 0] t)):=by
 obtain⟨_,hlt⟩:=qR hd;refine⟨F,at_ loc d (w.heap.size,0),h.new (tt:=0) hd ?_ ?_ ?_⟩
 .refine⟨w.heap.size,0,.pointer none,.slice none 0 0,by simp[at_],λhF=>?_,by show(w.heap.push _)[w.heap.size]? =_;simp,.inl rfl,rfl,trivial,λj hj=>by simp at hj⟩;have:=h.bound _ hF;omega
 .intro a3 _ _;exact⟨w.heap.size,0,by simp[at_],rfl⟩
 .show nth .none (upd st.objs d (.bld t .nilS)) d≠ .none;rw[qc _ _ _ hlt];simp
theorem Fr{dst:Option Nat}{t:TypeId}{ty:TypeId}{pos:String}{after:Array Edge}{g:Option (Nat×Bool)}(h:Conc C B F0 w0 F loc st a w):
 RS C B F0 w0 st a w ⟨dst,.alloc t,ty,pos,after,g⟩ (xr C ⟨dst,.alloc t,ty,pos,after,g⟩ (ev st) st.objs):=by
 simp only[xr];split
 .rename_i d;split
  .rename_i z hd hz;obtain⟨v,h1,h2⟩:=Fk hz w;obtain⟨_,_,_,_,_,_,a3,_⟩:=zO hz;split
   .refine⟨_,_,_,?_,.inl rfl,JF (cs:=v.cells) (t:=t) h hd ?_ (P7 _ _)⟩
    .simp[execOp,J4,h1,newVar,newRow]
    .rw[h2];exact K2 _ a3
   .split
    .have h3:v.cells= #[.pointer none,.slice none 0 0]:=by apply Array.ext';exact h2
     refine⟨_,_,_,?_,.inl rfl,Fq (t:=t) h hd⟩;simp[execOp,J4,h1,newVar,newRow,h3]
    .trivial
  .trivial
 .trivial
theorem iT{dst:Option Nat}{t:TypeId}{x:Operand}{ty:TypeId}{pos:String}{after:Array Edge}{g:Option (Nat×Bool)}(h:Conc C B F0 w0 F loc st a w):
 RS C B F0 w0 st a w ⟨dst,.box t x,ty,pos,after,g⟩ (xr C ⟨dst,.box t x,ty,pos,after,g⟩ (ev st) st.objs):=by
 simp only[xr];have hx:=(xg h x).1;have a3:(execOp a.eval ⟨dst,.box t x,ty,pos,after,g⟩).run C.P w= .ok (.value (.pointer (some ⟨w.heap.size,0,none⟩))) (w.alloc (.cells (a.eval x).cells t)):=by simp[execOp,Instr.box,newVar,newRow]
 have a4:∀(cs:Array Value) (b:Nat),F b->(w.alloc (.cells cs t)).heap[b]? =w.heap[b]? :=λcs b hb=>Below.heap_alloc _ _ _ (h.bound b hb)
 split
 .rename_i d;split
  .rename_i hd;split
   .rename_i cs _ hv;rw[hv]at hx;obtain⟨vs,h1,h2⟩:=hx;refine⟨_,_,_,a3,.inl rfl,JF h hd ?_ ?_⟩
    .rw[h1];show All2 _ (cs.map V.c) vs.toList;clear a3 hv h1;generalize vs.toList=l at h2;have:∀(cs:List D) (l:List Value),All2 (CD w F) cs l->∀(cells:List V) (vs:Array Value),All2 (λv x=>CV (at_ loc d (w.heap.size,0)) (upd st.objs d (.box cells)) (w.alloc (.cells vs t)) F v x/\x.oneCell'=true) (cs.map V.c) l:=by
      intro cs
      induction cs with
      |nil=>intro l hl;cases l with|nil=>exact λ_ _=>trivial|cons _ _=>exact hl.elim
      |cons c cs ih=>
       intro l hl;cases l with
       |nil=>exact hl.elim
       |cons y l=>exact λcells vs=>⟨⟨hl.1.mono (λ_ h=>h) (a4 vs),hl.1.one⟩,ih l hl.2 cells vs⟩
     exact this cs l h2 _ _
    .intro v hv;obtain⟨_,_,rfl⟩:=U3.1 hv;trivial
   .rename_i dv _ hv;rw[hv]at hx;have h1:CD w F dv (a.eval x):=hx;have h2:=h1.one;have h3:(a.eval x).cells.toList=[a.eval x]:=by generalize a.eval x=y at h2;cases y<;>first|rfl|simp[Lv]at h2
    refine⟨_,_,_,a3,.inl rfl,JF h hd ?_ ?_⟩
    .rw[h3];exact⟨⟨h1.mono (λ_ h=>h) (a4 _),h2⟩,trivial⟩
    .intro v hv;simp at hv;subst hv;trivial
   .rename_i _ hv;rw[hv]at hx;have h1:a.eval x= .slice none 0 0:=hx;refine⟨_,_,_,a3,.inl rfl,JF h hd ?_ ?_⟩
    .rw[h1];exact⟨⟨rfl,rfl⟩,trivial⟩
    .intro v hv;simp at hv;subst hv;trivial
   .trivial
  .trivial
 .trivial
end
end Eng
end
section
namespace Eng
open Go Go.RowKit
def qK {α:Type}:List α->Nat->List α->List α
 |cs,_,[]=>cs
 |cs,off,d::ds=>qK (upd cs off d) (off+1) ds
theorem qS{α:Type}:∀(vs:List α) (cs:List α) (off:Nat),(qK cs off vs).length=cs.length
 |[],_,_=>rfl
 |v::vs,cs,off=>by simp[qK,qS vs,qi]
theorem YI:∀(vs:List D) (cs:List D) (off:Nat),zU cs off vs=qK cs off vs
 |[],_,_=>rfl
 |v::vs,cs,off=>by simp[qK,zU,YI vs]
theorem Np:∀(vs:List D) (cs:List V) (off:Nat),S6 cs off vs=qK cs off (vs.map V.c)
 |[],_,_=>rfl
 |v::vs,cs,off=>by simp[qK,S6,Np vs]
theorem All2.upds{α β:Type}{R:α->β->Prop}:∀(ds:List α) (vs:List β) (as:List α) (bs:List β) (off:Nat),All2 R ds vs->All2 R as bs->All2 R (qK as off ds) (qK bs off vs)
 |[],[],_,_,_,_,h=>h
 |_::ds,_::vs,_,_,_,hd,h=>All2.upds ds vs _ _ _ hd.2 (All2.upd hd.1 h)
 |[],_::_,_,_,_,hd,_=>hd.elim
 |_::_,[],_,_,_,hd,_=>hd.elim
theorem xM{α:Type}(d:α):∀(vs:List α) (cs:List α) (off i:Nat),i<off->nth d (qK cs off vs) i=nth d cs i
 |[],_,_,_,_=>rfl
 |v::vs,cs,off,i,h=>by simp only[qK];rw[xM d vs _ _ _ (by omega),qb _ _ _ (by omega)]
theorem zG{α:Type}(d:α):∀(vs:List α) (cs:List α) (off i:Nat),i<vs.length->off+i<cs.length->nth d (qK cs off vs) (off+i)=nth d vs i
 |[],_,_,_,h,_=>absurd h (by simp)
 |v::vs,cs,off,0,_,h2=>by simp only[qK,ba];rw[xM d vs _ _ _ (by omega),qc _ _ _ (by omega)];rfl
 |v::vs,cs,off,i+1,h,h2=>by have:=zG d vs (Eng.upd cs off v) (off+1) i (by simpa using h) (by rw[qi];omega);simp only[qK];rw[show off+(i+1)=off+1+i by omega,this];rfl
theorem kb{α:Type}(d:α):∀(vs:List α) (cs:List α) (off i:Nat),off+vs.length<=i->nth d (qK cs off vs) i=nth d cs i
 |[],_,_,_,_=>rfl
 |v::vs,cs,off,i,h=>by simp only[qK];simp at h;rw[kb d vs _ _ _ (by omega),qb _ _ _ (by omega)]
def setBlk (w:World) (b:Nat) (o:I0):World:={w with heap:=w.heap.setIfInBounds b o}
theorem zk{w:World}{b:Nat}{o:I0}(h:b<w.heap.size):(setBlk w b o).heap[b]? =some o:=by simp[setBlk,h]
theorem zl{w:World}{b i:Nat}{o:I0}(h:b≠i):(setBlk w b o).heap[i]? =w.heap[i]? :=by
 simp only[setBlk];rw[Array.getElem?_setIfInBounds_ne h]
theorem zH{w:World}{b:Nat}{o:I0}:(setBlk w b o).heap.size=w.heap.size:=by simp[setBlk]
theorem BelowX.setBlk{B:Bd}{w0 w:World}{b:Nat}{o:I0}(h:BelowX B w0 w)(hb:Own B b):BelowX B w0 (setBlk w b o):=
 h.trans ⟨rfl,rfl,rfl,by simp[Eng.setBlk],λk hk hx=>zl (λe=>by
  subst e;rcases hb with hb|hb
  .omega
  .exact hx hb)⟩
theorem jq{w:World}{b:Nat}{o o':I0}:setBlk (setBlk w b o) b o'=setBlk w b o':=by
 simp only[setBlk];congr 1;apply Dd;intro i;simp only[B0];split<;>simp_all
theorem QL{w:World}{b:Nat}{o:I0}(h:w.heap[b]? =some o):setBlk w b o=w:=by
 cases w with
 |mk heap tape drawn os output=>
  simp only[setBlk];congr 1;apply Dd;intro i;simp only[B0];simp only at h;split
  .rename_i hi;subst hi;have:b<heap.size:=by
    rcases W3 b heap.size with h1|h1
    .exact h1
    .simp[h1]at h
   rw[F2 this]at h ⊢;simp at h;simp[this,h]
  .rfl
theorem K3{w:World}{b off:Nat}{cs:Array Value}{t:TypeId}{v:Value}(h:w.heap[b]? =some (.cells cs t (0,0))):w.setCell ⟨b,off,none⟩ v=setBlk w b (.cells (cs.setIfInBounds off v) t (0,0)):=by
 simp only[World.setCell,setBlk];congr 1;apply Dd;intro i;simp only[Array.getElem?_modify,B0];split
 .rename_i hi;subst hi;have:b<w.heap.size:=by
   rcases W3 b w.heap.size with h1|h1
   .exact h1
   .simp[h1]at h
  rw[F2 this]at h ⊢;simp at h;simp[this,h]
 .rfl
theorem zp(b o n:Nat):(⟨b,o,none⟩:Addr).add n=⟨b,o+n,none⟩:=by
 unfold Addr.add;split<;>simp_all
theorem xW{w:World}{b off:Nat}{cs:Array Value}{t:TypeId}(h:w.heap[b]? =some (.cells cs t (0,0))):w.cell? ⟨b,off,none⟩=cs[off]? :=by simp[M3,h]
theorem vg{w:World}{b off:Nat}{cs:Array Value}{t:TypeId}(h:w.heap[b]? =some (.cells cs t (0,0))):w.frozen? ⟨b,off,none⟩=false:=by simp[World.frozen?,h]
theorem xN{P:Program}{b o:Nat}{t:TypeId}:∀(vs:List Value) (i:Nat) (w:World) (cs:Array Value),w.heap[b]? =some (.cells cs t (0,0))->o+i+vs.length<=cs.size->(∀v∈vs,v.oneCell'=true)->
 (storeCells ⟨b,o,none⟩ vs i).run P w= .ok () (setBlk w b (.cells (qK cs.toList (o+i) vs).toArray t (0,0)))
 |[],i,w,cs,h,_,_=>by simp only[storeCells,qK,Array.toArray_toList];rw[QL h];rfl
 |v::vs,i,w,cs,h,hl,hone=>by
  simp at hl;have hb:b<w.heap.size:=by
   rcases W3 b w.heap.size with h1|h1
   .exact h1
   .simp[h1]at h
  have hst:(store ((⟨b,o,none⟩:Addr).add i) v).run P w= .ok () (setBlk w b (.cells (cs.setIfInBounds (o+i) v) t (0,0))):=by
   rw[zp,run_store P w _ v _ (hone v (by simp)),xW h,vg h,K3 h];have:cs[o+i]? =some cs[o+i]:=by simp[show o+i<cs.size by omega]
   rw[this];rfl
  have ih:=xN (P:=P) (o:=o) vs (i+1) (setBlk w b (.cells (cs.setIfInBounds (o+i) v) t (0,0))) _ (zk hb) (by simp;omega) (λx hx=>hone x (by simp[hx]));simp only[storeCells,Ls,hst,Lr,ih,jq,qK,Array.toList_setIfInBounds,<-xx];rw[show o+(i+1)=o+i+1 by omega]
section
variable {C:Cx}{B:Bd}{F0:Nat->Prop}{w0:World}{F:Nat->Prop}{loc:Where}{st:St}{a:Act}{w:World}
theorem Conc.writeX(x:Value){dst:Option Nat}{k:Nat}{ob:Obj}{b c:Nat}{cs:Array Value}{t:TypeId}(h:Conc C B F0 w0 F loc st a w)(hk:k<st.objs.length)(hl:loc k=some (b,c))(hF:¬F b)(hob:CO loc (upd st.objs k ob) (setBlk w b (.cells cs t (0,0))) F k ob)(hle:Le st.objs (upd st.objs k ob) loc loc):
 Conc C B F0 w0 F loc (st.put dst .any [(k,ob)]) (a.put dst x) (setBlk w b (.cells cs t (0,0))):=by
 have hf:=h.fresh _ _ _ hl;have hw:∀b',F b'->(setBlk w b (.cells cs t (0,0))).heap[b']? =w.heap[b']? :=λb' hb=>zl (λe=>hF (e▸hb))
 refine h.step (up:=[(k,ob)]) (loc':=loc) (λ_ h=>h) hw hle (BelowX.setBlk h.below hf.1) (by rw[zH];exact h.hB) (λj=>?_) h.inj (λj b' c' hj=>by rw[zH];exact h.fresh _ _ _ hj) (λb hb=>by rw[zH];exact h.bound b hb) h.fsub trivial trivial;show CO _ (upd st.objs k ob) _ _ _ (nth .none (upd st.objs k ob) j);by_cases hkj:k=j
 .subst hkj;rw[qc _ _ _ hk];exact hob
 .rw[qb _ _ _ hkj];refine CO.le (λ_ h=>h) hw hle rfl rfl (λb' c' hb=>⟨zl (λe=>hkj ?_),λh=>h⟩) (h.objs j);subst e;exact h.inj _ _ _ _ _ hl hb
theorem Conc.write{dst:Option Nat}{k:Nat}{ob:Obj}{b c:Nat}{cs:Array Value}{t:TypeId}(h:Conc C B F0 w0 F loc st a w)(hk:k<st.objs.length)(hl:loc k=some (b,c))(hF:¬F b)(hob:CO loc (upd st.objs k ob) (setBlk w b (.cells cs t (0,0))) F k ob)(hle:Le st.objs (upd st.objs k ob) loc loc):
 Conc C B F0 w0 F loc (st.put dst .any [(k,ob)]) (a.put dst undef) (setBlk w b (.cells cs t (0,0))):=
 h.writeX undef hk hl hF hob hle
end
end Eng
end
section
namespace Eng
open Go Go.RowKit
def TO {α:Type} (f:Nat->α):Nat->Nat->List α
 |_,0=>[]
 |off,n+1=>f off::TO f (off+1) n
theorem jK{α:Type}(f:Nat->α):∀(n off:Nat),(V1 n).map (λj=>f (off+j))=TO f off n
 |0,_=>rfl
 |n+1,off=>by rw[List.range_succ_eq_map,U0,List.map_map];simp only[TO,ba];rw[<-jK f n (off+1)];congr 1;apply List.map_congr_left;intro j _;simp only[Function.comp,Nat.succ_eq_add_one];rw[show off+(j+1)=off+1+j by omega]
theorem QM{α:Type}(f:Nat->α):∀(n off:Nat),(TO f off n).length=n
 |0,_=>rfl
 |n+1,off=>by simp[TO,QM f n]
theorem VA(cs:List D):∀(n off:Nat),seg cs off n=TO (λj=>nth .undef cs j) off n
 |0,_=>rfl
 |n+1,off=>by simp[seg,TO,VA cs n]
theorem SJ(cs:List V):∀(n off:Nat),oe cs off n=TO (λj=>nth .any cs j) off n
 |0,_=>rfl
 |n+1,off=>by simp[oe,TO,SJ cs n]
theorem K4{α β:Type}{R:α->β->Prop}{f:Nat->α}{g:Nat->β}:∀(n off:Nat),(∀j,j<n->R (f (off+j)) (g (off+j)))->All2 R (TO f off n) (TO g off n)
 |0,_,_=>trivial
 |n+1,off,h=>⟨by simpa using h 0 (by omega),K4 n (off+1) λj hj=>by
  have:=h (j+1) (by omega)
  rwa [show off+(j+1)=off+1+j by omega]at this⟩
theorem JG{α:Type}(d:α)(f:Nat->α):∀(n off i:Nat),i<n->nth d (TO f off n) i=f (off+i)
 |0,_,_,h=>absurd h (by omega)
 |n+1,off,0,_=>rfl
 |n+1,off,i+1,h=>by simp only[TO,nth];rw[JG d f n (off+1) i (by omega),show off+1+i=off+(i+1)by omega]
theorem za{loc:Where}{objs:List Obj}{w:World}{F:Nat->Prop}:∀{vs:List V} {ds:List D} {xs:List Value},qC vs=some ds->All2 (CV loc objs w F) vs xs->All2 (CD w F) ds xs
 |[],ds,xs,hd,h=>by
  simp only[qC,bv]at hd;subst hd;cases xs with
  |nil=>trivial
  |cons _ _=>exact h.elim
 | .c d::r,ds,[],hd,h=>h.elim
 | .c d::r,ds,x::xs,hd,h=>by simp only[qC,Option.map_eq_some_iff]at hd;obtain⟨ds',h1,rfl⟩:=hd;exact⟨h.1,za h1 h.2⟩
 | .nilS::r,ds,[],hd,h=>h.elim
 | .nilS::r,ds,x::xs,hd,h=>by simp only[qC,Option.map_eq_some_iff]at hd;obtain⟨ds',h1,rfl⟩:=hd;have h2:x= .slice none 0 0:=h.1;subst h2;exact⟨.nil _ _,za h1 h.2⟩
 | .any::_,_,_,hd,_=>by simp[qC]at hd
 | .no::_,_,_,hd,_=>by simp[qC]at hd
 | .ag _::_,_,_,hd,_=>by simp[qC]at hd
 | .tp _::_,_,_,hd,_=>by simp[qC]at hd
 | .box _ _::_,_,_,hd,_=>by simp[qC]at hd
 | .arr _::_,_,_,hd,_=>by simp[qC]at hd
 | .elt _ _ _::_,_,_,hd,_=>by simp[qC]at hd
 | .sub _ _ _::_,_,_,hd,_=>by simp[qC]at hd
 | .eref _ _ _::_,_,_,hd,_=>by simp[qC]at hd
 | .fn _::_,_,_,hd,_=>by simp[qC]at hd
 | .arrAt _ _ _ _::_,_,_,hd,_=>by simp[qC]at hd
 | .boxAt _ _::_,_,_,hd,_=>by simp[qC]at hd
theorem xd{size:Nat}:∀{es:List (List D)} (_:∀e∈es,e.length=size) (i m:Nat),i<es.length->m<size->nth .undef es.flatten (i*size+m)=nth .undef (nth [] es i) m
 |[],_,_,_,hi,_=>absurd hi (by simp)
 |e::es,hs,0,m,_,hm=>by have he:=hs e (by simp);simp only[Pl,be,bh,nth,qF];rw[List.getElem?_append_left (by omega)]
 |e::es,hs,i+1,m,hi,hm=>by
  have he:=hs e (by simp);have ih:=xd (size:=size) (es:=es) (λe he=>hs e (by simp[he])) i m (by simpa using hi) hm;simp only[Pl,qF]at ih ⊢;rw[List.getElem?_append_right (by rw[aE];omega)];rw[show(i+1)*size+m-e.length=i*size+m by rw[aE];omega]
  simpa using ih
theorem HD{i n s m:Nat}(hi:i<n)(hm:m<s):i*s+m<n*s:=by
 have h1:(i+1)*s<=n*s:=bb s hi;rw[aE]at h1;omega
section
variable {C:Cx}{B:Bd}{F0:Nat->Prop}{w0:World}{F:Nat->Prop}{loc:Where}{st:St}{a:Act}{w:World}
theorem Qd{P:Program}{t:TypeId}{z:List Value}{b o:Nat}(hz:ka P t=some z)(f:Nat->Value)(h:∀j,j<z.length->w.cell? ⟨b,o+j,none⟩=some (f (o+j))):
 (I2 t (.pointer (some ⟨b,o,none⟩))).run P w= .ok (match y9 P t with|true=> .agg (TO f o z.length).toArray|false=>f o) w\/(y9 P t=false/\z.length=0):=by
 have h1:=Z1 hz w;have h2:=xc hz w;cases ht:y9 P t with
 |true=>rw[ht]at h1;have h3:=run_loadCells (P:=P) w ⟨b,o,none⟩ z.length (λj=>f (o+j)) (λj hj=>by rw[zp];exact h j hj);left;simp[I2,I3,loadVar,h1,h2,h3,<-jK]
 |false=>
  rw[ht]at h1;rcases Nat.eq_zero_or_pos z.length with h0|h0
  .exact .inr ⟨rfl,h0⟩
  .have h3:=h 0 h0;left;simp at h3;simp[I2,I3,loadVar,h1,h3]
theorem cV{dst:Option Nat}{t:TypeId}{x:Operand}{ty:TypeId}{pos:String}{after:Array Edge}{g:Option (Nat×Bool)}(h:Conc C B F0 w0 F loc st a w):
 RS C B F0 w0 st a w ⟨dst,.load t x,ty,pos,after,g⟩ (xr C ⟨dst,.load t x,ty,pos,after,g⟩ (ev st) st.objs):=by
 simp only[xr,Fe];have hx:=(xg h x).1;have a8:∀y,(I2 t (a.eval x)).run C.P w= .ok y w->(execOp a.eval ⟨dst,.load t x,ty,pos,after,g⟩).run C.P w= .ok (.value y) w:=λy hy=>by simp[execOp,hy]
 split
 .trivial
 .rename_i z hz;obtain⟨_,zv,_,_,hzc,_,_,hzt,_⟩:=zO hz;have ad:y9 C.P t=false->0<z.length:=by intro hf;cases zv<;>simp[hf]at hzt<;>(subst hzc;simp[M0])
  split
  .rename_i k a3 hv;rw[hv]at hx;split
   .rename_i a6 hk;obtain⟨b,c,hl,hp⟩:=hx _ hk rfl;have an:=h.objs k;rw[hk]at an;obtain⟨b',c',cs,t',a9,hnF,al,ag,b3⟩:=an;rw[hl]at a9;simp only[bv,bw]at a9;obtain⟨rfl,rfl⟩:=a9;have b6:=ag.length;have a5:∀j,j<a6.length->w.cell? ⟨b,j,none⟩=some (nth undef cs.toList j):=λj hj=>by rw[xW al,qm _ (by omega)];simp at b6;simp[show j<cs.size by omega]
    split
    .rename_i ht;split
     .rename_i b5;have b5:a3+z.length<=a6.length:=by simpa using b5
      split
      .rename_i ds hds;have h1:=Qd (w:=w) (b:=b) (o:=a3) hz (λj=>nth undef cs.toList j) (λj hj=>a5 _ (by omega));rcases h1 with h1|⟨h1,_⟩
       .rw[ht]at h1;rw[hp]at a8;refine qT h ⟨_,rfl,?_⟩ trivial (a8 _ h1);refine za (loc:=loc) (objs:=st.objs) hds ?_;rw[SJ];exact K4 _ _ λj hj=>(ag.nth _ _ _ _ _ (by omega)).1
       .rw[ht]at h1;simp at h1
      .trivial
     .trivial
    .rename_i ht;split
     .rename_i b2;have b2:a3<a6.length:=by simpa using b2
      have h2:=Z1 hz w;rw[ht]at h2;rw[hp]at a8;refine qT h (ag.nth .any undef _ _ _ b2).1 ?_ (a8 _ ?_)
      .rw[qm _ b2];exact b3 _ (P1 b2)
      .simp[I2,I3,loadVar,h2,a5 a3 b2]
     .trivial
   .trivial
  .rename_i es i a3 hv;rw[hv]at hx;obtain⟨b,o,a4,hp,hi,b1⟩:=hx;intro ds ap;obtain⟨a7,b5⟩:=ap;have hei:(nth [] es i).length=a4:=by rw[qm _ hi];exact b1.hs _ (P1 hi)
   have a5:∀j,j<z.length->∃v,w.cell? ⟨b,o+i*a4+a3+j,none⟩=some v/\CD w F (nth .undef (nth [] es i) (a3+j)) v:=λj hj=>by obtain⟨v,h1,h2⟩:=b1.hc (i*a4+(a3+j)) (HD hi (by omega));rw[xd b1.hs _ _ hi (by omega)]at h2;exact⟨v,by rw[<-h1];congr 2;omega,h2⟩
   have b7:∀j,∃v,j<z.length->w.cell? ⟨b,o+i*a4+a3+j,none⟩=some v/\CD w F (nth .undef (nth [] es i) (a3+j)) v:=λj=>by
    by_cases hj:j<z.length
    .obtain⟨v,hv⟩:=a5 j hj;exact⟨v,λ_=>hv⟩
    .exact⟨undef,λh=>absurd h hj⟩
   let f:Nat->Value:=λp=>HZ (b7 (p-(o+i*a4+a3)))
   have hf:∀j,j<z.length->w.cell? ⟨b,o+i*a4+a3+j,none⟩=some (f (o+i*a4+a3+j))/\CD w F (nth .undef (nth [] es i) (a3+j)) (f (o+i*a4+a3+j)):=λj hj=>by have:=Hy (b7 j) hj;simp only[f,Nat.add_sub_cancel_left];exact this
   have h1:=Qd (w:=w) (b:=b) (o:=o+i*a4+a3) hz f (λj hj=>(hf j hj).1);rw[hp]at a8;rcases h1 with h1|⟨h1,h2⟩
   .cases ht:y9 C.P t with
    |true=>
     rw[ht]at h1;refine xb h (a8 _ h1) ⟨_,rfl,?_⟩ trivial;rw[<-a7,VA];simp only;rw[<-jK,<-jK];have:∀l:List Nat,(∀j∈l,j<z.length)->All2 (CD w F) (l.map λj=>nth .undef (nth [] es i) (a3+j)) (l.map λj=>f (o+i*a4+a3+j)):=by
      intro l
      induction l with
      |nil=>intro _;trivial
      |cons j l ih=>intro hl;exact⟨(hf j (hl j (by simp))).2,ih λj' hj'=>hl j' (by simp[hj'])⟩
     exact this _ λj hj=>by simpa using hj
    |false=>
     rw[ht]at h1;have b4:=ad ht;refine xb h (a8 _ h1) ?_ trivial;have:=(hf 0 b4).2;simp only[ba]at this;show CD w F (nth .undef ds 0) _;rw[<-a7,VA,JG _ _ _ _ _ b4]
     simpa using this
   .have:=ad h1;omega
  .rename_i k i a3 hv;rw[hv]at hx;split
   .rename_i s es fz hk;obtain⟨b,c,hl,hi,hp⟩:=hx s es fz hk;have an:=h.objs k;rw[hk]at an;obtain⟨_,hs0,hs,an⟩:=an;rcases an with⟨a9,_⟩|⟨b',c',cs,t',a9,hnF,al,hsz,hlc,hcs⟩
    .rw[hl]at a9;simp at a9
    rw[hl]at a9;simp only[bv,bw]at a9;obtain⟨rfl,rfl⟩:=a9;intro ds ap;obtain⟨a7,b5⟩:=ap;have hei:(nth [] es i).length=s:=by rw[qm _ hi];exact hs _ (P1 hi)
    have hf:∀j,j<z.length->w.cell? ⟨b,i*s+a3+j,none⟩=some (nth undef cs.toList (i*s+a3+j))/\CD w F (nth .undef (nth [] es i) (a3+j)) (nth undef cs.toList (i*s+a3+j)):=λj hj=>by
     obtain⟨v,h1,h2⟩:=hcs.1 (i*s+(a3+j)) (HD hi (by omega));rw[xd hs _ _ hi (by omega)]at h2;have h3:nth undef cs.toList (i*s+a3+j)=v:=by rw[qF];rw[show i*s+a3+j=i*s+(a3+j)by omega];simp[h1]
     rw[h3,xW al];refine⟨?_,h2⟩;rw[show i*s+a3+j=i*s+(a3+j)by omega,h1]
    have h1:=Qd (w:=w) (b:=b) (o:=i*s+a3) hz (λp=>nth undef cs.toList p) (λj hj=>(hf j hj).1);rw[hp]at a8;rcases h1 with h1|⟨h1,h2⟩
    .cases ht:y9 C.P t with
     |true=>
      rw[ht]at h1;refine xb h (a8 _ h1) ⟨_,rfl,?_⟩ trivial;rw[<-a7,VA];simp only;rw[<-jK,<-jK];have:∀l:List Nat,(∀j∈l,j<z.length)->All2 (CD w F) (l.map λj=>nth .undef (nth [] es i) (a3+j)) (l.map λj=>nth undef cs.toList (i*s+a3+j)):=by
       intro l
       induction l with
       |nil=>intro _;trivial
       |cons j l ih=>intro hl;exact⟨(hf j (hl j (by simp))).2,ih λj' hj'=>hl j' (by simp[hj'])⟩
      exact this _ λj hj=>by simpa using hj
     |false=>
      rw[ht]at h1;have b4:=ad ht;refine xb h (a8 _ h1) ?_ trivial;have:=(hf 0 b4).2;simp only[ba]at this;show CD w F (nth .undef ds 0) _;rw[<-a7,VA,JG _ _ _ _ _ b4]
      simpa using this
    .have:=ad h1;omega
   .trivial
  .trivial
end
end Eng
end
section
namespace Eng
open Go Go.RowKit
section
variable {C:Cx}{B:Bd}{F0:Nat->Prop}{w0:World}{F:Nat->Prop}{loc:Where}{st:St}{a:Act}{w:World}
theorem HE{x:Value}(h:x.oneCell'=true):x.cells.toList=[x]:=by
 cases x<;>first|rfl|simp[Lv]at h
theorem vN{P:Program}{t t':TypeId}{z:List Value}{b o:Nat}{cs:Array Value}{x:Value}(hz:ka P t=some z)(hb:w.heap[b]? =some (.cells cs t' (0,0)))(hlen:x.cells.toList.length=z.length)(hle:o+z.length<=cs.size)(hone:∀v∈x.cells.toList,v.oneCell'=true):
 (J3 t (.pointer (some ⟨b,o,none⟩)) x).run P w= .ok () (setBlk w b (.cells (qK cs.toList o x.cells.toList).toArray t' (0,0))):=by
 have h2:=xc hz w;have h3:=xN (P:=P) (o:=o) x.cells.toList 0 w cs hb (by omega) hone;have h4:¬x.cells.size≠z.length:=by
  grind
 simp only[J3,I3,storeVar,Ls,Sem.run_pure,Lr,h2,if_neg h4]
 grind
theorem ax{objs:List Obj}{k:Nat}{cells cells':List V}(hk:nth .none objs k= .box cells):Le objs (upd objs k (.box cells')) loc loc:=by
 have hlt:k<objs.length:=by
  grind [W3,qG]
 refine⟨rfl,λ_ _=>rfl,λj hj=>?_,λj o' hj hc hbx=>?_,λj s' es' fz' hj hc=>?_⟩
 .grind [qc,qb]
 .by_cases hkj:k=j
  .subst hkj;exact⟨by rw[hk];rfl,rfl⟩
  grind [qb]
 grind [qc,qb]
theorem SK{objs:List Obj}{k s:Nat}{es es':List (List D)}{fz fz':Bool}(hk:nth .none objs k= .arr s es fz)(hlen:es'.length=es.length):Le objs (upd objs k (.arr s es' fz')) loc loc:=by
 have hlt:k<objs.length:=by
  grind [W3,qG]
 refine⟨rfl,λ_ _=>rfl,λj hj=>?_,λj o' hj hc hbx=>?_,λj s' es'' fz'' hj hc=>?_⟩
 .grind [qc,qb]
 .by_cases hkj:k=j
  .subst hkj;rw[qc _ _ _ hlt]at hc;rw[<-hc]at hbx;simp[kl]at hbx
  grind [qb]
 grind [qc,Obj.arr.injEq,qb]
theorem VB{dst:Option Nat}{k off b c:Nat}{cells vs:List V}{cs:Array Value}{t':TypeId}{xs:List Value}(h:Conc C B F0 w0 F loc st a w)(hk:nth .none st.objs k= .box cells)(hl:loc k=some (b,c))(hnF:¬F b)(hall:All2 (λv x=>CV loc st.objs w F v x/\x.oneCell'=true) cells cs.toList)(hrefs:∀v∈cells,Ref st.objs v)(hvs:All2 (λv x=>CV loc st.objs w F v x/\x.oneCell'=true) vs xs)(hvr:∀v∈vs,Ref st.objs v):
 Conc C B F0 w0 F loc (st.put dst .any [(k,.box (qK cells off vs))]) (a.put dst undef) (setBlk w b (.cells (qK cs.toList off xs).toArray t' (0,0))):=by
 have hlt:k<st.objs.length:=by
  grind [W3,qG]
 have a4:Le st.objs (upd st.objs k (.box (qK cells off vs))) loc loc:=ax hk;have hf:=h.fresh _ _ _ hl;have hw:∀b',F b'->(setBlk w b (.cells (qK cs.toList off xs).toArray t' (0,0))).heap[b']? =w.heap[b']? :=λb' hb=>zl (λe=>hnF (e▸hb))
 have a3:∀(vs:List V) (cells:List V) (off:Nat) (v:V),v∈qK cells off vs->v∈cells\/v∈vs:=by
  intro vs
  induction vs with
  |nil=>intro cells off v hv;exact .inl hv
  |cons u vs ih=>
   intro cells off v hv;rcases ih _ _ _ hv with hv|hv
   .grind [zV]
   grind
 refine h.write hlt hl hnF ?_ a4;have a5:∀v x,(CV loc st.objs w F v x/\x.oneCell'=true)->Ref st.objs v->(CV loc (upd st.objs k (.box (qK cells off vs))) (setBlk w b (.cells (qK cs.toList off xs).toArray t' (0,0))) F v x/\x.oneCell'=true):=λv x hx hr=>⟨CV.le (λ_ h=>h) hw a4 hr hx.1,hx.2⟩
 refine⟨b,c,_,t',hl,hnF,zk hf.2,?_,?_⟩
 .exact All2.upds vs xs cells cs.toList off (hvs.mono_mem λv hv x hx=>a5 v x hx (hvr v hv)) (hall.mono_mem λv hv x hx=>a5 v x hx (hrefs v hv))
 .intro v hv;rcases a3 _ _ _ _ hv with hv|hv
  .exact(hrefs v hv).le a4
  .exact(hvr v hv).le a4
theorem upd1{α:Type}(l:List α)(i:Nat)(y:α):upd l i y=qK l i [y]:=rfl
theorem QN{size:Nat}:∀(es:List (List D)) (_:∀e∈es,e.length=size) (i off:Nat) (ds:List D),i<es.length->off+ds.length<=size->(upd es i (qK (nth [] es i) off ds)).flatten=qK es.flatten (i*size+off) ds
 |[],_,_,_,_,hi,_=>absurd hi (by simp)
 |e::es,hs,0,off,ds,_,hd=>by
  have he:=hs e (by simp);simp only[upd,nth,Pl,be,bh];have:∀(ds:List D) (e r:List D) (off:Nat),off+ds.length<=e.length->qK e off ds++r=qK (e++r) off ds:=by
   intro ds
   induction ds with
   |nil=>intro _ _ _ _;rfl
   |cons d ds ih=>intro e r off h;simp only[Ts]at h;simp only[qK];rw[ih _ _ _ (by rw[qi];omega)];congr 1;rw[xx,xx,List.set_append_left _ _ (by omega)]
  grind
 |e::es,hs,i+1,off,ds,hi,hd=>by
  have he:=hs e (by simp);have ih:=QN (size:=size) es (λe he=>hs e (by simp[he])) i off ds (by simpa using hi) hd;simp only[upd,nth,Pl,ih];have:∀(ds:List D) (e r:List D) (off:Nat),e++qK r off ds=qK (e++r) (e.length+off) ds:=by
   intro ds
   induction ds with
   |nil=>intro _ _ _;rfl
   |cons d ds ih=>intro e r off;simp only[qK];rw[ih e (upd r off d) (off+1)];congr 1;rw[xx,xx,List.set_append_right _ _ (by omega)];congr 2;omega
  grind
theorem Xw{dst:Option Nat}{k i off b c s:Nat}{es:List (List D)}{cs:Array Value}{t':TypeId}{ds:List D}{xs:List Value}(h:Conc C B F0 w0 F loc st a w)(hk:nth .none st.objs k= .arr s es false)(hl:loc k=some (b,c))(hi:i<es.length)(hblk:w.heap[b]? =some (.cells cs t' (0,0)))(hxs:All2 (CD w F) ds xs)(hle':off+ds.length<=s):
 Conc C B F0 w0 F loc (st.put dst .any [(k,.arr s (upd es i (qK (nth [] es i) off ds)) false)]) (a.put dst undef) (setBlk w b (.cells (qK cs.toList (i*s+off) xs).toArray t' (0,0))):=by
 have hlt:k<st.objs.length:=by
  rcases W3 k st.objs.length with h1|h1
  .exact h1
  .rw[qG _ h1]at hk;simp at hk
 have ag:Le st.objs (upd st.objs k (.arr s (upd es i (qK (nth [] es i) off ds)) false)) loc loc:=SK hk (by rw[qi]);have hf:=h.fresh _ _ _ hl;have a7:=h.objs k;rw[hk]at a7;obtain⟨a4,hs0,hs,a7⟩:=a7;rcases a7 with⟨a5,_⟩|⟨b',c',cs',t'',a5,a6,a3,hsz,ad,a8⟩
 .rw[hl]at a5;simp at a5
 rw[hl]at a5;simp only[bv,bw]at a5;obtain⟨rfl,rfl⟩:=a5;rw[hblk]at a3;simp only[bv,Go.Obj.cells.injEq,and_true]at a3;obtain⟨rfl,rfl⟩:=a3;have a6:¬F b:=a6;have hw:∀b',F b'->(setBlk w b (.cells (qK cs.toList (i*s+off) xs).toArray t' (0,0))).heap[b']? =w.heap[b']? :=λb' hb=>zl (λe=>a6 (e▸hb))
 refine h.write hlt hl a6 ⟨by rw[qi];exact a4,hs0,?_,.inr ⟨b,c,_,t',hl,a6,zk hf.2,?_,by rw[qi];exact ad,?_,a8.2⟩⟩ ag
 .intro e he;rcases zV he with he|rfl
  .exact hs e he
  .rw[qS,qm _ hi];exact hs _ (P1 hi)
 .simp[qS,hsz]
 .rw[qi];intro j hj;rw[QN es hs i off ds hi hle'];obtain⟨v0,h1,h2⟩:=a8.1 j hj;have hxl:=hxs.length;have hjs:j<cs.size:=by
   rcases W3 j cs.size with h3|h3
   .exact h3
   .simp[h3]at h1
  have hfl:es.flatten.length=es.length*s:=by
   clear a8 hj h1 h2 ad hi hk a4 ag h
   induction es with
   |nil=>simp
   |cons e es ih=>rw[Pl,W0,hs e (by simp),ih (λe he=>hs e (by simp[he])),Ts,aE];omega
  have a9:∀(l:List Value),l.length=cs.size->∃v,l.toArray[j]? =some v/\nth undef l j=v:=λl hl=>⟨nth undef l j,by rw[qm _ (by omega)];simp[show j<l.length by omega],rfl⟩
  obtain⟨v,q1,q2⟩:=a9 (qK cs.toList (i*s+off) xs) (by simp[qS]);refine⟨v,q1,?_⟩;rw[<-q2];by_cases hin:i*s+off<=j/\j<i*s+off+ds.length
  .obtain⟨m,rfl⟩:∃m,j=i*s+off+m:=⟨j-(i*s+off),by omega⟩;rw[zG _ _ _ _ _ (by omega) (by rw[hfl];omega),zG _ _ _ _ _ (by omega) (by simpa using hjs)];exact(hxs.nth .undef undef ds xs m (by omega)).mono (λ_ h=>h) hw
  .have h3:nth undef cs.toList j=v0:=by rw[qF];simp[h1]
   rcases W3 j (i*s+off)with h4|h4
   .rw[xM _ _ _ _ _ h4,xM _ _ _ _ _ h4,h3];exact h2.mono (λ_ h=>h) hw
   .rw[kb _ _ _ _ _ (by omega),kb _ _ _ _ _ (by omega),h3];exact h2.mono (λ_ h=>h) hw
theorem Vs(x:Value){dst:Option Nat}{k p b c s:Nat}{es es':List (List D)}{cs:Array Value}{t':TypeId}{ds:List D}{xs:List Value}(h:Conc C B F0 w0 F loc st a w)(hk:nth .none st.objs k= .arr s es false)(hl:loc k=some (b,c))(hblk:w.heap[b]? =some (.cells cs t' (0,0)))(hxs:All2 (CD w F) ds xs)(hlen:es'.length=es.length)(hs':∀e∈es',e.length=s)(hfe:es'.flatten=qK es.flatten p ds)(_hp:p+ds.length<=es.length*s):
 Conc C B F0 w0 F loc (st.put dst .any [(k,.arr s es' false)]) (a.put dst x) (setBlk w b (.cells (qK cs.toList p xs).toArray t' (0,0))):=by
 have hlt:k<st.objs.length:=by
  rcases W3 k st.objs.length with h1|h1
  .exact h1
  .rw[qG _ h1]at hk;simp at hk
 have ag:Le st.objs (upd st.objs k (.arr s es' false)) loc loc:=SK hk hlen;have hf:=h.fresh _ _ _ hl;have a7:=h.objs k;rw[hk]at a7;obtain⟨a4,hs0,hs,a7⟩:=a7;rcases a7 with⟨a5,_⟩|⟨b',c',cs',t'',a5,a6,a3,hsz,ad,a8⟩
 .rw[hl]at a5;simp at a5
 rw[hl]at a5;simp only[bv,bw]at a5;obtain⟨rfl,rfl⟩:=a5;rw[hblk]at a3;simp only[bv,Go.Obj.cells.injEq,and_true]at a3;obtain⟨rfl,rfl⟩:=a3;have a6:¬F b:=a6;have hw:∀b',F b'->(setBlk w b (.cells (qK cs.toList p xs).toArray t' (0,0))).heap[b']? =w.heap[b']? :=λb' hb=>zl (λe=>a6 (e▸hb))
 refine h.writeX x hlt hl a6 ⟨by rw[hlen];exact a4,hs0,hs',.inr ⟨b,c,_,t',hl,a6,zk hf.2,?_,by rw[hlen];exact ad,?_,a8.2⟩⟩ ag
 .simp[qS,hsz]
 .rw[hlen];intro j hj;rw[hfe];obtain⟨v0,h1,h2⟩:=a8.1 j hj;have hxl:=hxs.length;have hjs:j<cs.size:=by
   rcases W3 j cs.size with h3|h3
   .exact h3
   .simp[h3]at h1
  have hfl:es.flatten.length=es.length*s:=by
   clear a8 hj h1 h2 ad hk a4 ag h hlen hfe _hp
   induction es with
   |nil=>simp
   |cons e es ih=>rw[Pl,W0,hs e (by simp),ih (λe he=>hs e (by simp[he])),Ts,aE];omega
  have a9:∀(l:List Value),l.length=cs.size->∃v,l.toArray[j]? =some v/\nth undef l j=v:=λl hl=>⟨nth undef l j,by rw[qm _ (by omega)];simp[show j<l.length by omega],rfl⟩
  obtain⟨v,q1,q2⟩:=a9 (qK cs.toList p xs) (by simp[qS]);refine⟨v,q1,?_⟩;rw[<-q2];by_cases hin:p<=j/\j<p+ds.length
  .obtain⟨m,rfl⟩:∃m,j=p+m:=⟨j-p,by omega⟩;rw[zG _ _ _ _ _ (by omega) (by rw[hfl];omega),zG _ _ _ _ _ (by omega) (by simpa using hjs)];exact(hxs.nth .undef undef ds xs m (by omega)).mono (λ_ h=>h) hw
  .have h3:nth undef cs.toList j=v0:=by rw[qF];simp[h1]
   rcases W3 j p with h4|h4
   .rw[xM _ _ _ _ _ h4,xM _ _ _ _ _ h4,h3];exact h2.mono (λ_ h=>h) hw
   .rw[kb _ _ _ _ _ (by omega),kb _ _ _ _ _ (by omega),h3];exact h2.mono (λ_ h=>h) hw
theorem HF{α:Type}:∀(R M:List α) (A Bx:List α),R.length=M.length->qK (A++(M++Bx)) A.length R=A++(R++Bx)
 |[],M,A,Bx,h=>by have:M=[]:=List.eq_nil_of_length_eq_zero (by grind);subst this;rfl
 |r::R,[],A,Bx,h=>by grind
 |r::R,m::M,A,Bx,h=>by
  simp only[qK];have e1:upd (A++(m::M++Bx)) A.length r=(A++[r])++(M++Bx):=by rw[xx];simp
  have e2:A.length+1=(A++[r]).length:=by simp
  rw[e1,e2,HF R M (A++[r]) Bx (by grind)];simp
theorem Fs{dst:Option Nat}{t:TypeId}{p x:Operand}{ty:TypeId}{pos:String}{after:Array Edge}{g:Option (Nat×Bool)}(h:Conc C B F0 w0 F loc st a w):
 RS C B F0 w0 st a w ⟨dst,.store t p x,ty,pos,after,g⟩ (xr C ⟨dst,.store t p x,ty,pos,after,g⟩ (ev st) st.objs):=by
 simp only[xr,Nk];have hp:=(xg h p).1;have hx:=(xg h x).1;have hxr:=(xg h x).2;have a7:∀w',(J3 t (a.eval p) (a.eval x)).run C.P w= .ok () w'->(execOp a.eval ⟨dst,.store t p x,ty,pos,after,g⟩).run C.P w= .ok .skip w':=λw' hy=>by simp[execOp,hy]
 split
 .trivial
 .rename_i z hz;split
  .rename_i k b4 hv;rw[hv]at hp;split
   .rename_i a5 hk;obtain⟨b,c,hl,ap⟩:=hp _ hk rfl;have ad:=h.objs k;rw[hk]at ad;obtain⟨b',c',cs,t',a6,an,a4,a9,a8⟩:=ad;rw[hl]at a6;simp only[bv,bw]at a6;obtain⟨rfl,rfl⟩:=a6;have hlen:a5.length=cs.size:=by simpa using a9.length
    rw[ap]at a7;split
    .split
     .rename_i ds hds;rw[hds]at hx;obtain⟨vs,b2,a3⟩:=hx;split
      .rename_i hc;simp only[Hv,decide_eq_true_eq]at hc;have hvl:=a3.length;rw[b2]at a7;refine⟨_,_,_,a7 _ (vN hz a4 (by simp only[M0];omega) (by omega) ?_),.inr ⟨rfl,rfl⟩,F,loc,?_⟩
       .intro v hv;have:∀(ds:List D) (vs:List Value),All2 (CD w F) ds vs->∀v∈vs,v.oneCell'=true:=by
         intro ds
         induction ds with
         |nil=>intro vs a3 v hv;cases vs with|nil=>simp at hv|cons _ _=>exact a3.elim
         |cons d ds ih=>
          intro vs a3 v hv;cases vs with
          |nil=>exact a3.elim
          |cons y vs=>
           rcases T1.1 hv with rfl|hv
           .exact a3.1.one
           .exact ih vs a3.2 v hv
        exact this ds _ a3 v hv
       .rw[Np];refine VB h hk hl an a9 a8 ?_ (λv hv=>by obtain⟨_,_,rfl⟩:=U3.1 hv;trivial);show All2 _ (ds.map V.c) vs.toList;have:∀(ds:List D) (vs:List Value),All2 (CD w F) ds vs->All2 (λv x=>CV loc st.objs w F v x/\x.oneCell'=true) (ds.map V.c) vs:=by
         intro ds
         induction ds with
         |nil=>intro vs a3;cases vs with|nil=>trivial|cons _ _=>exact a3.elim
         |cons d ds ih=>intro vs a3;cases vs with|nil=>exact a3.elim|cons y vs=>exact⟨⟨a3.1,a3.1.one⟩,ih vs a3.2⟩
        exact this ds _ a3
      .trivial
     .trivial
    .have b3:∀(v:V),ev st x=v->(a.eval x).oneCell'=true->(decide (b4<a5.length)&&decide (z.length=1))=true->
      Does C B F0 w0 ⟨dst,.store t p x,ty,pos,after,g⟩ a w (st.put dst .any [(k,.box (upd a5 b4 v))]):=by
      intro v hve ag hc;simp only[Hv,decide_eq_true_eq]at hc;have h1:=HE ag;refine⟨_,_,_,a7 _ (vN hz a4 (by rw[h1];simp;omega) (by omega) (by rw[h1];simpa using ag)),.inr ⟨rfl,rfl⟩,F,loc,?_⟩;rw[h1,upd1];subst hve;exact VB h hk hl an a9 a8 ⟨⟨hx,ag⟩,trivial⟩ (λu hu=>by simp at hu;subst hu;exact hxr)
     split
     .rename_i d hd;split
      .rename_i hc;exact b3 _ hd (by rw[hd]at hx;exact CD.one hx) hc
      .trivial
     .rename_i hd;split
      .rename_i hc;exact b3 _ hd (by rw[hd]at hx;rw[show a.eval x= .slice none 0 0 from hx];rfl) hc
      .trivial
     .rename_i j hd;split
      .rename_i s' es' fz' hj;split
       .rename_i hc;refine b3 _ hd ?_ hc;rw[hd]at hx;rcases hx s' es' fz' hj with⟨b1,c1,_,h2⟩|⟨_,_,h2⟩
        .rw[h2];rfl
        .rw[h2];rfl
       .trivial
      .trivial
     .trivial
   .trivial
  .rename_i k i b4 hv;rw[hv]at hp;split
   .rename_i s es hk;obtain⟨b,c,hl,hi,ap⟩:=hp s es false hk;have ad:=h.objs k;rw[hk]at ad;obtain⟨_,hs0,hs,ad⟩:=ad;rcases ad with⟨a6,_⟩|⟨b',c',cs,t',a6,an,a4,hsz,hlc,hcs⟩
    .rw[hl]at a6;simp at a6
    rw[hl]at a6;simp only[bv,bw]at a6;obtain⟨rfl,rfl⟩:=a6;rw[ap]at a7;have hmul:=HD (s:=s) (m:=s-1) hi (by omega);have hcap:es.length*s<=c*s:=bb s hlc.1;split
    .rename_i d hd;split
     .rename_i hc;simp only[Hv,decide_eq_true_eq]at hc;intro al;rw[hd]at hx;have h1:=HE (CD.one hx);refine⟨_,_,_,a7 _ (vN hz a4 (by rw[h1];simp;omega) (by omega) (by rw[h1];simpa using CD.one hx)),.inr ⟨rfl,rfl⟩,F,loc,?_⟩;rw[h1];exact Xw (ds:=[d]) h hk hl hi a4 ⟨hx,trivial⟩ (by simp;omega)
     .trivial
    .rename_i ds hd;split
     .rename_i hc;simp only[Hv,decide_eq_true_eq]at hc;intro al;rw[hd]at hx;obtain⟨vs,b2,a3⟩:=hx;have hvl:=a3.length;rw[b2]at a7;refine⟨_,_,_,a7 _ (vN hz a4 (by simp only[M0];omega) (by omega) ?_),.inr ⟨rfl,rfl⟩,F,loc,?_⟩
      .intro v hv;have:∀(ds:List D) (vs:List Value),All2 (CD w F) ds vs->∀v∈vs,v.oneCell'=true:=by
        intro ds
        induction ds with
        |nil=>intro vs a3 v hv;cases vs with|nil=>simp at hv|cons _ _=>exact a3.elim
        |cons d ds ih=>
         intro vs a3 v hv;cases vs with
         |nil=>exact a3.elim
         |cons y vs=>
          rcases T1.1 hv with rfl|hv
          .exact a3.1.one
          .exact ih vs a3.2 v hv
       exact this ds _ a3 v hv
      .rw[YI];exact Xw (ds:=ds) h hk hl hi a4 a3 al
     .trivial
    .trivial
   .trivial
  .trivial
end
abbrev an0:Nat->Ann:=λ_=>⟨[],[],λ_ _=>True,λ_=>0⟩
end Eng
end
