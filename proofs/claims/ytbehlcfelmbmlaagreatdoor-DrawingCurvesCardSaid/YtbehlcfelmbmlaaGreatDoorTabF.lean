/- strings.Trim and TrimLeft with sets of ASCII characters. -/
import Derived.Test.YtbehlcfelmbmlaaGreatDoorShfA
import Derived.Test.YtbehlcfelmbmlaaGreatDoorCtxB
import Derived.Test.YtbehlcfelmbmlaaGreatDoorExA
open Bool renaming and_eq_true→Aa
open Nat renaming le_of_ble_eq_true→Ab, eq_of_beq_eq_true→Ac, beq→Ad, ble→Ae
open Option.some renaming injEq→Af
section
namespace Eng
open Go Go.Proofs
set_option maxRecDepth 1000000
theorem PM {s cut:List UInt8} (hs:s.length≤1073741824) (hc:cut.length≤1000) (ha:∀(j:Nat) b,cut[j]? =some b→b.toNat<128):qe CC 322 [.c (.str s),.c (.str cut)] [.c (.str (Lib.trimS s cut))]:=
 kJ rfl (fun _ _=>CD.str _) fun w F _=>Go.Proofs.Any.strings_Trim_laid Tryz.lays160 (by kernel_rfl) ⟨⟨s⟩⟩ ⟨⟨cut⟩⟩ w (by show s.length≤_;omega) (by show cut.length<_;omega) ha
theorem MV {s cut:List UInt8} (hc:cut.length≤1000) (ha:∀(j:Nat) b,cut[j]? =some b→b.toNat<128):qe CC 250 [.c (.str s),.c (.str cut)] [.c (.str (Lib.trimLeftS s cut))]:=
 kJ rfl (fun _ _=>CD.str _) fun w F _=>Go.Proofs.Any.strings_TrimLeft_laid Tryz.lays161 (by kernel_rfl) ⟨⟨s⟩⟩ ⟨⟨cut⟩⟩ w (by show cut.length<_;omega) ha
def S7:List UInt8→Bool
 |[]=>true
 |b::r=>Nat.blt b.toNat 128&&S7 r
theorem W9:∀{l:List UInt8},S7 l=true→∀(j:Nat) b,l[j]? =some b→b.toNat<128
 |[],_,j,b,h=>by simp at h
 |a::r,hb,j,b,h=>by
  simp only[S7,Aa]at hb;rw[Nat.blt_eq]at hb;cases j with
  |zero=>simp only[List.getElem?_cons_zero,Af]at h;rw[←h];exact hb.1
  |succ j=>exact W9 hb.2 j b (by simpa using h)
end Eng
end

section
namespace Eng
open Go Go.Proofs
def Gt (cs:List UInt8):List UInt8→List UInt8
 |[]=>[]
 |a::l=>match cs.any fun c=>Ad c.toNat a.toNat with
  |true=>Gt cs l
  |false=>a::l
theorem y3 (cs:List UInt8):∀l,Gt cs l=Lib.trimLeftS l cs
 |[]=>rfl
 |a::l=>by
  have e:(cs.any fun c=>Ad c.toNat a.toNat)=cs.contains a:=by
   rw[Bool.eq_iff_iff,List.any_eq_true,List.contains_iff_exists_mem_beq];constructor
   ·rintro⟨c,h1,h2⟩;exact⟨c,h1,by rw[beq_iff_eq];exact(UInt8.toNat_inj.1 (Ac h2)).symm⟩
   ·rintro⟨c,h1,h2⟩;rw[beq_iff_eq]at h2;exact⟨c,h1,by rw[h2];exact Nat.beq_refl _⟩
  unfold Gt Lib.trimLeftS;rw[List.dropWhile_cons,e];cases h:cs.contains a
  ·simp
  ·simp only[if_true];exact y3 cs l
def SX (f:Nat) (al:List A):Option (List A):=
 match Ad f 322 with
 |true=>match al with
  |[.c (.str s),.c (.str cs)]=>match Ae s.length 1073741824&&(Ae cs.length 1000&&S7 cs)with
   |true=>some [.c (.str (Gt cs (Gt cs s.reverse).reverse))]
   |false=>none
  |_=>none
 |false=>match Ad f 250 with
  |true=>match al with
   |[.c (.str s),.c (.str cs)]=>match Ae cs.length 1000&&S7 cs with
    |true=>some [.c (.str (Gt cs s))]
    |false=>none
   |_=>none
  |false=>Zj f al
theorem PN (f:Nat) (al rs:List A) (h:SX f al=some rs):qe CC f al rs:=by
 unfold SX at h;split at h
 ·rename_i hf;obtain rfl:=Ac hf;split at h
  ·rename_i s cs;split at h
   ·rename_i hb;simp only[Aa]at hb;simp only[Af]at h;subst h;rw[y3,y3];exact PM (Ab hb.1) (Ab hb.2.1) (W9 hb.2.2)
   ·simp at h
  ·simp at h
 ·split at h
  ·rename_i hf;obtain rfl:=Ac hf;split at h
   ·rename_i s cs;split at h
    ·rename_i hb;simp only[Aa]at hb;simp only[Af]at h;subst h;rw[y3];exact MV (Ab hb.1) (W9 hb.2)
    ·simp at h
   ·simp at h
  ·exact Uf f al rs h
theorem MW {ex:List (Nat×ZA)} (f:Nat) (al rs:List A) (h:SX f al=some rs):qe (CX ex) f al rs:=upX (PN f al rs h)
end Eng
end
