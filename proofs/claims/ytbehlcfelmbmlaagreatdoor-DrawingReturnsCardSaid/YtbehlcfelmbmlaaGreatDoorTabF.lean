/- strings.Trim and TrimLeft with sets of ASCII characters. -/
import Derived.Test.YtbehlcfelmbmlaaGreatDoorShfA
import Derived.Test.YtbehlcfelmbmlaaGreatDoorCtxB
import Derived.Test.YtbehlcfelmbmlaaGreatDoorExA
open Bool renaming and_eq_true→Aw
open Nat renaming le_of_ble_eq_true→Bx, eq_of_beq_eq_true→Dd, beq→F0, ble→F2
open Option.some renaming injEq→Gv
section
namespace Eng
open Go Go.Proofs
set_option maxRecDepth 1000000
theorem PT {s cut:List UInt8} (hs:s.length≤1073741824) (hc:cut.length≤1000) (ha:∀(j:Nat) b,cut[j]? =some b→b.toNat<128):qf CC 322 [.c (.str s),.c (.str cut)] [.c (.str (Lib.trimS s cut))]:=
 kJ rfl (fun _ _=>CD.str _) fun w F _=>Go.Proofs.Any.strings_Trim_laid Tryz.lays160 (by kernel_rfl) ⟨⟨s⟩⟩ ⟨⟨cut⟩⟩ w (by show s.length≤_;omega) (by show cut.length<_;omega) ha
theorem Tj {s cut:List UInt8} (hc:cut.length≤1000) (ha:∀(j:Nat) b,cut[j]? =some b→b.toNat<128):qf CC 250 [.c (.str s),.c (.str cut)] [.c (.str (Lib.trimLeftS s cut))]:=
 kJ rfl (fun _ _=>CD.str _) fun w F _=>Go.Proofs.Any.strings_TrimLeft_laid Tryz.lays161 (by kernel_rfl) ⟨⟨s⟩⟩ ⟨⟨cut⟩⟩ w (by show cut.length<_;omega) ha
def AL:List UInt8→Bool
 |[]=>true
 |b::r=>Nat.blt b.toNat 128&&AL r
theorem JF:∀{l:List UInt8},AL l=true→∀(j:Nat) b,l[j]? =some b→b.toNat<128
 |[],_,j,b,h=>by simp at h
 |a::r,hb,j,b,h=>by
  simp only[AL,Aw]at hb;rw[Nat.blt_eq]at hb;cases j with
  |zero=>simp only[List.getElem?_cons_zero,Gv]at h;rw[←h];exact hb.1
  |succ j=>exact JF hb.2 j b (by simpa using h)
end Eng
end

section
namespace Eng
open Go Go.Proofs
def M4 (cs:List UInt8):List UInt8→List UInt8
 |[]=>[]
 |a::l=>match cs.any fun c=>F0 c.toNat a.toNat with
  |true=>M4 cs l
  |false=>a::l
theorem Zc (cs:List UInt8):∀l,M4 cs l=Lib.trimLeftS l cs
 |[]=>rfl
 |a::l=>by
  have e:(cs.any fun c=>F0 c.toNat a.toNat)=cs.contains a:=by
   rw[Bool.eq_iff_iff,List.any_eq_true,List.contains_iff_exists_mem_beq];constructor
   ·rintro⟨c,h1,h2⟩;exact⟨c,h1,by rw[beq_iff_eq];exact(UInt8.toNat_inj.1 (Dd h2)).symm⟩
   ·rintro⟨c,h1,h2⟩;rw[beq_iff_eq]at h2;exact⟨c,h1,by rw[h2];exact Nat.beq_refl _⟩
  unfold M4 Lib.trimLeftS;rw[List.dropWhile_cons,e];cases h:cs.contains a
  ·simp
  ·simp only[if_true];exact Zc cs l
def Iq (f:Nat) (al:List A):Option (List A):=
 match F0 f 322 with
 |true=>match al with
  |[.c (.str s),.c (.str cs)]=>match F2 s.length 1073741824&&(F2 cs.length 1000&&AL cs)with
   |true=>some [.c (.str (M4 cs (M4 cs s.reverse).reverse))]
   |false=>none
  |_=>none
 |false=>match F0 f 250 with
  |true=>match al with
   |[.c (.str s),.c (.str cs)]=>match F2 cs.length 1000&&AL cs with
    |true=>some [.c (.str (M4 cs s))]
    |false=>none
   |_=>none
  |false=>WO f al
theorem EV (f:Nat) (al rs:List A) (h:Iq f al=some rs):qf CC f al rs:=by
 unfold Iq at h;split at h
 ·rename_i hf;obtain rfl:=Dd hf;split at h
  ·rename_i s cs;split at h
   ·rename_i hb;simp only[Aw]at hb;simp only[Gv]at h;subst h;rw[Zc,Zc];exact PT (Bx hb.1) (Bx hb.2.1) (JF hb.2.2)
   ·simp at h
  ·simp at h
 ·split at h
  ·rename_i hf;obtain rfl:=Dd hf;split at h
   ·rename_i s cs;split at h
    ·rename_i hb;simp only[Aw]at hb;simp only[Gv]at h;subst h;rw[Zc];exact Tj (Bx hb.1) (JF hb.2)
    ·simp at h
   ·simp at h
  ·exact OU f al rs h
theorem B0 {ex:List (Nat×Vq)} (f:Nat) (al rs:List A) (h:Iq f al=some rs):qf (CX ex) f al rs:=upX (EV f al rs h)
end Eng
end
