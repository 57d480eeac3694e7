import Derived.Test.YthpplhmhgcenkaaGreatDoorCtF
section
namespace Eng
open Go Go.Proofs
set_option maxRecDepth 1000000
def pcL:Bool→List (List D)
 |true=>[MB,MD,ME,MF,MG]
 |false=>[Eb,Ec,Ed,Ee]
def pcA (b:Bool):List A:=[.c (.sl (pcL b))]
theorem pcV:Kx zx F4 1000 40 318 (pcA false) none []=some (66,pcL false):=by kernel_rfl
end Eng
end
