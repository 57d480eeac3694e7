import Derived.Test.YtmfkgpfkpnmdnaaGreatDoorCtF
section
namespace Eng
open Go Go.Proofs
set_option maxRecDepth 1000000
def pcL : Nat -> List (List D)
  | 0 => [Tk.d1, Tk.d0, Tk.d3, Tk.d6]
  | 1 => [Tk.d1, Tk.d0, Tk.d8, Tk.d9, Tk.d11]
  | 2 => [Tk.d1, Tk.d0, Tk.d13]
  | 3 => [Tk.d15, Tk.d19]
  | _ => [Tk.d21, Tk.d22]
def pcA (k : Nat) : List A := [.c (.sl (pcL k))]
def PcR (k : Nat) : Prop := Kb zt F4 1000 40 256 (pcA k) none [] = some (66, pcL k)
end Eng
end
