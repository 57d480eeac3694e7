import Derived.Test.YtmfkgpfkpnmdnaaGreatDoorAw1
section
namespace Eng
open Go Go.Proofs
theorem NC [Env]:Gives CC 4 [] [.c (.bool true)]:=xP rfl rfl (show Gives CB 4 [] [.c (.bool true)] from Aw.g38)
end Eng
end
