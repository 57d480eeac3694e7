import Derived.Test.YthpplhmhgcenkaaGreatDoorAw1
section
namespace Eng
open Go Go.Proofs
theorem OC [Env]:Gives CC 4 [] [.c (.bool true)]:=qL rfl rfl (show Gives CB 4 [] [.c (.bool true)] from Aw.g38)
end Eng
end
