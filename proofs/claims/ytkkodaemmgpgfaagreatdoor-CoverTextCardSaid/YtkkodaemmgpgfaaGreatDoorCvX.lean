/- Contexts for cover.Cover: sorting, cloning, making compact as calls that turn arrays. -/
import Derived.Test.YtkkodaemmgpgfaaGreatDoorTabB
section
namespace Eng
open Go Go.Proofs
abbrev Ck1 := List A → Bool
abbrev Mk1 := List A → List (List D)
end Eng
end
