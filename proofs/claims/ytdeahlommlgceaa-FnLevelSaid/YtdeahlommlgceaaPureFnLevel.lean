/- Levels are 1, 2 or 4, for all codes. -/
import Derived.Test.YtdeahlommlgceaaKFnLevel
import Derived.Test.YtdeahlommlgceaaWSized
namespace Go.Proofs.Ytdeahlommlgceaa.Pure
open Go.Proofs.Ytdeahlommlgceaa.PFnLevel
theorem FnLevel : laws_FnLevel.Pure := Go.Proofs.Ytdeahlommlgceaa.KFnLevel.the
end Go.Proofs.Ytdeahlommlgceaa.Pure
namespace Go.Proofs.Ytdeahlommlgceaa.PrintWords
abbrev sized_ints := @Go.Proofs.YtdeahlommlgceaaW.PrintWords.sized_ints
end Go.Proofs.Ytdeahlommlgceaa.PrintWords
