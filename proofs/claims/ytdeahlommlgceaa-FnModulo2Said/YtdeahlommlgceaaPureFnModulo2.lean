/- Zeros up to high powers are zeros at the place, for all codes. -/
import Derived.Test.YtdeahlommlgceaaKFnModulo2
import Derived.Test.YtdeahlommlgceaaWSized
namespace Go.Proofs.Ytdeahlommlgceaa.Pure
open Go.Proofs.Ytdeahlommlgceaa.PFnModulo2
theorem FnModulo2 : laws_FnModulo2.Pure := Go.Proofs.Ytdeahlommlgceaa.KFnModulo2.the
end Go.Proofs.Ytdeahlommlgceaa.Pure
namespace Go.Proofs.Ytdeahlommlgceaa.PrintWords
abbrev sized_ints := @Go.Proofs.YtdeahlommlgceaaW.PrintWords.sized_ints
end Go.Proofs.Ytdeahlommlgceaa.PrintWords
