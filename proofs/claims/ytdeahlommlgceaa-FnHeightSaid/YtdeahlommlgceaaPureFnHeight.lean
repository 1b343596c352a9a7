/- Heights of zeros grow with multiples, for all codes. -/
import Derived.Test.YtdeahlommlgceaaKFnHeight
import Derived.Test.YtdeahlommlgceaaWSized
namespace Go.Proofs.Ytdeahlommlgceaa.Pure
open Go.Proofs.Ytdeahlommlgceaa.PFnHeight
theorem FnHeight : laws_FnHeight.Pure := Go.Proofs.Ytdeahlommlgceaa.KFnHeight.the
end Go.Proofs.Ytdeahlommlgceaa.Pure
namespace Go.Proofs.Ytdeahlommlgceaa.PrintWords
abbrev sized_ints := @Go.Proofs.YtdeahlommlgceaaW.PrintWords.sized_ints
end Go.Proofs.Ytdeahlommlgceaa.PrintWords
