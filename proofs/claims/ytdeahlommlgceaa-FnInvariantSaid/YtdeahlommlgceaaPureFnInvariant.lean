/- Invariants do not know the order of terms, for all codes. -/
import Derived.Test.YtdeahlommlgceaaKFnInvariant
import Derived.Test.YtdeahlommlgceaaWSized
namespace Go.Proofs.Ytdeahlommlgceaa.Pure
open Go.Proofs.Ytdeahlommlgceaa.PFnInvariant
theorem FnInvariant : laws_FnInvariant.Pure := Go.Proofs.Ytdeahlommlgceaa.KFnInvariant.the
end Go.Proofs.Ytdeahlommlgceaa.Pure
namespace Go.Proofs.Ytdeahlommlgceaa.PrintWords
abbrev sized_ints := @Go.Proofs.YtdeahlommlgceaaW.PrintWords.sized_ints
end Go.Proofs.Ytdeahlommlgceaa.PrintWords
