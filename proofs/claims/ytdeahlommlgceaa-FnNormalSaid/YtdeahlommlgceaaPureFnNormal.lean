/- Normal terms of a form of three terms, as impl.ZeroNormal makes them, have the same zeros: the law FnNormal of the given program holds for all arguments that its statement speaks of. -/
import Derived.Test.YtdeahlommlgceaaKFnNormal
import Derived.Test.YtdeahlommlgceaaWSized
namespace Go.Proofs.Ytdeahlommlgceaa.Pure
open Go.Proofs.Ytdeahlommlgceaa.PFnNormal
theorem FnNormal : laws_FnNormal.Pure := Go.Proofs.Ytdeahlommlgceaa.KFnNormal.the
end Go.Proofs.Ytdeahlommlgceaa.Pure
namespace Go.Proofs.Ytdeahlommlgceaa.PrintWords
abbrev sized_ints := @Go.Proofs.YtdeahlommlgceaaW.PrintWords.sized_ints
end Go.Proofs.Ytdeahlommlgceaa.PrintWords
