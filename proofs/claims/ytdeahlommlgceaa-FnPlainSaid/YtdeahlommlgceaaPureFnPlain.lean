/- Plain zeros are their own ones, for all codes. -/
import Derived.Test.YtdeahlommlgceaaKFnPlain
import Derived.Test.YtdeahlommlgceaaWSized
namespace Go.Proofs.Ytdeahlommlgceaa.Pure
open Go.Proofs.Ytdeahlommlgceaa.PFnPlain
theorem FnPlain : laws_FnPlain.Pure := Go.Proofs.Ytdeahlommlgceaa.KFnPlain.the
end Go.Proofs.Ytdeahlommlgceaa.Pure
namespace Go.Proofs.Ytdeahlommlgceaa.PrintWords
abbrev sized_ints := @Go.Proofs.YtdeahlommlgceaaW.PrintWords.sized_ints
end Go.Proofs.Ytdeahlommlgceaa.PrintWords
