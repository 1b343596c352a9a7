/- Two forms are the same just where they are with one term more, for all codes. -/
import Derived.Test.YtdeahlommlgceaaKFnCancel
import Derived.Test.YtdeahlommlgceaaWSized
namespace Go.Proofs.Ytdeahlommlgceaa.Pure
open Go.Proofs.Ytdeahlommlgceaa.PFnCancel
theorem FnCancel : laws_FnCancel.Pure := Go.Proofs.Ytdeahlommlgceaa.KFnCancel.the
end Go.Proofs.Ytdeahlommlgceaa.Pure
namespace Go.Proofs.Ytdeahlommlgceaa.PrintWords
abbrev sized_ints := @Go.Proofs.YtdeahlommlgceaaW.PrintWords.sized_ints
end Go.Proofs.Ytdeahlommlgceaa.PrintWords
