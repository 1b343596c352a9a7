/- The search's zeros are small, and the program's search gives what the reference's gives, for all codes. -/
import Derived.Test.YtdeahlommlgceaaKFnSearch
import Derived.Test.YtdeahlommlgceaaWSized
namespace Go.Proofs.Ytdeahlommlgceaa.Pure
open Go.Proofs.Ytdeahlommlgceaa.PFnSearch
theorem FnSearch : laws_FnSearch.Pure := Go.Proofs.Ytdeahlommlgceaa.KFnSearch.the
end Go.Proofs.Ytdeahlommlgceaa.Pure
namespace Go.Proofs.Ytdeahlommlgceaa.PrintWords
abbrev sized_ints := @Go.Proofs.YtdeahlommlgceaaW.PrintWords.sized_ints
end Go.Proofs.Ytdeahlommlgceaa.PrintWords
