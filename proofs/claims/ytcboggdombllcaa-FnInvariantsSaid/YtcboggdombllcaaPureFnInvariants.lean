/- Invariants are -1 at an even number of places: the law FnInvariants holds for all arguments. -/
import Derived.Test.YtcboggdombllcaaKFnInvariants
import Derived.Test.YtcboggdombllcaaWSized
namespace Go.Proofs.Ytcboggdombllcaa.Pure
open Go.Proofs.Ytcboggdombllcaa.PFnInvariants
theorem FnInvariants : laws_FnInvariants.Pure := Go.Proofs.Ytcboggdombllcaa.KFnInvariants.the
end Go.Proofs.Ytcboggdombllcaa.Pure
namespace Go.Proofs.Ytcboggdombllcaa.PrintWords
abbrev sized_ints := @Go.Proofs.YtcboggdombllcaaW.PrintWords.sized_ints
end Go.Proofs.Ytcboggdombllcaa.PrintWords
