/- Forms joined either way are the same: the law FnFormJoin holds for all arguments. -/
import Derived.Test.YtcboggdombllcaaKFnFormJoin
import Derived.Test.YtcboggdombllcaaWSized
namespace Go.Proofs.Ytcboggdombllcaa.Pure
open Go.Proofs.Ytcboggdombllcaa.PFnFormJoin
theorem FnFormJoin : laws_FnFormJoin.Pure := Go.Proofs.Ytcboggdombllcaa.KFnFormJoin.the
end Go.Proofs.Ytcboggdombllcaa.Pure
namespace Go.Proofs.Ytcboggdombllcaa.PrintWords
abbrev sized_ints := @Go.Proofs.YtcboggdombllcaaW.PrintWords.sized_ints
end Go.Proofs.Ytcboggdombllcaa.PrintWords
