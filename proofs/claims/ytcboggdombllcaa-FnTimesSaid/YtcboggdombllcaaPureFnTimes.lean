/- Forms times a number: the law FnTimes holds for all arguments. -/
import Derived.Test.YtcboggdombllcaaKFnTimes
import Derived.Test.YtcboggdombllcaaWSized
namespace Go.Proofs.Ytcboggdombllcaa.Pure
open Go.Proofs.Ytcboggdombllcaa.PFnTimes
theorem FnTimes : laws_FnTimes.Pure := Go.Proofs.Ytcboggdombllcaa.KFnTimes.the
end Go.Proofs.Ytcboggdombllcaa.Pure
namespace Go.Proofs.Ytcboggdombllcaa.PrintWords
abbrev sized_ints := @Go.Proofs.YtcboggdombllcaaW.PrintWords.sized_ints
end Go.Proofs.Ytcboggdombllcaa.PrintWords
