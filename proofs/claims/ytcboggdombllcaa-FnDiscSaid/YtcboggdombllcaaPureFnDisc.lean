/- The discriminant is the core of the product: the law FnDisc holds for all arguments. -/
import Derived.Test.YtcboggdombllcaaKFnDisc
import Derived.Test.YtcboggdombllcaaWSized
namespace Go.Proofs.Ytcboggdombllcaa.Pure
open Go.Proofs.Ytcboggdombllcaa.PFnDisc
theorem FnDisc : laws_FnDisc.Pure := Go.Proofs.Ytcboggdombllcaa.KFnDisc.the
end Go.Proofs.Ytcboggdombllcaa.Pure
namespace Go.Proofs.Ytcboggdombllcaa.PrintWords
abbrev sized_ints := @Go.Proofs.YtcboggdombllcaaW.PrintWords.sized_ints
end Go.Proofs.Ytcboggdombllcaa.PrintWords
