/- The product of all symbols is 1: the law FnProduct holds for all arguments. -/
import Derived.Test.YtcboggdombllcaaKFnProduct
import Derived.Test.YtcboggdombllcaaWSized
namespace Go.Proofs.Ytcboggdombllcaa.Pure
open Go.Proofs.Ytcboggdombllcaa.PFnProduct
theorem FnProduct : laws_FnProduct.Pure := Go.Proofs.Ytcboggdombllcaa.KFnProduct.the
end Go.Proofs.Ytcboggdombllcaa.Pure
namespace Go.Proofs.Ytcboggdombllcaa.PrintWords
abbrev sized_ints := @Go.Proofs.YtcboggdombllcaaW.PrintWords.sized_ints
end Go.Proofs.Ytcboggdombllcaa.PrintWords
