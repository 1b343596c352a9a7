/- What is solved has the symbol 1 everywhere: the law FnSolved holds for all arguments. -/
import Derived.Test.YtcboggdombllcaaKFnSolved
import Derived.Test.YtcboggdombllcaaWSized
namespace Go.Proofs.Ytcboggdombllcaa.Pure
open Go.Proofs.Ytcboggdombllcaa.PFnSolved
theorem FnSolved : laws_FnSolved.Pure := Go.Proofs.Ytcboggdombllcaa.KFnSolved.the
end Go.Proofs.Ytcboggdombllcaa.Pure
namespace Go.Proofs.Ytcboggdombllcaa.PrintWords
abbrev sized_ints := @Go.Proofs.YtcboggdombllcaaW.PrintWords.sized_ints
end Go.Proofs.Ytcboggdombllcaa.PrintWords
