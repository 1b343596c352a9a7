/- Split symbols are split for each square: the law FnSplit holds for all arguments. -/
import Derived.Test.YtcboggdombllcaaKFnSplit
import Derived.Test.YtcboggdombllcaaWSized
namespace Go.Proofs.Ytcboggdombllcaa.Pure
open Go.Proofs.Ytcboggdombllcaa.PFnSplit
theorem FnSplit : laws_FnSplit.Pure := Go.Proofs.Ytcboggdombllcaa.KFnSplit.the
end Go.Proofs.Ytcboggdombllcaa.Pure
namespace Go.Proofs.Ytcboggdombllcaa.PrintWords
abbrev sized_ints := @Go.Proofs.YtcboggdombllcaaW.PrintWords.sized_ints
end Go.Proofs.Ytcboggdombllcaa.PrintWords
