/- A form and the form of its cores are the same: the law FnCores holds for all arguments. -/
import Derived.Test.YtcboggdombllcaaKFnCores
import Derived.Test.YtcboggdombllcaaWSized
namespace Go.Proofs.Ytcboggdombllcaa.Pure
open Go.Proofs.Ytcboggdombllcaa.PFnCores
theorem FnCores : laws_FnCores.Pure := Go.Proofs.Ytcboggdombllcaa.KFnCores.the
end Go.Proofs.Ytcboggdombllcaa.Pure
namespace Go.Proofs.Ytcboggdombllcaa.PrintWords
abbrev sized_ints := @Go.Proofs.YtcboggdombllcaaW.PrintWords.sized_ints
end Go.Proofs.Ytcboggdombllcaa.PrintWords
