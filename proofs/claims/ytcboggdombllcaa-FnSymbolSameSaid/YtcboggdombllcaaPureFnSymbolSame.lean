/- The same symbols have the same places: the law FnSymbolSame holds for all arguments. -/
import Derived.Test.YtcboggdombllcaaKFnSymbolSame
import Derived.Test.YtcboggdombllcaaWSized
namespace Go.Proofs.Ytcboggdombllcaa.Pure
open Go.Proofs.Ytcboggdombllcaa.PFnSymbolSame
theorem FnSymbolSame : laws_FnSymbolSame.Pure := Go.Proofs.Ytcboggdombllcaa.KFnSymbolSame.the
end Go.Proofs.Ytcboggdombllcaa.Pure
namespace Go.Proofs.Ytcboggdombllcaa.PrintWords
abbrev sized_ints := @Go.Proofs.YtcboggdombllcaaW.PrintWords.sized_ints
end Go.Proofs.Ytcboggdombllcaa.PrintWords
