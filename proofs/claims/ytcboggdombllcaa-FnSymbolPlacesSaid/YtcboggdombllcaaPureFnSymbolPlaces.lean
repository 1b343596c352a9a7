/- Symbols are -1 at an even number of places: the law FnSymbolPlaces holds for all arguments. -/
import Derived.Test.YtcboggdombllcaaKFnSymbolPlaces
import Derived.Test.YtcboggdombllcaaWSized
namespace Go.Proofs.Ytcboggdombllcaa.Pure
open Go.Proofs.Ytcboggdombllcaa.PFnSymbolPlaces
theorem FnSymbolPlaces : laws_FnSymbolPlaces.Pure := Go.Proofs.Ytcboggdombllcaa.KFnSymbolPlaces.the
end Go.Proofs.Ytcboggdombllcaa.Pure
namespace Go.Proofs.Ytcboggdombllcaa.PrintWords
abbrev sized_ints := @Go.Proofs.YtcboggdombllcaaW.PrintWords.sized_ints
end Go.Proofs.Ytcboggdombllcaa.PrintWords
