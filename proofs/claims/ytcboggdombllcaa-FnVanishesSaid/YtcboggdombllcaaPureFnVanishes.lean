/- What vanishes vanishes as cores, with other signs, joined and times a number: the law FnVanishes holds for all arguments. -/
import Derived.Test.YtcboggdombllcaaKFnVanishes
import Derived.Test.YtcboggdombllcaaWSized
namespace Go.Proofs.Ytcboggdombllcaa.Pure
open Go.Proofs.Ytcboggdombllcaa.PFnVanishes
theorem FnVanishes : laws_FnVanishes.Pure := Go.Proofs.Ytcboggdombllcaa.KFnVanishes.the
end Go.Proofs.Ytcboggdombllcaa.Pure
namespace Go.Proofs.Ytcboggdombllcaa.PrintWords
abbrev sized_ints := @Go.Proofs.YtcboggdombllcaaW.PrintWords.sized_ints
end Go.Proofs.Ytcboggdombllcaa.PrintWords
