/- Pairs are halves of what values add: the law FnPair holds for all arguments. -/
import Derived.Test.YtddjokhggaheiaaKFnPair
import Derived.Test.YtddjokhggaheiaaWSized
namespace Go.Proofs.Ytddjokhggaheiaa.Pure
open Go.Proofs.Ytddjokhggaheiaa.PFnPair
theorem FnPair : laws_FnPair.Pure := Go.Proofs.Ytddjokhggaheiaa.KFnPair.the
end Go.Proofs.Ytddjokhggaheiaa.Pure
namespace Go.Proofs.Ytddjokhggaheiaa.PrintWords
abbrev sized_ints := @Go.Proofs.YtddjokhggaheiaaW.PrintWords.sized_ints
end Go.Proofs.Ytddjokhggaheiaa.PrintWords
