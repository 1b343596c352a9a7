/- Signs add up: the law FnSigns holds for all arguments. -/
import Derived.Test.YtddjokhggaheiaaKFnSigns
import Derived.Test.YtddjokhggaheiaaWSized
namespace Go.Proofs.Ytddjokhggaheiaa.Pure
open Go.Proofs.Ytddjokhggaheiaa.PFnSigns
theorem FnSigns : laws_FnSigns.Pure := Go.Proofs.Ytddjokhggaheiaa.KFnSigns.the
end Go.Proofs.Ytddjokhggaheiaa.Pure
namespace Go.Proofs.Ytddjokhggaheiaa.PrintWords
abbrev sized_ints := @Go.Proofs.YtddjokhggaheiaaW.PrintWords.sized_ints
end Go.Proofs.Ytddjokhggaheiaa.PrintWords
