/- Values grow by squares: the law FnFormValue holds for all arguments. -/
import Derived.Test.YtddjokhggaheiaaKFnFormValue
import Derived.Test.YtddjokhggaheiaaWSized
namespace Go.Proofs.Ytddjokhggaheiaa.Pure
open Go.Proofs.Ytddjokhggaheiaa.PFnFormValue
theorem FnFormValue : laws_FnFormValue.Pure := Go.Proofs.Ytddjokhggaheiaa.KFnFormValue.the
end Go.Proofs.Ytddjokhggaheiaa.Pure
namespace Go.Proofs.Ytddjokhggaheiaa.PrintWords
abbrev sized_ints := @Go.Proofs.YtddjokhggaheiaaW.PrintWords.sized_ints
end Go.Proofs.Ytddjokhggaheiaa.PrintWords
