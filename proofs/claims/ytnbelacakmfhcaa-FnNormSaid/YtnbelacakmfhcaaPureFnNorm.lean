/- Half of the classes, or all, are norms: the law FnNorm holds for all arguments. -/
import Derived.Test.YtnbelacakmfhcaaKFnNorm
import Derived.Test.YtnbelacakmfhcaaWSized
namespace Go.Proofs.Ytnbelacakmfhcaa.Pure
open Go.Proofs.Ytnbelacakmfhcaa.PFnNorm
theorem FnNorm : laws_FnNorm.Pure := Go.Proofs.Ytnbelacakmfhcaa.KFnNorm.the
end Go.Proofs.Ytnbelacakmfhcaa.Pure
namespace Go.Proofs.Ytnbelacakmfhcaa.PrintWords
abbrev sized_ints := @Go.Proofs.YtnbelacakmfhcaaW.PrintWords.sized_ints
end Go.Proofs.Ytnbelacakmfhcaa.PrintWords
