/- A number and 1 less it have the symbol 1: the law FnSteinberg holds for all arguments. -/
import Derived.Test.YtnbelacakmfhcaaKFnSteinberg
import Derived.Test.YtnbelacakmfhcaaWSized
namespace Go.Proofs.Ytnbelacakmfhcaa.Pure
open Go.Proofs.Ytnbelacakmfhcaa.PFnSteinberg
theorem FnSteinberg : laws_FnSteinberg.Pure := Go.Proofs.Ytnbelacakmfhcaa.KFnSteinberg.the
end Go.Proofs.Ytnbelacakmfhcaa.Pure
namespace Go.Proofs.Ytnbelacakmfhcaa.PrintWords
abbrev sized_ints := @Go.Proofs.YtnbelacakmfhcaaW.PrintWords.sized_ints
end Go.Proofs.Ytnbelacakmfhcaa.PrintWords
