/- What is solved up to a high power has the symbol 1: the law FnModulo holds for all arguments. -/
import Derived.Test.YtnbelacakmfhcaaKFnModulo
import Derived.Test.YtnbelacakmfhcaaWSized
namespace Go.Proofs.Ytnbelacakmfhcaa.Pure
open Go.Proofs.Ytnbelacakmfhcaa.PFnModulo
theorem FnModulo : laws_FnModulo.Pure := Go.Proofs.Ytnbelacakmfhcaa.KFnModulo.the
end Go.Proofs.Ytnbelacakmfhcaa.Pure
namespace Go.Proofs.Ytnbelacakmfhcaa.PrintWords
abbrev sized_ints := @Go.Proofs.YtnbelacakmfhcaaW.PrintWords.sized_ints
end Go.Proofs.Ytnbelacakmfhcaa.PrintWords
