/- Where the symbol is 1, the equation is solved up to all powers: the law FnModuloBack holds for all arguments. -/
import Derived.Test.YtnbelacakmfhcaaKFnModuloBack
import Derived.Test.YtnbelacakmfhcaaWSized
namespace Go.Proofs.Ytnbelacakmfhcaa.Pure
open Go.Proofs.Ytnbelacakmfhcaa.PFnModuloBack
theorem FnModuloBack : laws_FnModuloBack.Pure := Go.Proofs.Ytnbelacakmfhcaa.KFnModuloBack.the
end Go.Proofs.Ytnbelacakmfhcaa.Pure
namespace Go.Proofs.Ytnbelacakmfhcaa.PrintWords
abbrev sized_ints := @Go.Proofs.YtnbelacakmfhcaaW.PrintWords.sized_ints
end Go.Proofs.Ytnbelacakmfhcaa.PrintWords
