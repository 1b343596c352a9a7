/- Symbols are mutual and multiply: the law FnSymbol holds for all arguments. -/
import Derived.Test.YtnbelacakmfhcaaKFnSymbol
import Derived.Test.YtnbelacakmfhcaaWSized
namespace Go.Proofs.Ytnbelacakmfhcaa.Pure
open Go.Proofs.Ytnbelacakmfhcaa.PFnSymbol
theorem FnSymbol : laws_FnSymbol.Pure := Go.Proofs.Ytnbelacakmfhcaa.KFnSymbol.the
end Go.Proofs.Ytnbelacakmfhcaa.Pure
namespace Go.Proofs.Ytnbelacakmfhcaa.PrintWords
abbrev sized_ints := @Go.Proofs.YtnbelacakmfhcaaW.PrintWords.sized_ints
end Go.Proofs.Ytnbelacakmfhcaa.PrintWords
