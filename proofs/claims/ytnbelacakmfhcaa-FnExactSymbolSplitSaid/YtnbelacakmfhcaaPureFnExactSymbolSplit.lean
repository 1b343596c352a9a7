/- The program's SymbolSplit and the reference's return the same for all arguments. -/
import Derived.Test.YtnbelacakmfhcaaKFnExactSymbolSplit
namespace Go.Proofs.Ytnbelacakmfhcaa.Pure
open Go.Proofs.Ytnbelacakmfhcaa.PFnExactSymbolSplit
theorem FnExactSymbolSplit : laws_FnExactSymbolSplit.Pure := Go.Proofs.Ytnbelacakmfhcaa.KFnExactSymbolSplit.the
end Go.Proofs.Ytnbelacakmfhcaa.Pure
