/- The program's SymbolSign and the reference's return the same for all arguments. -/
import Derived.Test.YtnbelacakmfhcaaKFnExactSymbolSign
namespace Go.Proofs.Ytnbelacakmfhcaa.Pure
open Go.Proofs.Ytnbelacakmfhcaa.PFnExactSymbolSign
theorem FnExactSymbolSign : laws_FnExactSymbolSign.Pure := Go.Proofs.Ytnbelacakmfhcaa.KFnExactSymbolSign.the
end Go.Proofs.Ytnbelacakmfhcaa.Pure
