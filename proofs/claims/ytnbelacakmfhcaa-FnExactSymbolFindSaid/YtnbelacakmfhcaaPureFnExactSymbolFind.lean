/- The program's SymbolFind and the reference's return the same for all arguments. -/
import Derived.Test.YtnbelacakmfhcaaKFnExactSymbolFind
namespace Go.Proofs.Ytnbelacakmfhcaa.Pure
open Go.Proofs.Ytnbelacakmfhcaa.PFnExactSymbolFind
theorem FnExactSymbolFind : laws_FnExactSymbolFind.Pure := Go.Proofs.Ytnbelacakmfhcaa.KFnExactSymbolFind.the
end Go.Proofs.Ytnbelacakmfhcaa.Pure
