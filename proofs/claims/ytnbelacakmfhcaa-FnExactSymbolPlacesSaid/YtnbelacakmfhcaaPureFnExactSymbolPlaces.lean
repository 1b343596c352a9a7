/- The program's SymbolPlaces and the reference's return the same for all arguments. -/
import Derived.Test.YtnbelacakmfhcaaKFnExactSymbolPlaces
namespace Go.Proofs.Ytnbelacakmfhcaa.Pure
open Go.Proofs.Ytnbelacakmfhcaa.PFnExactSymbolPlaces
theorem FnExactSymbolPlaces : laws_FnExactSymbolPlaces.Pure := Go.Proofs.Ytnbelacakmfhcaa.KFnExactSymbolPlaces.the
end Go.Proofs.Ytnbelacakmfhcaa.Pure
