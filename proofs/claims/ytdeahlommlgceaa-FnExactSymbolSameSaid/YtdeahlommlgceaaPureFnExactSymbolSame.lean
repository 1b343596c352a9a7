/- SymbolSame of the program returns what the reference returns, for all four arguments. -/
import Derived.Test.YtdeahlommlgceaaKFnExactSymbolSame
namespace Go.Proofs.Ytdeahlommlgceaa.Pure
open Go.Proofs.Ytdeahlommlgceaa.PFnExactSymbolSame
theorem FnExactSymbolSame : laws_FnExactSymbolSame.Pure := Go.Proofs.Ytdeahlommlgceaa.KFnExactSymbolSame.the
end Go.Proofs.Ytdeahlommlgceaa.Pure
