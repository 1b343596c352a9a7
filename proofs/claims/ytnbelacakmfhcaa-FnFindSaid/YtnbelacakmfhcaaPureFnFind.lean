/- No symbol is idle: the law FnFind holds for all arguments. -/
import Derived.Test.YtnbelacakmfhcaaKFnFind
import Derived.Test.YtnbelacakmfhcaaWSized
namespace Go.Proofs.Ytnbelacakmfhcaa.Pure
open Go.Proofs.Ytnbelacakmfhcaa.PFnFind
theorem FnFind : laws_FnFind.Pure := Go.Proofs.Ytnbelacakmfhcaa.KFnFind.the
end Go.Proofs.Ytnbelacakmfhcaa.Pure
namespace Go.Proofs.Ytnbelacakmfhcaa.PrintWords
abbrev sized_ints := @Go.Proofs.YtnbelacakmfhcaaW.PrintWords.sized_ints
end Go.Proofs.Ytnbelacakmfhcaa.PrintWords
