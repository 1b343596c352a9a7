/- A number that a form of two terms is worth may stand for a term: the law FnReplace holds for all arguments. -/
import Derived.Test.YtbfnkfnapfaimaaKFnReplace
import Derived.Test.YtbfnkfnapfaimaaWSized
namespace Go.Proofs.Ytbfnkfnapfaimaa.Pure
open Go.Proofs.Ytbfnkfnapfaimaa.PFnReplace
theorem FnReplace : laws_FnReplace.Pure := Go.Proofs.Ytbfnkfnapfaimaa.KFnReplace.the
end Go.Proofs.Ytbfnkfnapfaimaa.Pure
namespace Go.Proofs.Ytbfnkfnapfaimaa.PrintWords
abbrev sized_ints := @Go.Proofs.YtbfnkfnapfaimaaW.PrintWords.sized_ints
end Go.Proofs.Ytbfnkfnapfaimaa.PrintWords
