/- A form of three terms does not vanish at an even number of places: the law FnBad holds for all arguments. -/
import Derived.Test.YtbfnkfnapfaimaaKFnBad
import Derived.Test.YtbfnkfnapfaimaaWSized
namespace Go.Proofs.Ytbfnkfnapfaimaa.Pure
open Go.Proofs.Ytbfnkfnapfaimaa.PFnBad
theorem FnBad : laws_FnBad.Pure := Go.Proofs.Ytbfnkfnapfaimaa.KFnBad.the
end Go.Proofs.Ytbfnkfnapfaimaa.Pure
namespace Go.Proofs.Ytbfnkfnapfaimaa.PrintWords
abbrev sized_ints := @Go.Proofs.YtbfnkfnapfaimaaW.PrintWords.sized_ints
end Go.Proofs.Ytbfnkfnapfaimaa.PrintWords
