/- Where a prime divides no term, forms of three terms vanish: the law FnVanishOdd holds for all arguments. -/
import Derived.Test.YtbfnkfnapfaimaaKFnVanishOdd
import Derived.Test.YtbfnkfnapfaimaaWSized
namespace Go.Proofs.Ytbfnkfnapfaimaa.Pure
open Go.Proofs.Ytbfnkfnapfaimaa.PFnVanishOdd
theorem FnVanishOdd : laws_FnVanishOdd.Pure := Go.Proofs.Ytbfnkfnapfaimaa.KFnVanishOdd.the
end Go.Proofs.Ytbfnkfnapfaimaa.Pure
namespace Go.Proofs.Ytbfnkfnapfaimaa.PrintWords
abbrev sized_ints := @Go.Proofs.YtbfnkfnapfaimaaW.PrintWords.sized_ints
end Go.Proofs.Ytbfnkfnapfaimaa.PrintWords
