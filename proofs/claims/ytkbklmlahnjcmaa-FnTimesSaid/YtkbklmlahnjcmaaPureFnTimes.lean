/- Multiplied twice, a form is its cores: the law FnTimes of the given program holds for all arguments that its statement speaks of. -/
import Derived.Test.YtkbklmlahnjcmaaKFnTimes
import Derived.Test.YtkbklmlahnjcmaaWSized
namespace Go.Proofs.Ytkbklmlahnjcmaa.Pure
open Go.Proofs.Ytkbklmlahnjcmaa.PFnTimes
theorem FnTimes : laws_FnTimes.Pure := Go.Proofs.Ytkbklmlahnjcmaa.KFnTimes.the
end Go.Proofs.Ytkbklmlahnjcmaa.Pure
namespace Go.Proofs.Ytkbklmlahnjcmaa.PrintWords
abbrev sized_ints := @Go.Proofs.YtkbklmlahnjcmaaW.PrintWords.sized_ints
end Go.Proofs.Ytkbklmlahnjcmaa.PrintWords
