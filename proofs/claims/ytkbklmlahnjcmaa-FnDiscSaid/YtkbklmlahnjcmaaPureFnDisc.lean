/- Discriminants multiply up to squares: the law FnDisc of the given program holds for all arguments that its statement speaks of. -/
import Derived.Test.YtkbklmlahnjcmaaKFnDisc
import Derived.Test.YtkbklmlahnjcmaaWSized
namespace Go.Proofs.Ytkbklmlahnjcmaa.Pure
open Go.Proofs.Ytkbklmlahnjcmaa.PFnDisc
theorem FnDisc : laws_FnDisc.Pure := Go.Proofs.Ytkbklmlahnjcmaa.KFnDisc.the
end Go.Proofs.Ytkbklmlahnjcmaa.Pure
namespace Go.Proofs.Ytkbklmlahnjcmaa.PrintWords
abbrev sized_ints := @Go.Proofs.YtkbklmlahnjcmaaW.PrintWords.sized_ints
end Go.Proofs.Ytkbklmlahnjcmaa.PrintWords
