/- Forms that are the same have the same signs and are alike at each place, and stay the same with a term more, for all codes. -/
import Derived.Test.YtdeahlommlgceaaKFnFormSame
import Derived.Test.YtdeahlommlgceaaWSized
namespace Go.Proofs.Ytdeahlommlgceaa.Pure
open Go.Proofs.Ytdeahlommlgceaa.PFnFormSame
theorem FnFormSame : laws_FnFormSame.Pure := Go.Proofs.Ytdeahlommlgceaa.KFnFormSame.the
end Go.Proofs.Ytdeahlommlgceaa.Pure
namespace Go.Proofs.Ytdeahlommlgceaa.PrintWords
abbrev sized_ints := @Go.Proofs.YtdeahlommlgceaaW.PrintWords.sized_ints
end Go.Proofs.Ytdeahlommlgceaa.PrintWords
