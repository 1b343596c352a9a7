/-
  No cell of these rows narrows 'for every input' (looked for: loops, veiled, ifaces, maps, wideKeys, modest, calm, conditions, laid).
  DERIVED. THE GIVEN ROWS OF THIS SEAT. 12 by the template 'for every input the law returns true; each argument reads behind the call as it read before'; 0 by the template 'total and deterministic' (their statements: YtcboggdombllcaaTotals.lean).
  GIVEN WITH THE SEED: the statements are not yours to turn. If you find one false, say at which input.
  Laid BY PROGRAM, IN A SANDBOX (cutbox-rows.mjs): the forced cells as the released guide's own fill.sh prints them over the translation 4a1cd832c850d9ca… (all of the seat's roots in one cut). By AI agents, Wed Nov 11 2026. No macro, syntax, notation, axiom, sorry.
-/
import Derived.Test.YtcboggdombllcaaChecked
import GoSem.Claim
import GoSem.ClaimJoined
import GoSem.ClaimMapViews
import Derived.JoinedTies
import Derived.KernelRfl
namespace Go.Proofs.Ytcboggdombllcaa
/- THE CELL 'sum', in the pinned program and in every row, IS THE sha256 OF THE DUMP (.gsa) THAT YtcboggdombllcaaProg.lean LOADS. Nothing in Lean hashes anything: it is a label: what it is worth is what the hold of that sum in a sandbox is worth. -/
noncomputable def Try.pinned : Pinned := { name := "ytcboggdombllcaa", sum := "4a1cd832c850d9ca29e709c98ffe0d591cac50e76caee452e4b2851d6ebc19ff", checked := Try.checked }
namespace Rows
def none {H : Type} : Left H := { results := [], args := [] }

/-- 'laws.FnSolved': WHATEVER THE INPUT: true; the input reads as it did. -/
def fnSolvedSpec : ChangeSpec := { name := "fnSolved", fn := fun _ => fun
  | [d] => { results := [.lit (.bool true)], args := [d] }
  | _ => none }
def fnSolvedRow : OpenClaim := { program := "ytcboggdombllcaa", sum := "4a1cd832c850d9ca29e709c98ffe0d591cac50e76caee452e4b2851d6ebc19ff", func := "loop.example/localglobal/laws.FnSolved", spec := "fnSolved", recurses := true, apart := false }
def FnSolvedSaid : Prop := fnSolvedRow.holds Try.pinned (OpenSpec.ofChange fnSolvedSpec)

/-- ITS FALSE NEIGHBOUR: 'it returns false'. Refute it at one input. -/
def fnSolvedWrong : ChangeSpec := { name := "fnSolved", fn := fun _ => fun
  | [d] => { results := [.lit (.bool false)], args := [d] }
  | _ => none }
def FnSolvedWrongFalsely : Prop := fnSolvedRow.holds Try.pinned (OpenSpec.ofChange fnSolvedWrong)

/-- 'laws.FnProduct': WHATEVER THE INPUT: true; the input reads as it did. -/
def fnProductSpec : ChangeSpec := { name := "fnProduct", fn := fun _ => fun
  | [d] => { results := [.lit (.bool true)], args := [d] }
  | _ => none }
def fnProductRow : OpenClaim := { program := "ytcboggdombllcaa", sum := "4a1cd832c850d9ca29e709c98ffe0d591cac50e76caee452e4b2851d6ebc19ff", func := "loop.example/localglobal/laws.FnProduct", spec := "fnProduct", recurses := true, apart := false }
def FnProductSaid : Prop := fnProductRow.holds Try.pinned (OpenSpec.ofChange fnProductSpec)

/-- ITS FALSE NEIGHBOUR: 'it returns false'. Refute it at one input. -/
def fnProductWrong : ChangeSpec := { name := "fnProduct", fn := fun _ => fun
  | [d] => { results := [.lit (.bool false)], args := [d] }
  | _ => none }
def FnProductWrongFalsely : Prop := fnProductRow.holds Try.pinned (OpenSpec.ofChange fnProductWrong)

/-- 'laws.FnSplit': WHATEVER THE INPUT: true; the input reads as it did. -/
def fnSplitSpec : ChangeSpec := { name := "fnSplit", fn := fun _ => fun
  | [d1, d2] => { results := [.lit (.bool true)], args := [d1, d2] }
  | _ => none }
def fnSplitRow : OpenClaim := { program := "ytcboggdombllcaa", sum := "4a1cd832c850d9ca29e709c98ffe0d591cac50e76caee452e4b2851d6ebc19ff", func := "loop.example/localglobal/laws.FnSplit", spec := "fnSplit", recurses := true, apart := false }
def FnSplitSaid : Prop := fnSplitRow.holds Try.pinned (OpenSpec.ofChange fnSplitSpec)

/-- ITS FALSE NEIGHBOUR: 'it returns false'. Refute it at one input. -/
def fnSplitWrong : ChangeSpec := { name := "fnSplit", fn := fun _ => fun
  | [d1, d2] => { results := [.lit (.bool false)], args := [d1, d2] }
  | _ => none }
def FnSplitWrongFalsely : Prop := fnSplitRow.holds Try.pinned (OpenSpec.ofChange fnSplitWrong)

/-- 'laws.FnSymbolPlaces': WHATEVER THE INPUT: true; the input reads as it did. -/
def fnSymbolPlacesSpec : ChangeSpec := { name := "fnSymbolPlaces", fn := fun _ => fun
  | [d] => { results := [.lit (.bool true)], args := [d] }
  | _ => none }
def fnSymbolPlacesRow : OpenClaim := { program := "ytcboggdombllcaa", sum := "4a1cd832c850d9ca29e709c98ffe0d591cac50e76caee452e4b2851d6ebc19ff", func := "loop.example/localglobal/laws.FnSymbolPlaces", spec := "fnSymbolPlaces", recurses := true, apart := false }
def FnSymbolPlacesSaid : Prop := fnSymbolPlacesRow.holds Try.pinned (OpenSpec.ofChange fnSymbolPlacesSpec)

/-- ITS FALSE NEIGHBOUR: 'it returns false'. Refute it at one input. -/
def fnSymbolPlacesWrong : ChangeSpec := { name := "fnSymbolPlaces", fn := fun _ => fun
  | [d] => { results := [.lit (.bool false)], args := [d] }
  | _ => none }
def FnSymbolPlacesWrongFalsely : Prop := fnSymbolPlacesRow.holds Try.pinned (OpenSpec.ofChange fnSymbolPlacesWrong)

/-- 'laws.FnSymbolSame': WHATEVER THE INPUT: true; the input reads as it did. -/
def fnSymbolSameSpec : ChangeSpec := { name := "fnSymbolSame", fn := fun _ => fun
  | [d1, d2] => { results := [.lit (.bool true)], args := [d1, d2] }
  | _ => none }
def fnSymbolSameRow : OpenClaim := { program := "ytcboggdombllcaa", sum := "4a1cd832c850d9ca29e709c98ffe0d591cac50e76caee452e4b2851d6ebc19ff", func := "loop.example/localglobal/laws.FnSymbolSame", spec := "fnSymbolSame", recurses := true, apart := false }
def FnSymbolSameSaid : Prop := fnSymbolSameRow.holds Try.pinned (OpenSpec.ofChange fnSymbolSameSpec)

/-- ITS FALSE NEIGHBOUR: 'it returns false'. Refute it at one input. -/
def fnSymbolSameWrong : ChangeSpec := { name := "fnSymbolSame", fn := fun _ => fun
  | [d1, d2] => { results := [.lit (.bool false)], args := [d1, d2] }
  | _ => none }
def FnSymbolSameWrongFalsely : Prop := fnSymbolSameRow.holds Try.pinned (OpenSpec.ofChange fnSymbolSameWrong)

/-- 'laws.FnDisc': WHATEVER THE INPUT: true; the input reads as it did. -/
def fnDiscSpec : ChangeSpec := { name := "fnDisc", fn := fun _ => fun
  | [d1, d2] => { results := [.lit (.bool true)], args := [d1, d2] }
  | _ => none }
def fnDiscRow : OpenClaim := { program := "ytcboggdombllcaa", sum := "4a1cd832c850d9ca29e709c98ffe0d591cac50e76caee452e4b2851d6ebc19ff", func := "loop.example/localglobal/laws.FnDisc", spec := "fnDisc", apart := false }
def FnDiscSaid : Prop := fnDiscRow.holds Try.pinned (OpenSpec.ofChange fnDiscSpec)

/-- ITS FALSE NEIGHBOUR: 'it returns false'. Refute it at one input. -/
def fnDiscWrong : ChangeSpec := { name := "fnDisc", fn := fun _ => fun
  | [d1, d2] => { results := [.lit (.bool false)], args := [d1, d2] }
  | _ => none }
def FnDiscWrongFalsely : Prop := fnDiscRow.holds Try.pinned (OpenSpec.ofChange fnDiscWrong)

/-- 'laws.FnTimes': WHATEVER THE INPUT: true; the input reads as it did. -/
def fnTimesSpec : ChangeSpec := { name := "fnTimes", fn := fun _ => fun
  | [d] => { results := [.lit (.bool true)], args := [d] }
  | _ => none }
def fnTimesRow : OpenClaim := { program := "ytcboggdombllcaa", sum := "4a1cd832c850d9ca29e709c98ffe0d591cac50e76caee452e4b2851d6ebc19ff", func := "loop.example/localglobal/laws.FnTimes", spec := "fnTimes", apart := false }
def FnTimesSaid : Prop := fnTimesRow.holds Try.pinned (OpenSpec.ofChange fnTimesSpec)

/-- ITS FALSE NEIGHBOUR: 'it returns false'. Refute it at one input. -/
def fnTimesWrong : ChangeSpec := { name := "fnTimes", fn := fun _ => fun
  | [d] => { results := [.lit (.bool false)], args := [d] }
  | _ => none }
def FnTimesWrongFalsely : Prop := fnTimesRow.holds Try.pinned (OpenSpec.ofChange fnTimesWrong)

/-- 'laws.FnInvariant': WHATEVER THE INPUT: true; the input reads as it did. -/
def fnInvariantSpec : ChangeSpec := { name := "fnInvariant", fn := fun _ => fun
  | [d1, d2] => { results := [.lit (.bool true)], args := [d1, d2] }
  | _ => none }
def fnInvariantRow : OpenClaim := { program := "ytcboggdombllcaa", sum := "4a1cd832c850d9ca29e709c98ffe0d591cac50e76caee452e4b2851d6ebc19ff", func := "loop.example/localglobal/laws.FnInvariant", spec := "fnInvariant", apart := false }
def FnInvariantSaid : Prop := fnInvariantRow.holds Try.pinned (OpenSpec.ofChange fnInvariantSpec)

/-- ITS FALSE NEIGHBOUR: 'it returns false'. Refute it at one input. -/
def fnInvariantWrong : ChangeSpec := { name := "fnInvariant", fn := fun _ => fun
  | [d1, d2] => { results := [.lit (.bool false)], args := [d1, d2] }
  | _ => none }
def FnInvariantWrongFalsely : Prop := fnInvariantRow.holds Try.pinned (OpenSpec.ofChange fnInvariantWrong)

/-- 'laws.FnVanishes': WHATEVER THE INPUT: true; the input reads as it did. -/
def fnVanishesSpec : ChangeSpec := { name := "fnVanishes", fn := fun _ => fun
  | [d1, d2] => { results := [.lit (.bool true)], args := [d1, d2] }
  | _ => none }
def fnVanishesRow : OpenClaim := { program := "ytcboggdombllcaa", sum := "4a1cd832c850d9ca29e709c98ffe0d591cac50e76caee452e4b2851d6ebc19ff", func := "loop.example/localglobal/laws.FnVanishes", spec := "fnVanishes", apart := false }
def FnVanishesSaid : Prop := fnVanishesRow.holds Try.pinned (OpenSpec.ofChange fnVanishesSpec)

/-- ITS FALSE NEIGHBOUR: 'it returns false'. Refute it at one input. -/
def fnVanishesWrong : ChangeSpec := { name := "fnVanishes", fn := fun _ => fun
  | [d1, d2] => { results := [.lit (.bool false)], args := [d1, d2] }
  | _ => none }
def FnVanishesWrongFalsely : Prop := fnVanishesRow.holds Try.pinned (OpenSpec.ofChange fnVanishesWrong)

/-- 'laws.FnInvariants': WHATEVER THE INPUT: true; the input reads as it did. -/
def fnInvariantsSpec : ChangeSpec := { name := "fnInvariants", fn := fun _ => fun
  | [d] => { results := [.lit (.bool true)], args := [d] }
  | _ => none }
def fnInvariantsRow : OpenClaim := { program := "ytcboggdombllcaa", sum := "4a1cd832c850d9ca29e709c98ffe0d591cac50e76caee452e4b2851d6ebc19ff", func := "loop.example/localglobal/laws.FnInvariants", spec := "fnInvariants", recurses := true, apart := false }
def FnInvariantsSaid : Prop := fnInvariantsRow.holds Try.pinned (OpenSpec.ofChange fnInvariantsSpec)

/-- ITS FALSE NEIGHBOUR: 'it returns false'. Refute it at one input. -/
def fnInvariantsWrong : ChangeSpec := { name := "fnInvariants", fn := fun _ => fun
  | [d] => { results := [.lit (.bool false)], args := [d] }
  | _ => none }
def FnInvariantsWrongFalsely : Prop := fnInvariantsRow.holds Try.pinned (OpenSpec.ofChange fnInvariantsWrong)

/-- 'laws.FnFormJoin': WHATEVER THE INPUT: true; the input reads as it did. -/
def fnFormJoinSpec : ChangeSpec := { name := "fnFormJoin", fn := fun _ => fun
  | [d] => { results := [.lit (.bool true)], args := [d] }
  | _ => none }
def fnFormJoinRow : OpenClaim := { program := "ytcboggdombllcaa", sum := "4a1cd832c850d9ca29e709c98ffe0d591cac50e76caee452e4b2851d6ebc19ff", func := "loop.example/localglobal/laws.FnFormJoin", spec := "fnFormJoin", recurses := true, apart := false }
def FnFormJoinSaid : Prop := fnFormJoinRow.holds Try.pinned (OpenSpec.ofChange fnFormJoinSpec)

/-- ITS FALSE NEIGHBOUR: 'it returns false'. Refute it at one input. -/
def fnFormJoinWrong : ChangeSpec := { name := "fnFormJoin", fn := fun _ => fun
  | [d] => { results := [.lit (.bool false)], args := [d] }
  | _ => none }
def FnFormJoinWrongFalsely : Prop := fnFormJoinRow.holds Try.pinned (OpenSpec.ofChange fnFormJoinWrong)

/-- 'laws.FnCores': WHATEVER THE INPUT: true; the input reads as it did. -/
def fnCoresSpec : ChangeSpec := { name := "fnCores", fn := fun _ => fun
  | [d] => { results := [.lit (.bool true)], args := [d] }
  | _ => none }
def fnCoresRow : OpenClaim := { program := "ytcboggdombllcaa", sum := "4a1cd832c850d9ca29e709c98ffe0d591cac50e76caee452e4b2851d6ebc19ff", func := "loop.example/localglobal/laws.FnCores", spec := "fnCores", recurses := true, apart := false }
def FnCoresSaid : Prop := fnCoresRow.holds Try.pinned (OpenSpec.ofChange fnCoresSpec)

/-- ITS FALSE NEIGHBOUR: 'it returns false'. Refute it at one input. -/
def fnCoresWrong : ChangeSpec := { name := "fnCores", fn := fun _ => fun
  | [d] => { results := [.lit (.bool false)], args := [d] }
  | _ => none }
def FnCoresWrongFalsely : Prop := fnCoresRow.holds Try.pinned (OpenSpec.ofChange fnCoresWrong)

/- THE SECOND FORM. 'bulk': how many values and letters a reading holds, each counted each time it is reached (what is shared counts as often as it is met; a slice's spare places count too). A statement '..UptoSaid' is the law's where the arguments, and the package variables that the reading takes, are together of bulk at most 1048576: NARROWER than '..Said'. Prove '..Said' where nothing that the law and all that it calls make is longer than what came in: it says more and counts as full. Else prove '..UptoSaid'. A law counts once. -/
mutual
def uptoBulk {H : Type} : DataW H → Nat
  | .lit (.string bytes) => bytes.length + 1
  | .lit _ => 1
  | .nil => 1
  | .ptr d => uptoBulk d + 1
  | .slice elems spare => uptoBulkAll elems + uptoBulkAll spare + 1
  | .agg parts => uptoBulkAll parts + 1
  | .iface _ d => uptoBulk d + 1
  | .map entries => uptoBulkEntries entries + 1
  | .held _ => 1
def uptoBulkAll {H : Type} : List (DataW H) → Nat
  | [] => 0
  | d :: r => uptoBulk d + uptoBulkAll r
def uptoBulkEntries {H : Type} : List (Lit × DataW H) → Nat
  | [] => 0
  | x :: r => uptoBulkEntry x + uptoBulkEntries r
def uptoBulkEntry {H : Type} : Lit × DataW H → Nat
  | (.string bytes, d) => bytes.length + uptoBulk d + 1
  | (_, d) => uptoBulk d + 1
 end
def uptoSmall : (H : Type) → List (DataW H) → Bool := fun _ ds => decide (uptoBulkAll ds ≤ 1048576)
def OpenSpec.upto (s : _root_.Go.ChangeSpec) : _root_.Go.OpenSpec := { _root_.Go.OpenSpec.ofChange s with cond := some uptoSmall }

/-- 'laws.FnSolved', WHERE WHAT IT READS IS OF BULK AT MOST 1048576: true; the input reads as it did. -/
def fnSolvedUptoRow : OpenClaim := { program := "ytcboggdombllcaa", sum := "4a1cd832c850d9ca29e709c98ffe0d591cac50e76caee452e4b2851d6ebc19ff", func := "loop.example/localglobal/laws.FnSolved", spec := "fnSolved", recurses := true, apart := false, narrowed := true }
def FnSolvedUptoSaid : Prop := fnSolvedUptoRow.holds Try.pinned (OpenSpec.upto fnSolvedSpec)

/-- 'laws.FnProduct', WHERE WHAT IT READS IS OF BULK AT MOST 1048576: true; the input reads as it did. -/
def fnProductUptoRow : OpenClaim := { program := "ytcboggdombllcaa", sum := "4a1cd832c850d9ca29e709c98ffe0d591cac50e76caee452e4b2851d6ebc19ff", func := "loop.example/localglobal/laws.FnProduct", spec := "fnProduct", recurses := true, apart := false, narrowed := true }
def FnProductUptoSaid : Prop := fnProductUptoRow.holds Try.pinned (OpenSpec.upto fnProductSpec)

/-- 'laws.FnSplit', WHERE WHAT IT READS IS OF BULK AT MOST 1048576: true; the input reads as it did. -/
def fnSplitUptoRow : OpenClaim := { program := "ytcboggdombllcaa", sum := "4a1cd832c850d9ca29e709c98ffe0d591cac50e76caee452e4b2851d6ebc19ff", func := "loop.example/localglobal/laws.FnSplit", spec := "fnSplit", recurses := true, apart := false, narrowed := true }
def FnSplitUptoSaid : Prop := fnSplitUptoRow.holds Try.pinned (OpenSpec.upto fnSplitSpec)

/-- 'laws.FnSymbolPlaces', WHERE WHAT IT READS IS OF BULK AT MOST 1048576: true; the input reads as it did. -/
def fnSymbolPlacesUptoRow : OpenClaim := { program := "ytcboggdombllcaa", sum := "4a1cd832c850d9ca29e709c98ffe0d591cac50e76caee452e4b2851d6ebc19ff", func := "loop.example/localglobal/laws.FnSymbolPlaces", spec := "fnSymbolPlaces", recurses := true, apart := false, narrowed := true }
def FnSymbolPlacesUptoSaid : Prop := fnSymbolPlacesUptoRow.holds Try.pinned (OpenSpec.upto fnSymbolPlacesSpec)

/-- 'laws.FnSymbolSame', WHERE WHAT IT READS IS OF BULK AT MOST 1048576: true; the input reads as it did. -/
def fnSymbolSameUptoRow : OpenClaim := { program := "ytcboggdombllcaa", sum := "4a1cd832c850d9ca29e709c98ffe0d591cac50e76caee452e4b2851d6ebc19ff", func := "loop.example/localglobal/laws.FnSymbolSame", spec := "fnSymbolSame", recurses := true, apart := false, narrowed := true }
def FnSymbolSameUptoSaid : Prop := fnSymbolSameUptoRow.holds Try.pinned (OpenSpec.upto fnSymbolSameSpec)

/-- 'laws.FnDisc', WHERE WHAT IT READS IS OF BULK AT MOST 1048576: true; the input reads as it did. -/
def fnDiscUptoRow : OpenClaim := { program := "ytcboggdombllcaa", sum := "4a1cd832c850d9ca29e709c98ffe0d591cac50e76caee452e4b2851d6ebc19ff", func := "loop.example/localglobal/laws.FnDisc", spec := "fnDisc", apart := false, narrowed := true }
def FnDiscUptoSaid : Prop := fnDiscUptoRow.holds Try.pinned (OpenSpec.upto fnDiscSpec)

/-- 'laws.FnTimes', WHERE WHAT IT READS IS OF BULK AT MOST 1048576: true; the input reads as it did. -/
def fnTimesUptoRow : OpenClaim := { program := "ytcboggdombllcaa", sum := "4a1cd832c850d9ca29e709c98ffe0d591cac50e76caee452e4b2851d6ebc19ff", func := "loop.example/localglobal/laws.FnTimes", spec := "fnTimes", apart := false, narrowed := true }
def FnTimesUptoSaid : Prop := fnTimesUptoRow.holds Try.pinned (OpenSpec.upto fnTimesSpec)

/-- 'laws.FnInvariant', WHERE WHAT IT READS IS OF BULK AT MOST 1048576: true; the input reads as it did. -/
def fnInvariantUptoRow : OpenClaim := { program := "ytcboggdombllcaa", sum := "4a1cd832c850d9ca29e709c98ffe0d591cac50e76caee452e4b2851d6ebc19ff", func := "loop.example/localglobal/laws.FnInvariant", spec := "fnInvariant", apart := false, narrowed := true }
def FnInvariantUptoSaid : Prop := fnInvariantUptoRow.holds Try.pinned (OpenSpec.upto fnInvariantSpec)

/-- 'laws.FnVanishes', WHERE WHAT IT READS IS OF BULK AT MOST 1048576: true; the input reads as it did. -/
def fnVanishesUptoRow : OpenClaim := { program := "ytcboggdombllcaa", sum := "4a1cd832c850d9ca29e709c98ffe0d591cac50e76caee452e4b2851d6ebc19ff", func := "loop.example/localglobal/laws.FnVanishes", spec := "fnVanishes", apart := false, narrowed := true }
def FnVanishesUptoSaid : Prop := fnVanishesUptoRow.holds Try.pinned (OpenSpec.upto fnVanishesSpec)

/-- 'laws.FnInvariants', WHERE WHAT IT READS IS OF BULK AT MOST 1048576: true; the input reads as it did. -/
def fnInvariantsUptoRow : OpenClaim := { program := "ytcboggdombllcaa", sum := "4a1cd832c850d9ca29e709c98ffe0d591cac50e76caee452e4b2851d6ebc19ff", func := "loop.example/localglobal/laws.FnInvariants", spec := "fnInvariants", recurses := true, apart := false, narrowed := true }
def FnInvariantsUptoSaid : Prop := fnInvariantsUptoRow.holds Try.pinned (OpenSpec.upto fnInvariantsSpec)

/-- 'laws.FnFormJoin', WHERE WHAT IT READS IS OF BULK AT MOST 1048576: true; the input reads as it did. -/
def fnFormJoinUptoRow : OpenClaim := { program := "ytcboggdombllcaa", sum := "4a1cd832c850d9ca29e709c98ffe0d591cac50e76caee452e4b2851d6ebc19ff", func := "loop.example/localglobal/laws.FnFormJoin", spec := "fnFormJoin", recurses := true, apart := false, narrowed := true }
def FnFormJoinUptoSaid : Prop := fnFormJoinUptoRow.holds Try.pinned (OpenSpec.upto fnFormJoinSpec)

/-- 'laws.FnCores', WHERE WHAT IT READS IS OF BULK AT MOST 1048576: true; the input reads as it did. -/
def fnCoresUptoRow : OpenClaim := { program := "ytcboggdombllcaa", sum := "4a1cd832c850d9ca29e709c98ffe0d591cac50e76caee452e4b2851d6ebc19ff", func := "loop.example/localglobal/laws.FnCores", spec := "fnCores", recurses := true, apart := false, narrowed := true }
def FnCoresUptoSaid : Prop := fnCoresUptoRow.holds Try.pinned (OpenSpec.upto fnCoresSpec)

end Rows
end Go.Proofs.Ytcboggdombllcaa
