/-
  No cell of these rows narrows 'for every input' (looked for: loops, veiled, ifaces, maps, wideKeys, modest, calm, conditions, laid).
  DERIVED. THE GIVEN ROWS OF THIS SEAT. 12 by the template 'for every input the law returns true; each argument reads behind the call as it read before'; 0 by the template 'total and deterministic' (their statements: YtnbelacakmfhcaaTotals.lean).
  GIVEN WITH THE SEED: the statements are not yours to turn. If you find one false, say at which input.
  Laid BY PROGRAM, IN A SANDBOX (cutbox-rows.mjs): the forced cells as the released guide's own fill.sh prints them over the translation fea839385623fe5c… (all of the seat's roots in one cut). By AI agents, Wed Nov 11 2026. No macro, syntax, notation, axiom, sorry.
-/
import Derived.Test.YtnbelacakmfhcaaChecked
import GoSem.Claim
import GoSem.ClaimJoined
import GoSem.ClaimMapViews
import Derived.JoinedTies
import Derived.KernelRfl
namespace Go.Proofs.Ytnbelacakmfhcaa
/- THE CELL 'sum', in the pinned program and in every row, IS THE sha256 OF THE DUMP (.gsa) THAT YtnbelacakmfhcaaProg.lean LOADS. Nothing in Lean hashes anything: it is a label: what it is worth is what the hold of that sum in a sandbox is worth. -/
noncomputable def Try.pinned : Pinned := { name := "ytnbelacakmfhcaa", sum := "fea839385623fe5c8bcd3e984da5b6962bdf23b7a516390bc5fdbfe057136e51", checked := Try.checked }
namespace Rows
def none {H : Type} : Left H := { results := [], args := [] }

/-- 'laws.FnExactSymbolFind': WHATEVER THE INPUT: true; the input reads as it did. -/
def fnExactSymbolFindSpec : ChangeSpec := { name := "fnExactSymbolFind", fn := fun _ => fun
  | [d1, d2] => { results := [.lit (.bool true)], args := [d1, d2] }
  | _ => none }
def fnExactSymbolFindRow : OpenClaim := { program := "ytnbelacakmfhcaa", sum := "fea839385623fe5c8bcd3e984da5b6962bdf23b7a516390bc5fdbfe057136e51", func := "loop.example/localglobal/laws.FnExactSymbolFind", spec := "fnExactSymbolFind", apart := false }
def FnExactSymbolFindSaid : Prop := fnExactSymbolFindRow.holds Try.pinned (OpenSpec.ofChange fnExactSymbolFindSpec)

/-- ITS FALSE NEIGHBOUR: 'it returns false'. Refute it at one input. -/
def fnExactSymbolFindWrong : ChangeSpec := { name := "fnExactSymbolFind", fn := fun _ => fun
  | [d1, d2] => { results := [.lit (.bool false)], args := [d1, d2] }
  | _ => none }
def FnExactSymbolFindWrongFalsely : Prop := fnExactSymbolFindRow.holds Try.pinned (OpenSpec.ofChange fnExactSymbolFindWrong)

/-- 'laws.FnExactSymbolSign': WHATEVER THE INPUT: true; the input reads as it did. -/
def fnExactSymbolSignSpec : ChangeSpec := { name := "fnExactSymbolSign", fn := fun _ => fun
  | [d1, d2] => { results := [.lit (.bool true)], args := [d1, d2] }
  | _ => none }
def fnExactSymbolSignRow : OpenClaim := { program := "ytnbelacakmfhcaa", sum := "fea839385623fe5c8bcd3e984da5b6962bdf23b7a516390bc5fdbfe057136e51", func := "loop.example/localglobal/laws.FnExactSymbolSign", spec := "fnExactSymbolSign", recurses := true, apart := false }
def FnExactSymbolSignSaid : Prop := fnExactSymbolSignRow.holds Try.pinned (OpenSpec.ofChange fnExactSymbolSignSpec)

/-- ITS FALSE NEIGHBOUR: 'it returns false'. Refute it at one input. -/
def fnExactSymbolSignWrong : ChangeSpec := { name := "fnExactSymbolSign", fn := fun _ => fun
  | [d1, d2] => { results := [.lit (.bool false)], args := [d1, d2] }
  | _ => none }
def FnExactSymbolSignWrongFalsely : Prop := fnExactSymbolSignRow.holds Try.pinned (OpenSpec.ofChange fnExactSymbolSignWrong)

/-- 'laws.FnExactSymbolSplit': WHATEVER THE INPUT: true; the input reads as it did. -/
def fnExactSymbolSplitSpec : ChangeSpec := { name := "fnExactSymbolSplit", fn := fun _ => fun
  | [d1, d2] => { results := [.lit (.bool true)], args := [d1, d2] }
  | _ => none }
def fnExactSymbolSplitRow : OpenClaim := { program := "ytnbelacakmfhcaa", sum := "fea839385623fe5c8bcd3e984da5b6962bdf23b7a516390bc5fdbfe057136e51", func := "loop.example/localglobal/laws.FnExactSymbolSplit", spec := "fnExactSymbolSplit", recurses := true, apart := false }
def FnExactSymbolSplitSaid : Prop := fnExactSymbolSplitRow.holds Try.pinned (OpenSpec.ofChange fnExactSymbolSplitSpec)

/-- ITS FALSE NEIGHBOUR: 'it returns false'. Refute it at one input. -/
def fnExactSymbolSplitWrong : ChangeSpec := { name := "fnExactSymbolSplit", fn := fun _ => fun
  | [d1, d2] => { results := [.lit (.bool false)], args := [d1, d2] }
  | _ => none }
def FnExactSymbolSplitWrongFalsely : Prop := fnExactSymbolSplitRow.holds Try.pinned (OpenSpec.ofChange fnExactSymbolSplitWrong)

/-- 'laws.FnExactSymbolSame': WHATEVER THE INPUT: true; the input reads as it did. -/
def fnExactSymbolSameSpec : ChangeSpec := { name := "fnExactSymbolSame", fn := fun _ => fun
  | [d1, d2, d3, d4] => { results := [.lit (.bool true)], args := [d1, d2, d3, d4] }
  | _ => none }
def fnExactSymbolSameRow : OpenClaim := { program := "ytnbelacakmfhcaa", sum := "fea839385623fe5c8bcd3e984da5b6962bdf23b7a516390bc5fdbfe057136e51", func := "loop.example/localglobal/laws.FnExactSymbolSame", spec := "fnExactSymbolSame", recurses := true, apart := false }
def FnExactSymbolSameSaid : Prop := fnExactSymbolSameRow.holds Try.pinned (OpenSpec.ofChange fnExactSymbolSameSpec)

/-- ITS FALSE NEIGHBOUR: 'it returns false'. Refute it at one input. -/
def fnExactSymbolSameWrong : ChangeSpec := { name := "fnExactSymbolSame", fn := fun _ => fun
  | [d1, d2, d3, d4] => { results := [.lit (.bool false)], args := [d1, d2, d3, d4] }
  | _ => none }
def FnExactSymbolSameWrongFalsely : Prop := fnExactSymbolSameRow.holds Try.pinned (OpenSpec.ofChange fnExactSymbolSameWrong)

/-- 'laws.FnExactSymbolPlaces': WHATEVER THE INPUT: true; the input reads as it did. -/
def fnExactSymbolPlacesSpec : ChangeSpec := { name := "fnExactSymbolPlaces", fn := fun _ => fun
  | [d1, d2] => { results := [.lit (.bool true)], args := [d1, d2] }
  | _ => none }
def fnExactSymbolPlacesRow : OpenClaim := { program := "ytnbelacakmfhcaa", sum := "fea839385623fe5c8bcd3e984da5b6962bdf23b7a516390bc5fdbfe057136e51", func := "loop.example/localglobal/laws.FnExactSymbolPlaces", spec := "fnExactSymbolPlaces", recurses := true, apart := false }
def FnExactSymbolPlacesSaid : Prop := fnExactSymbolPlacesRow.holds Try.pinned (OpenSpec.ofChange fnExactSymbolPlacesSpec)

/-- ITS FALSE NEIGHBOUR: 'it returns false'. Refute it at one input. -/
def fnExactSymbolPlacesWrong : ChangeSpec := { name := "fnExactSymbolPlaces", fn := fun _ => fun
  | [d1, d2] => { results := [.lit (.bool false)], args := [d1, d2] }
  | _ => none }
def FnExactSymbolPlacesWrongFalsely : Prop := fnExactSymbolPlacesRow.holds Try.pinned (OpenSpec.ofChange fnExactSymbolPlacesWrong)

/-- 'laws.FnSteinberg': WHATEVER THE INPUT: true; the input reads as it did. -/
def fnSteinbergSpec : ChangeSpec := { name := "fnSteinberg", fn := fun _ => fun
  | [d] => { results := [.lit (.bool true)], args := [d] }
  | _ => none }
def fnSteinbergRow : OpenClaim := { program := "ytnbelacakmfhcaa", sum := "fea839385623fe5c8bcd3e984da5b6962bdf23b7a516390bc5fdbfe057136e51", func := "loop.example/localglobal/laws.FnSteinberg", spec := "fnSteinberg", apart := false }
def FnSteinbergSaid : Prop := fnSteinbergRow.holds Try.pinned (OpenSpec.ofChange fnSteinbergSpec)

/-- ITS FALSE NEIGHBOUR: 'it returns false'. Refute it at one input. -/
def fnSteinbergWrong : ChangeSpec := { name := "fnSteinberg", fn := fun _ => fun
  | [d] => { results := [.lit (.bool false)], args := [d] }
  | _ => none }
def FnSteinbergWrongFalsely : Prop := fnSteinbergRow.holds Try.pinned (OpenSpec.ofChange fnSteinbergWrong)

/-- 'laws.FnModulo': WHATEVER THE INPUT: true; the input reads as it did. -/
def fnModuloSpec : ChangeSpec := { name := "fnModulo", fn := fun _ => fun
  | [d] => { results := [.lit (.bool true)], args := [d] }
  | _ => none }
def fnModuloRow : OpenClaim := { program := "ytnbelacakmfhcaa", sum := "fea839385623fe5c8bcd3e984da5b6962bdf23b7a516390bc5fdbfe057136e51", func := "loop.example/localglobal/laws.FnModulo", spec := "fnModulo", apart := false }
def FnModuloSaid : Prop := fnModuloRow.holds Try.pinned (OpenSpec.ofChange fnModuloSpec)

/-- ITS FALSE NEIGHBOUR: 'it returns false'. Refute it at one input. -/
def fnModuloWrong : ChangeSpec := { name := "fnModulo", fn := fun _ => fun
  | [d] => { results := [.lit (.bool false)], args := [d] }
  | _ => none }
def FnModuloWrongFalsely : Prop := fnModuloRow.holds Try.pinned (OpenSpec.ofChange fnModuloWrong)

/-- 'laws.FnModuloBack': WHATEVER THE INPUT: true; the input reads as it did. -/
def fnModuloBackSpec : ChangeSpec := { name := "fnModuloBack", fn := fun _ => fun
  | [d] => { results := [.lit (.bool true)], args := [d] }
  | _ => none }
def fnModuloBackRow : OpenClaim := { program := "ytnbelacakmfhcaa", sum := "fea839385623fe5c8bcd3e984da5b6962bdf23b7a516390bc5fdbfe057136e51", func := "loop.example/localglobal/laws.FnModuloBack", spec := "fnModuloBack", apart := false }
def FnModuloBackSaid : Prop := fnModuloBackRow.holds Try.pinned (OpenSpec.ofChange fnModuloBackSpec)

/-- ITS FALSE NEIGHBOUR: 'it returns false'. Refute it at one input. -/
def fnModuloBackWrong : ChangeSpec := { name := "fnModuloBack", fn := fun _ => fun
  | [d] => { results := [.lit (.bool false)], args := [d] }
  | _ => none }
def FnModuloBackWrongFalsely : Prop := fnModuloBackRow.holds Try.pinned (OpenSpec.ofChange fnModuloBackWrong)

/-- 'laws.FnSymbol': WHATEVER THE INPUT: true; the input reads as it did. -/
def fnSymbolSpec : ChangeSpec := { name := "fnSymbol", fn := fun _ => fun
  | [d1, d2] => { results := [.lit (.bool true)], args := [d1, d2] }
  | _ => none }
def fnSymbolRow : OpenClaim := { program := "ytnbelacakmfhcaa", sum := "fea839385623fe5c8bcd3e984da5b6962bdf23b7a516390bc5fdbfe057136e51", func := "loop.example/localglobal/laws.FnSymbol", spec := "fnSymbol", apart := false }
def FnSymbolSaid : Prop := fnSymbolRow.holds Try.pinned (OpenSpec.ofChange fnSymbolSpec)

/-- ITS FALSE NEIGHBOUR: 'it returns false'. Refute it at one input. -/
def fnSymbolWrong : ChangeSpec := { name := "fnSymbol", fn := fun _ => fun
  | [d1, d2] => { results := [.lit (.bool false)], args := [d1, d2] }
  | _ => none }
def FnSymbolWrongFalsely : Prop := fnSymbolRow.holds Try.pinned (OpenSpec.ofChange fnSymbolWrong)

/-- 'laws.FnNorm': WHATEVER THE INPUT: true; the input reads as it did. -/
def fnNormSpec : ChangeSpec := { name := "fnNorm", fn := fun _ => fun
  | [d] => { results := [.lit (.bool true)], args := [d] }
  | _ => none }
def fnNormRow : OpenClaim := { program := "ytnbelacakmfhcaa", sum := "fea839385623fe5c8bcd3e984da5b6962bdf23b7a516390bc5fdbfe057136e51", func := "loop.example/localglobal/laws.FnNorm", spec := "fnNorm", apart := false }
def FnNormSaid : Prop := fnNormRow.holds Try.pinned (OpenSpec.ofChange fnNormSpec)

/-- ITS FALSE NEIGHBOUR: 'it returns false'. Refute it at one input. -/
def fnNormWrong : ChangeSpec := { name := "fnNorm", fn := fun _ => fun
  | [d] => { results := [.lit (.bool false)], args := [d] }
  | _ => none }
def FnNormWrongFalsely : Prop := fnNormRow.holds Try.pinned (OpenSpec.ofChange fnNormWrong)

/-- 'laws.FnFind': WHATEVER THE INPUT: true; the input reads as it did. -/
def fnFindSpec : ChangeSpec := { name := "fnFind", fn := fun _ => fun
  | [d] => { results := [.lit (.bool true)], args := [d] }
  | _ => none }
def fnFindRow : OpenClaim := { program := "ytnbelacakmfhcaa", sum := "fea839385623fe5c8bcd3e984da5b6962bdf23b7a516390bc5fdbfe057136e51", func := "loop.example/localglobal/laws.FnFind", spec := "fnFind", apart := false }
def FnFindSaid : Prop := fnFindRow.holds Try.pinned (OpenSpec.ofChange fnFindSpec)

/-- ITS FALSE NEIGHBOUR: 'it returns false'. Refute it at one input. -/
def fnFindWrong : ChangeSpec := { name := "fnFind", fn := fun _ => fun
  | [d] => { results := [.lit (.bool false)], args := [d] }
  | _ => none }
def FnFindWrongFalsely : Prop := fnFindRow.holds Try.pinned (OpenSpec.ofChange fnFindWrong)

/-- 'laws.FnLevel': WHATEVER THE INPUT: true; the input reads as it did. -/
def fnLevelSpec : ChangeSpec := { name := "fnLevel", fn := fun _ => fun
  | [d] => { results := [.lit (.bool true)], args := [d] }
  | _ => none }
def fnLevelRow : OpenClaim := { program := "ytnbelacakmfhcaa", sum := "fea839385623fe5c8bcd3e984da5b6962bdf23b7a516390bc5fdbfe057136e51", func := "loop.example/localglobal/laws.FnLevel", spec := "fnLevel", apart := false }
def FnLevelSaid : Prop := fnLevelRow.holds Try.pinned (OpenSpec.ofChange fnLevelSpec)

/-- ITS FALSE NEIGHBOUR: 'it returns false'. Refute it at one input. -/
def fnLevelWrong : ChangeSpec := { name := "fnLevel", fn := fun _ => fun
  | [d] => { results := [.lit (.bool false)], args := [d] }
  | _ => none }
def FnLevelWrongFalsely : Prop := fnLevelRow.holds Try.pinned (OpenSpec.ofChange fnLevelWrong)

/- THE SECOND FORM. 'bulk': how many values and letters a reading holds, each counted each time it is reached (what is shared counts as often as it is met; a slice's spare places count too). A statement '..UptoSaid' is the law's where the arguments, and the package variables that the reading takes, are together of bulk at most 1048576: NARROWER than '..Said'. Prove '..Said' where nothing that the law and all that it calls make is longer than what came in: it says more and counts as full. Else prove '..UptoSaid'. A law counts once. -/
mutual
def uptoBulk {H : Type} : DataW H → Nat
  | .lit (.string bytes) => bytes.length + 1
  | .lit _ => 1
  | .nil => 1
  | .ptr d => uptoBulk d + 1
  | .slice elems spare => uptoBulkAll elems + uptoBulkAll spare + 1
  | .agg parts => uptoBulkAll parts + 1
  | .iface _ d => uptoBulk d + 1
  | .map entries => uptoBulkEntries entries + 1
  | .held _ => 1
def uptoBulkAll {H : Type} : List (DataW H) → Nat
  | [] => 0
  | d :: r => uptoBulk d + uptoBulkAll r
def uptoBulkEntries {H : Type} : List (Lit × DataW H) → Nat
  | [] => 0
  | x :: r => uptoBulkEntry x + uptoBulkEntries r
def uptoBulkEntry {H : Type} : Lit × DataW H → Nat
  | (.string bytes, d) => bytes.length + uptoBulk d + 1
  | (_, d) => uptoBulk d + 1
 end
def uptoSmall : (H : Type) → List (DataW H) → Bool := fun _ ds => decide (uptoBulkAll ds ≤ 1048576)
def OpenSpec.upto (s : _root_.Go.ChangeSpec) : _root_.Go.OpenSpec := { _root_.Go.OpenSpec.ofChange s with cond := some uptoSmall }

/-- 'laws.FnExactSymbolFind', WHERE WHAT IT READS IS OF BULK AT MOST 1048576: true; the input reads as it did. -/
def fnExactSymbolFindUptoRow : OpenClaim := { program := "ytnbelacakmfhcaa", sum := "fea839385623fe5c8bcd3e984da5b6962bdf23b7a516390bc5fdbfe057136e51", func := "loop.example/localglobal/laws.FnExactSymbolFind", spec := "fnExactSymbolFind", apart := false, narrowed := true }
def FnExactSymbolFindUptoSaid : Prop := fnExactSymbolFindUptoRow.holds Try.pinned (OpenSpec.upto fnExactSymbolFindSpec)

/-- 'laws.FnExactSymbolSign', WHERE WHAT IT READS IS OF BULK AT MOST 1048576: true; the input reads as it did. -/
def fnExactSymbolSignUptoRow : OpenClaim := { program := "ytnbelacakmfhcaa", sum := "fea839385623fe5c8bcd3e984da5b6962bdf23b7a516390bc5fdbfe057136e51", func := "loop.example/localglobal/laws.FnExactSymbolSign", spec := "fnExactSymbolSign", recurses := true, apart := false, narrowed := true }
def FnExactSymbolSignUptoSaid : Prop := fnExactSymbolSignUptoRow.holds Try.pinned (OpenSpec.upto fnExactSymbolSignSpec)

/-- 'laws.FnExactSymbolSplit', WHERE WHAT IT READS IS OF BULK AT MOST 1048576: true; the input reads as it did. -/
def fnExactSymbolSplitUptoRow : OpenClaim := { program := "ytnbelacakmfhcaa", sum := "fea839385623fe5c8bcd3e984da5b6962bdf23b7a516390bc5fdbfe057136e51", func := "loop.example/localglobal/laws.FnExactSymbolSplit", spec := "fnExactSymbolSplit", recurses := true, apart := false, narrowed := true }
def FnExactSymbolSplitUptoSaid : Prop := fnExactSymbolSplitUptoRow.holds Try.pinned (OpenSpec.upto fnExactSymbolSplitSpec)

/-- 'laws.FnExactSymbolSame', WHERE WHAT IT READS IS OF BULK AT MOST 1048576: true; the input reads as it did. -/
def fnExactSymbolSameUptoRow : OpenClaim := { program := "ytnbelacakmfhcaa", sum := "fea839385623fe5c8bcd3e984da5b6962bdf23b7a516390bc5fdbfe057136e51", func := "loop.example/localglobal/laws.FnExactSymbolSame", spec := "fnExactSymbolSame", recurses := true, apart := false, narrowed := true }
def FnExactSymbolSameUptoSaid : Prop := fnExactSymbolSameUptoRow.holds Try.pinned (OpenSpec.upto fnExactSymbolSameSpec)

/-- 'laws.FnExactSymbolPlaces', WHERE WHAT IT READS IS OF BULK AT MOST 1048576: true; the input reads as it did. -/
def fnExactSymbolPlacesUptoRow : OpenClaim := { program := "ytnbelacakmfhcaa", sum := "fea839385623fe5c8bcd3e984da5b6962bdf23b7a516390bc5fdbfe057136e51", func := "loop.example/localglobal/laws.FnExactSymbolPlaces", spec := "fnExactSymbolPlaces", recurses := true, apart := false, narrowed := true }
def FnExactSymbolPlacesUptoSaid : Prop := fnExactSymbolPlacesUptoRow.holds Try.pinned (OpenSpec.upto fnExactSymbolPlacesSpec)

/-- 'laws.FnSteinberg', WHERE WHAT IT READS IS OF BULK AT MOST 1048576: true; the input reads as it did. -/
def fnSteinbergUptoRow : OpenClaim := { program := "ytnbelacakmfhcaa", sum := "fea839385623fe5c8bcd3e984da5b6962bdf23b7a516390bc5fdbfe057136e51", func := "loop.example/localglobal/laws.FnSteinberg", spec := "fnSteinberg", apart := false, narrowed := true }
def FnSteinbergUptoSaid : Prop := fnSteinbergUptoRow.holds Try.pinned (OpenSpec.upto fnSteinbergSpec)

/-- 'laws.FnModulo', WHERE WHAT IT READS IS OF BULK AT MOST 1048576: true; the input reads as it did. -/
def fnModuloUptoRow : OpenClaim := { program := "ytnbelacakmfhcaa", sum := "fea839385623fe5c8bcd3e984da5b6962bdf23b7a516390bc5fdbfe057136e51", func := "loop.example/localglobal/laws.FnModulo", spec := "fnModulo", apart := false, narrowed := true }
def FnModuloUptoSaid : Prop := fnModuloUptoRow.holds Try.pinned (OpenSpec.upto fnModuloSpec)

/-- 'laws.FnModuloBack', WHERE WHAT IT READS IS OF BULK AT MOST 1048576: true; the input reads as it did. -/
def fnModuloBackUptoRow : OpenClaim := { program := "ytnbelacakmfhcaa", sum := "fea839385623fe5c8bcd3e984da5b6962bdf23b7a516390bc5fdbfe057136e51", func := "loop.example/localglobal/laws.FnModuloBack", spec := "fnModuloBack", apart := false, narrowed := true }
def FnModuloBackUptoSaid : Prop := fnModuloBackUptoRow.holds Try.pinned (OpenSpec.upto fnModuloBackSpec)

/-- 'laws.FnSymbol', WHERE WHAT IT READS IS OF BULK AT MOST 1048576: true; the input reads as it did. -/
def fnSymbolUptoRow : OpenClaim := { program := "ytnbelacakmfhcaa", sum := "fea839385623fe5c8bcd3e984da5b6962bdf23b7a516390bc5fdbfe057136e51", func := "loop.example/localglobal/laws.FnSymbol", spec := "fnSymbol", apart := false, narrowed := true }
def FnSymbolUptoSaid : Prop := fnSymbolUptoRow.holds Try.pinned (OpenSpec.upto fnSymbolSpec)

/-- 'laws.FnNorm', WHERE WHAT IT READS IS OF BULK AT MOST 1048576: true; the input reads as it did. -/
def fnNormUptoRow : OpenClaim := { program := "ytnbelacakmfhcaa", sum := "fea839385623fe5c8bcd3e984da5b6962bdf23b7a516390bc5fdbfe057136e51", func := "loop.example/localglobal/laws.FnNorm", spec := "fnNorm", apart := false, narrowed := true }
def FnNormUptoSaid : Prop := fnNormUptoRow.holds Try.pinned (OpenSpec.upto fnNormSpec)

/-- 'laws.FnFind', WHERE WHAT IT READS IS OF BULK AT MOST 1048576: true; the input reads as it did. -/
def fnFindUptoRow : OpenClaim := { program := "ytnbelacakmfhcaa", sum := "fea839385623fe5c8bcd3e984da5b6962bdf23b7a516390bc5fdbfe057136e51", func := "loop.example/localglobal/laws.FnFind", spec := "fnFind", apart := false, narrowed := true }
def FnFindUptoSaid : Prop := fnFindUptoRow.holds Try.pinned (OpenSpec.upto fnFindSpec)

/-- 'laws.FnLevel', WHERE WHAT IT READS IS OF BULK AT MOST 1048576: true; the input reads as it did. -/
def fnLevelUptoRow : OpenClaim := { program := "ytnbelacakmfhcaa", sum := "fea839385623fe5c8bcd3e984da5b6962bdf23b7a516390bc5fdbfe057136e51", func := "loop.example/localglobal/laws.FnLevel", spec := "fnLevel", apart := false, narrowed := true }
def FnLevelUptoSaid : Prop := fnLevelUptoRow.holds Try.pinned (OpenSpec.upto fnLevelSpec)

end Rows
end Go.Proofs.Ytnbelacakmfhcaa
