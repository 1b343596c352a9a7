/-
  No cell of these rows narrows 'for every input' (looked for: loops, veiled, ifaces, maps, wideKeys, modest, calm, conditions, laid).
  DERIVED. THE GIVEN ROWS OF THIS SEAT. 10 by the template 'for every input the law returns true; each argument reads behind the call as it read before'; 0 by the template 'total and deterministic' (their statements: YtdeahlommlgceaaTotals.lean).
  GIVEN WITH THE SEED: the statements are not yours to turn. If you find one false, say at which input.
  Laid BY PROGRAM, IN A SANDBOX (cutbox-rows.mjs): the forced cells as the released guide's own fill.sh prints them over the translation 3573b2fb0b856e5b… (all of the seat's roots in one cut). By AI agents, Wed Nov 11 2026. No macro, syntax, notation, axiom, sorry.
-/
import Derived.Test.YtdeahlommlgceaaChecked
import GoSem.Claim
import GoSem.ClaimJoined
import GoSem.ClaimMapViews
import Derived.JoinedTies
import Derived.KernelRfl
namespace Go.Proofs.Ytdeahlommlgceaa
/- THE CELL 'sum', in the pinned program and in every row, IS THE sha256 OF THE DUMP (.gsa) THAT YtdeahlommlgceaaProg.lean LOADS. Nothing in Lean hashes anything: it is a label: what it is worth is what the hold of that sum in a sandbox is worth. -/
noncomputable def Try.pinned : Pinned := { name := "ytdeahlommlgceaa", sum := "3573b2fb0b856e5b06d89aae3230831e9a274ee7e1f45158b63a5190a63f692b", checked := Try.checked }
namespace Rows
def none {H : Type} : Left H := { results := [], args := [] }

/-- 'laws.FnCancel': WHATEVER THE INPUT: true; the input reads as it did. -/
def fnCancelSpec : ChangeSpec := { name := "fnCancel", fn := fun _ => fun
  | [d1, d2] => { results := [.lit (.bool true)], args := [d1, d2] }
  | _ => none }
def fnCancelRow : OpenClaim := { program := "ytdeahlommlgceaa", sum := "3573b2fb0b856e5b06d89aae3230831e9a274ee7e1f45158b63a5190a63f692b", func := "loop.example/localglobal/laws.FnCancel", spec := "fnCancel", recurses := true, apart := false }
def FnCancelSaid : Prop := fnCancelRow.holds Try.pinned (OpenSpec.ofChange fnCancelSpec)

/-- ITS FALSE NEIGHBOUR: 'it returns false'. Refute it at one input. -/
def fnCancelWrong : ChangeSpec := { name := "fnCancel", fn := fun _ => fun
  | [d1, d2] => { results := [.lit (.bool false)], args := [d1, d2] }
  | _ => none }
def FnCancelWrongFalsely : Prop := fnCancelRow.holds Try.pinned (OpenSpec.ofChange fnCancelWrong)

/-- 'laws.FnFormSame': WHATEVER THE INPUT: true; the input reads as it did. -/
def fnFormSameSpec : ChangeSpec := { name := "fnFormSame", fn := fun _ => fun
  | [d1, d2] => { results := [.lit (.bool true)], args := [d1, d2] }
  | _ => none }
def fnFormSameRow : OpenClaim := { program := "ytdeahlommlgceaa", sum := "3573b2fb0b856e5b06d89aae3230831e9a274ee7e1f45158b63a5190a63f692b", func := "loop.example/localglobal/laws.FnFormSame", spec := "fnFormSame", recurses := true, apart := false }
def FnFormSameSaid : Prop := fnFormSameRow.holds Try.pinned (OpenSpec.ofChange fnFormSameSpec)

/-- ITS FALSE NEIGHBOUR: 'it returns false'. Refute it at one input. -/
def fnFormSameWrong : ChangeSpec := { name := "fnFormSame", fn := fun _ => fun
  | [d1, d2] => { results := [.lit (.bool false)], args := [d1, d2] }
  | _ => none }
def FnFormSameWrongFalsely : Prop := fnFormSameRow.holds Try.pinned (OpenSpec.ofChange fnFormSameWrong)

/-- 'laws.FnNormal': WHATEVER THE INPUT: true; the input reads as it did. -/
def fnNormalSpec : ChangeSpec := { name := "fnNormal", fn := fun _ => fun
  | [d] => { results := [.lit (.bool true)], args := [d] }
  | _ => none }
def fnNormalRow : OpenClaim := { program := "ytdeahlommlgceaa", sum := "3573b2fb0b856e5b06d89aae3230831e9a274ee7e1f45158b63a5190a63f692b", func := "loop.example/localglobal/laws.FnNormal", spec := "fnNormal", recurses := true, apart := false }
def FnNormalSaid : Prop := fnNormalRow.holds Try.pinned (OpenSpec.ofChange fnNormalSpec)

/-- ITS FALSE NEIGHBOUR: 'it returns false'. Refute it at one input. -/
def fnNormalWrong : ChangeSpec := { name := "fnNormal", fn := fun _ => fun
  | [d] => { results := [.lit (.bool false)], args := [d] }
  | _ => none }
def FnNormalWrongFalsely : Prop := fnNormalRow.holds Try.pinned (OpenSpec.ofChange fnNormalWrong)

/-- 'laws.FnLevel': WHATEVER THE INPUT: true; the input reads as it did. -/
def fnLevelSpec : ChangeSpec := { name := "fnLevel", fn := fun _ => fun
  | [d] => { results := [.lit (.bool true)], args := [d] }
  | _ => none }
def fnLevelRow : OpenClaim := { program := "ytdeahlommlgceaa", sum := "3573b2fb0b856e5b06d89aae3230831e9a274ee7e1f45158b63a5190a63f692b", func := "loop.example/localglobal/laws.FnLevel", spec := "fnLevel", apart := false }
def FnLevelSaid : Prop := fnLevelRow.holds Try.pinned (OpenSpec.ofChange fnLevelSpec)

/-- ITS FALSE NEIGHBOUR: 'it returns false'. Refute it at one input. -/
def fnLevelWrong : ChangeSpec := { name := "fnLevel", fn := fun _ => fun
  | [d] => { results := [.lit (.bool false)], args := [d] }
  | _ => none }
def FnLevelWrongFalsely : Prop := fnLevelRow.holds Try.pinned (OpenSpec.ofChange fnLevelWrong)

/-- 'laws.FnSearch': WHATEVER THE INPUT: true; the input reads as it did. -/
def fnSearchSpec : ChangeSpec := { name := "fnSearch", fn := fun _ => fun
  | [d] => { results := [.lit (.bool true)], args := [d] }
  | _ => none }
def fnSearchRow : OpenClaim := { program := "ytdeahlommlgceaa", sum := "3573b2fb0b856e5b06d89aae3230831e9a274ee7e1f45158b63a5190a63f692b", func := "loop.example/localglobal/laws.FnSearch", spec := "fnSearch", apart := false }
def FnSearchSaid : Prop := fnSearchRow.holds Try.pinned (OpenSpec.ofChange fnSearchSpec)

/-- ITS FALSE NEIGHBOUR: 'it returns false'. Refute it at one input. -/
def fnSearchWrong : ChangeSpec := { name := "fnSearch", fn := fun _ => fun
  | [d] => { results := [.lit (.bool false)], args := [d] }
  | _ => none }
def FnSearchWrongFalsely : Prop := fnSearchRow.holds Try.pinned (OpenSpec.ofChange fnSearchWrong)

/-- 'laws.FnModulo2': WHATEVER THE INPUT: true; the input reads as it did. -/
def fnModulo2Spec : ChangeSpec := { name := "fnModulo2", fn := fun _ => fun
  | [d] => { results := [.lit (.bool true)], args := [d] }
  | _ => none }
def fnModulo2Row : OpenClaim := { program := "ytdeahlommlgceaa", sum := "3573b2fb0b856e5b06d89aae3230831e9a274ee7e1f45158b63a5190a63f692b", func := "loop.example/localglobal/laws.FnModulo2", spec := "fnModulo2", unfollowed := true, recurses := true, apart := false }
def FnModulo2Said : Prop := fnModulo2Row.holds Try.pinned (OpenSpec.ofChange fnModulo2Spec)

/-- ITS FALSE NEIGHBOUR: 'it returns false'. Refute it at one input. -/
def fnModulo2Wrong : ChangeSpec := { name := "fnModulo2", fn := fun _ => fun
  | [d] => { results := [.lit (.bool false)], args := [d] }
  | _ => none }
def FnModulo2WrongFalsely : Prop := fnModulo2Row.holds Try.pinned (OpenSpec.ofChange fnModulo2Wrong)

/-- 'laws.FnInvariant': WHATEVER THE INPUT: true; the input reads as it did. -/
def fnInvariantSpec : ChangeSpec := { name := "fnInvariant", fn := fun _ => fun
  | [d1, d2] => { results := [.lit (.bool true)], args := [d1, d2] }
  | _ => none }
def fnInvariantRow : OpenClaim := { program := "ytdeahlommlgceaa", sum := "3573b2fb0b856e5b06d89aae3230831e9a274ee7e1f45158b63a5190a63f692b", func := "loop.example/localglobal/laws.FnInvariant", spec := "fnInvariant", apart := false }
def FnInvariantSaid : Prop := fnInvariantRow.holds Try.pinned (OpenSpec.ofChange fnInvariantSpec)

/-- ITS FALSE NEIGHBOUR: 'it returns false'. Refute it at one input. -/
def fnInvariantWrong : ChangeSpec := { name := "fnInvariant", fn := fun _ => fun
  | [d1, d2] => { results := [.lit (.bool false)], args := [d1, d2] }
  | _ => none }
def FnInvariantWrongFalsely : Prop := fnInvariantRow.holds Try.pinned (OpenSpec.ofChange fnInvariantWrong)

/-- 'laws.FnHeight': WHATEVER THE INPUT: true; the input reads as it did. -/
def fnHeightSpec : ChangeSpec := { name := "fnHeight", fn := fun _ => fun
  | [d] => { results := [.lit (.bool true)], args := [d] }
  | _ => none }
def fnHeightRow : OpenClaim := { program := "ytdeahlommlgceaa", sum := "3573b2fb0b856e5b06d89aae3230831e9a274ee7e1f45158b63a5190a63f692b", func := "loop.example/localglobal/laws.FnHeight", spec := "fnHeight", apart := false }
def FnHeightSaid : Prop := fnHeightRow.holds Try.pinned (OpenSpec.ofChange fnHeightSpec)

/-- ITS FALSE NEIGHBOUR: 'it returns false'. Refute it at one input. -/
def fnHeightWrong : ChangeSpec := { name := "fnHeight", fn := fun _ => fun
  | [d] => { results := [.lit (.bool false)], args := [d] }
  | _ => none }
def FnHeightWrongFalsely : Prop := fnHeightRow.holds Try.pinned (OpenSpec.ofChange fnHeightWrong)

/-- 'laws.FnPlain': WHATEVER THE INPUT: true; the input reads as it did. -/
def fnPlainSpec : ChangeSpec := { name := "fnPlain", fn := fun _ => fun
  | [d] => { results := [.lit (.bool true)], args := [d] }
  | _ => none }
def fnPlainRow : OpenClaim := { program := "ytdeahlommlgceaa", sum := "3573b2fb0b856e5b06d89aae3230831e9a274ee7e1f45158b63a5190a63f692b", func := "loop.example/localglobal/laws.FnPlain", spec := "fnPlain", apart := false }
def FnPlainSaid : Prop := fnPlainRow.holds Try.pinned (OpenSpec.ofChange fnPlainSpec)

/-- ITS FALSE NEIGHBOUR: 'it returns false'. Refute it at one input. -/
def fnPlainWrong : ChangeSpec := { name := "fnPlain", fn := fun _ => fun
  | [d] => { results := [.lit (.bool false)], args := [d] }
  | _ => none }
def FnPlainWrongFalsely : Prop := fnPlainRow.holds Try.pinned (OpenSpec.ofChange fnPlainWrong)

/-- 'laws.FnExactSymbolSame': WHATEVER THE INPUT: true; the input reads as it did. -/
def fnExactSymbolSameSpec : ChangeSpec := { name := "fnExactSymbolSame", fn := fun _ => fun
  | [d1, d2, d3, d4] => { results := [.lit (.bool true)], args := [d1, d2, d3, d4] }
  | _ => none }
def fnExactSymbolSameRow : OpenClaim := { program := "ytdeahlommlgceaa", sum := "3573b2fb0b856e5b06d89aae3230831e9a274ee7e1f45158b63a5190a63f692b", func := "loop.example/localglobal/laws.FnExactSymbolSame", spec := "fnExactSymbolSame", recurses := true, apart := false }
def FnExactSymbolSameSaid : Prop := fnExactSymbolSameRow.holds Try.pinned (OpenSpec.ofChange fnExactSymbolSameSpec)

/-- ITS FALSE NEIGHBOUR: 'it returns false'. Refute it at one input. -/
def fnExactSymbolSameWrong : ChangeSpec := { name := "fnExactSymbolSame", fn := fun _ => fun
  | [d1, d2, d3, d4] => { results := [.lit (.bool false)], args := [d1, d2, d3, d4] }
  | _ => none }
def FnExactSymbolSameWrongFalsely : Prop := fnExactSymbolSameRow.holds Try.pinned (OpenSpec.ofChange fnExactSymbolSameWrong)

/- THE SECOND FORM. 'bulk': how many values and letters a reading holds, each counted each time it is reached (what is shared counts as often as it is met; a slice's spare places count too). A statement '..UptoSaid' is the law's where the arguments, and the package variables that the reading takes, are together of bulk at most 1048576: NARROWER than '..Said'. Prove '..Said' where nothing that the law and all that it calls make is longer than what came in: it says more and counts as full. Else prove '..UptoSaid'. A law counts once. -/
mutual
def uptoBulk {H : Type} : DataW H → Nat
  | .lit (.string bytes) => bytes.length + 1
  | .lit _ => 1
  | .nil => 1
  | .ptr d => uptoBulk d + 1
  | .slice elems spare => uptoBulkAll elems + uptoBulkAll spare + 1
  | .agg parts => uptoBulkAll parts + 1
  | .iface _ d => uptoBulk d + 1
  | .map entries => uptoBulkEntries entries + 1
  | .held _ => 1
def uptoBulkAll {H : Type} : List (DataW H) → Nat
  | [] => 0
  | d :: r => uptoBulk d + uptoBulkAll r
def uptoBulkEntries {H : Type} : List (Lit × DataW H) → Nat
  | [] => 0
  | x :: r => uptoBulkEntry x + uptoBulkEntries r
def uptoBulkEntry {H : Type} : Lit × DataW H → Nat
  | (.string bytes, d) => bytes.length + uptoBulk d + 1
  | (_, d) => uptoBulk d + 1
 end
def uptoSmall : (H : Type) → List (DataW H) → Bool := fun _ ds => decide (uptoBulkAll ds ≤ 1048576)
def OpenSpec.upto (s : _root_.Go.ChangeSpec) : _root_.Go.OpenSpec := { _root_.Go.OpenSpec.ofChange s with cond := some uptoSmall }

/-- 'laws.FnCancel', WHERE WHAT IT READS IS OF BULK AT MOST 1048576: true; the input reads as it did. -/
def fnCancelUptoRow : OpenClaim := { program := "ytdeahlommlgceaa", sum := "3573b2fb0b856e5b06d89aae3230831e9a274ee7e1f45158b63a5190a63f692b", func := "loop.example/localglobal/laws.FnCancel", spec := "fnCancel", recurses := true, apart := false, narrowed := true }
def FnCancelUptoSaid : Prop := fnCancelUptoRow.holds Try.pinned (OpenSpec.upto fnCancelSpec)

/-- 'laws.FnFormSame', WHERE WHAT IT READS IS OF BULK AT MOST 1048576: true; the input reads as it did. -/
def fnFormSameUptoRow : OpenClaim := { program := "ytdeahlommlgceaa", sum := "3573b2fb0b856e5b06d89aae3230831e9a274ee7e1f45158b63a5190a63f692b", func := "loop.example/localglobal/laws.FnFormSame", spec := "fnFormSame", recurses := true, apart := false, narrowed := true }
def FnFormSameUptoSaid : Prop := fnFormSameUptoRow.holds Try.pinned (OpenSpec.upto fnFormSameSpec)

/-- 'laws.FnNormal', WHERE WHAT IT READS IS OF BULK AT MOST 1048576: true; the input reads as it did. -/
def fnNormalUptoRow : OpenClaim := { program := "ytdeahlommlgceaa", sum := "3573b2fb0b856e5b06d89aae3230831e9a274ee7e1f45158b63a5190a63f692b", func := "loop.example/localglobal/laws.FnNormal", spec := "fnNormal", recurses := true, apart := false, narrowed := true }
def FnNormalUptoSaid : Prop := fnNormalUptoRow.holds Try.pinned (OpenSpec.upto fnNormalSpec)

/-- 'laws.FnLevel', WHERE WHAT IT READS IS OF BULK AT MOST 1048576: true; the input reads as it did. -/
def fnLevelUptoRow : OpenClaim := { program := "ytdeahlommlgceaa", sum := "3573b2fb0b856e5b06d89aae3230831e9a274ee7e1f45158b63a5190a63f692b", func := "loop.example/localglobal/laws.FnLevel", spec := "fnLevel", apart := false, narrowed := true }
def FnLevelUptoSaid : Prop := fnLevelUptoRow.holds Try.pinned (OpenSpec.upto fnLevelSpec)

/-- 'laws.FnSearch', WHERE WHAT IT READS IS OF BULK AT MOST 1048576: true; the input reads as it did. -/
def fnSearchUptoRow : OpenClaim := { program := "ytdeahlommlgceaa", sum := "3573b2fb0b856e5b06d89aae3230831e9a274ee7e1f45158b63a5190a63f692b", func := "loop.example/localglobal/laws.FnSearch", spec := "fnSearch", apart := false, narrowed := true }
def FnSearchUptoSaid : Prop := fnSearchUptoRow.holds Try.pinned (OpenSpec.upto fnSearchSpec)

/-- 'laws.FnModulo2', WHERE WHAT IT READS IS OF BULK AT MOST 1048576: true; the input reads as it did. -/
def fnModulo2UptoRow : OpenClaim := { program := "ytdeahlommlgceaa", sum := "3573b2fb0b856e5b06d89aae3230831e9a274ee7e1f45158b63a5190a63f692b", func := "loop.example/localglobal/laws.FnModulo2", spec := "fnModulo2", unfollowed := true, recurses := true, apart := false, narrowed := true }
def FnModulo2UptoSaid : Prop := fnModulo2UptoRow.holds Try.pinned (OpenSpec.upto fnModulo2Spec)

/-- 'laws.FnInvariant', WHERE WHAT IT READS IS OF BULK AT MOST 1048576: true; the input reads as it did. -/
def fnInvariantUptoRow : OpenClaim := { program := "ytdeahlommlgceaa", sum := "3573b2fb0b856e5b06d89aae3230831e9a274ee7e1f45158b63a5190a63f692b", func := "loop.example/localglobal/laws.FnInvariant", spec := "fnInvariant", apart := false, narrowed := true }
def FnInvariantUptoSaid : Prop := fnInvariantUptoRow.holds Try.pinned (OpenSpec.upto fnInvariantSpec)

/-- 'laws.FnHeight', WHERE WHAT IT READS IS OF BULK AT MOST 1048576: true; the input reads as it did. -/
def fnHeightUptoRow : OpenClaim := { program := "ytdeahlommlgceaa", sum := "3573b2fb0b856e5b06d89aae3230831e9a274ee7e1f45158b63a5190a63f692b", func := "loop.example/localglobal/laws.FnHeight", spec := "fnHeight", apart := false, narrowed := true }
def FnHeightUptoSaid : Prop := fnHeightUptoRow.holds Try.pinned (OpenSpec.upto fnHeightSpec)

/-- 'laws.FnPlain', WHERE WHAT IT READS IS OF BULK AT MOST 1048576: true; the input reads as it did. -/
def fnPlainUptoRow : OpenClaim := { program := "ytdeahlommlgceaa", sum := "3573b2fb0b856e5b06d89aae3230831e9a274ee7e1f45158b63a5190a63f692b", func := "loop.example/localglobal/laws.FnPlain", spec := "fnPlain", apart := false, narrowed := true }
def FnPlainUptoSaid : Prop := fnPlainUptoRow.holds Try.pinned (OpenSpec.upto fnPlainSpec)

/-- 'laws.FnExactSymbolSame', WHERE WHAT IT READS IS OF BULK AT MOST 1048576: true; the input reads as it did. -/
def fnExactSymbolSameUptoRow : OpenClaim := { program := "ytdeahlommlgceaa", sum := "3573b2fb0b856e5b06d89aae3230831e9a274ee7e1f45158b63a5190a63f692b", func := "loop.example/localglobal/laws.FnExactSymbolSame", spec := "fnExactSymbolSame", recurses := true, apart := false, narrowed := true }
def FnExactSymbolSameUptoSaid : Prop := fnExactSymbolSameUptoRow.holds Try.pinned (OpenSpec.upto fnExactSymbolSameSpec)

end Rows
end Go.Proofs.Ytdeahlommlgceaa
