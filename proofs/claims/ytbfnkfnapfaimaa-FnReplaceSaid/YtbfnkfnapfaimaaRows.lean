/-
  No cell of these rows narrows 'for every input' (looked for: loops, veiled, ifaces, maps, wideKeys, modest, calm, conditions, laid).
  DERIVED. THE GIVEN ROWS OF THIS SEAT. 10 by the template 'for every input the law returns true; each argument reads behind the call as it read before'; 0 by the template 'total and deterministic' (their statements: YtbfnkfnapfaimaaTotals.lean).
  GIVEN WITH THE SEED: the statements are not yours to turn. If you find one false, say at which input.
  Laid BY PROGRAM, IN A SANDBOX (cutbox-rows.mjs): the forced cells as the released guide's own fill.sh prints them over the translation ed7f6cfbc0f523f5… (all of the seat's roots in one cut). By AI agents, Wed Nov 11 2026. No macro, syntax, notation, axiom, sorry.
-/
import Derived.Test.YtbfnkfnapfaimaaChecked
import GoSem.Claim
import GoSem.ClaimJoined
import GoSem.ClaimMapViews
import Derived.JoinedTies
import Derived.KernelRfl
namespace Go.Proofs.Ytbfnkfnapfaimaa
/- THE CELL 'sum', in the pinned program and in every row, IS THE sha256 OF THE DUMP (.gsa) THAT YtbfnkfnapfaimaaProg.lean LOADS. Nothing in Lean hashes anything: it is a label: what it is worth is what the hold of that sum in a sandbox is worth. -/
noncomputable def Try.pinned : Pinned := { name := "ytbfnkfnapfaimaa", sum := "ed7f6cfbc0f523f5e3f0e5342c9a2037a3ef78f3492b346a4c6c7c32e87f3226", checked := Try.checked }
namespace Rows
def none {H : Type} : Left H := { results := [], args := [] }

/-- 'laws.FnCancel': WHATEVER THE INPUT: true; the input reads as it did. -/
def fnCancelSpec : ChangeSpec := { name := "fnCancel", fn := fun _ => fun
  | [d1, d2] => { results := [.lit (.bool true)], args := [d1, d2] }
  | _ => none }
def fnCancelRow : OpenClaim := { program := "ytbfnkfnapfaimaa", sum := "ed7f6cfbc0f523f5e3f0e5342c9a2037a3ef78f3492b346a4c6c7c32e87f3226", func := "loop.example/localglobal/laws.FnCancel", spec := "fnCancel", recurses := true, apart := false }
def FnCancelSaid : Prop := fnCancelRow.holds Try.pinned (OpenSpec.ofChange fnCancelSpec)

/-- ITS FALSE NEIGHBOUR: 'it returns false'. Refute it at one input. -/
def fnCancelWrong : ChangeSpec := { name := "fnCancel", fn := fun _ => fun
  | [d1, d2] => { results := [.lit (.bool false)], args := [d1, d2] }
  | _ => none }
def FnCancelWrongFalsely : Prop := fnCancelRow.holds Try.pinned (OpenSpec.ofChange fnCancelWrong)

/-- 'laws.FnFormSame': WHATEVER THE INPUT: true; the input reads as it did. -/
def fnFormSameSpec : ChangeSpec := { name := "fnFormSame", fn := fun _ => fun
  | [d1, d2] => { results := [.lit (.bool true)], args := [d1, d2] }
  | _ => none }
def fnFormSameRow : OpenClaim := { program := "ytbfnkfnapfaimaa", sum := "ed7f6cfbc0f523f5e3f0e5342c9a2037a3ef78f3492b346a4c6c7c32e87f3226", func := "loop.example/localglobal/laws.FnFormSame", spec := "fnFormSame", recurses := true, apart := false }
def FnFormSameSaid : Prop := fnFormSameRow.holds Try.pinned (OpenSpec.ofChange fnFormSameSpec)

/-- ITS FALSE NEIGHBOUR: 'it returns false'. Refute it at one input. -/
def fnFormSameWrong : ChangeSpec := { name := "fnFormSame", fn := fun _ => fun
  | [d1, d2] => { results := [.lit (.bool false)], args := [d1, d2] }
  | _ => none }
def FnFormSameWrongFalsely : Prop := fnFormSameRow.holds Try.pinned (OpenSpec.ofChange fnFormSameWrong)

/-- 'laws.FnReplace': WHATEVER THE INPUT: true; the input reads as it did. -/
def fnReplaceSpec : ChangeSpec := { name := "fnReplace", fn := fun _ => fun
  | [d] => { results := [.lit (.bool true)], args := [d] }
  | _ => none }
def fnReplaceRow : OpenClaim := { program := "ytbfnkfnapfaimaa", sum := "ed7f6cfbc0f523f5e3f0e5342c9a2037a3ef78f3492b346a4c6c7c32e87f3226", func := "loop.example/localglobal/laws.FnReplace", spec := "fnReplace", recurses := true, apart := false }
def FnReplaceSaid : Prop := fnReplaceRow.holds Try.pinned (OpenSpec.ofChange fnReplaceSpec)

/-- ITS FALSE NEIGHBOUR: 'it returns false'. Refute it at one input. -/
def fnReplaceWrong : ChangeSpec := { name := "fnReplace", fn := fun _ => fun
  | [d] => { results := [.lit (.bool false)], args := [d] }
  | _ => none }
def FnReplaceWrongFalsely : Prop := fnReplaceRow.holds Try.pinned (OpenSpec.ofChange fnReplaceWrong)

/-- 'laws.FnBad': WHATEVER THE INPUT: true; the input reads as it did. -/
def fnBadSpec : ChangeSpec := { name := "fnBad", fn := fun _ => fun
  | [d] => { results := [.lit (.bool true)], args := [d] }
  | _ => none }
def fnBadRow : OpenClaim := { program := "ytbfnkfnapfaimaa", sum := "ed7f6cfbc0f523f5e3f0e5342c9a2037a3ef78f3492b346a4c6c7c32e87f3226", func := "loop.example/localglobal/laws.FnBad", spec := "fnBad", recurses := true, apart := false }
def FnBadSaid : Prop := fnBadRow.holds Try.pinned (OpenSpec.ofChange fnBadSpec)

/-- ITS FALSE NEIGHBOUR: 'it returns false'. Refute it at one input. -/
def fnBadWrong : ChangeSpec := { name := "fnBad", fn := fun _ => fun
  | [d] => { results := [.lit (.bool false)], args := [d] }
  | _ => none }
def FnBadWrongFalsely : Prop := fnBadRow.holds Try.pinned (OpenSpec.ofChange fnBadWrong)

/-- 'laws.FnVanishOdd': WHATEVER THE INPUT: true; the input reads as it did. -/
def fnVanishOddSpec : ChangeSpec := { name := "fnVanishOdd", fn := fun _ => fun
  | [d] => { results := [.lit (.bool true)], args := [d] }
  | _ => none }
def fnVanishOddRow : OpenClaim := { program := "ytbfnkfnapfaimaa", sum := "ed7f6cfbc0f523f5e3f0e5342c9a2037a3ef78f3492b346a4c6c7c32e87f3226", func := "loop.example/localglobal/laws.FnVanishOdd", spec := "fnVanishOdd", recurses := true, apart := false }
def FnVanishOddSaid : Prop := fnVanishOddRow.holds Try.pinned (OpenSpec.ofChange fnVanishOddSpec)

/-- ITS FALSE NEIGHBOUR: 'it returns false'. Refute it at one input. -/
def fnVanishOddWrong : ChangeSpec := { name := "fnVanishOdd", fn := fun _ => fun
  | [d] => { results := [.lit (.bool false)], args := [d] }
  | _ => none }
def FnVanishOddWrongFalsely : Prop := fnVanishOddRow.holds Try.pinned (OpenSpec.ofChange fnVanishOddWrong)

/-- 'laws.FnNormal': WHATEVER THE INPUT: true; the input reads as it did. -/
def fnNormalSpec : ChangeSpec := { name := "fnNormal", fn := fun _ => fun
  | [d] => { results := [.lit (.bool true)], args := [d] }
  | _ => none }
def fnNormalRow : OpenClaim := { program := "ytbfnkfnapfaimaa", sum := "ed7f6cfbc0f523f5e3f0e5342c9a2037a3ef78f3492b346a4c6c7c32e87f3226", func := "loop.example/localglobal/laws.FnNormal", spec := "fnNormal", recurses := true, apart := false }
def FnNormalSaid : Prop := fnNormalRow.holds Try.pinned (OpenSpec.ofChange fnNormalSpec)

/-- ITS FALSE NEIGHBOUR: 'it returns false'. Refute it at one input. -/
def fnNormalWrong : ChangeSpec := { name := "fnNormal", fn := fun _ => fun
  | [d] => { results := [.lit (.bool false)], args := [d] }
  | _ => none }
def FnNormalWrongFalsely : Prop := fnNormalRow.holds Try.pinned (OpenSpec.ofChange fnNormalWrong)

/-- 'laws.FnSearch': WHATEVER THE INPUT: true; the input reads as it did. -/
def fnSearchSpec : ChangeSpec := { name := "fnSearch", fn := fun _ => fun
  | [d] => { results := [.lit (.bool true)], args := [d] }
  | _ => none }
def fnSearchRow : OpenClaim := { program := "ytbfnkfnapfaimaa", sum := "ed7f6cfbc0f523f5e3f0e5342c9a2037a3ef78f3492b346a4c6c7c32e87f3226", func := "loop.example/localglobal/laws.FnSearch", spec := "fnSearch", apart := false }
def FnSearchSaid : Prop := fnSearchRow.holds Try.pinned (OpenSpec.ofChange fnSearchSpec)

/-- ITS FALSE NEIGHBOUR: 'it returns false'. Refute it at one input. -/
def fnSearchWrong : ChangeSpec := { name := "fnSearch", fn := fun _ => fun
  | [d] => { results := [.lit (.bool false)], args := [d] }
  | _ => none }
def FnSearchWrongFalsely : Prop := fnSearchRow.holds Try.pinned (OpenSpec.ofChange fnSearchWrong)

/-- 'laws.FnModulo2': WHATEVER THE INPUT: true; the input reads as it did. -/
def fnModulo2Spec : ChangeSpec := { name := "fnModulo2", fn := fun _ => fun
  | [d] => { results := [.lit (.bool true)], args := [d] }
  | _ => none }
def fnModulo2Row : OpenClaim := { program := "ytbfnkfnapfaimaa", sum := "ed7f6cfbc0f523f5e3f0e5342c9a2037a3ef78f3492b346a4c6c7c32e87f3226", func := "loop.example/localglobal/laws.FnModulo2", spec := "fnModulo2", unfollowed := true, recurses := true, apart := false }
def FnModulo2Said : Prop := fnModulo2Row.holds Try.pinned (OpenSpec.ofChange fnModulo2Spec)

/-- ITS FALSE NEIGHBOUR: 'it returns false'. Refute it at one input. -/
def fnModulo2Wrong : ChangeSpec := { name := "fnModulo2", fn := fun _ => fun
  | [d] => { results := [.lit (.bool false)], args := [d] }
  | _ => none }
def FnModulo2WrongFalsely : Prop := fnModulo2Row.holds Try.pinned (OpenSpec.ofChange fnModulo2Wrong)

/-- 'laws.FnHeight': WHATEVER THE INPUT: true; the input reads as it did. -/
def fnHeightSpec : ChangeSpec := { name := "fnHeight", fn := fun _ => fun
  | [d] => { results := [.lit (.bool true)], args := [d] }
  | _ => none }
def fnHeightRow : OpenClaim := { program := "ytbfnkfnapfaimaa", sum := "ed7f6cfbc0f523f5e3f0e5342c9a2037a3ef78f3492b346a4c6c7c32e87f3226", func := "loop.example/localglobal/laws.FnHeight", spec := "fnHeight", apart := false }
def FnHeightSaid : Prop := fnHeightRow.holds Try.pinned (OpenSpec.ofChange fnHeightSpec)

/-- ITS FALSE NEIGHBOUR: 'it returns false'. Refute it at one input. -/
def fnHeightWrong : ChangeSpec := { name := "fnHeight", fn := fun _ => fun
  | [d] => { results := [.lit (.bool false)], args := [d] }
  | _ => none }
def FnHeightWrongFalsely : Prop := fnHeightRow.holds Try.pinned (OpenSpec.ofChange fnHeightWrong)

/-- 'laws.FnPlain': WHATEVER THE INPUT: true; the input reads as it did. -/
def fnPlainSpec : ChangeSpec := { name := "fnPlain", fn := fun _ => fun
  | [d] => { results := [.lit (.bool true)], args := [d] }
  | _ => none }
def fnPlainRow : OpenClaim := { program := "ytbfnkfnapfaimaa", sum := "ed7f6cfbc0f523f5e3f0e5342c9a2037a3ef78f3492b346a4c6c7c32e87f3226", func := "loop.example/localglobal/laws.FnPlain", spec := "fnPlain", apart := false }
def FnPlainSaid : Prop := fnPlainRow.holds Try.pinned (OpenSpec.ofChange fnPlainSpec)

/-- ITS FALSE NEIGHBOUR: 'it returns false'. Refute it at one input. -/
def fnPlainWrong : ChangeSpec := { name := "fnPlain", fn := fun _ => fun
  | [d] => { results := [.lit (.bool false)], args := [d] }
  | _ => none }
def FnPlainWrongFalsely : Prop := fnPlainRow.holds Try.pinned (OpenSpec.ofChange fnPlainWrong)

/- THE SECOND FORM. 'bulk': how many values and letters a reading holds, each counted each time it is reached (what is shared counts as often as it is met; a slice's spare places count too). A statement '..UptoSaid' is the law's where the arguments, and the package variables that the reading takes, are together of bulk at most 1048576: NARROWER than '..Said'. Prove '..Said' where nothing that the law and all that it calls make is longer than what came in: it says more and counts as full. Else prove '..UptoSaid'. A law counts once. -/
mutual
def uptoBulk {H : Type} : DataW H → Nat
  | .lit (.string bytes) => bytes.length + 1
  | .lit _ => 1
  | .nil => 1
  | .ptr d => uptoBulk d + 1
  | .slice elems spare => uptoBulkAll elems + uptoBulkAll spare + 1
  | .agg parts => uptoBulkAll parts + 1
  | .iface _ d => uptoBulk d + 1
  | .map entries => uptoBulkEntries entries + 1
  | .held _ => 1
def uptoBulkAll {H : Type} : List (DataW H) → Nat
  | [] => 0
  | d :: r => uptoBulk d + uptoBulkAll r
def uptoBulkEntries {H : Type} : List (Lit × DataW H) → Nat
  | [] => 0
  | x :: r => uptoBulkEntry x + uptoBulkEntries r
def uptoBulkEntry {H : Type} : Lit × DataW H → Nat
  | (.string bytes, d) => bytes.length + uptoBulk d + 1
  | (_, d) => uptoBulk d + 1
 end
def uptoSmall : (H : Type) → List (DataW H) → Bool := fun _ ds => decide (uptoBulkAll ds ≤ 1048576)
def OpenSpec.upto (s : _root_.Go.ChangeSpec) : _root_.Go.OpenSpec := { _root_.Go.OpenSpec.ofChange s with cond := some uptoSmall }

/-- 'laws.FnCancel', WHERE WHAT IT READS IS OF BULK AT MOST 1048576: true; the input reads as it did. -/
def fnCancelUptoRow : OpenClaim := { program := "ytbfnkfnapfaimaa", sum := "ed7f6cfbc0f523f5e3f0e5342c9a2037a3ef78f3492b346a4c6c7c32e87f3226", func := "loop.example/localglobal/laws.FnCancel", spec := "fnCancel", recurses := true, apart := false, narrowed := true }
def FnCancelUptoSaid : Prop := fnCancelUptoRow.holds Try.pinned (OpenSpec.upto fnCancelSpec)

/-- 'laws.FnFormSame', WHERE WHAT IT READS IS OF BULK AT MOST 1048576: true; the input reads as it did. -/
def fnFormSameUptoRow : OpenClaim := { program := "ytbfnkfnapfaimaa", sum := "ed7f6cfbc0f523f5e3f0e5342c9a2037a3ef78f3492b346a4c6c7c32e87f3226", func := "loop.example/localglobal/laws.FnFormSame", spec := "fnFormSame", recurses := true, apart := false, narrowed := true }
def FnFormSameUptoSaid : Prop := fnFormSameUptoRow.holds Try.pinned (OpenSpec.upto fnFormSameSpec)

/-- 'laws.FnReplace', WHERE WHAT IT READS IS OF BULK AT MOST 1048576: true; the input reads as it did. -/
def fnReplaceUptoRow : OpenClaim := { program := "ytbfnkfnapfaimaa", sum := "ed7f6cfbc0f523f5e3f0e5342c9a2037a3ef78f3492b346a4c6c7c32e87f3226", func := "loop.example/localglobal/laws.FnReplace", spec := "fnReplace", recurses := true, apart := false, narrowed := true }
def FnReplaceUptoSaid : Prop := fnReplaceUptoRow.holds Try.pinned (OpenSpec.upto fnReplaceSpec)

/-- 'laws.FnBad', WHERE WHAT IT READS IS OF BULK AT MOST 1048576: true; the input reads as it did. -/
def fnBadUptoRow : OpenClaim := { program := "ytbfnkfnapfaimaa", sum := "ed7f6cfbc0f523f5e3f0e5342c9a2037a3ef78f3492b346a4c6c7c32e87f3226", func := "loop.example/localglobal/laws.FnBad", spec := "fnBad", recurses := true, apart := false, narrowed := true }
def FnBadUptoSaid : Prop := fnBadUptoRow.holds Try.pinned (OpenSpec.upto fnBadSpec)

/-- 'laws.FnVanishOdd', WHERE WHAT IT READS IS OF BULK AT MOST 1048576: true; the input reads as it did. -/
def fnVanishOddUptoRow : OpenClaim := { program := "ytbfnkfnapfaimaa", sum := "ed7f6cfbc0f523f5e3f0e5342c9a2037a3ef78f3492b346a4c6c7c32e87f3226", func := "loop.example/localglobal/laws.FnVanishOdd", spec := "fnVanishOdd", recurses := true, apart := false, narrowed := true }
def FnVanishOddUptoSaid : Prop := fnVanishOddUptoRow.holds Try.pinned (OpenSpec.upto fnVanishOddSpec)

/-- 'laws.FnNormal', WHERE WHAT IT READS IS OF BULK AT MOST 1048576: true; the input reads as it did. -/
def fnNormalUptoRow : OpenClaim := { program := "ytbfnkfnapfaimaa", sum := "ed7f6cfbc0f523f5e3f0e5342c9a2037a3ef78f3492b346a4c6c7c32e87f3226", func := "loop.example/localglobal/laws.FnNormal", spec := "fnNormal", recurses := true, apart := false, narrowed := true }
def FnNormalUptoSaid : Prop := fnNormalUptoRow.holds Try.pinned (OpenSpec.upto fnNormalSpec)

/-- 'laws.FnSearch', WHERE WHAT IT READS IS OF BULK AT MOST 1048576: true; the input reads as it did. -/
def fnSearchUptoRow : OpenClaim := { program := "ytbfnkfnapfaimaa", sum := "ed7f6cfbc0f523f5e3f0e5342c9a2037a3ef78f3492b346a4c6c7c32e87f3226", func := "loop.example/localglobal/laws.FnSearch", spec := "fnSearch", apart := false, narrowed := true }
def FnSearchUptoSaid : Prop := fnSearchUptoRow.holds Try.pinned (OpenSpec.upto fnSearchSpec)

/-- 'laws.FnModulo2', WHERE WHAT IT READS IS OF BULK AT MOST 1048576: true; the input reads as it did. -/
def fnModulo2UptoRow : OpenClaim := { program := "ytbfnkfnapfaimaa", sum := "ed7f6cfbc0f523f5e3f0e5342c9a2037a3ef78f3492b346a4c6c7c32e87f3226", func := "loop.example/localglobal/laws.FnModulo2", spec := "fnModulo2", unfollowed := true, recurses := true, apart := false, narrowed := true }
def FnModulo2UptoSaid : Prop := fnModulo2UptoRow.holds Try.pinned (OpenSpec.upto fnModulo2Spec)

/-- 'laws.FnHeight', WHERE WHAT IT READS IS OF BULK AT MOST 1048576: true; the input reads as it did. -/
def fnHeightUptoRow : OpenClaim := { program := "ytbfnkfnapfaimaa", sum := "ed7f6cfbc0f523f5e3f0e5342c9a2037a3ef78f3492b346a4c6c7c32e87f3226", func := "loop.example/localglobal/laws.FnHeight", spec := "fnHeight", apart := false, narrowed := true }
def FnHeightUptoSaid : Prop := fnHeightUptoRow.holds Try.pinned (OpenSpec.upto fnHeightSpec)

/-- 'laws.FnPlain', WHERE WHAT IT READS IS OF BULK AT MOST 1048576: true; the input reads as it did. -/
def fnPlainUptoRow : OpenClaim := { program := "ytbfnkfnapfaimaa", sum := "ed7f6cfbc0f523f5e3f0e5342c9a2037a3ef78f3492b346a4c6c7c32e87f3226", func := "loop.example/localglobal/laws.FnPlain", spec := "fnPlain", apart := false, narrowed := true }
def FnPlainUptoSaid : Prop := fnPlainUptoRow.holds Try.pinned (OpenSpec.upto fnPlainSpec)

end Rows
end Go.Proofs.Ytbfnkfnapfaimaa
