/-
  No cell of these rows narrows 'for every input' (looked for: loops, veiled, ifaces, maps, wideKeys, modest, calm, conditions, laid).
  DERIVED. THE GIVEN ROWS OF THIS SEAT. 9 by the template 'for every input the law returns true; each argument reads behind the call as it read before'; 0 by the template 'total and deterministic' (their statements: YteeakklnlcjgbaaTotals.lean).
  GIVEN WITH THE SEED: the statements are not yours to turn. If you find one false, say at which input.
  Laid BY PROGRAM, IN A SANDBOX (cutbox-rows.mjs): the forced cells as the released guide's own fill.sh prints them over the translation 00c0741a83475c00… (all of the seat's roots in one cut). By AI agents, Wed Nov 11 2026. No macro, syntax, notation, axiom, sorry.
-/
import Derived.Test.YteeakklnlcjgbaaChecked
import GoSem.Claim
import GoSem.ClaimJoined
import GoSem.ClaimMapViews
import Derived.JoinedTies
import Derived.KernelRfl
namespace Go.Proofs.Yteeakklnlcjgbaa
/- THE CELL 'sum', in the pinned program and in every row, IS THE sha256 OF THE DUMP (.gsa) THAT YteeakklnlcjgbaaProg.lean LOADS. Nothing in Lean hashes anything: it is a label: what it is worth is what the hold of that sum in a sandbox is worth. -/
noncomputable def Try.pinned : Pinned := { name := "yteeakklnlcjgbaa", sum := "00c0741a83475c00fbe5516987c960146369424c04c24bab02f1c56d9b7ff5ac", checked := Try.checked }
namespace Rows
def none {H : Type} : Left H := { results := [], args := [] }

/-- 'laws.FnExactConstants': WHATEVER THE INPUT: true; the input reads as it did. -/
def fnExactConstantsSpec : ChangeSpec := { name := "fnExactConstants", fn := fun _ => fun
  | [] => { results := [.lit (.bool true)], args := [] }
  | _ => none }
def fnExactConstantsRow : OpenClaim := { program := "yteeakklnlcjgbaa", sum := "00c0741a83475c00fbe5516987c960146369424c04c24bab02f1c56d9b7ff5ac", func := "loop.example/entail/laws.FnExactConstants", spec := "fnExactConstants", apart := false }
def FnExactConstantsSaid : Prop := fnExactConstantsRow.holds Try.pinned (OpenSpec.ofChange fnExactConstantsSpec)

/-- ITS FALSE NEIGHBOUR: 'it returns false'. Refute it at one input. -/
def fnExactConstantsWrong : ChangeSpec := { name := "fnExactConstants", fn := fun _ => fun
  | [] => { results := [.lit (.bool false)], args := [] }
  | _ => none }
def FnExactConstantsWrongFalsely : Prop := fnExactConstantsRow.holds Try.pinned (OpenSpec.ofChange fnExactConstantsWrong)

/-- 'laws.FnExactIntWrap': WHATEVER THE INPUT: true; the input reads as it did. -/
def fnExactIntWrapSpec : ChangeSpec := { name := "fnExactIntWrap", fn := fun _ => fun
  | [d] => { results := [.lit (.bool true)], args := [d] }
  | _ => none }
def fnExactIntWrapRow : OpenClaim := { program := "yteeakklnlcjgbaa", sum := "00c0741a83475c00fbe5516987c960146369424c04c24bab02f1c56d9b7ff5ac", func := "loop.example/entail/laws.FnExactIntWrap", spec := "fnExactIntWrap", apart := false }
def FnExactIntWrapSaid : Prop := fnExactIntWrapRow.holds Try.pinned (OpenSpec.ofChange fnExactIntWrapSpec)

/-- ITS FALSE NEIGHBOUR: 'it returns false'. Refute it at one input. -/
def fnExactIntWrapWrong : ChangeSpec := { name := "fnExactIntWrap", fn := fun _ => fun
  | [d] => { results := [.lit (.bool false)], args := [d] }
  | _ => none }
def FnExactIntWrapWrongFalsely : Prop := fnExactIntWrapRow.holds Try.pinned (OpenSpec.ofChange fnExactIntWrapWrong)

/-- 'laws.FnIntWrap': WHATEVER THE INPUT: true; the input reads as it did. -/
def fnIntWrapSpec : ChangeSpec := { name := "fnIntWrap", fn := fun _ => fun
  | [d] => { results := [.lit (.bool true)], args := [d] }
  | _ => none }
def fnIntWrapRow : OpenClaim := { program := "yteeakklnlcjgbaa", sum := "00c0741a83475c00fbe5516987c960146369424c04c24bab02f1c56d9b7ff5ac", func := "loop.example/entail/laws.FnIntWrap", spec := "fnIntWrap", apart := false }
def FnIntWrapSaid : Prop := fnIntWrapRow.holds Try.pinned (OpenSpec.ofChange fnIntWrapSpec)

/-- ITS FALSE NEIGHBOUR: 'it returns false'. Refute it at one input. -/
def fnIntWrapWrong : ChangeSpec := { name := "fnIntWrap", fn := fun _ => fun
  | [d] => { results := [.lit (.bool false)], args := [d] }
  | _ => none }
def FnIntWrapWrongFalsely : Prop := fnIntWrapRow.holds Try.pinned (OpenSpec.ofChange fnIntWrapWrong)

/-- 'laws.FnExactHeapOk': WHATEVER THE INPUT: true; the input reads as it did. -/
def fnExactHeapOkSpec : ChangeSpec := { name := "fnExactHeapOk", fn := fun _ => fun
  | [d1, d2] => { results := [.lit (.bool true)], args := [d1, d2] }
  | _ => none }
def fnExactHeapOkRow : OpenClaim := { program := "yteeakklnlcjgbaa", sum := "00c0741a83475c00fbe5516987c960146369424c04c24bab02f1c56d9b7ff5ac", func := "loop.example/entail/laws.FnExactHeapOk", spec := "fnExactHeapOk", apart := false }
def FnExactHeapOkSaid : Prop := fnExactHeapOkRow.holds Try.pinned (OpenSpec.ofChange fnExactHeapOkSpec)

/-- ITS FALSE NEIGHBOUR: 'it returns false'. Refute it at one input. -/
def fnExactHeapOkWrong : ChangeSpec := { name := "fnExactHeapOk", fn := fun _ => fun
  | [d1, d2] => { results := [.lit (.bool false)], args := [d1, d2] }
  | _ => none }
def FnExactHeapOkWrongFalsely : Prop := fnExactHeapOkRow.holds Try.pinned (OpenSpec.ofChange fnExactHeapOkWrong)

/-- 'laws.FnExactHeapGraph': WHATEVER THE INPUT: true; the input reads as it did. -/
def fnExactHeapGraphSpec : ChangeSpec := { name := "fnExactHeapGraph", fn := fun _ => fun
  | [d1, d2] => { results := [.lit (.bool true)], args := [d1, d2] }
  | _ => none }
def fnExactHeapGraphRow : OpenClaim := { program := "yteeakklnlcjgbaa", sum := "00c0741a83475c00fbe5516987c960146369424c04c24bab02f1c56d9b7ff5ac", func := "loop.example/entail/laws.FnExactHeapGraph", spec := "fnExactHeapGraph", unfollowed := true, recurses := true, apart := false }
def FnExactHeapGraphSaid : Prop := fnExactHeapGraphRow.holds Try.pinned (OpenSpec.ofChange fnExactHeapGraphSpec)

/-- ITS FALSE NEIGHBOUR: 'it returns false'. Refute it at one input. -/
def fnExactHeapGraphWrong : ChangeSpec := { name := "fnExactHeapGraph", fn := fun _ => fun
  | [d1, d2] => { results := [.lit (.bool false)], args := [d1, d2] }
  | _ => none }
def FnExactHeapGraphWrongFalsely : Prop := fnExactHeapGraphRow.holds Try.pinned (OpenSpec.ofChange fnExactHeapGraphWrong)

/-- 'laws.FnGraphLed': WHATEVER THE INPUT: true; the input reads as it did. -/
def fnGraphLedSpec : ChangeSpec := { name := "fnGraphLed", fn := fun _ => fun
  | [d] => { results := [.lit (.bool true)], args := [d] }
  | _ => none }
def fnGraphLedRow : OpenClaim := { program := "yteeakklnlcjgbaa", sum := "00c0741a83475c00fbe5516987c960146369424c04c24bab02f1c56d9b7ff5ac", func := "loop.example/entail/laws.FnGraphLed", spec := "fnGraphLed", unfollowed := true, recurses := true, apart := false }
def FnGraphLedSaid : Prop := fnGraphLedRow.holds Try.pinned (OpenSpec.ofChange fnGraphLedSpec)

/-- ITS FALSE NEIGHBOUR: 'it returns false'. Refute it at one input. -/
def fnGraphLedWrong : ChangeSpec := { name := "fnGraphLed", fn := fun _ => fun
  | [d] => { results := [.lit (.bool false)], args := [d] }
  | _ => none }
def FnGraphLedWrongFalsely : Prop := fnGraphLedRow.holds Try.pinned (OpenSpec.ofChange fnGraphLedWrong)

/-- 'laws.FnGraphMore': WHATEVER THE INPUT: true; the input reads as it did. -/
def fnGraphMoreSpec : ChangeSpec := { name := "fnGraphMore", fn := fun _ => fun
  | [d] => { results := [.lit (.bool true)], args := [d] }
  | _ => none }
def fnGraphMoreRow : OpenClaim := { program := "yteeakklnlcjgbaa", sum := "00c0741a83475c00fbe5516987c960146369424c04c24bab02f1c56d9b7ff5ac", func := "loop.example/entail/laws.FnGraphMore", spec := "fnGraphMore", unfollowed := true, recurses := true, apart := false }
def FnGraphMoreSaid : Prop := fnGraphMoreRow.holds Try.pinned (OpenSpec.ofChange fnGraphMoreSpec)

/-- ITS FALSE NEIGHBOUR: 'it returns false'. Refute it at one input. -/
def fnGraphMoreWrong : ChangeSpec := { name := "fnGraphMore", fn := fun _ => fun
  | [d] => { results := [.lit (.bool false)], args := [d] }
  | _ => none }
def FnGraphMoreWrongFalsely : Prop := fnGraphMoreRow.holds Try.pinned (OpenSpec.ofChange fnGraphMoreWrong)

/-- 'laws.FnGraphTwice': WHATEVER THE INPUT: true; the input reads as it did. -/
def fnGraphTwiceSpec : ChangeSpec := { name := "fnGraphTwice", fn := fun _ => fun
  | [d] => { results := [.lit (.bool true)], args := [d] }
  | _ => none }
def fnGraphTwiceRow : OpenClaim := { program := "yteeakklnlcjgbaa", sum := "00c0741a83475c00fbe5516987c960146369424c04c24bab02f1c56d9b7ff5ac", func := "loop.example/entail/laws.FnGraphTwice", spec := "fnGraphTwice", unfollowed := true, recurses := true, apart := false }
def FnGraphTwiceSaid : Prop := fnGraphTwiceRow.holds Try.pinned (OpenSpec.ofChange fnGraphTwiceSpec)

/-- ITS FALSE NEIGHBOUR: 'it returns false'. Refute it at one input. -/
def fnGraphTwiceWrong : ChangeSpec := { name := "fnGraphTwice", fn := fun _ => fun
  | [d] => { results := [.lit (.bool false)], args := [d] }
  | _ => none }
def FnGraphTwiceWrongFalsely : Prop := fnGraphTwiceRow.holds Try.pinned (OpenSpec.ofChange fnGraphTwiceWrong)

/-- 'laws.FnGraphTurn': WHATEVER THE INPUT: true; the input reads as it did. -/
def fnGraphTurnSpec : ChangeSpec := { name := "fnGraphTurn", fn := fun _ => fun
  | [d1, d2] => { results := [.lit (.bool true)], args := [d1, d2] }
  | _ => none }
def fnGraphTurnRow : OpenClaim := { program := "yteeakklnlcjgbaa", sum := "00c0741a83475c00fbe5516987c960146369424c04c24bab02f1c56d9b7ff5ac", func := "loop.example/entail/laws.FnGraphTurn", spec := "fnGraphTurn", unfollowed := true, recurses := true, apart := false }
def FnGraphTurnSaid : Prop := fnGraphTurnRow.holds Try.pinned (OpenSpec.ofChange fnGraphTurnSpec)

/-- ITS FALSE NEIGHBOUR: 'it returns false'. Refute it at one input. -/
def fnGraphTurnWrong : ChangeSpec := { name := "fnGraphTurn", fn := fun _ => fun
  | [d1, d2] => { results := [.lit (.bool false)], args := [d1, d2] }
  | _ => none }
def FnGraphTurnWrongFalsely : Prop := fnGraphTurnRow.holds Try.pinned (OpenSpec.ofChange fnGraphTurnWrong)

/- THE SECOND FORM. 'bulk': how many values and letters a reading holds, each counted each time it is reached (what is shared counts as often as it is met; a slice's spare places count too). A statement '..UptoSaid' is the law's where the arguments, and the package variables that the reading takes, are together of bulk at most 1048576: NARROWER than '..Said'. Prove '..Said' where nothing that the law and all that it calls make is longer than what came in: it says more and counts as full. Else prove '..UptoSaid'. A law counts once. -/
mutual
def uptoBulk {H : Type} : DataW H → Nat
  | .lit (.string bytes) => bytes.length + 1
  | .lit _ => 1
  | .nil => 1
  | .ptr d => uptoBulk d + 1
  | .slice elems spare => uptoBulkAll elems + uptoBulkAll spare + 1
  | .agg parts => uptoBulkAll parts + 1
  | .iface _ d => uptoBulk d + 1
  | .map entries => uptoBulkEntries entries + 1
  | .held _ => 1
def uptoBulkAll {H : Type} : List (DataW H) → Nat
  | [] => 0
  | d :: r => uptoBulk d + uptoBulkAll r
def uptoBulkEntries {H : Type} : List (Lit × DataW H) → Nat
  | [] => 0
  | x :: r => uptoBulkEntry x + uptoBulkEntries r
def uptoBulkEntry {H : Type} : Lit × DataW H → Nat
  | (.string bytes, d) => bytes.length + uptoBulk d + 1
  | (_, d) => uptoBulk d + 1
 end
def uptoSmall : (H : Type) → List (DataW H) → Bool := fun _ ds => decide (uptoBulkAll ds ≤ 1048576)
def OpenSpec.upto (s : _root_.Go.ChangeSpec) : _root_.Go.OpenSpec := { _root_.Go.OpenSpec.ofChange s with cond := some uptoSmall }

/-- 'laws.FnExactConstants', WHERE WHAT IT READS IS OF BULK AT MOST 1048576: true; the input reads as it did. -/
def fnExactConstantsUptoRow : OpenClaim := { program := "yteeakklnlcjgbaa", sum := "00c0741a83475c00fbe5516987c960146369424c04c24bab02f1c56d9b7ff5ac", func := "loop.example/entail/laws.FnExactConstants", spec := "fnExactConstants", apart := false, narrowed := true }
def FnExactConstantsUptoSaid : Prop := fnExactConstantsUptoRow.holds Try.pinned (OpenSpec.upto fnExactConstantsSpec)

/-- 'laws.FnExactIntWrap', WHERE WHAT IT READS IS OF BULK AT MOST 1048576: true; the input reads as it did. -/
def fnExactIntWrapUptoRow : OpenClaim := { program := "yteeakklnlcjgbaa", sum := "00c0741a83475c00fbe5516987c960146369424c04c24bab02f1c56d9b7ff5ac", func := "loop.example/entail/laws.FnExactIntWrap", spec := "fnExactIntWrap", apart := false, narrowed := true }
def FnExactIntWrapUptoSaid : Prop := fnExactIntWrapUptoRow.holds Try.pinned (OpenSpec.upto fnExactIntWrapSpec)

/-- 'laws.FnIntWrap', WHERE WHAT IT READS IS OF BULK AT MOST 1048576: true; the input reads as it did. -/
def fnIntWrapUptoRow : OpenClaim := { program := "yteeakklnlcjgbaa", sum := "00c0741a83475c00fbe5516987c960146369424c04c24bab02f1c56d9b7ff5ac", func := "loop.example/entail/laws.FnIntWrap", spec := "fnIntWrap", apart := false, narrowed := true }
def FnIntWrapUptoSaid : Prop := fnIntWrapUptoRow.holds Try.pinned (OpenSpec.upto fnIntWrapSpec)

/-- 'laws.FnExactHeapOk', WHERE WHAT IT READS IS OF BULK AT MOST 1048576: true; the input reads as it did. -/
def fnExactHeapOkUptoRow : OpenClaim := { program := "yteeakklnlcjgbaa", sum := "00c0741a83475c00fbe5516987c960146369424c04c24bab02f1c56d9b7ff5ac", func := "loop.example/entail/laws.FnExactHeapOk", spec := "fnExactHeapOk", apart := false, narrowed := true }
def FnExactHeapOkUptoSaid : Prop := fnExactHeapOkUptoRow.holds Try.pinned (OpenSpec.upto fnExactHeapOkSpec)

/-- 'laws.FnExactHeapGraph', WHERE WHAT IT READS IS OF BULK AT MOST 1048576: true; the input reads as it did. -/
def fnExactHeapGraphUptoRow : OpenClaim := { program := "yteeakklnlcjgbaa", sum := "00c0741a83475c00fbe5516987c960146369424c04c24bab02f1c56d9b7ff5ac", func := "loop.example/entail/laws.FnExactHeapGraph", spec := "fnExactHeapGraph", unfollowed := true, recurses := true, apart := false, narrowed := true }
def FnExactHeapGraphUptoSaid : Prop := fnExactHeapGraphUptoRow.holds Try.pinned (OpenSpec.upto fnExactHeapGraphSpec)

/-- 'laws.FnGraphLed', WHERE WHAT IT READS IS OF BULK AT MOST 1048576: true; the input reads as it did. -/
def fnGraphLedUptoRow : OpenClaim := { program := "yteeakklnlcjgbaa", sum := "00c0741a83475c00fbe5516987c960146369424c04c24bab02f1c56d9b7ff5ac", func := "loop.example/entail/laws.FnGraphLed", spec := "fnGraphLed", unfollowed := true, recurses := true, apart := false, narrowed := true }
def FnGraphLedUptoSaid : Prop := fnGraphLedUptoRow.holds Try.pinned (OpenSpec.upto fnGraphLedSpec)

/-- 'laws.FnGraphMore', WHERE WHAT IT READS IS OF BULK AT MOST 1048576: true; the input reads as it did. -/
def fnGraphMoreUptoRow : OpenClaim := { program := "yteeakklnlcjgbaa", sum := "00c0741a83475c00fbe5516987c960146369424c04c24bab02f1c56d9b7ff5ac", func := "loop.example/entail/laws.FnGraphMore", spec := "fnGraphMore", unfollowed := true, recurses := true, apart := false, narrowed := true }
def FnGraphMoreUptoSaid : Prop := fnGraphMoreUptoRow.holds Try.pinned (OpenSpec.upto fnGraphMoreSpec)

/-- 'laws.FnGraphTwice', WHERE WHAT IT READS IS OF BULK AT MOST 1048576: true; the input reads as it did. -/
def fnGraphTwiceUptoRow : OpenClaim := { program := "yteeakklnlcjgbaa", sum := "00c0741a83475c00fbe5516987c960146369424c04c24bab02f1c56d9b7ff5ac", func := "loop.example/entail/laws.FnGraphTwice", spec := "fnGraphTwice", unfollowed := true, recurses := true, apart := false, narrowed := true }
def FnGraphTwiceUptoSaid : Prop := fnGraphTwiceUptoRow.holds Try.pinned (OpenSpec.upto fnGraphTwiceSpec)

/-- 'laws.FnGraphTurn', WHERE WHAT IT READS IS OF BULK AT MOST 1048576: true; the input reads as it did. -/
def fnGraphTurnUptoRow : OpenClaim := { program := "yteeakklnlcjgbaa", sum := "00c0741a83475c00fbe5516987c960146369424c04c24bab02f1c56d9b7ff5ac", func := "loop.example/entail/laws.FnGraphTurn", spec := "fnGraphTurn", unfollowed := true, recurses := true, apart := false, narrowed := true }
def FnGraphTurnUptoSaid : Prop := fnGraphTurnUptoRow.holds Try.pinned (OpenSpec.upto fnGraphTurnSpec)

end Rows
end Go.Proofs.Yteeakklnlcjgbaa
