/-
  No cell of these rows narrows 'for every input' (looked for: loops, veiled, ifaces, maps, wideKeys, modest, calm, conditions, laid).
  DERIVED. THE GIVEN ROWS OF THIS SEAT. 4 by the template 'for every input the law returns true; each argument reads behind the call as it read before'; 0 by the template 'total and deterministic' (their statements: YtojpejfcafbafaaTotals.lean).
  GIVEN WITH THE SEED: the statements are not yours to turn. If you find one false, say at which input.
  Laid BY PROGRAM, IN A SANDBOX (cutbox-rows.mjs): the forced cells as the released guide's own fill.sh prints them over the translation 1585dd0cdc9f9377… (all of the seat's roots in one cut). By AI agents, Wed Nov 11 2026. No macro, syntax, notation, axiom, sorry.
-/
import Derived.Test.YtojpejfcafbafaaChecked
import GoSem.Claim
import GoSem.ClaimJoined
import GoSem.ClaimMapViews
import Derived.JoinedTies
import Derived.KernelRfl
namespace Go.Proofs.Ytojpejfcafbafaa
/- THE CELL 'sum', in the pinned program and in every row, IS THE sha256 OF THE DUMP (.gsa) THAT YtojpejfcafbafaaProg.lean LOADS. Nothing in Lean hashes anything: it is a label: what it is worth is what the hold of that sum in a sandbox is worth. -/
noncomputable def Try.pinned : Pinned := { name := "ytojpejfcafbafaa", sum := "1585dd0cdc9f9377f95299be90689fef8fb6b9221851faf324065b21c26fded1", checked := Try.checked }
namespace Rows
def none {H : Type} : Left H := { results := [], args := [] }

/-- 'laws.FnUnitBare': WHATEVER THE INPUT: true; the input reads as it did. -/
def fnUnitBareSpec : ChangeSpec := { name := "fnUnitBare", fn := fun _ => fun
  | [d] => { results := [.lit (.bool true)], args := [d] }
  | _ => none }
def fnUnitBareRow : OpenClaim := { program := "ytojpejfcafbafaa", sum := "1585dd0cdc9f9377f95299be90689fef8fb6b9221851faf324065b21c26fded1", func := "loop.example/entail/laws.FnUnitBare", spec := "fnUnitBare", recurses := true, apart := false }
def FnUnitBareSaid : Prop := fnUnitBareRow.holds Try.pinned (OpenSpec.ofChange fnUnitBareSpec)

/-- ITS FALSE NEIGHBOUR: 'it returns false'. Refute it at one input. -/
def fnUnitBareWrong : ChangeSpec := { name := "fnUnitBare", fn := fun _ => fun
  | [d] => { results := [.lit (.bool false)], args := [d] }
  | _ => none }
def FnUnitBareWrongFalsely : Prop := fnUnitBareRow.holds Try.pinned (OpenSpec.ofChange fnUnitBareWrong)

/-- 'laws.FnUnitFirst': WHATEVER THE INPUT: true; the input reads as it did. -/
def fnUnitFirstSpec : ChangeSpec := { name := "fnUnitFirst", fn := fun _ => fun
  | [d] => { results := [.lit (.bool true)], args := [d] }
  | _ => none }
def fnUnitFirstRow : OpenClaim := { program := "ytojpejfcafbafaa", sum := "1585dd0cdc9f9377f95299be90689fef8fb6b9221851faf324065b21c26fded1", func := "loop.example/entail/laws.FnUnitFirst", spec := "fnUnitFirst", recurses := true, apart := false }
def FnUnitFirstSaid : Prop := fnUnitFirstRow.holds Try.pinned (OpenSpec.ofChange fnUnitFirstSpec)

/-- ITS FALSE NEIGHBOUR: 'it returns false'. Refute it at one input. -/
def fnUnitFirstWrong : ChangeSpec := { name := "fnUnitFirst", fn := fun _ => fun
  | [d] => { results := [.lit (.bool false)], args := [d] }
  | _ => none }
def FnUnitFirstWrongFalsely : Prop := fnUnitFirstRow.holds Try.pinned (OpenSpec.ofChange fnUnitFirstWrong)

/-- 'laws.FnFindUp': WHATEVER THE INPUT: true; the input reads as it did. -/
def fnFindUpSpec : ChangeSpec := { name := "fnFindUp", fn := fun _ => fun
  | [d] => { results := [.lit (.bool true)], args := [d] }
  | _ => none }
def fnFindUpRow : OpenClaim := { program := "ytojpejfcafbafaa", sum := "1585dd0cdc9f9377f95299be90689fef8fb6b9221851faf324065b21c26fded1", func := "loop.example/entail/laws.FnFindUp", spec := "fnFindUp", recurses := true, apart := false }
def FnFindUpSaid : Prop := fnFindUpRow.holds Try.pinned (OpenSpec.ofChange fnFindUpSpec)

/-- ITS FALSE NEIGHBOUR: 'it returns false'. Refute it at one input. -/
def fnFindUpWrong : ChangeSpec := { name := "fnFindUp", fn := fun _ => fun
  | [d] => { results := [.lit (.bool false)], args := [d] }
  | _ => none }
def FnFindUpWrongFalsely : Prop := fnFindUpRow.holds Try.pinned (OpenSpec.ofChange fnFindUpWrong)

/-- 'laws.FnFindBelow': WHATEVER THE INPUT: true; the input reads as it did. -/
def fnFindBelowSpec : ChangeSpec := { name := "fnFindBelow", fn := fun _ => fun
  | [d1, d2] => { results := [.lit (.bool true)], args := [d1, d2] }
  | _ => none }
def fnFindBelowRow : OpenClaim := { program := "ytojpejfcafbafaa", sum := "1585dd0cdc9f9377f95299be90689fef8fb6b9221851faf324065b21c26fded1", func := "loop.example/entail/laws.FnFindBelow", spec := "fnFindBelow", recurses := true, apart := false }
def FnFindBelowSaid : Prop := fnFindBelowRow.holds Try.pinned (OpenSpec.ofChange fnFindBelowSpec)

/-- ITS FALSE NEIGHBOUR: 'it returns false'. Refute it at one input. -/
def fnFindBelowWrong : ChangeSpec := { name := "fnFindBelow", fn := fun _ => fun
  | [d1, d2] => { results := [.lit (.bool false)], args := [d1, d2] }
  | _ => none }
def FnFindBelowWrongFalsely : Prop := fnFindBelowRow.holds Try.pinned (OpenSpec.ofChange fnFindBelowWrong)

/- THE SECOND FORM. 'bulk': how many values and letters a reading holds, each counted each time it is reached (what is shared counts as often as it is met; a slice's spare places count too). A statement '..UptoSaid' is the law's where the arguments, and the package variables that the reading takes, are together of bulk at most 1048576: NARROWER than '..Said'. Prove '..Said' where nothing that the law and all that it calls make is longer than what came in: it says more and counts as full. Else prove '..UptoSaid'. A law counts once. -/
mutual
def uptoBulk {H : Type} : DataW H → Nat
  | .lit (.string bytes) => bytes.length + 1
  | .lit _ => 1
  | .nil => 1
  | .ptr d => uptoBulk d + 1
  | .slice elems spare => uptoBulkAll elems + uptoBulkAll spare + 1
  | .agg parts => uptoBulkAll parts + 1
  | .iface _ d => uptoBulk d + 1
  | .map entries => uptoBulkEntries entries + 1
  | .held _ => 1
def uptoBulkAll {H : Type} : List (DataW H) → Nat
  | [] => 0
  | d :: r => uptoBulk d + uptoBulkAll r
def uptoBulkEntries {H : Type} : List (Lit × DataW H) → Nat
  | [] => 0
  | x :: r => uptoBulkEntry x + uptoBulkEntries r
def uptoBulkEntry {H : Type} : Lit × DataW H → Nat
  | (.string bytes, d) => bytes.length + uptoBulk d + 1
  | (_, d) => uptoBulk d + 1
 end
def uptoSmall : (H : Type) → List (DataW H) → Bool := fun _ ds => decide (uptoBulkAll ds ≤ 1048576)
def OpenSpec.upto (s : _root_.Go.ChangeSpec) : _root_.Go.OpenSpec := { _root_.Go.OpenSpec.ofChange s with cond := some uptoSmall }

/-- 'laws.FnUnitBare', WHERE WHAT IT READS IS OF BULK AT MOST 1048576: true; the input reads as it did. -/
def fnUnitBareUptoRow : OpenClaim := { program := "ytojpejfcafbafaa", sum := "1585dd0cdc9f9377f95299be90689fef8fb6b9221851faf324065b21c26fded1", func := "loop.example/entail/laws.FnUnitBare", spec := "fnUnitBare", recurses := true, apart := false, narrowed := true }
def FnUnitBareUptoSaid : Prop := fnUnitBareUptoRow.holds Try.pinned (OpenSpec.upto fnUnitBareSpec)

/-- 'laws.FnUnitFirst', WHERE WHAT IT READS IS OF BULK AT MOST 1048576: true; the input reads as it did. -/
def fnUnitFirstUptoRow : OpenClaim := { program := "ytojpejfcafbafaa", sum := "1585dd0cdc9f9377f95299be90689fef8fb6b9221851faf324065b21c26fded1", func := "loop.example/entail/laws.FnUnitFirst", spec := "fnUnitFirst", recurses := true, apart := false, narrowed := true }
def FnUnitFirstUptoSaid : Prop := fnUnitFirstUptoRow.holds Try.pinned (OpenSpec.upto fnUnitFirstSpec)

/-- 'laws.FnFindUp', WHERE WHAT IT READS IS OF BULK AT MOST 1048576: true; the input reads as it did. -/
def fnFindUpUptoRow : OpenClaim := { program := "ytojpejfcafbafaa", sum := "1585dd0cdc9f9377f95299be90689fef8fb6b9221851faf324065b21c26fded1", func := "loop.example/entail/laws.FnFindUp", spec := "fnFindUp", recurses := true, apart := false, narrowed := true }
def FnFindUpUptoSaid : Prop := fnFindUpUptoRow.holds Try.pinned (OpenSpec.upto fnFindUpSpec)

/-- 'laws.FnFindBelow', WHERE WHAT IT READS IS OF BULK AT MOST 1048576: true; the input reads as it did. -/
def fnFindBelowUptoRow : OpenClaim := { program := "ytojpejfcafbafaa", sum := "1585dd0cdc9f9377f95299be90689fef8fb6b9221851faf324065b21c26fded1", func := "loop.example/entail/laws.FnFindBelow", spec := "fnFindBelow", recurses := true, apart := false, narrowed := true }
def FnFindBelowUptoSaid : Prop := fnFindBelowUptoRow.holds Try.pinned (OpenSpec.upto fnFindBelowSpec)

end Rows
end Go.Proofs.Ytojpejfcafbafaa
