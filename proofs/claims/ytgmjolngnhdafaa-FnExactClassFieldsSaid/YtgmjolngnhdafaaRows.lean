/-
  No cell of these rows narrows 'for every input' (looked for: loops, veiled, ifaces, maps, wideKeys, modest, calm, conditions, laid).
  DERIVED. THE GIVEN ROWS OF THIS SEAT. 17 by the template 'for every input the law returns true; each argument reads behind the call as it read before'; 0 by the template 'total and deterministic' (their statements: YtgmjolngnhdafaaTotals.lean).
  GIVEN WITH THE SEED: the statements are not yours to turn. If you find one false, say at which input.
  Laid BY PROGRAM, IN A SANDBOX (cutbox-rows.mjs): the forced cells as the released guide's own fill.sh prints them over the translation a0d6c4de03d51d15… (all of the seat's roots in one cut). By AI agents, Wed Nov 11 2026. No macro, syntax, notation, axiom, sorry.
-/
import Derived.Test.YtgmjolngnhdafaaChecked
import GoSem.Claim
import GoSem.ClaimJoined
import GoSem.ClaimMapViews
import Derived.JoinedTies
import Derived.KernelRfl
namespace Go.Proofs.Ytgmjolngnhdafaa
/- THE CELL 'sum', in the pinned program and in every row, IS THE sha256 OF THE DUMP (.gsa) THAT YtgmjolngnhdafaaProg.lean LOADS. Nothing in Lean hashes anything: it is a label: what it is worth is what the hold of that sum in a sandbox is worth. -/
noncomputable def Try.pinned : Pinned := { name := "ytgmjolngnhdafaa", sum := "a0d6c4de03d51d1505c112d9a1bf20ec5d12ab648bed97e1ddcdbb3b52e958ca", checked := Try.checked }
namespace Rows
def none {H : Type} : Left H := { results := [], args := [] }

/-- 'laws.FnExactClassesOk': WHATEVER THE INPUT: true; the input reads as it did. -/
def fnExactClassesOkSpec : ChangeSpec := { name := "fnExactClassesOk", fn := fun _ => fun
  | [d] => { results := [.lit (.bool true)], args := [d] }
  | _ => none }
def fnExactClassesOkRow : OpenClaim := { program := "ytgmjolngnhdafaa", sum := "a0d6c4de03d51d1505c112d9a1bf20ec5d12ab648bed97e1ddcdbb3b52e958ca", func := "loop.example/entail/laws.FnExactClassesOk", spec := "fnExactClassesOk", apart := false }
def FnExactClassesOkSaid : Prop := fnExactClassesOkRow.holds Try.pinned (OpenSpec.ofChange fnExactClassesOkSpec)

/-- ITS FALSE NEIGHBOUR: 'it returns false'. Refute it at one input. -/
def fnExactClassesOkWrong : ChangeSpec := { name := "fnExactClassesOk", fn := fun _ => fun
  | [d] => { results := [.lit (.bool false)], args := [d] }
  | _ => none }
def FnExactClassesOkWrongFalsely : Prop := fnExactClassesOkRow.holds Try.pinned (OpenSpec.ofChange fnExactClassesOkWrong)

/-- 'laws.FnExactTypeOk': WHATEVER THE INPUT: true; the input reads as it did. -/
def fnExactTypeOkSpec : ChangeSpec := { name := "fnExactTypeOk", fn := fun _ => fun
  | [d1, d2] => { results := [.lit (.bool true)], args := [d1, d2] }
  | _ => none }
def fnExactTypeOkRow : OpenClaim := { program := "ytgmjolngnhdafaa", sum := "a0d6c4de03d51d1505c112d9a1bf20ec5d12ab648bed97e1ddcdbb3b52e958ca", func := "loop.example/entail/laws.FnExactTypeOk", spec := "fnExactTypeOk", apart := false }
def FnExactTypeOkSaid : Prop := fnExactTypeOkRow.holds Try.pinned (OpenSpec.ofChange fnExactTypeOkSpec)

/-- ITS FALSE NEIGHBOUR: 'it returns false'. Refute it at one input. -/
def fnExactTypeOkWrong : ChangeSpec := { name := "fnExactTypeOk", fn := fun _ => fun
  | [d1, d2] => { results := [.lit (.bool false)], args := [d1, d2] }
  | _ => none }
def FnExactTypeOkWrongFalsely : Prop := fnExactTypeOkRow.holds Try.pinned (OpenSpec.ofChange fnExactTypeOkWrong)

/-- 'laws.FnUpOrder': WHATEVER THE INPUT: true; the input reads as it did. -/
def fnUpOrderSpec : ChangeSpec := { name := "fnUpOrder", fn := fun _ => fun
  | [d1, d2] => { results := [.lit (.bool true)], args := [d1, d2] }
  | _ => none }
def fnUpOrderRow : OpenClaim := { program := "ytgmjolngnhdafaa", sum := "a0d6c4de03d51d1505c112d9a1bf20ec5d12ab648bed97e1ddcdbb3b52e958ca", func := "loop.example/entail/laws.FnUpOrder", spec := "fnUpOrder", apart := false }
def FnUpOrderSaid : Prop := fnUpOrderRow.holds Try.pinned (OpenSpec.ofChange fnUpOrderSpec)

/-- ITS FALSE NEIGHBOUR: 'it returns false'. Refute it at one input. -/
def fnUpOrderWrong : ChangeSpec := { name := "fnUpOrder", fn := fun _ => fun
  | [d1, d2] => { results := [.lit (.bool false)], args := [d1, d2] }
  | _ => none }
def FnUpOrderWrongFalsely : Prop := fnUpOrderRow.holds Try.pinned (OpenSpec.ofChange fnUpOrderWrong)

/-- 'laws.FnUpStep': WHATEVER THE INPUT: true; the input reads as it did. -/
def fnUpStepSpec : ChangeSpec := { name := "fnUpStep", fn := fun _ => fun
  | [d] => { results := [.lit (.bool true)], args := [d] }
  | _ => none }
def fnUpStepRow : OpenClaim := { program := "ytgmjolngnhdafaa", sum := "a0d6c4de03d51d1505c112d9a1bf20ec5d12ab648bed97e1ddcdbb3b52e958ca", func := "loop.example/entail/laws.FnUpStep", spec := "fnUpStep", apart := false }
def FnUpStepSaid : Prop := fnUpStepRow.holds Try.pinned (OpenSpec.ofChange fnUpStepSpec)

/-- ITS FALSE NEIGHBOUR: 'it returns false'. Refute it at one input. -/
def fnUpStepWrong : ChangeSpec := { name := "fnUpStep", fn := fun _ => fun
  | [d] => { results := [.lit (.bool false)], args := [d] }
  | _ => none }
def FnUpStepWrongFalsely : Prop := fnUpStepRow.holds Try.pinned (OpenSpec.ofChange fnUpStepWrong)

/-- 'laws.FnExactClassUp': WHATEVER THE INPUT: true; the input reads as it did. -/
def fnExactClassUpSpec : ChangeSpec := { name := "fnExactClassUp", fn := fun _ => fun
  | [d1, d2, d3] => { results := [.lit (.bool true)], args := [d1, d2, d3] }
  | _ => none }
def fnExactClassUpRow : OpenClaim := { program := "ytgmjolngnhdafaa", sum := "a0d6c4de03d51d1505c112d9a1bf20ec5d12ab648bed97e1ddcdbb3b52e958ca", func := "loop.example/entail/laws.FnExactClassUp", spec := "fnExactClassUp", apart := false }
def FnExactClassUpSaid : Prop := fnExactClassUpRow.holds Try.pinned (OpenSpec.ofChange fnExactClassUpSpec)

/-- ITS FALSE NEIGHBOUR: 'it returns false'. Refute it at one input. -/
def fnExactClassUpWrong : ChangeSpec := { name := "fnExactClassUp", fn := fun _ => fun
  | [d1, d2, d3] => { results := [.lit (.bool false)], args := [d1, d2, d3] }
  | _ => none }
def FnExactClassUpWrongFalsely : Prop := fnExactClassUpRow.holds Try.pinned (OpenSpec.ofChange fnExactClassUpWrong)

/-- 'laws.FnFieldsAbove': WHATEVER THE INPUT: true; the input reads as it did. -/
def fnFieldsAboveSpec : ChangeSpec := { name := "fnFieldsAbove", fn := fun _ => fun
  | [d] => { results := [.lit (.bool true)], args := [d] }
  | _ => none }
def fnFieldsAboveRow : OpenClaim := { program := "ytgmjolngnhdafaa", sum := "a0d6c4de03d51d1505c112d9a1bf20ec5d12ab648bed97e1ddcdbb3b52e958ca", func := "loop.example/entail/laws.FnFieldsAbove", spec := "fnFieldsAbove", recurses := true, apart := false }
def FnFieldsAboveSaid : Prop := fnFieldsAboveRow.holds Try.pinned (OpenSpec.ofChange fnFieldsAboveSpec)

/-- ITS FALSE NEIGHBOUR: 'it returns false'. Refute it at one input. -/
def fnFieldsAboveWrong : ChangeSpec := { name := "fnFieldsAbove", fn := fun _ => fun
  | [d] => { results := [.lit (.bool false)], args := [d] }
  | _ => none }
def FnFieldsAboveWrongFalsely : Prop := fnFieldsAboveRow.holds Try.pinned (OpenSpec.ofChange fnFieldsAboveWrong)

/-- 'laws.FnTypeClass': WHATEVER THE INPUT: true; the input reads as it did. -/
def fnTypeClassSpec : ChangeSpec := { name := "fnTypeClass", fn := fun _ => fun
  | [d] => { results := [.lit (.bool true)], args := [d] }
  | _ => none }
def fnTypeClassRow : OpenClaim := { program := "ytgmjolngnhdafaa", sum := "a0d6c4de03d51d1505c112d9a1bf20ec5d12ab648bed97e1ddcdbb3b52e958ca", func := "loop.example/entail/laws.FnTypeClass", spec := "fnTypeClass", apart := false }
def FnTypeClassSaid : Prop := fnTypeClassRow.holds Try.pinned (OpenSpec.ofChange fnTypeClassSpec)

/-- ITS FALSE NEIGHBOUR: 'it returns false'. Refute it at one input. -/
def fnTypeClassWrong : ChangeSpec := { name := "fnTypeClass", fn := fun _ => fun
  | [d] => { results := [.lit (.bool false)], args := [d] }
  | _ => none }
def FnTypeClassWrongFalsely : Prop := fnTypeClassRow.holds Try.pinned (OpenSpec.ofChange fnTypeClassWrong)

/-- 'laws.FnExactClassFields': WHATEVER THE INPUT: true; the input reads as it did. -/
def fnExactClassFieldsSpec : ChangeSpec := { name := "fnExactClassFields", fn := fun _ => fun
  | [d1, d2] => { results := [.lit (.bool true)], args := [d1, d2] }
  | _ => none }
def fnExactClassFieldsRow : OpenClaim := { program := "ytgmjolngnhdafaa", sum := "a0d6c4de03d51d1505c112d9a1bf20ec5d12ab648bed97e1ddcdbb3b52e958ca", func := "loop.example/entail/laws.FnExactClassFields", spec := "fnExactClassFields", recurses := true, apart := false }
def FnExactClassFieldsSaid : Prop := fnExactClassFieldsRow.holds Try.pinned (OpenSpec.ofChange fnExactClassFieldsSpec)

/-- ITS FALSE NEIGHBOUR: 'it returns false'. Refute it at one input. -/
def fnExactClassFieldsWrong : ChangeSpec := { name := "fnExactClassFields", fn := fun _ => fun
  | [d1, d2] => { results := [.lit (.bool false)], args := [d1, d2] }
  | _ => none }
def FnExactClassFieldsWrongFalsely : Prop := fnExactClassFieldsRow.holds Try.pinned (OpenSpec.ofChange fnExactClassFieldsWrong)

/-- 'laws.FnExactTypeIn': WHATEVER THE INPUT: true; the input reads as it did. -/
def fnExactTypeInSpec : ChangeSpec := { name := "fnExactTypeIn", fn := fun _ => fun
  | [d1, d2, d3] => { results := [.lit (.bool true)], args := [d1, d2, d3] }
  | _ => none }
def fnExactTypeInRow : OpenClaim := { program := "ytgmjolngnhdafaa", sum := "a0d6c4de03d51d1505c112d9a1bf20ec5d12ab648bed97e1ddcdbb3b52e958ca", func := "loop.example/entail/laws.FnExactTypeIn", spec := "fnExactTypeIn", apart := false }
def FnExactTypeInSaid : Prop := fnExactTypeInRow.holds Try.pinned (OpenSpec.ofChange fnExactTypeInSpec)

/-- ITS FALSE NEIGHBOUR: 'it returns false'. Refute it at one input. -/
def fnExactTypeInWrong : ChangeSpec := { name := "fnExactTypeIn", fn := fun _ => fun
  | [d1, d2, d3] => { results := [.lit (.bool false)], args := [d1, d2, d3] }
  | _ => none }
def FnExactTypeInWrongFalsely : Prop := fnExactTypeInRow.holds Try.pinned (OpenSpec.ofChange fnExactTypeInWrong)

/-- 'laws.FnTypeOrder': WHATEVER THE INPUT: true; the input reads as it did. -/
def fnTypeOrderSpec : ChangeSpec := { name := "fnTypeOrder", fn := fun _ => fun
  | [d1, d2] => { results := [.lit (.bool true)], args := [d1, d2] }
  | _ => none }
def fnTypeOrderRow : OpenClaim := { program := "ytgmjolngnhdafaa", sum := "a0d6c4de03d51d1505c112d9a1bf20ec5d12ab648bed97e1ddcdbb3b52e958ca", func := "loop.example/entail/laws.FnTypeOrder", spec := "fnTypeOrder", apart := false }
def FnTypeOrderSaid : Prop := fnTypeOrderRow.holds Try.pinned (OpenSpec.ofChange fnTypeOrderSpec)

/-- ITS FALSE NEIGHBOUR: 'it returns false'. Refute it at one input. -/
def fnTypeOrderWrong : ChangeSpec := { name := "fnTypeOrder", fn := fun _ => fun
  | [d1, d2] => { results := [.lit (.bool false)], args := [d1, d2] }
  | _ => none }
def FnTypeOrderWrongFalsely : Prop := fnTypeOrderRow.holds Try.pinned (OpenSpec.ofChange fnTypeOrderWrong)

/-- 'laws.FnClassJoin': WHATEVER THE INPUT: true; the input reads as it did. -/
def fnClassJoinSpec : ChangeSpec := { name := "fnClassJoin", fn := fun _ => fun
  | [d1, d2] => { results := [.lit (.bool true)], args := [d1, d2] }
  | _ => none }
def fnClassJoinRow : OpenClaim := { program := "ytgmjolngnhdafaa", sum := "a0d6c4de03d51d1505c112d9a1bf20ec5d12ab648bed97e1ddcdbb3b52e958ca", func := "loop.example/entail/laws.FnClassJoin", spec := "fnClassJoin", unfollowed := true, recurses := true, apart := false }
def FnClassJoinSaid : Prop := fnClassJoinRow.holds Try.pinned (OpenSpec.ofChange fnClassJoinSpec)

/-- ITS FALSE NEIGHBOUR: 'it returns false'. Refute it at one input. -/
def fnClassJoinWrong : ChangeSpec := { name := "fnClassJoin", fn := fun _ => fun
  | [d1, d2] => { results := [.lit (.bool false)], args := [d1, d2] }
  | _ => none }
def FnClassJoinWrongFalsely : Prop := fnClassJoinRow.holds Try.pinned (OpenSpec.ofChange fnClassJoinWrong)

/-- 'laws.FnExactClassJoin': WHATEVER THE INPUT: true; the input reads as it did. -/
def fnExactClassJoinSpec : ChangeSpec := { name := "fnExactClassJoin", fn := fun _ => fun
  | [d1, d2, d3] => { results := [.lit (.bool true)], args := [d1, d2, d3] }
  | _ => none }
def fnExactClassJoinRow : OpenClaim := { program := "ytgmjolngnhdafaa", sum := "a0d6c4de03d51d1505c112d9a1bf20ec5d12ab648bed97e1ddcdbb3b52e958ca", func := "loop.example/entail/laws.FnExactClassJoin", spec := "fnExactClassJoin", unfollowed := true, recurses := true, apart := false }
def FnExactClassJoinSaid : Prop := fnExactClassJoinRow.holds Try.pinned (OpenSpec.ofChange fnExactClassJoinSpec)

/-- ITS FALSE NEIGHBOUR: 'it returns false'. Refute it at one input. -/
def fnExactClassJoinWrong : ChangeSpec := { name := "fnExactClassJoin", fn := fun _ => fun
  | [d1, d2, d3] => { results := [.lit (.bool false)], args := [d1, d2, d3] }
  | _ => none }
def FnExactClassJoinWrongFalsely : Prop := fnExactClassJoinRow.holds Try.pinned (OpenSpec.ofChange fnExactClassJoinWrong)

/-- 'laws.FnExactShapeOk': WHATEVER THE INPUT: true; the input reads as it did. -/
def fnExactShapeOkSpec : ChangeSpec := { name := "fnExactShapeOk", fn := fun _ => fun
  | [d1, d2, d3] => { results := [.lit (.bool true)], args := [d1, d2, d3] }
  | _ => none }
def fnExactShapeOkRow : OpenClaim := { program := "ytgmjolngnhdafaa", sum := "a0d6c4de03d51d1505c112d9a1bf20ec5d12ab648bed97e1ddcdbb3b52e958ca", func := "loop.example/entail/laws.FnExactShapeOk", spec := "fnExactShapeOk", apart := false }
def FnExactShapeOkSaid : Prop := fnExactShapeOkRow.holds Try.pinned (OpenSpec.ofChange fnExactShapeOkSpec)

/-- ITS FALSE NEIGHBOUR: 'it returns false'. Refute it at one input. -/
def fnExactShapeOkWrong : ChangeSpec := { name := "fnExactShapeOk", fn := fun _ => fun
  | [d1, d2, d3] => { results := [.lit (.bool false)], args := [d1, d2, d3] }
  | _ => none }
def FnExactShapeOkWrongFalsely : Prop := fnExactShapeOkRow.holds Try.pinned (OpenSpec.ofChange fnExactShapeOkWrong)

/-- 'laws.FnClassesMore': WHATEVER THE INPUT: true; the input reads as it did. -/
def fnClassesMoreSpec : ChangeSpec := { name := "fnClassesMore", fn := fun _ => fun
  | [d] => { results := [.lit (.bool true)], args := [d] }
  | _ => none }
def fnClassesMoreRow : OpenClaim := { program := "ytgmjolngnhdafaa", sum := "a0d6c4de03d51d1505c112d9a1bf20ec5d12ab648bed97e1ddcdbb3b52e958ca", func := "loop.example/entail/laws.FnClassesMore", spec := "fnClassesMore", unfollowed := true, recurses := true, apart := false }
def FnClassesMoreSaid : Prop := fnClassesMoreRow.holds Try.pinned (OpenSpec.ofChange fnClassesMoreSpec)

/-- ITS FALSE NEIGHBOUR: 'it returns false'. Refute it at one input. -/
def fnClassesMoreWrong : ChangeSpec := { name := "fnClassesMore", fn := fun _ => fun
  | [d] => { results := [.lit (.bool false)], args := [d] }
  | _ => none }
def FnClassesMoreWrongFalsely : Prop := fnClassesMoreRow.holds Try.pinned (OpenSpec.ofChange fnClassesMoreWrong)

/-- 'laws.FnShapeOk': WHATEVER THE INPUT: true; the input reads as it did. -/
def fnShapeOkSpec : ChangeSpec := { name := "fnShapeOk", fn := fun _ => fun
  | [d] => { results := [.lit (.bool true)], args := [d] }
  | _ => none }
def fnShapeOkRow : OpenClaim := { program := "ytgmjolngnhdafaa", sum := "a0d6c4de03d51d1505c112d9a1bf20ec5d12ab648bed97e1ddcdbb3b52e958ca", func := "loop.example/entail/laws.FnShapeOk", spec := "fnShapeOk", apart := false }
def FnShapeOkSaid : Prop := fnShapeOkRow.holds Try.pinned (OpenSpec.ofChange fnShapeOkSpec)

/-- ITS FALSE NEIGHBOUR: 'it returns false'. Refute it at one input. -/
def fnShapeOkWrong : ChangeSpec := { name := "fnShapeOk", fn := fun _ => fun
  | [d] => { results := [.lit (.bool false)], args := [d] }
  | _ => none }
def FnShapeOkWrongFalsely : Prop := fnShapeOkRow.holds Try.pinned (OpenSpec.ofChange fnShapeOkWrong)

/-- 'laws.FnExactShapeIn': WHATEVER THE INPUT: true; the input reads as it did. -/
def fnExactShapeInSpec : ChangeSpec := { name := "fnExactShapeIn", fn := fun _ => fun
  | [d1, d2, d3] => { results := [.lit (.bool true)], args := [d1, d2, d3] }
  | _ => none }
def fnExactShapeInRow : OpenClaim := { program := "ytgmjolngnhdafaa", sum := "a0d6c4de03d51d1505c112d9a1bf20ec5d12ab648bed97e1ddcdbb3b52e958ca", func := "loop.example/entail/laws.FnExactShapeIn", spec := "fnExactShapeIn", apart := false }
def FnExactShapeInSaid : Prop := fnExactShapeInRow.holds Try.pinned (OpenSpec.ofChange fnExactShapeInSpec)

/-- ITS FALSE NEIGHBOUR: 'it returns false'. Refute it at one input. -/
def fnExactShapeInWrong : ChangeSpec := { name := "fnExactShapeIn", fn := fun _ => fun
  | [d1, d2, d3] => { results := [.lit (.bool false)], args := [d1, d2, d3] }
  | _ => none }
def FnExactShapeInWrongFalsely : Prop := fnExactShapeInRow.holds Try.pinned (OpenSpec.ofChange fnExactShapeInWrong)

/-- 'laws.FnShapeOrder': WHATEVER THE INPUT: true; the input reads as it did. -/
def fnShapeOrderSpec : ChangeSpec := { name := "fnShapeOrder", fn := fun _ => fun
  | [d1, d2] => { results := [.lit (.bool true)], args := [d1, d2] }
  | _ => none }
def fnShapeOrderRow : OpenClaim := { program := "ytgmjolngnhdafaa", sum := "a0d6c4de03d51d1505c112d9a1bf20ec5d12ab648bed97e1ddcdbb3b52e958ca", func := "loop.example/entail/laws.FnShapeOrder", spec := "fnShapeOrder", apart := false }
def FnShapeOrderSaid : Prop := fnShapeOrderRow.holds Try.pinned (OpenSpec.ofChange fnShapeOrderSpec)

/-- ITS FALSE NEIGHBOUR: 'it returns false'. Refute it at one input. -/
def fnShapeOrderWrong : ChangeSpec := { name := "fnShapeOrder", fn := fun _ => fun
  | [d1, d2] => { results := [.lit (.bool false)], args := [d1, d2] }
  | _ => none }
def FnShapeOrderWrongFalsely : Prop := fnShapeOrderRow.holds Try.pinned (OpenSpec.ofChange fnShapeOrderWrong)

/- THE SECOND FORM. 'bulk': how many values and letters a reading holds, each counted each time it is reached (what is shared counts as often as it is met; a slice's spare places count too). A statement '..UptoSaid' is the law's where the arguments, and the package variables that the reading takes, are together of bulk at most 1048576: NARROWER than '..Said'. Prove '..Said' where nothing that the law and all that it calls make is longer than what came in: it says more and counts as full. Else prove '..UptoSaid'. A law counts once. -/
mutual
def uptoBulk {H : Type} : DataW H → Nat
  | .lit (.string bytes) => bytes.length + 1
  | .lit _ => 1
  | .nil => 1
  | .ptr d => uptoBulk d + 1
  | .slice elems spare => uptoBulkAll elems + uptoBulkAll spare + 1
  | .agg parts => uptoBulkAll parts + 1
  | .iface _ d => uptoBulk d + 1
  | .map entries => uptoBulkEntries entries + 1
  | .held _ => 1
def uptoBulkAll {H : Type} : List (DataW H) → Nat
  | [] => 0
  | d :: r => uptoBulk d + uptoBulkAll r
def uptoBulkEntries {H : Type} : List (Lit × DataW H) → Nat
  | [] => 0
  | x :: r => uptoBulkEntry x + uptoBulkEntries r
def uptoBulkEntry {H : Type} : Lit × DataW H → Nat
  | (.string bytes, d) => bytes.length + uptoBulk d + 1
  | (_, d) => uptoBulk d + 1
 end
def uptoSmall : (H : Type) → List (DataW H) → Bool := fun _ ds => decide (uptoBulkAll ds ≤ 1048576)
def OpenSpec.upto (s : _root_.Go.ChangeSpec) : _root_.Go.OpenSpec := { _root_.Go.OpenSpec.ofChange s with cond := some uptoSmall }

/-- 'laws.FnExactClassesOk', WHERE WHAT IT READS IS OF BULK AT MOST 1048576: true; the input reads as it did. -/
def fnExactClassesOkUptoRow : OpenClaim := { program := "ytgmjolngnhdafaa", sum := "a0d6c4de03d51d1505c112d9a1bf20ec5d12ab648bed97e1ddcdbb3b52e958ca", func := "loop.example/entail/laws.FnExactClassesOk", spec := "fnExactClassesOk", apart := false, narrowed := true }
def FnExactClassesOkUptoSaid : Prop := fnExactClassesOkUptoRow.holds Try.pinned (OpenSpec.upto fnExactClassesOkSpec)

/-- 'laws.FnExactTypeOk', WHERE WHAT IT READS IS OF BULK AT MOST 1048576: true; the input reads as it did. -/
def fnExactTypeOkUptoRow : OpenClaim := { program := "ytgmjolngnhdafaa", sum := "a0d6c4de03d51d1505c112d9a1bf20ec5d12ab648bed97e1ddcdbb3b52e958ca", func := "loop.example/entail/laws.FnExactTypeOk", spec := "fnExactTypeOk", apart := false, narrowed := true }
def FnExactTypeOkUptoSaid : Prop := fnExactTypeOkUptoRow.holds Try.pinned (OpenSpec.upto fnExactTypeOkSpec)

/-- 'laws.FnUpOrder', WHERE WHAT IT READS IS OF BULK AT MOST 1048576: true; the input reads as it did. -/
def fnUpOrderUptoRow : OpenClaim := { program := "ytgmjolngnhdafaa", sum := "a0d6c4de03d51d1505c112d9a1bf20ec5d12ab648bed97e1ddcdbb3b52e958ca", func := "loop.example/entail/laws.FnUpOrder", spec := "fnUpOrder", apart := false, narrowed := true }
def FnUpOrderUptoSaid : Prop := fnUpOrderUptoRow.holds Try.pinned (OpenSpec.upto fnUpOrderSpec)

/-- 'laws.FnUpStep', WHERE WHAT IT READS IS OF BULK AT MOST 1048576: true; the input reads as it did. -/
def fnUpStepUptoRow : OpenClaim := { program := "ytgmjolngnhdafaa", sum := "a0d6c4de03d51d1505c112d9a1bf20ec5d12ab648bed97e1ddcdbb3b52e958ca", func := "loop.example/entail/laws.FnUpStep", spec := "fnUpStep", apart := false, narrowed := true }
def FnUpStepUptoSaid : Prop := fnUpStepUptoRow.holds Try.pinned (OpenSpec.upto fnUpStepSpec)

/-- 'laws.FnExactClassUp', WHERE WHAT IT READS IS OF BULK AT MOST 1048576: true; the input reads as it did. -/
def fnExactClassUpUptoRow : OpenClaim := { program := "ytgmjolngnhdafaa", sum := "a0d6c4de03d51d1505c112d9a1bf20ec5d12ab648bed97e1ddcdbb3b52e958ca", func := "loop.example/entail/laws.FnExactClassUp", spec := "fnExactClassUp", apart := false, narrowed := true }
def FnExactClassUpUptoSaid : Prop := fnExactClassUpUptoRow.holds Try.pinned (OpenSpec.upto fnExactClassUpSpec)

/-- 'laws.FnFieldsAbove', WHERE WHAT IT READS IS OF BULK AT MOST 1048576: true; the input reads as it did. -/
def fnFieldsAboveUptoRow : OpenClaim := { program := "ytgmjolngnhdafaa", sum := "a0d6c4de03d51d1505c112d9a1bf20ec5d12ab648bed97e1ddcdbb3b52e958ca", func := "loop.example/entail/laws.FnFieldsAbove", spec := "fnFieldsAbove", recurses := true, apart := false, narrowed := true }
def FnFieldsAboveUptoSaid : Prop := fnFieldsAboveUptoRow.holds Try.pinned (OpenSpec.upto fnFieldsAboveSpec)

/-- 'laws.FnTypeClass', WHERE WHAT IT READS IS OF BULK AT MOST 1048576: true; the input reads as it did. -/
def fnTypeClassUptoRow : OpenClaim := { program := "ytgmjolngnhdafaa", sum := "a0d6c4de03d51d1505c112d9a1bf20ec5d12ab648bed97e1ddcdbb3b52e958ca", func := "loop.example/entail/laws.FnTypeClass", spec := "fnTypeClass", apart := false, narrowed := true }
def FnTypeClassUptoSaid : Prop := fnTypeClassUptoRow.holds Try.pinned (OpenSpec.upto fnTypeClassSpec)

/-- 'laws.FnExactClassFields', WHERE WHAT IT READS IS OF BULK AT MOST 1048576: true; the input reads as it did. -/
def fnExactClassFieldsUptoRow : OpenClaim := { program := "ytgmjolngnhdafaa", sum := "a0d6c4de03d51d1505c112d9a1bf20ec5d12ab648bed97e1ddcdbb3b52e958ca", func := "loop.example/entail/laws.FnExactClassFields", spec := "fnExactClassFields", recurses := true, apart := false, narrowed := true }
def FnExactClassFieldsUptoSaid : Prop := fnExactClassFieldsUptoRow.holds Try.pinned (OpenSpec.upto fnExactClassFieldsSpec)

/-- 'laws.FnExactTypeIn', WHERE WHAT IT READS IS OF BULK AT MOST 1048576: true; the input reads as it did. -/
def fnExactTypeInUptoRow : OpenClaim := { program := "ytgmjolngnhdafaa", sum := "a0d6c4de03d51d1505c112d9a1bf20ec5d12ab648bed97e1ddcdbb3b52e958ca", func := "loop.example/entail/laws.FnExactTypeIn", spec := "fnExactTypeIn", apart := false, narrowed := true }
def FnExactTypeInUptoSaid : Prop := fnExactTypeInUptoRow.holds Try.pinned (OpenSpec.upto fnExactTypeInSpec)

/-- 'laws.FnTypeOrder', WHERE WHAT IT READS IS OF BULK AT MOST 1048576: true; the input reads as it did. -/
def fnTypeOrderUptoRow : OpenClaim := { program := "ytgmjolngnhdafaa", sum := "a0d6c4de03d51d1505c112d9a1bf20ec5d12ab648bed97e1ddcdbb3b52e958ca", func := "loop.example/entail/laws.FnTypeOrder", spec := "fnTypeOrder", apart := false, narrowed := true }
def FnTypeOrderUptoSaid : Prop := fnTypeOrderUptoRow.holds Try.pinned (OpenSpec.upto fnTypeOrderSpec)

/-- 'laws.FnClassJoin', WHERE WHAT IT READS IS OF BULK AT MOST 1048576: true; the input reads as it did. -/
def fnClassJoinUptoRow : OpenClaim := { program := "ytgmjolngnhdafaa", sum := "a0d6c4de03d51d1505c112d9a1bf20ec5d12ab648bed97e1ddcdbb3b52e958ca", func := "loop.example/entail/laws.FnClassJoin", spec := "fnClassJoin", unfollowed := true, recurses := true, apart := false, narrowed := true }
def FnClassJoinUptoSaid : Prop := fnClassJoinUptoRow.holds Try.pinned (OpenSpec.upto fnClassJoinSpec)

/-- 'laws.FnExactClassJoin', WHERE WHAT IT READS IS OF BULK AT MOST 1048576: true; the input reads as it did. -/
def fnExactClassJoinUptoRow : OpenClaim := { program := "ytgmjolngnhdafaa", sum := "a0d6c4de03d51d1505c112d9a1bf20ec5d12ab648bed97e1ddcdbb3b52e958ca", func := "loop.example/entail/laws.FnExactClassJoin", spec := "fnExactClassJoin", unfollowed := true, recurses := true, apart := false, narrowed := true }
def FnExactClassJoinUptoSaid : Prop := fnExactClassJoinUptoRow.holds Try.pinned (OpenSpec.upto fnExactClassJoinSpec)

/-- 'laws.FnExactShapeOk', WHERE WHAT IT READS IS OF BULK AT MOST 1048576: true; the input reads as it did. -/
def fnExactShapeOkUptoRow : OpenClaim := { program := "ytgmjolngnhdafaa", sum := "a0d6c4de03d51d1505c112d9a1bf20ec5d12ab648bed97e1ddcdbb3b52e958ca", func := "loop.example/entail/laws.FnExactShapeOk", spec := "fnExactShapeOk", apart := false, narrowed := true }
def FnExactShapeOkUptoSaid : Prop := fnExactShapeOkUptoRow.holds Try.pinned (OpenSpec.upto fnExactShapeOkSpec)

/-- 'laws.FnClassesMore', WHERE WHAT IT READS IS OF BULK AT MOST 1048576: true; the input reads as it did. -/
def fnClassesMoreUptoRow : OpenClaim := { program := "ytgmjolngnhdafaa", sum := "a0d6c4de03d51d1505c112d9a1bf20ec5d12ab648bed97e1ddcdbb3b52e958ca", func := "loop.example/entail/laws.FnClassesMore", spec := "fnClassesMore", unfollowed := true, recurses := true, apart := false, narrowed := true }
def FnClassesMoreUptoSaid : Prop := fnClassesMoreUptoRow.holds Try.pinned (OpenSpec.upto fnClassesMoreSpec)

/-- 'laws.FnShapeOk', WHERE WHAT IT READS IS OF BULK AT MOST 1048576: true; the input reads as it did. -/
def fnShapeOkUptoRow : OpenClaim := { program := "ytgmjolngnhdafaa", sum := "a0d6c4de03d51d1505c112d9a1bf20ec5d12ab648bed97e1ddcdbb3b52e958ca", func := "loop.example/entail/laws.FnShapeOk", spec := "fnShapeOk", apart := false, narrowed := true }
def FnShapeOkUptoSaid : Prop := fnShapeOkUptoRow.holds Try.pinned (OpenSpec.upto fnShapeOkSpec)

/-- 'laws.FnExactShapeIn', WHERE WHAT IT READS IS OF BULK AT MOST 1048576: true; the input reads as it did. -/
def fnExactShapeInUptoRow : OpenClaim := { program := "ytgmjolngnhdafaa", sum := "a0d6c4de03d51d1505c112d9a1bf20ec5d12ab648bed97e1ddcdbb3b52e958ca", func := "loop.example/entail/laws.FnExactShapeIn", spec := "fnExactShapeIn", apart := false, narrowed := true }
def FnExactShapeInUptoSaid : Prop := fnExactShapeInUptoRow.holds Try.pinned (OpenSpec.upto fnExactShapeInSpec)

/-- 'laws.FnShapeOrder', WHERE WHAT IT READS IS OF BULK AT MOST 1048576: true; the input reads as it did. -/
def fnShapeOrderUptoRow : OpenClaim := { program := "ytgmjolngnhdafaa", sum := "a0d6c4de03d51d1505c112d9a1bf20ec5d12ab648bed97e1ddcdbb3b52e958ca", func := "loop.example/entail/laws.FnShapeOrder", spec := "fnShapeOrder", apart := false, narrowed := true }
def FnShapeOrderUptoSaid : Prop := fnShapeOrderUptoRow.holds Try.pinned (OpenSpec.upto fnShapeOrderSpec)

end Rows
end Go.Proofs.Ytgmjolngnhdafaa
