-- By pr.py, a program of this session, out of the translation. Lean checks it.
import Derived.Test.YteeakklnlcjgbaaP0
import Derived.Test.YteeakklnlcjgbaaD12
import Derived.Test.YteeakklnlcjgbaaD13
namespace Go.Proofs.Yteeakklnlcjgbaa.P
open Go.RowKit Go.Proofs.YteeakklnlcjgbaaW.PrintWords Go.Proofs.YteeakklnlcjgbaaW.PrintLast Go.Proofs.YteeakklnlcjgbaaW.PrintMore
attribute [local go_sem] max2_int min2_int max_two min_two max_three min_three max_four min_four
set_option linter.unusedVariables false
set_option linter.unusedSimpArgs false

/-! ### laws_FnExactIntWrap: function 4 -/
def laws_FnExactIntWrap.f (a0 : Int) : Option (Bool) := (spec_IntWrap.f a0).bind fun t101 => ((impl_IntWrap.f a0).bind fun t102 => (if t102 = t101 then (some true) else (some false)))

/-- THE ONE PURE STATEMENT of laws_FnExactIntWrap: yours. -/
def laws_FnExactIntWrap.Pure : Prop := ∀ (a0 : Int), (Lit.int .i64 a0).wf = true → laws_FnExactIntWrap.f a0 = some true
end Go.Proofs.Yteeakklnlcjgbaa.P
