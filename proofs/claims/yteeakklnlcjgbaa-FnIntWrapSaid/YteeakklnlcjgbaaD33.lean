-- By pr.py, a program of this session, out of the translation. Lean checks it.
import Derived.Test.YteeakklnlcjgbaaP0
namespace Go.Proofs.Yteeakklnlcjgbaa.P
open Go.RowKit Go.Proofs.YteeakklnlcjgbaaW.PrintWords Go.Proofs.YteeakklnlcjgbaaW.PrintLast Go.Proofs.YteeakklnlcjgbaaW.PrintMore
attribute [local go_sem] max2_int min2_int max_two min_two max_three min_three max_four min_four
set_option linter.unusedVariables false
set_option linter.unusedSimpArgs false

/-! ### spec_l6Open: function 33 -/
def spec_l6Open.f (l0 : List Int) : Option (List Int × Int) := if (l0.length : Int) > 2000 then (if 2000 ≤ (l0.length : Int) then (some (l0.take 2000, 0)) else (none)) else (some (l0, 0))

end Go.Proofs.Yteeakklnlcjgbaa.P
