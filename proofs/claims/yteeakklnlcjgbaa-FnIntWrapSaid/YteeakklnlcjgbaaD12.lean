-- By pr.py, a program of this session, out of the translation. Lean checks it.
import Derived.Test.YteeakklnlcjgbaaP0
namespace Go.Proofs.Yteeakklnlcjgbaa.P
open Go.RowKit Go.Proofs.YteeakklnlcjgbaaW.PrintWords Go.Proofs.YteeakklnlcjgbaaW.PrintLast Go.Proofs.YteeakklnlcjgbaaW.PrintMore
attribute [local go_sem] max2_int min2_int max_two min_two max_three min_three max_four min_four
set_option linter.unusedVariables false
set_option linter.unusedSimpArgs false

/-! ### spec_IntWrap: function 12 -/
def spec_IntWrap.f (a0 : Int) : Option (Int) := if (Int.tmod a0 256) < (-128) then (some (wrap64 ((Int.tmod a0 256) + 256))) else (if (Int.tmod a0 256) > 127 then (some (wrap64 ((Int.tmod a0 256) - 256))) else (some (Int.tmod a0 256)))

end Go.Proofs.Yteeakklnlcjgbaa.P
