-- By pr.py, a program of this session, out of the translation. Lean checks it.
import Derived.Test.YteeakklnlcjgbaaP0
import Derived.Test.YteeakklnlcjgbaaD33
import Derived.Test.YteeakklnlcjgbaaD34
namespace Go.Proofs.Yteeakklnlcjgbaa.P
open Go.RowKit Go.Proofs.YteeakklnlcjgbaaW.PrintWords Go.Proofs.YteeakklnlcjgbaaW.PrintLast Go.Proofs.YteeakklnlcjgbaaW.PrintMore
attribute [local go_sem] max2_int min2_int max_two min_two max_three min_three max_four min_four
set_option linter.unusedVariables false
set_option linter.unusedSimpArgs false

/-! ### spec_DrawIntWrap: function 14 -/
def spec_DrawIntWrap.f (k : Nat) (l0 : List Int) : Option (Int) := (spec_l6Open.f l0).bind fun bt109 => ((spec_l6Rd_pick.f k bt109.1 bt109.2 4).bind fun bt112 => (if bt112.1 = 0 then ((spec_l6Rd_pick.f k bt109.1 bt112.2 250).bind fun bt114 => ((spec_l6Rd_pick.f k bt109.1 bt114.2 250).bind fun bt116 => ((some (([9223372036854775807, (-9223372036854775808), wrap64 (9223372036854775807 - bt114.1), wrap64 ((-9223372036854775807) + bt116.1), 128, (-129)] : List Int) : List Int)).bind fun y118 => ((spec_l6Rd_pick.f k bt109.1 bt116.2 6).bind fun bt121 => (if 0 ≤ bt121.1 then (if bt121.1 < (y118.length : Int) then (some (rd y118 bt121.1)) else (none)) else (none)))))) else ((spec_l6Rd_pick.f k bt109.1 bt112.2 256).bind fun bt124 => ((spec_l6Rd_pick.f k bt109.1 bt124.2 4).bind fun bt126 => ((spec_l6Rd_pick.f k bt109.1 bt126.2 7).bind fun bt128 => (some (wrap64 ((wrap64 ((wrap64 (bt124.1 - 128)) * (wrap64 (1 + bt126.1)))) + bt128.1))))))))
theorem spec_DrawIntWrap.mono : ∀ a0 k, LeO (spec_DrawIntWrap.f k a0) (spec_DrawIntWrap.f (k + 1) a0) := by
  intro a0 k
  unfold spec_DrawIntWrap.f
  repeat' first
      | (with_reducible exact spec_l6Rd_pick.mono _ _ _ _)
      | (with_reducible exact LeO.refl _)
      | (with_reducible exact LeO.none _)
      | (with_reducible refine LeO.ite ?_ ?_)
      | (with_reducible refine LeO.bind ?_ (fun _ => ?_))
      | exact spec_l6Rd_pick.mono _ _ _ _
      | exact LeO.none _
      | refine LeO.ite ?_ ?_
      | refine LeO.bind ?_ (fun _ => ?_)

end Go.Proofs.Yteeakklnlcjgbaa.P
