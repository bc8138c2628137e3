-- By pr.py, a program of this session, out of the translation. Lean checks it.
import Derived.Test.YteeakklnlcjgbaaP0
import Derived.Test.YteeakklnlcjgbaaD12
import Derived.Test.YteeakklnlcjgbaaD13
import Derived.Test.YteeakklnlcjgbaaD14
namespace Go.Proofs.Yteeakklnlcjgbaa.P
open Go.RowKit Go.Proofs.YteeakklnlcjgbaaW.PrintWords Go.Proofs.YteeakklnlcjgbaaW.PrintLast Go.Proofs.YteeakklnlcjgbaaW.PrintMore
attribute [local go_sem] max2_int min2_int max_two min_two max_three min_three max_four min_four
set_option linter.unusedVariables false
set_option linter.unusedSimpArgs false

/-! ### laws_FnIntWrap: function 5 -/
def laws_FnIntWrap.f (k : Nat) (l0 : List Int) : Option (Bool) := if (l0.length : Int) > 1048576 then (some true) else ((spec_DrawIntWrap.f k l0).bind fun t130 => ((impl_IntWrap.f t130).bind fun t131 => ((spec_IntWrap.f t130).bind fun t132 => (if t131 = t132 then (if t131 ≥ (-128) then (if t131 ≤ 127 then (if (Int.tmod (wrap64 ((Int.tmod t130 256) - t131)) 256) = 0 then ((impl_IntWrap.f t131).bind fun t133 => (some (t133 == t131))) else (some false)) else (some false)) else (some false)) else (some false)))))
theorem laws_FnIntWrap.mono : ∀ a0 k, LeO (laws_FnIntWrap.f k a0) (laws_FnIntWrap.f (k + 1) a0) := by
  intro a0 k
  unfold laws_FnIntWrap.f
  repeat' first
      | (with_reducible exact spec_DrawIntWrap.mono _ _)
      | (with_reducible exact LeO.refl _)
      | (with_reducible exact LeO.none _)
      | (with_reducible refine LeO.ite ?_ ?_)
      | (with_reducible refine LeO.bind ?_ (fun _ => ?_))
      | exact spec_DrawIntWrap.mono _ _
      | exact LeO.none _
      | refine LeO.ite ?_ ?_
      | refine LeO.bind ?_ (fun _ => ?_)

/-- THE ONE PURE STATEMENT of laws_FnIntWrap: yours. -/
def laws_FnIntWrap.Pure : Prop := ∀ (l0 : List Int), l0.length ≤ maxLen → l0.length * 1 ≤ 140737488351232 → (∀ x ∈ l0, (Lit.int .u8 x).wf = true) → ∃ k, laws_FnIntWrap.f k l0 = some true
end Go.Proofs.Yteeakklnlcjgbaa.P
