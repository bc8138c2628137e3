/- FnExactConstants: the law of the constants answers true; there is no argument and no condition. -/
import Derived.Test.YteeakklnlcjgbaaPFnExactConstantsx1
namespace Go.Proofs.Yteeakklnlcjgbaa.Pure
open Go.RowKit Go.Proofs.Yteeakklnlcjgbaa.PFnExactConstants Go.Proofs.YteeakklnlcjgbaaW.PrintWords Go.Proofs.YteeakklnlcjgbaaW.PrintLast

/-- YOURS: laws_FnExactConstants.f  = some true
What it reaches (each with k first where it has rounds; `.mono`: more rounds tell the same; `.l0`, ..: its loops, with `.mono_l`): laws_FnExactConstants.f -/
theorem FnExactConstants : laws_FnExactConstants.Pure := by
  rfl

end Go.Proofs.Yteeakklnlcjgbaa.Pure
