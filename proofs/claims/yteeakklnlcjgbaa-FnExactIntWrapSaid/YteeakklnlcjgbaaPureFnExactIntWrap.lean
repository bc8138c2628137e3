/- FnExactIntWrap: for every number the program's IntWrap is the reference's; the one condition is that the argument is an int. -/
import Derived.Test.YteeakklnlcjgbaaKit
import Derived.Test.YteeakklnlcjgbaaD4
namespace Go.Proofs.Yteeakklnlcjgbaa.Kit
open Go Go.RowKit Go.Proofs.YteeakklnlcjgbaaW.PrintWords Go.Proofs.Yteeakklnlcjgbaa.P
/-- The word that a number is. -/
def wordOf (n : Int) : Int := (n + 128) % 256 - 128
theorem impl_wrap (n : Int) : impl_IntWrap.f n = some (wordOf n) := by
  unfold impl_IntWrap.f wordOf
  rw [i8wrap, w64 (by omega) (by omega)]
theorem spec_wrap (n : Int) : spec_IntWrap.f n = some (wordOf n) := by
  unfold spec_IntWrap.f wordOf
  obtain ⟨m, hm, h⟩ := tmod256' n
  rw [hm]
  by_cases h1 : m < -128
  · rw [if_pos h1, w64 (by omega) (by omega)]
    congr 1
    omega
  · rw [if_neg h1]
    by_cases h2 : m > 127
    · rw [if_pos h2, w64 (by omega) (by omega)]
      congr 1
      omega
    · rw [if_neg h2]
      congr 1
      omega
end Go.Proofs.Yteeakklnlcjgbaa.Kit
namespace Go.Proofs.Yteeakklnlcjgbaa.Pure
open Go Go.RowKit Go.Proofs.YteeakklnlcjgbaaW.PrintWords Go.Proofs.Yteeakklnlcjgbaa.P Go.Proofs.Yteeakklnlcjgbaa.Kit
theorem FnExactIntWrap : laws_FnExactIntWrap.Pure := by
  intro n _
  unfold laws_FnExactIntWrap.f
  rw [impl_wrap, spec_wrap]
  simp
end Go.Proofs.Yteeakklnlcjgbaa.Pure
