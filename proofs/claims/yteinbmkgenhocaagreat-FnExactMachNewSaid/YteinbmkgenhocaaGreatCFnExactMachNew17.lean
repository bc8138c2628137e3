/- A part of the claim FnExactMachNew. -/
import Derived.Test.YteinbmkgenhocaaGreatCFnExactMachNew16
import Derived.Test.YteinbmkgenhocaaGreatCFnExactMachNew12
section
namespace Go.Proofs.YteinbmkgenhocaaGreatW.PrintWords
open Go.RowKit
end Go.Proofs.YteinbmkgenhocaaGreatW.PrintWords
namespace Go.Proofs.YteinbmkgenhocaaGreatW.PrintLast
section
variable {ops:Array Oper} {a:Act} {o og:Oper} {g:Nat} {t:Tmp} {u:Bool}
end
end Go.Proofs.YteinbmkgenhocaaGreatW.PrintLast
end
