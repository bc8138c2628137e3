/- A part of the claim FnExactMachOk. -/
import Derived.Test.YteinbmkgenhocaaGreatCFnExactMachOk16
import Derived.Test.YteinbmkgenhocaaGreatCFnExactMachOk12
section
namespace Go.Proofs.YteinbmkgenhocaaGreatW.PrintWords
open Go.RowKit
end Go.Proofs.YteinbmkgenhocaaGreatW.PrintWords
namespace Go.Proofs.YteinbmkgenhocaaGreatW.PrintLast
section
variable {ops:Array Oper} {a:Act} {o og:Oper} {g:Nat} {t:Tmp} {u:Bool}
end
end Go.Proofs.YteinbmkgenhocaaGreatW.PrintLast
end
