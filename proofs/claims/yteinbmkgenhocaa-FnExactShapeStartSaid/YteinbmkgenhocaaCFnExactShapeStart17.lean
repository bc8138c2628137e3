/- A part of the claim FnExactShapeStart: texts of this session and texts that its program printed out of the translation, joined. -/
import Derived.Test.YteinbmkgenhocaaCFnExactShapeStart16
import Derived.Test.YteinbmkgenhocaaCFnExactShapeStart12
section
namespace Go.Proofs.YteinbmkgenhocaaW.PrintWords
open Go.RowKit
end Go.Proofs.YteinbmkgenhocaaW.PrintWords
namespace Go.Proofs.YteinbmkgenhocaaW.PrintLast
section
variable {ops:Array Oper} {a:Act} {o og:Oper} {g:Nat} {t:Tmp} {u:Bool}
end
end Go.Proofs.YteinbmkgenhocaaW.PrintLast
end
