/- A part of the claim FnExactShapeStart: texts of this session and texts that its program printed out of the translation, joined. -/
import Derived.Test.YteinbmkgenhocaaCFnExactShapeStart2
section
namespace Go.Proofs.YteinbmkgenhocaaW.PrintLast
section
variable {P:Program} {ops:Array Oper} {Q:Exit→Act→World→Prop} {md:Region.Mode} {S:World→Prop} {ds:List Nat} {T:Bool×List (List Nat×List Nat)}
end
end Go.Proofs.YteinbmkgenhocaaW.PrintLast
end
