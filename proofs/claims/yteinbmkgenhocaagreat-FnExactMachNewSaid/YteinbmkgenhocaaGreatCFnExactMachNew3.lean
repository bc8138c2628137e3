/- A part of the claim FnExactMachNew. -/
import Derived.Test.YteinbmkgenhocaaGreatCFnExactMachNew2
section
namespace Go.Proofs.YteinbmkgenhocaaGreatW.PrintLast
section
variable {P:Program} {ops:Array Oper} {Q:Exit→Act→World→Prop} {md:Region.Mode} {S:World→Prop} {ds:List Nat} {T:Bool×List (List Nat×List Nat)}
end
end Go.Proofs.YteinbmkgenhocaaGreatW.PrintLast
end
