/- A part of the claim FnUnitBare. -/
import Derived.Test.YtojpejfcafbafaaCFnUnitBare16
import Derived.Test.YtojpejfcafbafaaCFnUnitBare12
section
namespace Go.Proofs.YtojpejfcafbafaaW.PrintWords
open Go.RowKit
end Go.Proofs.YtojpejfcafbafaaW.PrintWords
namespace Go.Proofs.YtojpejfcafbafaaW.PrintLast
section
variable {ops:Array Oper} {a:Act} {o og:Oper} {g:Nat} {t:Tmp} {u:Bool}
end
end Go.Proofs.YtojpejfcafbafaaW.PrintLast
end
