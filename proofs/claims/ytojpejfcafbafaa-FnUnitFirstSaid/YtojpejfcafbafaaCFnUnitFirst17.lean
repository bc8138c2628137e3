/- A part of the claim FnUnitFirst. -/
import Derived.Test.YtojpejfcafbafaaCFnUnitFirst16
import Derived.Test.YtojpejfcafbafaaCFnUnitFirst12
section
namespace Go.Proofs.YtojpejfcafbafaaW.PrintWords
open Go.RowKit
end Go.Proofs.YtojpejfcafbafaaW.PrintWords
namespace Go.Proofs.YtojpejfcafbafaaW.PrintLast
section
variable {ops:Array Oper} {a:Act} {o og:Oper} {g:Nat} {t:Tmp} {u:Bool}
end
end Go.Proofs.YtojpejfcafbafaaW.PrintLast
end
