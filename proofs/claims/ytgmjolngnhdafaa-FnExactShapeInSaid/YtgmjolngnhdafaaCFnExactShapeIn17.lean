/- A part of the claim FnExactShapeIn: texts of this session and texts that its program printed out of the translation, joined. -/
import Derived.Test.YtgmjolngnhdafaaCFnExactShapeIn16
import Derived.Test.YtgmjolngnhdafaaCFnExactShapeIn12
section

namespace Go.Proofs.YtgmjolngnhdafaaW.PrintWords
open Go.RowKit
end Go.Proofs.YtgmjolngnhdafaaW.PrintWords
namespace Go.Proofs.YtgmjolngnhdafaaW.PrintLast
section
variable {ops : Array Oper} {a : Act} {o og : Oper} {g : Nat} {t : Tmp} {u : Bool}
end
end Go.Proofs.YtgmjolngnhdafaaW.PrintLast

end
