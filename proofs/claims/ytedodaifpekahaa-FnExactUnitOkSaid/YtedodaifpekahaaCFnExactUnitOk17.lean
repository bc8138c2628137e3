/- A part of the claim FnExactUnitOk: texts of this session and texts that its program printed out of the translation, joined. -/
import Derived.Test.YtedodaifpekahaaCFnExactUnitOk16
import Derived.Test.YtedodaifpekahaaCFnExactUnitOk12
section

namespace Go.Proofs.YtedodaifpekahaaW.PrintWords
open Go.RowKit
end Go.Proofs.YtedodaifpekahaaW.PrintWords
namespace Go.Proofs.YtedodaifpekahaaW.PrintLast
section
variable {ops : Array Oper} {a : Act} {o og : Oper} {g : Nat} {t : Tmp} {u : Bool}
end
end Go.Proofs.YtedodaifpekahaaW.PrintLast

end
