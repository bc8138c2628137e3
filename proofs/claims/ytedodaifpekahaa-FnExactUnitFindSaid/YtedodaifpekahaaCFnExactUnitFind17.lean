/- A part of the claim FnExactUnitFind: texts of this session and texts that its program printed out of the translation, joined. -/
import Derived.Test.YtedodaifpekahaaCFnExactUnitFind16
import Derived.Test.YtedodaifpekahaaCFnExactUnitFind12
section

namespace Go.Proofs.YtedodaifpekahaaW.PrintWords
open Go.RowKit
end Go.Proofs.YtedodaifpekahaaW.PrintWords
namespace Go.Proofs.YtedodaifpekahaaW.PrintLast
section
variable {ops : Array Oper} {a : Act} {o og : Oper} {g : Nat} {t : Tmp} {u : Bool}
end
end Go.Proofs.YtedodaifpekahaaW.PrintLast

end
