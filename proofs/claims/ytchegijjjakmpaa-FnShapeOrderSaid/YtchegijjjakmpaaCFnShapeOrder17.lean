/- A part of the claim FnShapeOrder: texts of this session and texts that its program printed out of the translation, joined. -/
import Derived.Test.YtchegijjjakmpaaCFnShapeOrder16
import Derived.Test.YtchegijjjakmpaaCFnShapeOrder12
section

namespace Go.Proofs.YtchegijjjakmpaaW.PrintWords
open Go.RowKit
end Go.Proofs.YtchegijjjakmpaaW.PrintWords
namespace Go.Proofs.YtchegijjjakmpaaW.PrintLast
section
variable {ops : Array Oper} {a : Act} {o og : Oper} {g : Nat} {t : Tmp} {u : Bool}
end
end Go.Proofs.YtchegijjjakmpaaW.PrintLast

end
