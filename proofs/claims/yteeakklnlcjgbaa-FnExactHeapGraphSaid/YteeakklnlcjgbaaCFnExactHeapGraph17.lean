/- A part of the claim FnExactHeapGraph: texts of this session and texts that its program printed out of the translation, joined. -/
import Derived.Test.YteeakklnlcjgbaaCFnExactHeapGraph16
import Derived.Test.YteeakklnlcjgbaaCFnExactHeapGraph12
section

namespace Go.Proofs.YteeakklnlcjgbaaW.PrintWords
open Go.RowKit
end Go.Proofs.YteeakklnlcjgbaaW.PrintWords
namespace Go.Proofs.YteeakklnlcjgbaaW.PrintLast
section
variable {ops : Array Oper} {a : Act} {o og : Oper} {g : Nat} {t : Tmp} {u : Bool}
end
end Go.Proofs.YteeakklnlcjgbaaW.PrintLast

end
