/- A part of the claim FnExactUnitFind: texts of this session and texts that its program printed out of the translation, joined. -/
import Derived.Test.YtedodaifpekahaaCFnExactUnitFind0
import Derived.Laws.StructEq
section

namespace Go.Proofs.YtedodaifpekahaaW.PrintWords
open Go.RowKit
section
variable {P : Program} {d : Nat} {xs ys : Array Value} {f : Field} {fs : List Field} {a b : Value} {r s : Bool} {w : World}
end
end Go.Proofs.YtedodaifpekahaaW.PrintWords

end
