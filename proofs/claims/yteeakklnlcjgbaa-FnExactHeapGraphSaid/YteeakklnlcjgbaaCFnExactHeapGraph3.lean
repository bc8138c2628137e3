/- A part of the claim FnExactHeapGraph: texts of this session and texts that its program printed out of the translation, joined. -/
import Derived.Test.YteeakklnlcjgbaaCFnExactHeapGraph2
section

namespace Go.Proofs.YteeakklnlcjgbaaW.PrintLast
section
variable {P : Program} {ops : Array Oper} {Q : Exit → Act → World → Prop} {md : Region.Mode} {S : World → Prop} {ds : List Nat} {T : Bool × List (List Nat × List Nat)}
end
end Go.Proofs.YteeakklnlcjgbaaW.PrintLast

end
