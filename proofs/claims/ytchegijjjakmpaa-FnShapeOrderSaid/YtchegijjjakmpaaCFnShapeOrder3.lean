/- A part of the claim FnShapeOrder: texts of this session and texts that its program printed out of the translation, joined. -/
import Derived.Test.YtchegijjjakmpaaCFnShapeOrder2
section

namespace Go.Proofs.YtchegijjjakmpaaW.PrintLast
section
variable {P : Program} {ops : Array Oper} {Q : Exit → Act → World → Prop} {md : Region.Mode} {S : World → Prop} {ds : List Nat} {T : Bool × List (List Nat × List Nat)}
end
end Go.Proofs.YtchegijjjakmpaaW.PrintLast

end
