/- A part of the claim FnShapeOrder: texts of this session and texts that its program printed out of the translation, joined. -/
import Derived.Test.YtchegijjjakmpaaCFnShapeOrder5
import Derived.Test.YtchegijjjakmpaaCFnShapeOrder6
section

namespace Go.Proofs.YtchegijjjakmpaaW.PrintWords
open Go.RowKit
section
variable {P : Program}
end
namespace Kd
section
variable {P : Program} {ops : Array Oper} {rest : List Oper} {o : Oper} {a : Act} {Q : Exit → Act → World → Prop} {Kc : Act → World → Prop} {α : Type}
end
section
variable {α : Type} {d : Kd α} {e : Nat} {w : World} {base : Nat} {ok : Nat → Prop} {v : Value} {xs : List α}
end
section
variable {P : Program} {ops : Array Oper} {rest : List Oper} {o : Oper} {a : Act} {Q : Exit → Act → World → Prop} {Kc : Act → World → Prop} {α : Type}
end
end Kd
end Go.Proofs.YtchegijjjakmpaaW.PrintWords

end
