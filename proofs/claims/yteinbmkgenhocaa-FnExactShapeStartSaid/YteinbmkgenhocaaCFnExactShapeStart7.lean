/- A part of the claim FnExactShapeStart: texts of this session and texts that its program printed out of the translation, joined. -/
import Derived.Test.YteinbmkgenhocaaCFnExactShapeStart5
import Derived.Test.YteinbmkgenhocaaCFnExactShapeStart6
section
namespace Go.Proofs.YteinbmkgenhocaaW.PrintWords
open Go.RowKit
section
variable {P:Program}
end
namespace Kd
section
variable {P:Program} {ops:Array Oper} {rest:List Oper} {o:Oper} {a:Act} {Q:Exit→Act→World→Prop} {Kc:Act→World→Prop} {α:Type}
end
section
variable {α:Type} {d:Kd α} {e:Nat} {w:World} {base:Nat} {ok:Nat→Prop} {v:Value} {xs:List α}
end
section
variable {P:Program} {ops:Array Oper} {rest:List Oper} {o:Oper} {a:Act} {Q:Exit→Act→World→Prop} {Kc:Act→World→Prop} {α:Type}
end
end Kd
end Go.Proofs.YteinbmkgenhocaaW.PrintWords
end
