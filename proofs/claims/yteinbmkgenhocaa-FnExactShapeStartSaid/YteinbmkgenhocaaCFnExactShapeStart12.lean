/- A part of the claim FnExactShapeStart: texts of this session and texts that its program printed out of the translation, joined. -/
import Derived.Test.YteinbmkgenhocaaCFnExactShapeStart11
section
namespace Go.Proofs.YteinbmkgenhocaaW.PrintWords
open Go.RowKit
namespace Kd
section
variable {α:Type} {d:Kd α} {W:World} {g n:Nat} {S ok:Nat→Prop} {A:Option Addr} {ad:Addr} {xs:List α}
end
end Kd
end Go.Proofs.YteinbmkgenhocaaW.PrintWords
end
