/- A part of the claim FnUnitFirst. -/
import Derived.Test.YtojpejfcafbafaaCFnUnitFirst12
section
namespace Go.Proofs.YtojpejfcafbafaaW.PrintWords
open Go.RowKit
section
variable {w w' u:World} {m B g:Nat} {o:Obj} {row:Option Nat} {S:Nat→Prop} {a:Addr} {v:Value}
theorem C8 (hq:w.drewN m=w') (h:w.cell? a=some v):w'.cell? a=some v:=by subst hq;exact h
end
namespace Kd
section
variable {α:Type} {d:Kd α} {e base n m:Nat} {ok:Nat→Prop} {w w' :World} {v:Value} {A:Option Addr} {xs:List α}
end
end Kd
end Go.Proofs.YtojpejfcafbafaaW.PrintWords
end
