/- A part of the claim FnUnitFirst. -/
import Derived.Test.YtojpejfcafbafaaCFnUnitFirst1
import Derived.Test.YtojpejfcafbafaaCFnUnitFirst0
section
namespace Go.Proofs.YtojpejfcafbafaaW.PrintLast
open Go.Proofs.YtojpejfcafbafaaW.PrintWords (Aside0)
section
variable {md:Region.Mode} {ops:Array Oper} {T:Bool×List (List Nat×List Nat)} {l l' li lj lk:Array Bool} {ds:List Nat} {i j k:Nat}
theorem gd (l:Array Bool) (j:Nat) (b:Bool):l.getD j b=l.toList.getD j b:=by simp[Array.getD_eq_getD_getElem?,List.getD_eq_getElem?_getD]
end
end Go.Proofs.YtojpejfcafbafaaW.PrintLast
end
