/- A part of the claim FnUnitFirst. -/
import Derived.OrdersHeld
import Derived.Deep.RegionHeld3
import Derived.Laws.BitsLemmas
import Derived.RowKit
section
namespace Go.Proofs.YtojpejfcafbafaaW.PrintLast
section
variable {P:Program} {ops:Array Oper} {Q:Exit→Act→World→Prop} {md:Region.Mode} {S:World→Prop} {ds:List Nat}
def Region.closedB (md:Region.Mode) (ops:Array Oper) (listed:Array Bool):Bool:=
  (List.range ops.size).all fun j=> !listed.getD j false||match ops[j]? with
    |some o=>o.after.all fun e=> !Region.binds md e||listed.getD e.on false
    |none=>true
def zA (md:Region.Mode) (ops:Array Oper) (listed:Array Bool):Prop:=
  ∀j oj,ops[j]? =some oj→listed.getD j false=true→∀e∈oj.after,Region.binds md e=true→listed.getD e.on false=true
theorem zA.set {listed:Array Bool} {i:Nat} (h:zA md ops listed) (hi:i∈Region.ready md ops listed):zA md ops (listed.setIfInBounds i true):=by
  obtain⟨_,oi,hoi,hall⟩:=mem_ready.1 hi
  intro j oj hj hl e he hb
  by_cases hij:i=j
  · subst hij
    have:oj=oi:=Option.some.inj (hj.symm.trans hoi)
    subst this
    exact getD_set_true (hall e he hb)
  · rw[getD_set_ne false hij]at hl
    exact getD_set_true (h j oj hj hl e he hb)
def Cf (P:Program) (md:Region.Mode) (ops:Array Oper) (Q:Exit→Act→World→Prop) (S:World→Prop) (ds:List Nat):Nat→Array Bool→Act→World→Prop
  |0,listed,a,w=>Region.ready md ops listed= []∧Q .normal a w
  | fuel+1,listed,a,w=>
    (Region.ready md ops listed= []→Q .normal a w)∧
    ∀i∈Region.ready md ops listed,wpOp P ops Q i (fun a' w' =>(i∉ds→S w→S w')∧Cf P md ops Q S ds fuel (listed.setIfInBounds i true) a' w') a w
end
section
variable {P:Program} {ops:Array Oper} {Q:Exit→Act→World→Prop} {md:Region.Mode} {S:World→Prop} {ds:List Nat}
def yM (P:Program) (md:Region.Mode) (ops:Array Oper) (Q:Exit→Act→World→Prop) (S:World→Prop) (ds:List Nat) (fuel:Nat) (listed:Array Bool) (a:Act) (w:World) (rs:List Nat):Prop:=
  ∀i∈rs,wpOp P ops Q i (fun a' w' =>(i∉ds→S w→S w')∧Cf P md ops Q S ds fuel (listed.setIfInBounds i true) a' w') a w
theorem yM.nil {fuel:Nat} {listed:Array Bool} {a:Act} {w:World}:yM P md ops Q S ds fuel listed a w []:=fun _ h=>by cases h
theorem yM.cons {fuel:Nat} {listed:Array Bool} {a:Act} {w:World} {i:Nat} {o:Oper} {rs:List Nat} (ho:ops[i]? =some o) (hd:i∉ds)
    (h: ∀K' :Act→World→Prop,Shut (∀a w,S w→(S w→Cf P md ops Q S ds fuel (listed.setIfInBounds i true) a w)→K' a w)→if Region.wanted o (yielded ops a.tmps)=true then Oper.wp P o a w K' Q else K' (a.put o.dst undef) w)
    (hs:yM P md ops Q S ds fuel listed a w rs):yM P md ops Q S ds fuel listed a w (i::rs):=fun j hj=>by
  rcases List.mem_cons.1 hj with rfl|hj
  ·exact wpOp_step ho (fun K' hK=>h K' (fun a w hS hW=>hK a w ⟨fun _ _=>hS,hW hS⟩))
  ·exact hs j hj
end
end Go.Proofs.YtojpejfcafbafaaW.PrintLast
end
