/- A part of the claim FnUnitBare. -/
import Derived.Test.YtojpejfcafbafaaCFnUnitBare0
section
namespace Go.Proofs.YtojpejfcafbafaaW.PrintWords
theorem sG.one {α:Type} {R:α→List Value→Prop} {ps:List α} {cs:List Value} {p:α} {v:Value} (hp:R p [v]) (h:sG R 1 ps cs):sG R 1 (p::ps) (v::cs):=by
  refine⟨by simp[h.1],fun j q hq=> ?_⟩
  cases j with
  | zero=>
    simp only[List.getElem?_cons_zero,Option.some.injEq]at hq
    subst hq
    simpa using hp
  | succ j=>
    simp only[List.getElem?_cons_succ]at hq
    have h1:=h.2 j q hq
    simpa[Nat.mul_one] using h1
theorem sG.front {α:Type} {R:α→List Value→Prop} {size:Nat} {ps:List α} {cs c all:List Value} {p:α} (hp:R p c) (hc:c.length=size) (h:sG R size ps cs) (ha:c++cs=all):sG R size (p::ps) all:=by
  subst ha
  refine⟨by rw[List.length_append,hc,h.1,List.length_cons,Nat.succ_mul,Nat.add_comm],fun j q hq=> ?_⟩
  cases j with
  | zero=>
    simp only[List.getElem?_cons_zero,Option.some.injEq]at hq
    subst hq
    rw[Nat.zero_mul,List.drop_zero,List.take_append_of_le_length (by omega),List.take_of_length_le (by omega)]
    exact hp
  | succ j=>
    simp only[List.getElem?_cons_succ]at hq
    have h1:=h.2 j q hq
    rw[Nat.succ_mul,List.drop_append,List.drop_of_length_le (by rw[hc];exact Nat.le_add_left _ _),List.nil_append,hc,Nat.add_sub_cancel]
    exact h1
theorem sG.c2 {α:Type} {R:α→List Value→Prop} {ps:List α} {cs:List Value} {p:α} {va vb:Value} (hp:R p [va,vb]) (h:sG R 2 ps cs):sG R 2 (p::ps) (va::vb::cs):=sG.front hp rfl h rfl
theorem sG.c3 {α:Type} {R:α→List Value→Prop} {ps:List α} {cs:List Value} {p:α} {va vb vc:Value} (hp:R p [va,vb,vc]) (h:sG R 3 ps cs):sG R 3 (p::ps) (va::vb::vc::cs):=sG.front hp rfl h rfl
theorem sG.c4 {α:Type} {R:α→List Value→Prop} {ps:List α} {cs:List Value} {p:α} {va vb vc vd:Value} (hp:R p [va,vb,vc,vd]) (h:sG R 4 ps cs):sG R 4 (p::ps) (va::vb::vc::vd::cs):=sG.front hp rfl h rfl
theorem sG.c5 {α:Type} {R:α→List Value→Prop} {ps:List α} {cs:List Value} {p:α} {va vb vc vd ve:Value} (hp:R p [va,vb,vc,vd,ve]) (h:sG R 5 ps cs):sG R 5 (p::ps) (va::vb::vc::vd::ve::cs):=sG.front hp rfl h rfl
theorem sG.c7 {α:Type} {R:α→List Value→Prop} {ps:List α} {cs:List Value} {p:α} {va vb vc vd ve vf vg:Value} (hp:R p [va,vb,vc,vd,ve,vf,vg]) (h:sG R 7 ps cs):sG R 7 (p::ps) (va::vb::vc::vd::ve::vf::vg::cs):=sG.front hp rfl h rfl
end Go.Proofs.YtojpejfcafbafaaW.PrintWords
end
