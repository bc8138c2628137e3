/- A part of the claim FnExactMachOk. -/
import Derived.Test.YteinbmkgenhocaaGreatCFnExactMachOk0
section
namespace Go.Proofs.YteinbmkgenhocaaGreatW.PrintWords
theorem dI.front {α:Type} {R:α→List Value→Prop} {size:Nat} {ps:List α} {cs c all:List Value} {p:α} (hp:R p c) (hc:c.length=size) (h:dI R size ps cs) (ha:c++cs=all):dI R size (p::ps) all:=by
  subst ha
  refine⟨by rw[List.length_append,hc,h.1,List.length_cons,Nat.succ_mul,Nat.add_comm],fun j q hq=> ?_⟩
  cases j with
  | zero=>
    simp only[List.getElem?_cons_zero,Option.some.injEq]at hq
    subst hq
    rw[Nat.zero_mul,List.drop_zero,List.take_append_of_le_length (by omega),List.take_of_length_le (by omega)]
    exact hp
  | succ j=>
    simp only[List.getElem?_cons_succ]at hq
    have h1:=h.2 j q hq
    rw[Nat.succ_mul,List.drop_append,List.drop_of_length_le (by rw[hc];exact Nat.le_add_left _ _),List.nil_append,hc,Nat.add_sub_cancel]
    exact h1
theorem dI.c2 {α:Type} {R:α→List Value→Prop} {ps:List α} {cs:List Value} {p:α} {va vb:Value} (hp:R p [va,vb]) (h:dI R 2 ps cs):dI R 2 (p::ps) (va::vb::cs):=dI.front hp rfl h rfl
theorem dI.c3 {α:Type} {R:α→List Value→Prop} {ps:List α} {cs:List Value} {p:α} {va vb vc:Value} (hp:R p [va,vb,vc]) (h:dI R 3 ps cs):dI R 3 (p::ps) (va::vb::vc::cs):=dI.front hp rfl h rfl
theorem dI.c4 {α:Type} {R:α→List Value→Prop} {ps:List α} {cs:List Value} {p:α} {va vb vc vd:Value} (hp:R p [va,vb,vc,vd]) (h:dI R 4 ps cs):dI R 4 (p::ps) (va::vb::vc::vd::cs):=dI.front hp rfl h rfl
theorem dI.c5 {α:Type} {R:α→List Value→Prop} {ps:List α} {cs:List Value} {p:α} {va vb vc vd ve:Value} (hp:R p [va,vb,vc,vd,ve]) (h:dI R 5 ps cs):dI R 5 (p::ps) (va::vb::vc::vd::ve::cs):=dI.front hp rfl h rfl
theorem dI.c6 {α:Type} {R:α→List Value→Prop} {ps:List α} {cs:List Value} {p:α} {va vb vc vd ve vf:Value} (hp:R p [va,vb,vc,vd,ve,vf]) (h:dI R 6 ps cs):dI R 6 (p::ps) (va::vb::vc::vd::ve::vf::cs):=dI.front hp rfl h rfl
theorem dI.c7 {α:Type} {R:α→List Value→Prop} {ps:List α} {cs:List Value} {p:α} {va vb vc vd ve vf vg:Value} (hp:R p [va,vb,vc,vd,ve,vf,vg]) (h:dI R 7 ps cs):dI R 7 (p::ps) (va::vb::vc::vd::ve::vf::vg::cs):=dI.front hp rfl h rfl
theorem dI.c8 {α:Type} {R:α→List Value→Prop} {ps:List α} {cs:List Value} {p:α} {va vb vc vd ve vf vg vh:Value} (hp:R p [va,vb,vc,vd,ve,vf,vg,vh]) (h:dI R 8 ps cs):dI R 8 (p::ps) (va::vb::vc::vd::ve::vf::vg::vh::cs):=dI.front hp rfl h rfl
theorem dI.c9 {α:Type} {R:α→List Value→Prop} {ps:List α} {cs:List Value} {p:α} {va vb vc vd ve vf vg vh vi:Value} (hp:R p [va,vb,vc,vd,ve,vf,vg,vh,vi]) (h:dI R 9 ps cs):dI R 9 (p::ps) (va::vb::vc::vd::ve::vf::vg::vh::vi::cs):=dI.front hp rfl h rfl
theorem dI.c10 {α:Type} {R:α→List Value→Prop} {ps:List α} {cs:List Value} {p:α} {va vb vc vd ve vf vg vh vi vj:Value} (hp:R p [va,vb,vc,vd,ve,vf,vg,vh,vi,vj]) (h:dI R 10 ps cs):dI R 10 (p::ps) (va::vb::vc::vd::ve::vf::vg::vh::vi::vj::cs):=dI.front hp rfl h rfl
end Go.Proofs.YteinbmkgenhocaaGreatW.PrintWords
end
