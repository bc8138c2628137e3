/- A part of the claim FnUnitFirst. -/
import Derived.Test.YtojpejfcafbafaaProg
import Derived.Test.YtojpejfcafbafaaCFnUnitFirst24
section
namespace Go.Proofs.Ytojpejfcafbafaa.V
open Go Go.RowKit
set_option linter.unusedVariables false
set_option linter.unusedSimpArgs false
abbrev Mv:=Nat×Nat×Nat
def rM (ms:List Mv) (ts:List V):List V:=ms.foldl (fun ts m=>ts.set m.2.1 .dead) ts
def xN (ms:List Mv) (ts:List V):List V:=ms.foldl (fun ts m=>ts.set m.2.1 (ts.getD m.2.2 .dead)) ts
def KX (pt:List (List Nat)) (ms l1:List Nat) (b:Nat) (l3:List Nat):Bool:=
  l1.all (fun d=>(pt.getD b []).contains d && l3.all fun i=>(pt.getD i []).contains d) && l3.all fun i=>(pt.getD i []).contains b && ms.all fun d=>(pt.getD i []).contains d
def AY (ops:Array Oper) (ms:List Mv):Bool:=
  ms.all (fun m=>match ops[m.1]? with|some ⟨some d, .move (.tmp s),_,_,_,none⟩=>d==m.2.1 && s==m.2.2|_=>false) &&
  ms.all (fun m=>ms.all fun m' =>m.2.1 !=m'.2.2 && (m.1==m'.1||m.2.1 !=m'.2.1)) &&
  (List.range ops.size).all fun i=>ms.all fun m=>match (ops[i]?).bind (·.dst)with|some d=>d !=m.2.2 && (i==m.1||d !=m.2.1)|none=>true
section
variable {P:Program} {ops:Array Oper} {K:List V→Bs→Prop} {Q:Exit→Act→World→Prop} {c:Ctx}
theorem Hz {o:Oper} {a:Act} {w:World} {N:Act→World→Prop} (h:o.wp P a w N Q):o.wp P a w (fun a' w' =>N a' w' ∧∃v,a'.tmps=(a.put o.dst v).tmps) Q:=by
  unfold Oper.wp at *
  generalize (execOp a.eval o).run P w=r at *
  cases r with
  | ok n w' =>
    cases n<;>simp only[Oper.upon]at h⊢
    case value v=>exact⟨h,v,rfl⟩
    case skip=>exact⟨h,undef,rfl⟩
    case defer d=>exact⟨h,undef,by cases o.dst<;>rfl⟩
    case enter f args=>
      refine Calls.mono h fun e w' hr=> ?_
      cases e with
      |returned v=>exact⟨hr,v,rfl⟩
      |panicked ch=>exact hr
      |outgrown=>exact hr
    case row r args=>exact Rows.mono h fun v w' hr=>⟨hr,v,rfl⟩
  |halt x w' =>cases x<;>exact h
theorem JL {i:Nat} {o:Oper} (ho:ops[i]? =some o) {a:Act} {w:World} {N:Act→World→Prop} (h:wpOp P ops Q i N a w):wpOp P ops Q i (fun a' w' =>N a' w' ∧∃v,a'.tmps=(a.put o.dst v).tmps) a w:=by
  unfold wpOp at *
  simp only[ho]at h⊢
  split
  ·rename_i hw;simp only[hw,if_true]at h;exact h.imp Hz id
  ·rename_i hw;simp only[hw]at h;exact⟨h,undef,rfl⟩
theorem JM {ts:List V} {B:Bs} {a:Act} {w:World} {ρ:Nat→Value} (h:RelAt c ts B a w ρ) (d:Nat):RelAt c (ts.set d .dead) B a w ρ:=
  ⟨h.df,by simpa using h.sz,h.mem,fun i x hx=>by
    rw[List.getElem?_set]at hx
    split at hx
    · split at hx
      ·cases hx;trivial
      ·cases hx
    ·exact h.rep i x hx⟩
theorem BM {B:Bs} {a:Act} {w:World} {ρ:Nat→Value}: ∀(ms:List Mv) {ts:List V},RelAt c ts B a w ρ→RelAt c (rM ms ts) B a w ρ
  | [],_,h=>h
  |m::ms,_,h=>BM ms (JM h m.2.1)
theorem Gh {B:Bs} {a:Act} {w:World} {ρ:Nat→Value}: ∀(ms:List Mv) {ts:List V},RelAt c ts B a w ρ→(∀m∈ms,a.tmps.getD m.2.1 undef=a.tmps.getD m.2.2 undef)→RelAt c (xN ms ts) B a w ρ
  | [],_,h,_=>h
  | m ::ms,ts,h,hm=>by
    refine Gh ms (ts:=ts.set m.2.1 (ts.getD m.2.2 .dead)) ⟨h.df,by simpa using h.sz,h.mem,fun i x hx=> ?_⟩ fun m' hm' =>hm m' (List.mem_cons_of_mem _ hm')
    rw[List.getElem?_set]at hx
    split at hx
    · split at hx
      · rename_i h1 h2
        cases hx;subst h1
        rw[hm m List.mem_cons_self]
        cases hg:ts[m.2.2]? with
        |none=>rw[List.getD_eq_getElem?_getD,hg];trivial
        |some y=>rw[List.getD_eq_getElem?_getD,hg];exact h.rep _ _ hg
      ·cases hx
    ·exact h.rep i x hx
def Done (ms:List Mv) (l:List Nat) (a:Act):Prop:= ∀m∈ms,m.1∉l→a.tmps.getD m.2.1 undef=a.tmps.getD m.2.2 undef
theorem JN {ms:List Mv} (h:AY ops ms=true) {m:Mv} (hm:m∈ms): ∃o,ops[m.1]? =some o∧o.dst=some m.2.1∧o.op= .move (.tmp m.2.2)∧o.guard=none:=by
  simp only[AY,Bool.and_eq_true,List.all_eq_true]at h
  have:=h.1.1 m hm
  split at this
  · rename_i d s _ _ _ heq
    simp only[Bool.and_eq_true,beq_iff_eq]at this
    exact⟨_,heq,by rw[this.1],by rw[this.2],rfl⟩
  ·cases this
theorem CF {ms:List Mv} (h:AY ops ms=true) {m:Mv} (hm:m∈ms) {i:Nat} (hi:i<ops.size) {d:Nat} (hd:(ops[i]?).bind (·.dst)=some d):d≠m.2.2∧(i=m.1∨d≠m.2.1):=by
  simp only[AY,Bool.and_eq_true,List.all_eq_true,List.mem_range]at h
  have:=h.2 i hi m hm
  rw[hd]at this
  simp only[Bool.and_eq_true,Bool.or_eq_true,bne_iff_ne,beq_iff_eq]at this
  exact⟨this.1,this.2⟩
theorem BN {a a' :Act} {dst:Option Tmp} {v:Value} (h:a'.tmps=(a.put dst v).tmps) {t:Nat} (ht:dst≠some t):a'.tmps.getD t undef=a.tmps.getD t undef:=by
  rw[h]
  cases dst with
  |none=>rfl
  | some d=>
    have:d≠t:=fun e=>ht (by rw[e])
    simp only[Act.put,Array.getD_eq_getD_getElem?,Array.getElem?_setIfInBounds_ne this]
theorem done_frame {ms:List Mv} (hmv:AY ops ms=true) {i:Nat} {o:Oper} (ho:ops[i]? =some o) {a a' :Act} {v:Value} (h:a'.tmps=(a.put o.dst v).tmps) {l l' :List Nat} (hl: ∀m∈ms,m.1∉l' →m.1∉l∨m.1=i) (hni: ∀m∈ms,m.1≠i) (hd:Done ms l a):Done ms l' a' :=by
  intro m hm hml
  have hil:=(Array.getElem?_eq_some_iff.1 ho).1
  have h1:=(hl m hm hml).resolve_right (hni m hm)
  have e1:o.dst≠some m.2.1:=fun e=>((CF hmv hm hil (by rw[ho];exact e)).2.resolve_left fun e=>hni m hm e.symm) rfl
  have e2:o.dst≠some m.2.2:=fun e=>(CF hmv hm hil (by rw[ho];exact e)).1 rfl
  rw[BN h e1,BN h e2]
  exact hd m hm h1
def yQ (ms:List Mv) (ts:List V):Prop:= ∀m∈ms,ts[m.2.1]? =some .dead
theorem L9 {ts:List V} {d:Nat} (h:ts[d]? =some .dead):ts.set d .dead=ts:=by
  apply List.ext_getElem?
  intro i
  rw[List.getElem?_set]
  split
  · rename_i e;subst e
    split
    ·exact h.symm
    ·rename_i hl;rw[List.getElem?_eq_none (by omega)]
  ·rfl
theorem Ma {ms:List Mv} (hmv:AY ops ms=true) {i:Nat} {o:Oper} (ho:ops[i]? =some o) (hni: ∀m∈ms,m.1≠i) {ts:List V} (h:yQ ms ts) (v:V):yQ ms (dI ts o.dst v):=by
  intro m hm
  have hil:=(Array.getElem?_eq_some_iff.1 ho).1
  have e1:o.dst≠some m.2.1:=fun e=>((CF hmv hm hil (by rw[ho];exact e)).2.resolve_left fun e=>hni m hm e.symm) rfl
  cases hd:o.dst with
  |none=>exact h m hm
  | some d=>
    have:d≠m.2.1:=fun e=>e1 (by rw[hd,e])
    simp only[dI,List.getElem?_set_ne this]
    exact h m hm
theorem IU {ts:List V} {d:Nat} (h:d<ts.length):(ts.set d .dead)[d]? =some .dead:=by simp[h]
theorem Gi: ∀(ms:List Mv) {ts:List V} {t:Nat},ts[t]? =some .dead→(rM ms ts)[t]? =some .dead
  | [],_,_,h=>h
  | m ::ms,ts,t,h=>Gi ms (ts:=ts.set m.2.1 .dead) (by
      rw[List.getElem?_set]
      split
      · rename_i e;subst e;split
        ·rfl
        ·rename_i hl;rw[List.getElem?_eq_none (by omega)]at h;cases h
      ·exact h)
theorem CG: ∀(ms:List Mv) {ts:List V},(∀m∈ms,m.2.1<ts.length)→yQ ms (rM ms ts)
  | [],_,_=>by simp[yQ]
  | m::ms,ts,h=>by
    intro m' hm'
    rcases List.mem_cons.1 hm' with rfl|h1
    ·exact Gi ms (IU (h _ List.mem_cons_self))
    ·exact CG ms (ts:=ts.set m.2.1 .dead) (fun x hx=>by simpa using h x (List.mem_cons_of_mem _ hx)) m' h1
theorem Na {o:Oper} {ts:List V} {B:Bs} {C:List Nat→List Nat→Prop} {M:List Nat→List Nat→List V→Bs→Prop} (h:opW P ops o ts B C M):opW P ops o ts B C (fun rk wk ts' B' =>M rk wk ts' B' ∧∃v,ts' =dI ts o.dst v):=
  let ⟨rk,wk,outs,h1,h2,h3⟩:=h;⟨rk,wk,outs,h1,h2,fun v u ho=>⟨h3 v u ho,v,rfl⟩⟩
theorem Nb {o:Oper} {s d:Nat} (hop:o.op= .move (.tmp s)) {a:Act} {w:World} {N:Act→World→Prop} (h:N (a.put o.dst (a.tmps.getD s undef)) w):o.wp P a w N Q:=by
  unfold Oper.wp
  simp only[execOp,hop]
  exact h
theorem FM {ms:List Mv} (hmv:AY ops ms=true) {m:Mv} (hm:m∈ms) {ts:List V} {B:Bs} {a:Act} {w:World} {ρ:Nat→Value} (hr:RelAt c ts B a w ρ) (hd:yQ ms ts) {l l' :List Nat} (hdone:Done ms l a) (hl: ∀i,i∉l' →i∉l∨i=m.1) {N:Act→World→Prop}
    (h: ∀a',RelAt c ts B a' w ρ→Done ms l' a' →N a' w):wpOp P ops Q m.1 N a w:=by
  obtain⟨o,ho,h1,h2,h3⟩:=JN hmv hm
  refine Hd ho hr (by simp[iL,h3]) (Nb (d:=m.2.1) h2 (h _ ?_ ?_))
  · have:=hr.put (v:=a.tmps.getD m.2.2 undef) (x:= .dead) hr.mem ⟨fun _ hb=>hb,fun _ _=>rfl,fun _ hk=>hk,fun k e s N f _ hl=>⟨⟨f,hl⟩,rfl⟩,fun k t cs _ hl=>⟨⟨cs,hl⟩,rfl⟩⟩ o.dst trivial
    rw[h1]at this⊢
    simp only[dI,L9 (hd m hm)]at this
    exact this
  · intro m' hm' hml
    have hil:=(Array.getElem?_eq_some_iff.1 ho).1
    have e2:o.dst≠some m'.2.2:=fun e=>(CF hmv hm' hil (by rw[ho];exact e)).1 rfl
    rw[BN rfl e2]
    by_cases e:o.dst=some m'.2.1
    · have hsz:m'.2.1<a.tmps.size:=by rw[hr.sz];exact(List.getElem?_eq_some_iff.1 (hd m' hm')).1
      have e3:=(CF hmv hm' hil (by rw[ho];exact e)).2.resolve_right (fun x=>x rfl)
      obtain⟨o',ho',h1',h2',_⟩:=JN hmv hm'
      rw[←e3,ho]at ho'
      cases ho'
      rw[h2]at h2'
      have e4:m.2.2=m'.2.2:=by injection h2' with h;injection h
      rw[e,←e4]
      simp[Act.put,hsz]
    · rw[BN rfl e]
      refine hdone m' hm' ((hl _ hml).resolve_right fun e7=>e ?_)
      obtain⟨o',ho',h1',_⟩:=JN hmv hm'
      rw[e7,ho]at ho';cases ho';exact h1'
theorem Mc {p:Nat→List Nat} (hst:Stat ops p) {ms:List Mv} (hmv:AY ops ms=true) (l3:List Nat) (hb: ∀i∈l3,∀m∈ms,m.1∈p i): ∀(fuel:Nat) (mr:List Nat) (listed:Array Bool) (ts:List V) (B:Bs) (a:Act) (w:World) (ρ:Nat→Value),(mr++l3).length≤fuel→Inv ops p listed (mr++l3)→
    (∀i∈mr,∃m∈ms,m.1=i)→yQ ms ts→RelAt c ts B a w ρ→Done ms mr a→
    (∀(fuel:Nat) (listed:Array Bool) a,l3.length≤fuel→Inv ops p listed l3→RelAt c ts B a w ρ→Done ms [] a→wpAny P .any ops Q fuel listed a w)→wpAny P .any ops Q fuel listed a w:=by
  intro fuel
  induction fuel with
  | zero=>
    intro mr listed ts B a w ρ hl hi hm hd hr hdn hQ
    have:mr= []:=by cases mr with|nil=>rfl|cons _ _=>simp at hl
    subst this
    exact hQ 0 listed a hl hi hr hdn
  | succ fuel ih=>
    intro mr listed ts B a w ρ hl hi hm hd hr hdn hQ
    cases hc:mr with
    |nil=>subst hc;exact hQ _ listed a hl hi hr hdn
    | cons x0 l0=>
      have hx0:x0∈mr:=by rw[hc];exact List.mem_cons_self
      constructor
      · intro hnil
        have:=AV hst (i:=x0) (l:=l0++l3) (by rw[hc]at hi;exact hi)
        rw[hnil]at this
        simp at this
      · intro i hir
        obtain⟨hil,himem,nop⟩:=Cx hst hi hir
        have hi1:i∈mr:=by
          rcases List.mem_append.1 himem with h|h
          ·exact h
          · obtain⟨m,h1,h2⟩:=hm x0 hx0
            exact absurd (hb i h m h1) (by rw[h2];exact nop x0 (List.mem_append_left _ hx0))
        obtain⟨m1,m2,e⟩:=List.append_of_mem hi1
        obtain⟨m,hm1,hm2⟩:=hm i hi1
        rw[e,List.append_assoc]at hi
        have hi:Inv ops p listed (m1++i::(m2++l3)):=hi
        have nop' : ∀d∈m1++i::(m2++l3),d∉p i:=fun d hd=>nop d (by rw[e];simpa using hd)
        have hin:=zJ hi hil nop'
        rw[←List.append_assoc]at hin
        subst hm2
        refine FM hmv hm1 hr hd (l:=mr) (l' :=m1++m2) hdn (fun j hj=> ?_) fun a' hr' hd' =>ih _ _ ts B a' w ρ (by rw[e]at hl;simp at hl⊢;omega) hin (fun j hj=>hm j ?_) hd hr' hd' hQ
        · by_cases h:j=m.1
          ·exact .inr h
          ·left;rw[e];simp only[List.mem_append,List.mem_cons,not_or]at hj⊢;exact⟨hj.1,h,hj.2⟩
        · rw[e]
          rcases List.mem_append.1 hj with h|h
          ·exact List.mem_append_left _ h
          ·exact List.mem_append_right _ (List.mem_cons_of_mem _ h)
theorem KY (hK:Fx K) {p:Nat→List Nat} (hst:Stat ops p) {ms:List Mv} (hmv:AY ops ms=true) (l2:List Nat): ∀(fuel:Nat) (mr l:List Nat) (tr:Tr) (listed:Array Bool) (ts:List V) (B:Bs) (a:Act) (w:World) (ρ:Nat→Value),(mr++(l++l2)).length≤fuel→Inv ops p listed (mr++(l++l2))→
    (∀i∈mr,∃m∈ms,m.1=i)→(∀i∈l,∀m∈ms,m.1≠i)→(∀i∈l2,∀d∈l,d∈p i)→yQ ms ts→RelAt c ts B a w ρ→Done ms mr a→wU P ops (some p) K l tr ts B→
    (∀(fuel:Nat) (mr:List Nat) (listed:Array Bool) ts B a w ρ,(mr++l2).length≤fuel→Inv ops p listed (mr++l2)→(∀i∈mr,∃m∈ms,m.1=i)→yQ ms ts→Done ms mr a→K ts B→RelAt c ts B a w ρ→wpAny P .any ops Q fuel listed a w)→wpAny P .any ops Q fuel listed a w:=by
  intro fuel
  induction fuel with
  | zero=>
    intro mr l tr listed ts B a w ρ hl hi hm hlm hb hd hr hdn h hQ
    have:l= []:=by cases l with|nil=>rfl|cons _ _=>simp at hl
    subst this
    exact hQ 0 mr listed ts B a w ρ hl hi hm hd hdn h hr
  | succ fuel ih=>
    intro mr l tr listed ts B a w ρ hl hi hm hlm hb hd hr hdn h hQ
    cases hc:l with
    |nil=>subst hc;exact hQ _ mr listed ts B a w ρ hl hi hm hd hdn h hr
    | cons x0 l0=>
      have hx0:x0∈l:=by rw[hc];exact List.mem_cons_self
      constructor
      · intro hnil
        obtain⟨y,l',hy⟩: ∃y l',mr++(l++l2)=y::l' :=by
          rw[hc];cases mr with
          |nil=>exact⟨_,_,rfl⟩
          |cons y l' =>exact⟨_,_,rfl⟩
        have:=AV hst (i:=y) (l:=l') (by rw[hy]at hi;exact hi)
        rw[hnil]at this
        simp at this
      · intro i hir
        obtain⟨hil,himem,nop⟩:=Cx hst hi hir
        rcases List.mem_append.1 himem with hi1|hi1
        · obtain⟨m1,m2,e⟩:=List.append_of_mem hi1
          obtain⟨m,hm1,hm2⟩:=hm i hi1
          rw[e,List.append_assoc]at hi
          have hi:Inv ops p listed (m1++i::(m2++(l++l2))):=hi
          have nop' : ∀d∈m1++i::(m2++(l++l2)),d∉p i:=fun d hd=>nop d (by rw[e];simpa using hd)
          have hin:=zJ hi hil nop'
          rw[←List.append_assoc]at hin
          subst hm2
          refine FM hmv hm1 hr hd (l:=mr) (l' :=m1++m2) hdn (fun j hj=> ?_) fun a' hr' hd' =>ih _ l tr _ ts B a' w ρ (by rw[e]at hl;simp at hl⊢;omega) hin (fun j hj=>hm j ?_) hlm hb hd hr' hd' h hQ
          · by_cases h:j=m.1
            ·exact .inr h
            ·left;rw[e];simp only[List.mem_append,List.mem_cons,not_or]at hj⊢;exact⟨hj.1,h,hj.2⟩
          · rw[e]
            rcases List.mem_append.1 hj with h|h
            ·exact List.mem_append_left _ h
            ·exact List.mem_append_right _ (List.mem_cons_of_mem _ h)
        · have hi1:i∈l:=by
            rcases List.mem_append.1 hi1 with h|h
            ·exact h
            ·exact absurd (hb i h x0 hx0) (nop x0 (List.mem_append_right _ (List.mem_append_left _ hx0)))
          obtain⟨m1,m2,e⟩:=List.append_of_mem hi1
          have e2:mr++(l++l2)=(mr++m1)++i::(m2++l2):=by rw[e];simp
          rw[e2]at hi
          have nop' : ∀d∈(mr++m1)++i::(m2++l2),d∉p i:=fun d hd=>nop d (by rw[e2];exact hd)
          have hpw:=List.pairwise_append.1 hi.pw
          rw[e]at h
          have h2:ops[i]? =some ops[i]:=Array.getElem?_eq_getElem hil
          have hfr:=front hK h2 (by have:=hst.s5 i hil;simpa[vI,h2] using this) m1 m2 tr ts B (fun d hd=>by
            have hd' :d∈mr++m1:=List.mem_append_right _ hd
            have hp:=(hpw.2.2 d hd' i List.mem_cons_self).2
            have hdl:=hi.lt d (List.mem_append_left _ hd')
            have hnp:=nop' d (List.mem_append_left _ hd')
            simp only[zG,Bool.and_eq_true,Bool.or_eq_true]at hp
            have h4:(p i).contains d=false:=by simpa using hnp
            rw[h4,h2,Array.getElem?_eq_getElem hdl]at hp
            simp only[Bool.false_eq_true,false_or,Bool.and_eq_true]at hp
            have h5:=hst.s5 d hdl
            exact⟨ops[d],Array.getElem?_eq_getElem hdl,hp.2.1,hp.2.2,by simpa[vI,Array.getElem?_eq_getElem hdl] using h5,hnp⟩) h
          obtain⟨o,ho,hw⟩:=hfr
          have hin:=zJ hi hil nop'
          have e3:(mr++m1)++(m2++l2)=mr++((m1++m2)++l2):=by simp
          rw[e3]at hin
          have hmem: ∀d,d∈m1++m2→d∈l:=fun d hd=>by
            rw[e]
            rcases List.mem_append.1 hd with h|h
            ·exact List.mem_append_left _ h
            ·exact List.mem_append_right _ (List.mem_cons_of_mem _ h)
          have hni: ∀m∈ms,m.1≠i:=hlm i hi1
          have hN:=JL ho (D9 (Q:=Q) ho hr (Na hw) (N:=fun a' w' => ∃rk wk ts' B' ρ',(wU P ops (some p) K (m1++m2) ((i,rk,wk)::tr) ts' B' ∧∃v,ts' =dI ts o.dst v)∧RelAt c ts' B' a' w' ρ') fun rk wk ts' B' a' w' ρ' hM hr' =>⟨rk,wk,ts',B',ρ',hM,hr'⟩)
          refine wpOp_mono (fun a' w' h=> ?_) hN
          obtain⟨⟨rk,wk,ts',B',ρ',⟨hM,v,rfl⟩,hr'⟩,v',hv'⟩:=h
          exact ih mr (m1++m2) _ _ _ B' a' w' ρ' (by rw[e]at hl;simp at hl⊢;omega) hin hm (fun j hj=>hlm j (hmem j hj)) (fun j hj d hd=>hb j hj d (hmem d hd)) (Ma hmv ho hni hd v) hr' (done_frame hmv ho hv' (fun m hm hml=> .inl hml) hni hdn) hM hQ
def Md (P:Program) (ins:Bs) (ops:Array Oper) (pt:List (List Nat)) (ds:List Nat) (K:List V→Bs→Prop) (ms:List Mv) (l3:List Nat) (ts:List V) (B:Bs):Prop:= ∃ts' B',sW ins ts B ts' B' ∧y8 P ops pt ds K l3 [] (xN ms (rM ms ts')) B'
theorem yE {ins:Bs} {id:Nat} {ts:List V} {B:Bs} {Q:Post} (hm:P.follows .mixedOrders=true) (pt:List (List Nat)) (ds l1:List Nat) (ms:List Mv) (b:Nat) (l3:List Nat) (hok:EI ops pt ds (ms.map (·.1)++(l1++b::l3))=true) (hb:KX pt (ms.map (·.1)) l1 b l3=true) (hmv:AY ops ms=true)
    (hl1:((b::l1).all fun i=>ms.all fun m=>m.1 !=i)=true) (hlen:(ms.all fun m=>decide (m.2.1<ts.length))=true) {ob:Oper} (hob:ops[b]? =some ob) (hg:ob.guard=none)
    (h:y8 P ops pt ds (zI P ins ob (Md P ins ops pt ds (Q .normal) ms l3)) l1 [] (rM ms ts) B):ek P ins id ops Q ts B:=by
  simp only[EI,Bool.and_eq_true,List.all_eq_true,List.mem_range,beq_iff_eq]at hok
  obtain⟨⟨h1,h2⟩,h3⟩:=hok
  simp only[KX,Bool.and_eq_true,List.all_eq_true,List.contains_iff_mem]at hb
  obtain⟨hb1,hb2⟩:=hb
  simp only[List.all_eq_true,bne_iff_ne,decide_eq_true_eq]at hl1 hlen
  have hd: ∀i,vI ops i=ds.getD i 0:=fun i=>by
    by_cases hi:i<ops.size
    ·exact h3 i hi
    · have h4:ops[i]? =none:=Array.getElem?_eq_none (by omega)
      have h5:ds[i]? =none:=List.getElem?_eq_none (by omega)
      simp[vI,h4,List.getD_eq_getElem?_getD,h5]
  have eqv: ∀K0:List V→Bs→Prop,Fx fun ts B=> ∃B0,Eqv B B0∧K0 ts B0:=fun K0 ts B B' e ⟨B0,e0,h⟩=>⟨B0,fun k=>(e.symm k).trans (e0 k),h⟩
  intro c a w ρ hc hr
  obtain⟨i1,i2,i3⟩:=Ga h1
  refine wp_region_any hm (KY (c:=c) (eqv _) i2 hmv (b::l3) ops.size (ms.map (·.1)) l1 [] _ (rM ms ts) B a _ ρ i3 i1 (fun i hi=> ?_) (fun i hi m hm' =>hl1 i (List.mem_cons_of_mem _ hi) m hm') (fun i hi d hd' => ?_) (CG ms hlen) (BM ms (ED hr)) (fun m hm' hn=>absurd (List.mem_map.2 ⟨m,hm',rfl⟩) hn) (Gc (fun ts B h=>⟨B,fun _=>rfl,h⟩) hd l1 (rM ms ts) B h) ?_)
  ·obtain⟨m,h4,h5⟩:=List.mem_map.1 hi;exact⟨m,h4,h5⟩
  · rcases List.mem_cons.1 hi with rfl|hi
    ·exact(hb1 d hd').1
    ·exact(hb1 d hd').2 i hi
  · rintro fuel mr listed ts B a w ρ hl hi hmr hdd hdn ⟨B0,e0,hA⟩ hr
    have hr0:=Al e0 hr
    revert mr listed a
    induction fuel with
    |zero=>intro mr listed a hl;simp at hl
    | succ fuel ihf=>
      intro mr listed a hl hi hmr hdn hr hr0
      constructor
      · intro hnil
        obtain⟨y,l',hy⟩: ∃y l',mr++(b::l3)=y::l' :=by
          cases mr with
          |nil=>exact⟨_,_,rfl⟩
          |cons y l' =>exact⟨_,_,rfl⟩
        have:=AV i2 (i:=y) (l:=l') (by rw[hy]at hi;exact hi)
        rw[hnil]at this;simp at this
      · intro i hir
        obtain⟨hil,himem,nop⟩:=Cx i2 hi hir
        rcases List.mem_append.1 himem with hi1|hi1
        · obtain⟨m1,m2,e⟩:=List.append_of_mem hi1
          obtain⟨m,hm1,hm2⟩:=hmr i hi1
          rw[e,List.append_assoc]at hi
          have hi:Inv ops (fun i=>pt.getD i []) listed (m1++i::(m2++(b::l3))):=hi
          have nop' : ∀d∈m1++i::(m2++(b::l3)),d∉pt.getD i []:=fun d hd=>nop d (by rw[e];simpa using hd)
          have hin:=zJ hi hil nop'
          rw[←List.append_assoc]at hin
          subst hm2
          refine FM hmv hm1 hr hdd (l:=mr) (l' :=m1++m2) hdn (fun j hj=> ?_) fun a' hr' hd' =>ihf _ _ a' (by rw[e]at hl;simp at hl⊢;omega) hin (fun j hj=>hmr j ?_) hd' hr' (Al e0 hr')
          · by_cases h:j=m.1
            ·exact .inr h
            ·left;rw[e];simp only[List.mem_append,List.mem_cons,not_or]at hj⊢;exact⟨hj.1,h,hj.2⟩
          · rw[e]
            rcases List.mem_append.1 hj with h|h
            ·exact List.mem_append_left _ h
            ·exact List.mem_append_right _ (List.mem_cons_of_mem _ h)
        · have hib:i=b:=by
            rcases List.mem_cons.1 hi1 with h|h
            ·exact h
            ·exact absurd (hb2 i h).1 (nop b (List.mem_append_right _ List.mem_cons_self))
          subst hib
          refine Hd hob hr0 (by simp[iL,hg]) (Oper.wp_mono (fun a' w' hh=> ?_) (Hz (hA c a w ρ hc hr0 (fun a' w' => ∃ts' B' ρ',y8 P ops pt ds (Q .normal) l3 [] (xN ms (rM ms ts')) B' ∧RelAt c ts' B' a' w' ρ') _ fun ts' B' a' w' ρ' hK hr' =>by
            obtain⟨t2,B2,hw,hK⟩:=hK
            obtain⟨ρ2,hr2⟩:=hw c a' w' ρ' hc hr'
            exact⟨t2,B2,ρ2,hK,hr2⟩)))
          obtain⟨⟨ts',B',ρ',hK,hr'⟩,v',hv'⟩:=hh
          have hsz:ts'.length=ts.length:=by
            rw[←hr'.sz,hv',←hr.sz]
            cases ob.dst<;>simp[Act.put]
          have hl2: ∀m∈ms,m.2.1<ts'.length:=fun m hm=>by rw[hsz];exact(List.getElem?_eq_some_iff.1 (hdd m hm)).1
          have hin:=zJ hi hil nop
          refine Mc i2 hmv l3 (fun i hi m hm=>(hb2 i hi).2 m.1 (List.mem_map.2 ⟨m,hm,rfl⟩)) fuel mr _ (rM ms ts') B' a' w' ρ' (by simp at hl⊢;omega) hin hmr (CG ms hl2) (BM ms hr') (done_frame hmv hob hv' (fun m hm h=> .inl h) (fun m hm=>hl1 i List.mem_cons_self m hm) hdn) ?_
          intro fuel listed a2 hl hi hr hd2
          refine Gb (eqv (Q .normal)) i2 fuel l3 [] _ (xN ms (rM ms ts')) B' a2 w' ρ' hl hi (Gh ms hr fun m hm=>hd2 m hm (by simp)) (Gc (fun ts B h=>⟨B,fun _=>rfl,h⟩) hd l3 _ B' hK) ?_
          rintro ts B a w ρ ⟨B0,e0,h⟩ hr
          exact⟨.normal,ts,B0,ρ,rfl,h,Al e0 hr⟩
end
end Go.Proofs.Ytojpejfcafbafaa.V
end
section
namespace Go.Proofs.Ytojpejfcafbafaa.V
open Go
theorem ag3:sj Try.prog 3=false:=by kernel_rfl
theorem un3:(Try.prog.underlying 3).isSome=true:=by kernel_rfl
theorem sz3:Try.prog.cellsOf 3=1:=by kernel_rfl
theorem in3:(Try.prog.info? 3).isSome=true:=by kernel_rfl
theorem by3:Try.prog.bytesOf 3=8:=by kernel_rfl
theorem ze3:zeroOf Try.prog 3= [.t (.s (.int .i64 0))]:=by kernel_rfl
theorem ct3:rz Try.prog 3= [none]:=by kernel_rfl
theorem zt3:zT Try.prog 3 3= [.s (.int .i64 0)]:=by(first|kernel_rfl|rfl)
theorem zu3:zT Try.prog 4 3= [.s (.int .i64 0)]:=by(first|kernel_rfl|rfl)
theorem ag4:sj Try.prog 4=false:=by kernel_rfl
theorem un4:(Try.prog.underlying 4).isSome=true:=by kernel_rfl
theorem sz4:Try.prog.cellsOf 4=1:=by kernel_rfl
theorem in4:(Try.prog.info? 4).isSome=true:=by kernel_rfl
theorem by4:Try.prog.bytesOf 4=1:=by kernel_rfl
theorem ze4:zeroOf Try.prog 4= [.t (.s (.bool false))]:=by kernel_rfl
theorem ct4:rz Try.prog 4= [none]:=by kernel_rfl
theorem zt4:zT Try.prog 3 4= [.s (.bool false)]:=by(first|kernel_rfl|rfl)
theorem zu4:zT Try.prog 4 4= [.s (.bool false)]:=by(first|kernel_rfl|rfl)
theorem ag5:sj Try.prog 5=false:=by kernel_rfl
theorem un5:(Try.prog.underlying 5).isSome=true:=by kernel_rfl
theorem sz5:Try.prog.cellsOf 5=1:=by kernel_rfl
theorem in5:(Try.prog.info? 5).isSome=true:=by kernel_rfl
theorem by5:Try.prog.bytesOf 5=1:=by kernel_rfl
theorem ze5:zeroOf Try.prog 5= [.t (.s (.int .u8 0))]:=by kernel_rfl
theorem ct5:rz Try.prog 5= [none]:=by kernel_rfl
theorem zt5:zT Try.prog 3 5= [.s (.int .u8 0)]:=by(first|kernel_rfl|rfl)
theorem zu5:zT Try.prog 4 5= [.s (.int .u8 0)]:=by(first|kernel_rfl|rfl)
theorem mi:sj Try.prog 75=false:=by kernel_rfl
theorem mq:(Try.prog.underlying 75).isSome=true:=by kernel_rfl
theorem mD:Try.prog.cellsOf 75=1:=by kernel_rfl
theorem mE:(Try.prog.info? 75).isSome=true:=by kernel_rfl
theorem mF:Try.prog.bytesOf 75=8:=by kernel_rfl
theorem mG:zeroOf Try.prog 75= [.t (.s (.int .i64 0))]:=by kernel_rfl
theorem mH:rz Try.prog 75= [none]:=by kernel_rfl
theorem mI:zT Try.prog 3 75= [.s (.int .i64 0)]:=by(first|kernel_rfl|rfl)
theorem mJ:zT Try.prog 4 75= [.s (.int .i64 0)]:=by(first|kernel_rfl|rfl)
theorem io3:zB Try.prog 3=some .i64:=by kernel_rfl
theorem mK:zB Try.prog 75=some .i64:=by kernel_rfl
theorem io5:zB Try.prog 5=some .u8:=by kernel_rfl
theorem bo4:Try.prog.underlying 4=some .bool:=by kernel_rfl
theorem mM:sj Try.prog 41=true:=by kernel_rfl
theorem mO:Try.prog.cellsOf 41=2:=by kernel_rfl
theorem mP:(Try.prog.info? 41).isSome=true:=by kernel_rfl
theorem mQ:Try.prog.bytesOf 41=32:=by kernel_rfl
theorem mR:fieldsOf Try.prog 41= [(0,1),(1,1)]:=by kernel_rfl
theorem mU:structOf Try.prog 41=true:=by kernel_rfl
theorem mV:zeroOf Try.prog 41= [.t (.s (.int .i64 0)), .nil]:=by kernel_rfl
theorem mW:rz Try.prog 41= [none,some 3]:=by kernel_rfl
theorem mX:zT Try.prog 3 41= [.s (.int .i64 0), .sl 3 1 0 (fun _=> [.s (.int .i64 0)])]:=by(first|kernel_rfl|rfl)
theorem mY:zT Try.prog 4 41= [.s (.int .i64 0), .sl 3 1 0 (fun _=> [.s (.int .i64 0)])]:=by(first|kernel_rfl|rfl)
theorem mZ:sj Try.prog 67=true:=by kernel_rfl
theorem ng:Try.prog.cellsOf 67=3:=by kernel_rfl
theorem ni:(Try.prog.info? 67).isSome=true:=by kernel_rfl
theorem nk:Try.prog.bytesOf 67=24:=by kernel_rfl
theorem nu:fieldsOf Try.prog 67= [(0,1),(1,1),(2,1)]:=by kernel_rfl
theorem ny:structOf Try.prog 67=true:=by kernel_rfl
theorem nz:zeroOf Try.prog 67= [.t (.s (.int .i64 0)), .t (.s (.int .i64 0)), .t (.s (.int .i64 0))]:=by kernel_rfl
theorem nA:rz Try.prog 67= [none,none,none]:=by kernel_rfl
theorem nC:zT Try.prog 3 67= [.s (.int .i64 0), .s (.int .i64 0), .s (.int .i64 0)]:=by(first|kernel_rfl|rfl)
theorem nD:zT Try.prog 4 67= [.s (.int .i64 0), .s (.int .i64 0), .s (.int .i64 0)]:=by(first|kernel_rfl|rfl)
theorem nE:sj Try.prog 69=true:=by kernel_rfl
theorem nG:Try.prog.cellsOf 69=3:=by kernel_rfl
theorem nH:(Try.prog.info? 69).isSome=true:=by kernel_rfl
theorem nI:Try.prog.bytesOf 69=56:=by kernel_rfl
theorem nJ:fieldsOf Try.prog 69= [(0,1),(1,1),(2,1)]:=by kernel_rfl
theorem nK:structOf Try.prog 69=true:=by kernel_rfl
theorem nL:zeroOf Try.prog 69= [.t (.s (.bool false)), .nil, .nil]:=by kernel_rfl
theorem nM:rz Try.prog 69= [none,some 3,some 3]:=by kernel_rfl
theorem nN:zT Try.prog 3 69= [.s (.bool false), .sl 3 1 0 (fun _=> [.s (.int .i64 0)]), .sl 3 1 0 (fun _=> [.s (.int .i64 0)])]:=by(first|kernel_rfl|rfl)
theorem nO:zT Try.prog 4 69= [.s (.bool false), .sl 3 1 0 (fun _=> [.s (.int .i64 0)]), .sl 3 1 0 (fun _=> [.s (.int .i64 0)])]:=by(first|kernel_rfl|rfl)
theorem nP:sj Try.prog 73=true:=by kernel_rfl
theorem nQ:Try.prog.cellsOf 73=4:=by kernel_rfl
theorem nR:(Try.prog.info? 73).isSome=true:=by kernel_rfl
theorem nS:Try.prog.bytesOf 73=32:=by kernel_rfl
theorem nT:fieldsOf Try.prog 73= [(0,1),(1,1),(2,1),(3,1)]:=by kernel_rfl
theorem nU:structOf Try.prog 73=true:=by kernel_rfl
theorem nV:zeroOf Try.prog 73= [.t (.s (.int .i64 0)), .t (.s (.int .i64 0)), .t (.s (.int .i64 0)), .t (.s (.int .i64 0))]:=by kernel_rfl
theorem nW:rz Try.prog 73= [none,none,none,none]:=by kernel_rfl
theorem nX:zT Try.prog 3 73= [.s (.int .i64 0), .s (.int .i64 0), .s (.int .i64 0), .s (.int .i64 0)]:=by(first|kernel_rfl|rfl)
theorem nY:zT Try.prog 4 73= [.s (.int .i64 0), .s (.int .i64 0), .s (.int .i64 0), .s (.int .i64 0)]:=by(first|kernel_rfl|rfl)
theorem nZ:sj Try.prog 35=true:=by kernel_rfl
theorem oh:Try.prog.cellsOf 35=8:=by kernel_rfl
theorem ol:(Try.prog.info? 35).isSome=true:=by kernel_rfl
theorem om:Try.prog.bytesOf 35=128:=by kernel_rfl
theorem oo:fieldsOf Try.prog 35= [(0,1),(1,1),(2,1),(3,1),(4,1),(5,1),(6,1),(7,1)]:=by kernel_rfl
theorem oq:structOf Try.prog 35=true:=by kernel_rfl
theorem ou:zeroOf Try.prog 35= [.t (.s (.int .i64 0)), .t (.s (.int .i64 0)), .nil, .t (.s (.int .i64 0)), .t (.s (.int .i64 0)), .nil, .nil, .nil]:=by kernel_rfl
theorem ow:rz Try.prog 35= [none,none,some 3,none,none,some 67,some 69,some 73]:=by kernel_rfl
theorem oz:zT Try.prog 3 35= [.s (.int .i64 0), .s (.int .i64 0), .sl 3 1 0 (fun _=> [.s (.int .i64 0)]), .s (.int .i64 0), .s (.int .i64 0), .sl 67 3 0 (fun _=> [.s (.int .i64 0), .s (.int .i64 0), .s (.int .i64 0)]), .sl 69 3 0 (fun _=> [.s (.bool false), .sl 3 1 0 (fun _=> [.s (.int .i64 0)]), .sl 3 1 0 (fun _=> [.s (.int .i64 0)])]), .sl 73 4 0 (fun _=> [.s (.int .i64 0), .s (.int .i64 0), .s (.int .i64 0), .s (.int .i64 0)])]:=by(first|kernel_rfl|rfl)
theorem oC:zT Try.prog 4 35= [.s (.int .i64 0), .s (.int .i64 0), .sl 3 1 0 (fun _=> [.s (.int .i64 0)]), .s (.int .i64 0), .s (.int .i64 0), .sl 67 3 0 (fun _=> [.s (.int .i64 0), .s (.int .i64 0), .s (.int .i64 0)]), .sl 69 3 0 (fun _=> [.s (.bool false), .sl 3 1 0 (fun _=> [.s (.int .i64 0)]), .sl 3 1 0 (fun _=> [.s (.int .i64 0)])]), .sl 73 4 0 (fun _=> [.s (.int .i64 0), .s (.int .i64 0), .s (.int .i64 0), .s (.int .i64 0)])]:=by(first|kernel_rfl|rfl)
theorem oD:sj Try.prog 26=true:=by kernel_rfl
theorem oF:Try.prog.cellsOf 26=2:=by kernel_rfl
theorem oG:(Try.prog.info? 26).isSome=true:=by kernel_rfl
theorem oH:Try.prog.bytesOf 26=48:=by kernel_rfl
theorem oI:fieldsOf Try.prog 26= [(0,1),(1,1)]:=by kernel_rfl
theorem oJ:structOf Try.prog 26=true:=by kernel_rfl
theorem oK:zeroOf Try.prog 26= [.nil, .nil]:=by kernel_rfl
theorem oL:rz Try.prog 26= [some 41,some 35]:=by kernel_rfl
theorem oM:zT Try.prog 3 26= [.sl 41 2 0 (fun _=> [.s (.int .i64 0), .sl 3 1 0 (fun _=> [.s (.int .i64 0)])]), .sl 35 8 0 (fun _=> [.s (.int .i64 0), .s (.int .i64 0), .sl 3 1 0 (fun _=> [.s (.int .i64 0)]), .s (.int .i64 0), .s (.int .i64 0), .sl 67 3 0 (fun _=> [.s (.int .i64 0), .s (.int .i64 0), .s (.int .i64 0)]), .sl 69 3 0 (fun _=> [.s (.bool false), .sl 3 1 0 (fun _=> []), .sl 3 1 0 (fun _=> [])]), .sl 73 4 0 (fun _=> [.s (.int .i64 0), .s (.int .i64 0), .s (.int .i64 0), .s (.int .i64 0)])])]:=by(first|kernel_rfl|rfl)
theorem oN:zT Try.prog 4 26= [.sl 41 2 0 (fun _=> [.s (.int .i64 0), .sl 3 1 0 (fun _=> [.s (.int .i64 0)])]), .sl 35 8 0 (fun _=> [.s (.int .i64 0), .s (.int .i64 0), .sl 3 1 0 (fun _=> [.s (.int .i64 0)]), .s (.int .i64 0), .s (.int .i64 0), .sl 67 3 0 (fun _=> [.s (.int .i64 0), .s (.int .i64 0), .s (.int .i64 0)]), .sl 69 3 0 (fun _=> [.s (.bool false), .sl 3 1 0 (fun _=> [.s (.int .i64 0)]), .sl 3 1 0 (fun _=> [.s (.int .i64 0)])]), .sl 73 4 0 (fun _=> [.s (.int .i64 0), .s (.int .i64 0), .s (.int .i64 0), .s (.int .i64 0)])])]:=by(first|kernel_rfl|rfl)
theorem oO:sj Try.prog 58=true:=by kernel_rfl
theorem oP:Try.prog.cellsOf 58=2:=by kernel_rfl
theorem oQ:(Try.prog.info? 58).isSome=true:=by kernel_rfl
theorem oU:Try.prog.bytesOf 58=32:=by kernel_rfl
theorem oV:fieldsOf Try.prog 58= [(0,1),(1,1)]:=by kernel_rfl
theorem oW:structOf Try.prog 58=true:=by kernel_rfl
theorem oZ:zeroOf Try.prog 58= [.nil, .t (.s (.int .i64 0))]:=by kernel_rfl
theorem o6:rz Try.prog 58= [some 5,none]:=by kernel_rfl
theorem o7:zT Try.prog 3 58= [.sl 5 1 0 (fun _=> [.s (.int .u8 0)]), .s (.int .i64 0)]:=by(first|kernel_rfl|rfl)
theorem o8:zT Try.prog 4 58= [.sl 5 1 0 (fun _=> [.s (.int .u8 0)]), .s (.int .i64 0)]:=by(first|kernel_rfl|rfl)
theorem iZ:sj Try.prog 104=true:=by kernel_rfl
theorem ja:Try.prog.cellsOf 104=1:=by kernel_rfl
theorem jb:(Try.prog.info? 104).isSome=true:=by kernel_rfl
theorem jc:Try.prog.bytesOf 104=1:=by kernel_rfl
theorem jd:fieldsOf Try.prog 104= [(0,1)]:=by kernel_rfl
theorem je:structOf Try.prog 104=true:=by kernel_rfl
theorem jf:zeroOf Try.prog 104= [.t (.s (.bool false))]:=by kernel_rfl
theorem jg:rz Try.prog 104= [none]:=by kernel_rfl
theorem jh:zT Try.prog 3 104= [.s (.bool false)]:=by(first|kernel_rfl|rfl)
theorem ji:zT Try.prog 4 104= [.s (.bool false)]:=by(first|kernel_rfl|rfl)
theorem jk:sj Try.prog 106=true:=by kernel_rfl
theorem jl:Try.prog.cellsOf 106=1:=by kernel_rfl
theorem jm:(Try.prog.info? 106).isSome=true:=by kernel_rfl
theorem jo:Try.prog.bytesOf 106=8:=by kernel_rfl
theorem jq:fieldsOf Try.prog 106= [(0,1)]:=by kernel_rfl
theorem jr:structOf Try.prog 106=true:=by kernel_rfl
theorem jv:zeroOf Try.prog 106= [.t (.s (.int .i64 0))]:=by kernel_rfl
theorem jw:rz Try.prog 106= [none]:=by kernel_rfl
theorem jy:zT Try.prog 3 106= [.s (.int .i64 0)]:=by(first|kernel_rfl|rfl)
theorem jA:zT Try.prog 4 106= [.s (.int .i64 0)]:=by(first|kernel_rfl|rfl)
theorem o9:sj Try.prog 77=true:=by kernel_rfl
theorem pg:Try.prog.cellsOf 77=2:=by kernel_rfl
theorem pu:(Try.prog.info? 77).isSome=true:=by kernel_rfl
theorem pz:Try.prog.bytesOf 77=16:=by kernel_rfl
theorem pE:fieldsOf Try.prog 77= [(0,1),(1,1)]:=by kernel_rfl
theorem pF:structOf Try.prog 77=true:=by kernel_rfl
theorem pG:zeroOf Try.prog 77= [.t (.s (.int .i64 0)), .t (.s (.int .i64 0))]:=by kernel_rfl
theorem pI:rz Try.prog 77= [none,none]:=by kernel_rfl
theorem pJ:zT Try.prog 3 77= [.s (.int .i64 0), .s (.int .i64 0)]:=by(first|kernel_rfl|rfl)
theorem pK:zT Try.prog 4 77= [.s (.int .i64 0), .s (.int .i64 0)]:=by(first|kernel_rfl|rfl)
theorem jB:Ch Try.prog 118=true:=by kernel_rfl
theorem jC:Try.prog.cellsOf 118=0:=by kernel_rfl
theorem jD:zeroOf Try.prog 118= []:=by kernel_rfl
theorem jE:sj Try.prog 118=true:=by kernel_rfl
theorem jF:Ch Try.prog 102=true:=by kernel_rfl
theorem jG:Try.prog.cellsOf 102=0:=by kernel_rfl
theorem jH:zeroOf Try.prog 102= []:=by kernel_rfl
theorem jI:sj Try.prog 102=true:=by kernel_rfl
theorem jJ:Ch Try.prog 119=true:=by kernel_rfl
theorem jK:Try.prog.cellsOf 119=0:=by kernel_rfl
theorem jL:zeroOf Try.prog 119= []:=by kernel_rfl
theorem jM:sj Try.prog 119=true:=by kernel_rfl
theorem jN:xx Try.prog 118=true:=by kernel_rfl
theorem jO:xP Try.prog 118=true:=by kernel_rfl
theorem jP:xx Try.prog 102=true:=by kernel_rfl
theorem jQ:xP Try.prog 102=true:=by kernel_rfl
theorem jR:xx Try.prog 119=true:=by kernel_rfl
theorem jS:xP Try.prog 119=true:=by kernel_rfl
theorem jT:xx Try.prog 104=true:=by kernel_rfl
theorem jU:xP Try.prog 104=true:=by kernel_rfl
theorem jV:xx Try.prog 106=true:=by kernel_rfl
theorem jW:xP Try.prog 106=true:=by kernel_rfl
theorem jX:zV Try.prog 118= .agg []:=by kernel_rfl
theorem jY:zV Try.prog 102= .agg []:=by kernel_rfl
theorem jZ:zV Try.prog 119= .agg []:=by kernel_rfl
theorem kg:zV Try.prog 104= .agg [.t (.s (.bool false))]:=by kernel_rfl
theorem ko:zV Try.prog 106= .agg [.t (.s (.int .i64 0))]:=by kernel_rfl
theorem mz:LG Try.prog 51= .agg [.t (.s (.int .i64 0)), .t (.s (.int .i64 0))]:=by kernel_rfl
theorem gH:su Try.prog 77 0=some 0:=by kernel_rfl
theorem gI:su Try.prog 77 1=some 1:=by kernel_rfl
theorem gJ:su Try.prog 67 0=some 0:=by kernel_rfl
theorem gK:su Try.prog 67 1=some 1:=by kernel_rfl
theorem gL:su Try.prog 67 2=some 2:=by kernel_rfl
theorem gN:su Try.prog 41 0=some 0:=by kernel_rfl
theorem gP:su Try.prog 41 1=some 1:=by kernel_rfl
theorem gQ:su Try.prog 69 0=some 0:=by kernel_rfl
theorem gT:su Try.prog 69 1=some 1:=by kernel_rfl
theorem gU:su Try.prog 69 2=some 2:=by kernel_rfl
theorem gV:su Try.prog 26 0=some 0:=by kernel_rfl
theorem gW:su Try.prog 26 1=some 1:=by kernel_rfl
theorem gX:su Try.prog 73 0=some 0:=by kernel_rfl
theorem gY:su Try.prog 73 1=some 1:=by kernel_rfl
theorem gZ:su Try.prog 73 2=some 2:=by kernel_rfl
theorem ib:su Try.prog 73 3=some 3:=by kernel_rfl
theorem pO:uU Try.prog 31=some 3:=by kernel_rfl
theorem pQ:sj Try.prog 31=false:=by kernel_rfl
theorem pR:(Try.prog.underlying 31).isSome=true:=by kernel_rfl
theorem pU:Try.prog.cellsOf 31=1:=by kernel_rfl
theorem pV:(Try.prog.info? 31).isSome=true:=by kernel_rfl
theorem pW:rz Try.prog 31= [some 3]:=by kernel_rfl
theorem pX:uU Try.prog 22=some 5:=by kernel_rfl
theorem pY:sj Try.prog 22=false:=by kernel_rfl
theorem p9:(Try.prog.underlying 22).isSome=true:=by kernel_rfl
theorem qa:Try.prog.cellsOf 22=1:=by kernel_rfl
theorem qb:(Try.prog.info? 22).isSome=true:=by kernel_rfl
theorem qc:rz Try.prog 22= [some 5]:=by kernel_rfl
theorem qd:uU Try.prog 23=some 41:=by kernel_rfl
theorem qf:sj Try.prog 23=false:=by kernel_rfl
theorem qg:(Try.prog.underlying 23).isSome=true:=by kernel_rfl
theorem qh:Try.prog.cellsOf 23=1:=by kernel_rfl
theorem qi:(Try.prog.info? 23).isSome=true:=by kernel_rfl
theorem qj:rz Try.prog 23= [some 41]:=by kernel_rfl
theorem ql:uU Try.prog 32=some 67:=by kernel_rfl
theorem qm:sj Try.prog 32=false:=by kernel_rfl
theorem qo:(Try.prog.underlying 32).isSome=true:=by kernel_rfl
theorem qp:Try.prog.cellsOf 32=1:=by kernel_rfl
theorem qw:(Try.prog.info? 32).isSome=true:=by kernel_rfl
theorem qx:rz Try.prog 32= [some 67]:=by kernel_rfl
theorem qy:uU Try.prog 30=some 69:=by kernel_rfl
theorem qz:sj Try.prog 30=false:=by kernel_rfl
theorem qA:(Try.prog.underlying 30).isSome=true:=by kernel_rfl
theorem qB:Try.prog.cellsOf 30=1:=by kernel_rfl
theorem qC:(Try.prog.info? 30).isSome=true:=by kernel_rfl
theorem qD:rz Try.prog 30= [some 69]:=by kernel_rfl
theorem qE:uU Try.prog 33=some 73:=by kernel_rfl
theorem qF:sj Try.prog 33=false:=by kernel_rfl
theorem qG:(Try.prog.underlying 33).isSome=true:=by kernel_rfl
theorem qH:Try.prog.cellsOf 33=1:=by kernel_rfl
theorem qI:(Try.prog.info? 33).isSome=true:=by kernel_rfl
theorem qJ:rz Try.prog 33= [some 73]:=by kernel_rfl
theorem qK:uU Try.prog 24=some 35:=by kernel_rfl
theorem qL:sj Try.prog 24=false:=by kernel_rfl
theorem qM:(Try.prog.underlying 24).isSome=true:=by kernel_rfl
theorem qN:Try.prog.cellsOf 24=1:=by kernel_rfl
theorem qO:(Try.prog.info? 24).isSome=true:=by kernel_rfl
theorem qP:rz Try.prog 24= [some 35]:=by kernel_rfl
theorem mix:Try.prog.follows .mixedOrders=true:=by kernel_rfl
end Go.Proofs.Ytojpejfcafbafaa.V
end
section
namespace Go.Proofs.Ytojpejfcafbafaa.V
open Go Go.RowKit
set_option linter.unusedVariables false
set_option linter.unusedSimpArgs false
attribute [local simp ↓] eG eH fQ fT eO dM fZ eP eQ gm gp gq dN dO dP gB gz gG gF dQ bW dV cz dJ dR eT eU eX
attribute [local simp] fU fV dK bR eF dL bS bT bU bV bM bN dS eY dU bX bY bZ cu bO fD lM iL dz iw evl dI eZ fu kD iX List.range List.range.loop lT kX fo fB iC iA Bs.live Bs.get lN WkV WkA WkC lg lH kY lD cZ iM TEq.refl bg fH yK ei d9 splice dE Bs.set kU fC Rn.at gu gy iF iD lL chunks lC fP toT fE iE rowsOf cB ik plR plV plC lF lI lQ lh fI iR lU
attribute [local simp low] xE xD xG
attribute [local simp] ag3 un3 sz3 in3 by3 ze3 ct3 zt3 zu3 ag4 un4 sz4 in4 by4 ze4 ct4 zt4 zu4 ag5 un5 sz5 in5 by5 ze5 ct5 zt5 zu5 mi mq mD mE mF mG mH mI mJ io3 mK io5 bo4 mM mO mP mQ mR mU mV mW mX mY mZ ng ni nk nu ny nz nA nC nD nE nG nH nI nJ nK nL nM nN nO nP nQ nR nS nT nU nV nW nX nY nZ oh ol om oo oq ou ow oz oC oD oF oG oH oI oJ oK oL oM oN oO oP oQ oU oV oW oZ o6 o7 o8 iZ ja jb jc jd je jf jg jh ji jk jl jm jo jq jr jv jw jy jA o9 pg pu pz pE pF pG pI pJ pK jB jC jD jE jF jG jH jI jJ jK jL jM jN jO jP jQ jR jS jT jU jV jW jX jY jZ kg ko mz gH gI gJ gK gL gN gP gQ gT gU gV gW gX gY gZ ib pO pQ pR pU pV pW pX pY p9 qa qb qc qd qf qg qh qi qj ql qm qo qp qw qx qy qz qA qB qC qD qE qF qG qH qI qJ qK qL qM qN qO qP mix
def eb (n:Int):List T:= [.s (.int .u8 n)]
attribute [local simp] eb
abbrev rdB (bs:List Int) (p:Int):Blk:= .box 58 [.t (.sl 5 1 bs.length (fl 0 eb bs)), .t (.i p)]
theorem wr {x:Int} (h: -9223372036854775808≤x) (h' :x<9223372036854775808):IntKind.i64.wrap x=x:=by rw[IntKind.wrap_i64];omega
theorem Ol {h : Int} (h0 : 0 ≤ h) (h1 : h < 4611686018427387904) :0≤IntKind.i64.wrap (↑((h % 2 ^ IntKind.i64.bits).toNat ^^^ (IntKind.i64.wrap (h.tdiv 64) % 2 ^ IntKind.i64.bits).toNat):Int):=by
  have e1:(h.tdiv 64)=h / 64:=Int.tdiv_eq_ediv_of_nonneg h0
  have e2:IntKind.i64.wrap (h / 64)=h / 64:=wr (by omega) (by omega)
  have e3:(2:Int) ^ IntKind.i64.bits=18446744073709551616:=by decide
  rw[e1,e2,e3]
  have l1 : (h % 18446744073709551616).toNat < 2 ^ 62 := by have:(h % 18446744073709551616)=h:=by omega
                                                            rw[this];omega
  have l2 : (h / 64 % 18446744073709551616).toNat < 2 ^ 62 := by have:(h / 64 % 18446744073709551616)=h / 64:=by omega
                                                                 rw[this];omega
  have l3:=Nat.xor_lt_two_pow l1 l2
  rw[wr (by omega) (by omega)]
  omega
set_option maxRecDepth 20000 in
set_option maxHeartbeats 4000000 in
theorem Nc (bs:List Int) (p n:Int) (hb: ∀x∈bs,0≤x∧x<256) (hl:bs.length≤2000) (h0:0≤p) (h1:p<1000000000):
    Ct Try.prog 18 [.c (.ptr 0 0 0), .i n] [(0,some (rdB bs p))] (fun r B=> ∃x,r= .i x∧(1≤n→0≤x∧x<n)∧(n<1→x=0)∧B= [(0,some (rdB bs (p+1)))]):=by
  refine Oj Try.func18 rfl rfl rfl ?_
  have w1:IntKind.i64.wrap (p+1)=p+1:=by rw[IntKind.wrap_i64];omega
  have w2:IntKind.i64.wrap (p+1 - 1)=p:=by rw[IntKind.wrap_i64];omega
  have w3:IntKind.i64.wrap p=p:=by rw[IntKind.wrap_i64];omega
  have hbj: ∀j:Nat,0≤bs[j]?.getD 0∧bs[j]?.getD 0<256:=fun j=>by
    cases hj:bs[j]? with
    |none=>simp
    |some x=>exact hb x (List.mem_of_getElem? hj)
  have w4: ∀j:Nat,IntKind.i64.wrap (bs[j]?.getD 0)=bs[j]?.getD 0:=fun j=>by have:=hbj j;rw[IntKind.wrap_i64];omega
  rcases Int.lt_or_le n 1 with hn|hn
  · simp+contextual (maxSteps:=2000000) [w1,w2,w3,hn]
    omega
  · have hn' : ¬n<1:=by omega
    have hn0: ¬n=0:=by omega
    simp+contextual (maxSteps:=2000000) [w1,w2,w3,w4,hn,hn',hn0]
    refine⟨by omega,fun hq=>⟨fun h2=>⟨h0, ?_, ?_⟩,fun h2=> ?_⟩⟩
    ·exact Int.tmod_nonneg _ (hbj _).1
    ·exact Int.tmod_lt_of_pos _ (by omega)
    refine aT (by decide) [[], [0], [1,0], [2,1,0], [], [], [5], [6,5], [7,6,5], [8,7,6,5], [4,9,8,7,6,5], [3,10,2,1,0,4,9,8,7,6,5], [11,3,10,2,1,0,4,9,8,7,6,5], [12,11,3,10,2,1,0,4,9,8,7,6,5], [13,12,11,3,10,2,1,0,4,9,8,7,6,5], [], [15], [16,15], [17,16,15], [], [19], [20,19], [], [22], [23,22], [24,23,22], [25,24,23,22], [21,26,20,19,25,24,23,22], [18,27,17,16,15,21,26,20,19,25,24,23,22], [28,18,27,17,16,15,21,26,20,19,25,24,23,22], [29,28,18,27,17,16,15,21,26,20,19,25,24,23,22], [30,29,28,18,27,17,16,15,21,26,20,19,25,24,23,22], [14,31,13,12,11,3,10,2,1,0,4,9,8,7,6,5,30,29,28,18,27,17,16,15,21,26,20,19,25,24,23,22], [], [33], [32,34,14,31,13,12,11,3,10,2,1,0,4,9,8,7,6,5,30,29,28,18,27,17,16,15,21,26,20,19,25,24,23,22,33], [], [], [37], [38,37], [39,38,37], [40,39,38,37], [36,41,40,39,38,37], [42,36,41,40,39,38,37], [35,43,32,34,14,31,13,12,11,3,10,2,1,0,4,9,8,7,6,5,30,29,28,18,27,17,16,15,21,26,20,19,25,24,23,22,33,42,36,41,40,39,38,37], [44,0,1,2,3,4,5,6,7,8,9,10,11,12,13,14,15,16,17,18,19,20,21,22,23,24,25,26,27,28,29,30,31,32,33,34,35,36,37,38,39,40,41,42,43]] [47,48,49,50,51,52,53,54,55,56,57,58,59,60,61,62,63,64,65,66,67,68,69,70,71,72,73,74,75,76,77,78,79,80,81,82,83,84,85,86,87,88,89,90,91,6] [0,1,2,3,4,5,6,7,8,9,10,11,12,13,14,15,16,17,18,19,20,21,22,23,24,25,26,27,28,29,30,31,32,33,34,35,36,37,38,39,40,41,42,43,44,45] (by kernel_rfl) ?_
    simp+contextual (maxSteps:=2000000) [w1,w2,w3,w4,hn,hn',hn0,aj,ah,ae,ai,ak,au,af]
    have hl0:0<(bs.length:Int):=by
      have:=List.length_pos_iff.2 hq;omega
    have td:0≤p.tdiv bs.length∧p.tdiv bs.length≤p:=⟨Int.tdiv_nonneg h0 (by omega),Int.tdiv_le_self _ h0⟩
    have w5:IntKind.i64.wrap (p * 7)=p * 7:=wr (by omega) (by omega)
    have w6:IntKind.i64.wrap (p * 7+3)=p * 7+3:=wr (by omega) (by omega)
    have w7: ∀j:Nat,IntKind.i64.wrap (bs[j]?.getD 0 * 131)=bs[j]?.getD 0 * 131:=fun j=>by have:=hbj j;exact wr (by omega) (by omega)
    have w8: ∀j:Nat,IntKind.i64.wrap (bs[j]?.getD 0 * 1117)=bs[j]?.getD 0 * 1117:=fun j=>by have:=hbj j;exact wr (by omega) (by omega)
    have w9: ∀j k:Nat,IntKind.i64.wrap (bs[j]?.getD 0 * 131+bs[k]?.getD 0 * 1117)=bs[j]?.getD 0 * 131+bs[k]?.getD 0 * 1117:=fun j k=>by have:=hbj j;have:=hbj k;exact wr (by omega) (by omega)
    have a:IntKind.i64.wrap (p * 29)=p * 29:=wr (by omega) (by omega)
    have d: ∀j k:Nat,IntKind.i64.wrap (bs[j]?.getD 0 * 131+bs[k]?.getD 0 * 1117+p * 29)=bs[j]?.getD 0 * 131+bs[k]?.getD 0 * 1117+p * 29:=fun j k=>by have:=hbj j;have:=hbj k;exact wr (by omega) (by omega)
    have e:IntKind.i64.wrap (p.tdiv bs.length)=p.tdiv bs.length:=wr (by omega) (by omega)
    have g:IntKind.i64.wrap (p.tdiv bs.length * 53)=p.tdiv bs.length * 53:=wr (by omega) (by omega)
    have h: ∀j k:Nat,IntKind.i64.wrap (bs[j]?.getD 0 * 131+bs[k]?.getD 0 * 1117+p * 29+p.tdiv bs.length * 53)=bs[j]?.getD 0 * 131+bs[k]?.getD 0 * 1117+p * 29+p.tdiv bs.length * 53:=fun j k=>by have:=hbj j;have:=hbj k;exact wr (by omega) (by omega)
    simp only[w5,w6,w7,w8,w9,a,d,e,g,h]
    refine⟨hq,⟨Int.tmod_nonneg _ h0,Int.tmod_lt_of_pos _ hl0⟩,hq,⟨Int.tmod_nonneg _ (by omega),Int.tmod_lt_of_pos _ hl0⟩,hq,Int.tmod_nonneg _ (Ol ?_ ?_),Int.tmod_lt_of_pos _ (by omega)⟩
    ·have:=hbj (p.tmod bs.length).toNat;have:=hbj ((p * 7+3).tmod bs.length).toNat;omega
    ·have:=hbj (p.tmod bs.length).toNat;have:=hbj ((p * 7+3).tmod bs.length).toNat;omega
end Go.Proofs.Ytojpejfcafbafaa.V
end
section
namespace Go.Proofs.Ytojpejfcafbafaa.V
open Go Go.RowKit
set_option linter.unusedVariables false
set_option linter.unusedSimpArgs false
def zf (bs:List Int):Prop:=(∀x∈bs,0≤x∧x<256)∧bs.length≤2000
def HV (P:Program) (g:Nat) (c:Int) (xs:List V) (φ:V→Prop):Prop:= ∀bs p,zf bs→0≤p→p+c≤1000000000→
  Ct P g (.c (.ptr 0 0 0)::xs) [(0,some (rdB bs p))] fun r B=> ∃p',p≤p' ∧p' ≤p+c∧φ r∧B= [(0,some (rdB bs p'))]
theorem KZ {P:Program} {cl:Call} {dst:Option Tmp} {ev:Operand→V} {B:Bs} {g:Nat} {xs:List V} {k:Nat} {blk:Blk} (bs es:List Nat) {R:V→Blk→Prop} (hc:cl.callee= .value (.func g)) (hg:uR P g=true)
    (hB:B.live k=some blk) (hcl:closedB blk=true) (ct:Ct P g xs [(0,some blk)] (fun r B' => ∃b',R r b' ∧B' = [(0,some b')])) (hp:dx [k] bs B (cl.args.toList.map ev) xs)
    (hb: ∀k' ∈bs,k' ≠k∧∃e s n f,e∈es∧B.live k' =some (.row e s n f))
    (hn: ∀r b',R r b' →iQ r=true∧closedB b' =true∧(∀e∈es,NoV e r∧NoB e b')∧kr (ren (dst.getD 0) [k]) r=r):
    CallAt P cl dst (dst.getD 0) ev B [k] bs (fun v u=> ∃b',R v b' ∧u= [(k,some b')]):=by
  refine⟨g,xs,es,_,hc,hg,⟨by simp,by simp, ?_, ?_⟩,hp,by simp only[dw];rw[hB];exact ct, ?_⟩
  ·intro k' hk;obtain rfl:=List.mem_singleton.1 hk;exact⟨blk,hB,hcl⟩
  ·intro k' hk;obtain⟨h1,e,s,n,f,_,h⟩:=hb k' hk;exact⟨by simpa using h1,e,s,n,f,h⟩
  · rintro res B' ⟨b',h1,rfl⟩
    obtain⟨h2,h3,h4,h5⟩:=hn res b' h1
    refine⟨⟨by simp, ?_, ?_, ?_,fun k' hk=>(hb k' hk).2⟩,h2,fun e he=>(h4 e he).1, ?_,b',by rw[h5];exact h1,rfl⟩
    ·intro q y hm hq;simp only[List.mem_singleton,Prod.mk.injEq]at hm;omega
    ·intro q y hm hq;simp only[List.mem_singleton,Prod.mk.injEq]at hm;simp[hm.1]
    ·intro q b hm;simp only[List.mem_singleton,Prod.mk.injEq,Option.some.injEq]at hm;obtain⟨_,rfl⟩:=hm;exact⟨h3,fun e he=>(h4 e he).2⟩
    ·intro p hm;obtain rfl:=List.mem_singleton.1 hm;exact⟨by show(0:Nat)<1000;omega,fun h=>absurd (by show(0:Nat)<100;omega) h⟩
section
variable {P:Program} {cl:Call} {dst:Option Tmp} {ts:List V} {B:Bs} {g:Nat} {xs:List V} {k:Nat} {bs:List Int} {p c:Int} {φ:V→Prop} {K:List V→Bs→Prop}
variable {pt:List (List Nat)} {ds:List Nat} {i:Nat} {tr:Tr} {KD:Tr→List V→Bs→Prop}
theorem MJ (us es:List Nat) (ct:HV P g c xs φ) (hc:cl.callee= .value (.func g)) (hg:uR P g=true) (hB:B.live k=some (rdB bs p)) (h0:zf bs∧0≤p∧p+c≤1000000000)
    (hp:dx [k] us B (cl.args.toList.map (evl ts)) (.c (.ptr 0 0 0)::xs)) (hb: ∀k' ∈us,k' ≠k∧∃e s n f,e∈es∧B.live k' =some (.row e s n f))
    (hn: ∀r,φ r→iQ r=true∧(∀e∈es,NoV e r)∧kr (ren (dst.getD 0) [k]) r=r) (hn' : ∀e∈es,e∈ownTys):
    CallAt P cl dst (dst.getD 0) (evl ts) B [k] us (fun v u=> ∃b',(∃p',p≤p' ∧p' ≤p+c∧φ v∧b' =rdB bs p')∧u= [(k,some b')]):=by
  refine KZ us es hc hg hB rfl ((ct bs p h0.1 h0.2.1 h0.2.2).mono ?_) hp hb ?_
  ·rintro r B' ⟨p',h1,h2,h3,rfl⟩;exact⟨_,⟨p',h1,h2,h3,rfl⟩,rfl⟩
  · rintro r b' ⟨p',h1,h2,h3,rfl⟩
    obtain⟨h4,h5,h6⟩:=hn r h3
    refine⟨h4,rfl,fun e he=>⟨h5 e he, ?_⟩,h6⟩
    intro x hx
    simp only[List.mem_cons,List.not_mem_nil,or_false]at hx
    rcases hx with rfl|rfl
    · refine NoTy.sl _ _ _ _ ⟨fun h=>Cg (hn' e he) h.symm,fun _=>hn' e he⟩ (fun j o y hj hx=> ?_)
      have hx:=List.mem_of_getElem? hx
      simp only[fl,eb,List.mem_singleton]at hx;subst hx;exact .s _
    ·exact NoTy.s _
theorem Me {a:Bs} (us es:List Nat) (ct:HV P g c xs φ) (hc:cl.callee= .value (.func g)) (hg:uR P g=true) (hB:B.live k=some (rdB bs p)) (h0:zf bs∧0≤p∧p+c≤1000000000)
    (hp:dx [k] us B (cl.args.toList.map (evl ts)) (.c (.ptr 0 0 0)::xs)) (hb: ∀k' ∈us,k' ≠k∧∃e s n f,e∈es∧B.live k' =some (.row e s n f))
    (hn: ∀r,φ r→iQ r=true∧(∀e∈es,NoV e r)∧kr (ren (dst.getD 0) [k]) r=r) (hn' : ∀e∈es,e∈ownTys)
    (h: ∀r p',φ r→p≤p' →p' ≤p+c→K (dI ts dst r) (B.set k (some (rdB bs p')))):vX P a cl dst ts B K:=
  .inl ⟨[k],us,_,MJ us es ct hc hg hB h0 hp hb hn hn',by rintro v u ⟨b',⟨p',h1,h2,h3,rfl⟩,rfl⟩;exact h v p' h3 h1 h2⟩
theorem HY (us es:List Nat) (ct:HV P g c xs φ) (hc:cl.callee= .value (.func g)) (hg:uR P g=true) (hB:B.live k=some (rdB bs p)) (h0:zf bs∧0≤p∧p+c≤1000000000)
    (hp:dx [k] us B (cl.args.toList.map (evl ts)) (.c (.ptr 0 0 0)::xs)) (hb: ∀k' ∈us,k' ≠k∧∃e s n f,e∈es∧B.live k' =some (.row e s n f))
    (hn: ∀r,φ r→iQ r=true∧(∀e∈es,NoV e r)∧kr (ren (dst.getD 0) [k]) r=r) (hn' : ∀e∈es,e∈ownTys) (hk:aj pt ds i us [k] tr=true)
    (h: ∀r p',φ r→p≤p' →p' ≤p+c→KD ((i,us, [k])::tr) (dI ts dst r) (B.set k (some (rdB bs p')))):zi P cl dst ts B pt ds i tr KD:=
  ⟨[k],us,_,MJ us es ct hc hg hB h0 hp hb hn hn',hk,by rintro v u ⟨b',⟨p',h1,h2,h3,rfl⟩,rfl⟩;exact h v p' h3 h1 h2⟩
end
def NN (n:Int) (r:V):Prop:= ∃x,r= .i x∧(1≤n→0≤x∧x<n)∧(n<1→x=0)
theorem Jh (n:Int):HV Try.prog 18 1 [.i n] (NN n):=fun bs p h1 h2 h3=>(Nc bs p n h1.1 h1.2 h2 (by omega)).mono (by rintro r B ⟨x,h4,h5,h6,h7⟩;exact⟨p+1,by omega,by omega,⟨x,h4,h5,h6⟩,h7⟩)
section
variable {cl:Call} {d:Nat} {ts:List V} {B:Bs} {k:Nat} {bs:List Int} {p n:Int} {K:List V→Bs→Prop} {ty:Array Nat} {o o' :Operand}
variable {pt:List (List Nat)} {ds:List Nat} {i:Nat} {tr:Tr} {KD:Tr→List V→Bs→Prop}
theorem rQ {a:Bs} (n:Int) (k:Nat) (p:Int) (bs:List Int) (h1:evl ts o= .c (.ptr k 0 0)) (h2:evl ts o' = .i n) (hB:B.live k=some (rdB bs p)) (h0:zf bs∧0≤p∧p+1≤1000000000)
    (h: ∀x p',1≤n→0≤x∧x<n→p≤p' →p' ≤p+1→K (ts.set d (.i x)) (B.set k (some (rdB bs p')))) (hn:1≤n):vX Try.prog a ⟨.value (.func 18),#[o,o'],ty⟩ (some d) ts B K:=
  Me [] [] (Jh n) rfl rfl hB h0 (by show dx _ _ _ [evl ts o,evl ts o'] _;rw[h1,h2];exact⟨⟨rfl,rfl,rfl⟩,rfl,trivial⟩) (by simp) (by rintro r ⟨x,rfl,_⟩;exact⟨rfl,by simp,rfl⟩) (by simp)
    (by rintro r p' ⟨x,rfl,h5,_⟩ h3 h4;exact h x p' hn (h5 hn) h3 h4)
theorem vS (n:Int) (k:Nat) (p:Int) (bs:List Int) (h1:evl ts o= .c (.ptr k 0 0)) (h2:evl ts o' = .i n) (hB:B.live k=some (rdB bs p)) (h0:zf bs∧0≤p∧p+1≤1000000000) (hk:aj pt ds i [] [k] tr=true)
    (h: ∀x p',1≤n→0≤x∧x<n→p≤p' →p' ≤p+1→KD ((i, [], [k])::tr) (ts.set d (.i x)) (B.set k (some (rdB bs p')))) (hn:1≤n):zi Try.prog ⟨.value (.func 18),#[o,o'],ty⟩ (some d) ts B pt ds i tr KD:=
  HY [] [] (Jh n) rfl rfl hB h0 (by show dx _ _ _ [evl ts o,evl ts o'] _;rw[h1,h2];exact⟨⟨rfl,rfl,rfl⟩,rfl,trivial⟩) (by simp) (by rintro r ⟨x,rfl,_⟩;exact⟨rfl,by simp,rfl⟩) (by simp) hk
    (by rintro r p' ⟨x,rfl,h5,_⟩ h3 h4;exact h x p' hn (h5 hn) h3 h4)
end
theorem Ji {R:V→Bs→Prop} {v:V} {B:Bs} {bs:List Int} {p p0:Int} (hB:B.live 0=some (rdB bs p)) (ho:ik v) (h:R (plR B v) [(0,some (rdB bs p))]):yl [(0,some (rdB bs p0))] R v B:=
  L6 (t:=58) (xs:= [.sl 5 1 bs.length (fl 0 eb bs), .i p]) (ys:= [.sl 5 1 bs.length (fl 0 eb bs), .i p0]) hB ho h
end Go.Proofs.Ytojpejfcafbafaa.V
end
section
namespace Go.Proofs.Ytojpejfcafbafaa.V
open Go Go.RowKit
set_option linter.unusedVariables false
set_option linter.unusedSimpArgs false
attribute [local simp ↓] eG eH fQ fT eO dM fZ eP eQ gm gp gq dN dO dP gB gz gG gF dQ bW dV cz dJ dR eT eU eX
attribute [local simp] fU fV dK bR eF dL bS bT bU bV bM bN dS eY dU bX bY bZ cu bO fD lM iL dz iw evl dI eZ fu kD iX List.range List.range.loop lT kX fo fB iC iA Bs.live Bs.get lN WkV WkA WkC lg lH kY lD cZ iM TEq.refl bg fH yK ei d9 splice dE Bs.set kU fC Rn.at gu gy iF iD lL chunks lC fP toT fE iE rowsOf cB ik plR plV plC lF lI lQ lh fI iR lU
attribute [local simp low] xE xD xG
attribute [local simp] ag3 un3 sz3 in3 by3 ze3 ct3 zt3 zu3 ag4 un4 sz4 in4 by4 ze4 ct4 zt4 zu4 ag5 un5 sz5 in5 by5 ze5 ct5 zt5 zu5 mi mq mD mE mF mG mH mI mJ io3 mK io5 bo4 mM mO mP mQ mR mU mV mW mX mY mZ ng ni nk nu ny nz nA nC nD nE nG nH nI nJ nK nL nM nN nO nP nQ nR nS nT nU nV nW nX nY nZ oh ol om oo oq ou ow oz oC oD oF oG oH oI oJ oK oL oM oN oO oP oQ oU oV oW oZ o6 o7 o8 iZ ja jb jc jd je jf jg jh ji jk jl jm jo jq jr jv jw jy jA o9 pg pu pz pE pF pG pI pJ pK jB jC jD jE jF jG jH jI jJ jK jL jM jN jO jP jQ jR jS jT jU jV jW jX jY jZ kg ko mz gH gI gJ gK gL gN gP gQ gT gU gV gW gX gY gZ ib pO pQ pR pU pV pW pX pY p9 qa qb qc qd qf qg qh qi qj ql qm qo qp qw qx qy qz qA qB qC qD qE qF qG qH qI qJ qK qL qM qN qO qP mix
attribute [local simp] eb
def small (m:Int) (r:V):Prop:= ∃x,r= .i x∧ -m≤x∧x≤m
def xR (n x:Int):Prop:=x=1∨x=3∨x=4∨(8≤x∧x<8+n)
set_option maxRecDepth 20000 in
theorem Mf (n:Int) (a:1≤n) (hn:n≤1000):HV Try.prog 56 2 [.i n] (fun r=> ∃x,r= .i x∧xR n x):=by
  intro bs p hb h0 h1
  refine bF Try.func56 rfl rfl rfl ?_
  simp (maxSteps:=2000000)
  refine rQ _ _ _ _ rfl rfl rfl ⟨hb,by omega,by omega⟩ (fun x p1 _ hx hp hp' => ?_) (by omega)
  simp (maxSteps:=2000000)
  have hc:x=0∨x=1∨x=2∨x=3∨x=4∨x=5:=by omega
  rcases hc with rfl|rfl|rfl|rfl|rfl|rfl<;>simp (maxSteps:=2000000)
  iterate 4
    · refine Ji rfl rfl ?_
      simp
      exact⟨p1,by omega,by omega,by unfold xR;omega,rfl⟩
  all_goals
    refine rQ _ _ _ _ rfl rfl rfl ⟨hb,by omega,by omega⟩ (fun x p2 _ hx hp hp' => ?_) (by omega)
    simp (maxSteps:=2000000)
    refine Ji rfl rfl ?_
    simp
    refine⟨p2,by omega,by omega, ?_,rfl⟩
    rw[wr (by omega) (by omega)];unfold xR;omega
end Go.Proofs.Ytojpejfcafbafaa.V
end
section
namespace Go.Proofs.Ytojpejfcafbafaa.P
open Go.RowKit Go.Proofs.YtojpejfcafbafaaW.PrintWords Go.Proofs.YtojpejfcafbafaaW.PrintLast Go.Proofs.YtojpejfcafbafaaW.PrintMore
attribute [local go_sem] bn bq bP bQ aW aX bu bv
set_option linter.unusedVariables false
set_option linter.unusedSimpArgs false
structure S41 where
  f0:Int
  f1:(List Int)
def z41:S41:=⟨(0:Int),([]:List Int)⟩
def lm (xs:List S41) (i:Int):S41:=xs.getD i.toNat z41
structure S67 where
  f0:Int
  f1:Int
  f2:Int
def z67:S67:=⟨(0:Int),(0:Int),(0:Int)⟩
def bB (xs:List S67) (i:Int):S67:=xs.getD i.toNat z67
structure S69 where
  f0:Bool
  f1:(List Int)
  f2:(List Int)
def z69:S69:=⟨false,([]:List Int),([]:List Int)⟩
def kw (xs:List S69) (i:Int):S69:=xs.getD i.toNat z69
structure S73 where
  f0:Int
  f1:Int
  f2:Int
  f3:Int
def z73:S73:=⟨(0:Int),(0:Int),(0:Int),(0:Int)⟩
def fJ (xs:List S73) (i:Int):S73:=xs.getD i.toNat z73
structure S35 where
  f0:Int
  f1:Int
  f2:(List Int)
  f3:Int
  f4:Int
  f5:(List S67)
  f6:(List S69)
  f7:(List S73)
def z35:S35:=⟨(0:Int),(0:Int),([]:List Int),(0:Int),(0:Int),([]:List S67),([]:List S69),([]:List S73)⟩
def ay (xs:List S35) (i:Int):S35:=xs.getD i.toNat z35
end Go.Proofs.Ytojpejfcafbafaa.P
end
section
namespace Go.Proofs.Ytojpejfcafbafaa.V
open Go Go.RowKit Go.Proofs.Ytojpejfcafbafaa.P
set_option linter.unusedVariables false
set_option linter.unusedSimpArgs false
attribute [local simp ↓] eG eH fQ fT eO dM fZ eP eQ gm gp gq dN dO dP gB gz gG gF dQ bW dV cz dJ dR eT eU eX
attribute [local simp] fU fV dK bR eF dL bS bT bU bV bM bN dS eY dU bX bY bZ cu bO fD lM iL dz iw evl dI eZ fu kD iX List.range List.range.loop lT kX fo fB iC iA Bs.live Bs.get lN WkV WkA WkC lg lH kY lD cZ iM TEq.refl bg fH yK ei d9 splice dE Bs.set kU fC Rn.at gu gy iF iD lL chunks lC fP toT fE iE rowsOf cB ik plR plV plC lF lI lQ lh fI iR lU
attribute [local simp low] xE xD xG
attribute [local simp] ag3 un3 sz3 in3 by3 ze3 ct3 zt3 zu3 ag4 un4 sz4 in4 by4 ze4 ct4 zt4 zu4 ag5 un5 sz5 in5 by5 ze5 ct5 zt5 zu5 mi mq mD mE mF mG mH mI mJ io3 mK io5 bo4 mM mO mP mQ mR mU mV mW mX mY mZ ng ni nk nu ny nz nA nC nD nE nG nH nI nJ nK nL nM nN nO nP nQ nR nS nT nU nV nW nX nY nZ oh ol om oo oq ou ow oz oC oD oF oG oH oI oJ oK oL oM oN oO oP oQ oU oV oW oZ o6 o7 o8 iZ ja jb jc jd je jf jg jh ji jk jl jm jo jq jr jv jw jy jA o9 pg pu pz pE pF pG pI pJ pK jB jC jD jE jF jG jH jI jJ jK jL jM jN jO jP jQ jR jS jT jU jV jW jX jY jZ kg ko mz gH gI gJ gK gL gN gP gQ gT gU gV gW gX gY gZ ib pO pQ pR pU pV pW pX pY p9 qa qb qc qd qf qg qh qi qj ql qm qo qp qw qx qy qz qA qB qC qD qE qF qG qH qI qJ qK qL qM qN qO qP mix
attribute [local simp] eb
def eC (c:S41):List T:= [.s (.int .i64 c.f0), .ints c.f1]
attribute [local simp] eC
abbrev tC (cs:List S41):T:= .l 41 2 z41 eC cs
theorem FN {α:Type} {d:α} {en:α→List T} {z:List T} {rows:List (List T)} (xs:List α) (h:z=en d) (h2:rows=xs.map en):fE z rows=fl d en xs:=by
  subst h;subst h2
  funext j
  simp only[fE,fl,List.getD_eq_getElem?_getD,List.getElem?_map]
  cases xs[j]? <;>rfl
theorem EN {α:Type} {d x:α} {en:α→List T} {xs:List α} {z r:List T} (h:r=en x):vR (xs.length+1) (uk xs.length (fl d en xs) (fE z [r])) (fl d en (xs++ [x])):=fun j hj=>by
  left
  unfold uk
  by_cases h1:j<xs.length
  ·rw[if_pos h1];simp[fl,List.getD_eq_getElem?_getD,List.getElem?_append,h1]
  · rw[if_neg h1]
    have h2:j=xs.length:=by omega
    subst h2;simp[fl,fE,List.getD_eq_getElem?_getD,h]
def Om (n:Int) (i:Nat) (c:S41):Prop:=(i=0→c=⟨-1, []⟩)∧(i=1→c=⟨0, [1]⟩)∧(0<i→0≤c.f0∧c.f0<i)∧c.f1.length≤2∧∀t∈c.f1,xR n t
def Bc (n:Int) (cs:List S41):Prop:= ∀i c,cs[i]? =some c→Om n i c
theorem JO (n:Int) (hn:0≤n):Bc n [⟨-1, []⟩,⟨0, [1]⟩]:=fun i c h=>by
  rcases i with _|_|i
  ·simp at h;subst h;exact⟨fun _=>rfl,by omega,by omega,by simp,by simp⟩
  ·simp at h;subst h;exact⟨by omega,fun _=>rfl,fun _=>⟨by simp,by simp⟩,by simp,by intro t ht;simp at ht;subst ht;exact .inl rfl⟩
  ·simp at h
theorem JP {n:Int} {cs:List S41} {s:Int} {fs:List Int} (h:Bc n cs) (h2:2≤cs.length) (h0:0≤s) (h1:s<cs.length) (hf:fs.length≤2) (ht: ∀t∈fs,xR n t):Bc n (cs++ [⟨s,fs⟩]):=fun i c hc=>by
  rcases Nat.lt_or_ge i cs.length with hi|hi
  ·rw[List.getElem?_append_left hi]at hc;exact h i c hc
  · rw[List.getElem?_append_right hi]at hc
    have:i=cs.length:=by
      rcases Nat.lt_or_ge (i - cs.length) 1 with h|h
      ·omega
      ·rw[List.getElem?_eq_none (by simpa using h)]at hc;cases hc
    subst this
    simp at hc;subst hc
    exact⟨by omega,by omega,fun _=>⟨h0,h1⟩,hf,ht⟩
structure ClsI1 (bs:List Int) (x p1:Int) (n:Nat) (ts:List V) (B:Bs):Prop where
  out: ∃(c p2:Int) (cs:List S41),n=(2+x - c).toNat∧2≤c∧c≤2+x∧p1≤p2∧p2≤p1+6 * (c - 2)∧(cs.length:Int)=c∧Bc (2+x) cs∧ts= [.c (.ptr 0 0 0), .dead, .dead, .i (2+x), .c (.own 114 2 cs.length), .i c, .dead, .dead, .dead, .dead, .dead, .dead, .dead, .dead, .dead, .dead, .dead, .dead, .dead, .dead, .dead, .dead, .dead, .dead, .dead, .dead, .dead, .dead, .dead, .dead, .dead, .dead, .dead, .dead, .dead, .dead, .dead, .dead, .dead, .dead, .dead, .dead, .dead]∧B= [(0,some (rdB bs p2)),(114,some (.row 41 2 cs.length (fl z41 eC cs)))]
structure ClsI2 (bs:List Int) (x p4 c:Int) (cs:List S41) (s k0:Int) (n:Nat) (ts:List V) (B:Bs):Prop where
  out: ∃(k p5:Int) (fs:List Int),n=k.toNat∧0≤k∧k≤k0∧p4≤p5∧p5≤p4+2 * (k0 - k)∧(fs.length:Int)=k0 - k∧(∀t∈fs,xR (2+x) t)∧ts= [.c (.ptr 0 0 0), .dead, .dead, .i (2+x), .c (.own 114 2 cs.length), .i c, .c (.ptr 106 0 0), .i k, .dead, .dead, .dead, .dead, .dead, .dead, .dead, .dead, .dead, .dead, .dead, .dead, .dead, .dead, .dead, .dead, .dead, .dead, .dead, .dead, .dead, .dead, .dead, .dead, .dead, .dead, .dead, .dead, .dead, .dead, .dead, .dead, .dead, .dead, .dead]∧B= [(0,some (rdB bs p5)),(114,some (.row 41 2 cs.length (fl z41 eC cs))),(106,some (.box 41 [.t (.i s), .own 200 1 fs.length])),(200,some (.row 3 1 fs.length (fl 0 ei fs)))]
end Go.Proofs.Ytojpejfcafbafaa.V
end
section
namespace Go.Proofs.Ytojpejfcafbafaa.V
open Go Go.RowKit Go.Proofs.Ytojpejfcafbafaa.P
set_option linter.unusedVariables false
set_option linter.unusedSimpArgs false
attribute [local simp ↓] eG eH fQ fT eO dM fZ eP eQ gm gp gq dN dO dP gB gz gG gF dQ bW dV cz dJ dR eT eU eX
attribute [local simp] fU fV dK bR eF dL bS bT bU bV bM bN dS eY dU bX bY bZ cu bO fD lM iL dz iw evl dI eZ fu kD iX List.range List.range.loop lT kX fo fB iC iA Bs.live Bs.get lN WkV WkA WkC lg lH kY lD cZ iM TEq.refl bg fH yK ei d9 splice dE Bs.set kU fC Rn.at gu gy iF iD lL chunks lC fP toT fE iE rowsOf cB ik plR plV plC lF lI lQ lh fI iR lU
attribute [local simp low] xE xD xG
attribute [local simp] ag3 un3 sz3 in3 by3 ze3 ct3 zt3 zu3 ag4 un4 sz4 in4 by4 ze4 ct4 zt4 zu4 ag5 un5 sz5 in5 by5 ze5 ct5 zt5 zu5 mi mq mD mE mF mG mH mI mJ io3 mK io5 bo4 mM mO mP mQ mR mU mV mW mX mY mZ ng ni nk nu ny nz nA nC nD nE nG nH nI nJ nK nL nM nN nO nP nQ nR nS nT nU nV nW nX nY nZ oh ol om oo oq ou ow oz oC oD oF oG oH oI oJ oK oL oM oN oO oP oQ oU oV oW oZ o6 o7 o8 iZ ja jb jc jd je jf jg jh ji jk jl jm jo jq jr jv jw jy jA o9 pg pu pz pE pF pG pI pJ pK jB jC jD jE jF jG jH jI jJ jK jL jM jN jO jP jQ jR jS jT jU jV jW jX jY jZ kg ko mz gH gI gJ gK gL gN gP gQ gT gU gV gW gX gY gZ ib pO pQ pR pU pV pW pX pY p9 qa qb qc qd qf qg qh qi qj ql qm qo qp qw qx qy qz qA qB qC qD qE qF qG qH qI qJ qK qL qM qN qO qP mix
attribute [local simp] eb eC
def eI (x:S67):List T:= [.i x.f0, .i x.f1, .i x.f2]
def eS (s:S69):List T:= [.b s.f0, .ints s.f1, .ints s.f2]
def eK (c:S73):List T:= [.i c.f0, .i c.f1, .i c.f2, .i c.f3]
abbrev tI (xs:List S67):T:= .l 67 3 z67 eI xs
abbrev tS (xs:List S69):T:= .l 69 3 z69 eS xs
abbrev tK (xs:List S73):T:= .l 73 4 z73 eK xs
def eM (m:S35):List T:= [.i m.f0, .i m.f1, .ints m.f2, .i m.f3, .i m.f4,tI m.f5,tS m.f6,tK m.f7]
abbrev tM (xs:List S35):T:= .l 35 8 z35 eM xs
structure SigI (bs:List Int) (n p4 o k0:Int) (m:Nat) (ts:List V) (B:Bs):Prop where
  out: ∃(k p5:Int) (fs:List Int),m=k.toNat∧0≤k∧k≤k0∧p4≤p5∧p5≤p4+2 * (k0 - k)∧(fs.length:Int)=k0 - k∧(∀t∈fs,xR n t)∧
    ts= [.c (.ptr 0 0 0), .i n, .dead, .dead, .c (.ptr 104 0 0), .c (.ptr 105 0 0), .i k, .dead, .dead, .dead, .dead, .dead, .dead, .dead, .dead, .dead, .dead, .dead, .dead, .dead, .dead, .dead, .dead, .dead, .dead, .dead]∧
    B= [(0,some (rdB bs p5)),(104,some (.box 35 [.t (.i 0), .t (.i 0), .nil, .t (.i 0), .t (.i 0), .nil, .nil, .nil])),(105,some (.box 35 [.t (.i 0), .t (.i 0), .own 200 1 fs.length, .t (.i o), .t (.i 0), .nil, .nil, .nil])),(200,some (.row 3 1 fs.length (fl 0 ei fs)))]
end Go.Proofs.Ytojpejfcafbafaa.V
end
section
namespace Go.Proofs.Ytojpejfcafbafaa.V
open Go Go.RowKit Go.Proofs.Ytojpejfcafbafaa.P
set_option linter.unusedVariables false
set_option linter.unusedSimpArgs false
theorem IV {α:Type} {d:α} {en:α→List T} {z:List T} {rows:List (List T)} {n:Nat} (xs:List α) (h:z=en d) (h2:rows=xs.map en):vR n (fE z rows) (fl d en xs):=by rw[FN xs h h2];exact bg _ _
attribute [local simp ↓] eG eH fQ fT eO dM fZ eP eQ gm gp gq dN dO dP gB gz gG gF dQ bW dV cz dJ dR eT eU eX
attribute [local simp] fU fV dK bR eF dL bS bT bU bV bM bN dS eY dU bX bY bZ cu bO fD lM iL dz iw evl dI eZ fu kD iX List.range List.range.loop lT kX fo fB iC iA Bs.live Bs.get lN WkV WkA WkC lg lH kY lD cZ iM TEq.refl bg fH yK ei d9 splice dE Bs.set kU fC Rn.at gu gy iF iD lL chunks lC fP toT fE iE rowsOf cB ik plR plV plC lF lI lQ lh fI iR lU
attribute [local simp low] xE xD xG
attribute [local simp] ag3 un3 sz3 in3 by3 ze3 ct3 zt3 zu3 ag4 un4 sz4 in4 by4 ze4 ct4 zt4 zu4 ag5 un5 sz5 in5 by5 ze5 ct5 zt5 zu5 mi mq mD mE mF mG mH mI mJ io3 mK io5 bo4 mM mO mP mQ mR mU mV mW mX mY mZ ng ni nk nu ny nz nA nC nD nE nG nH nI nJ nK nL nM nN nO nP nQ nR nS nT nU nV nW nX nY nZ oh ol om oo oq ou ow oz oC oD oF oG oH oI oJ oK oL oM oN oO oP oQ oU oV oW oZ o6 o7 o8 iZ ja jb jc jd je jf jg jh ji jk jl jm jo jq jr jv jw jy jA o9 pg pu pz pE pF pG pI pJ pK jB jC jD jE jF jG jH jI jJ jK jL jM jN jO jP jQ jR jS jT jU jV jW jX jY jZ kg ko mz gH gI gJ gK gL gN gP gQ gT gU gV gW gX gY gZ ib pO pQ pR pU pV pW pX pY p9 qa qb qc qd qf qg qh qi qj ql qm qo qp qw qx qy qz qA qB qC qD qE qF qG qH qI qJ qK qL qM qN qO qP mix
attribute [local simp] eb eC eI eS eK eM
end Go.Proofs.Ytojpejfcafbafaa.V
end
section
namespace Go.Proofs.Ytojpejfcafbafaa.P
open Go.RowKit Go.Proofs.YtojpejfcafbafaaW.PrintWords Go.Proofs.YtojpejfcafbafaaW.PrintLast Go.Proofs.YtojpejfcafbafaaW.PrintMore
attribute [local go_sem] bn bq bP bQ aW aX bu bv
set_option linter.unusedVariables false
set_option linter.unusedSimpArgs false
def rR.f:Nat→List (S41)→Int→Option (List Int)
  |0,_,_=>none
  |k+1,l0,a1=>if a1=0 then(some (([]:List Int)))else(if 0≤a1 then(if a1<(l0.length:Int)then((rR.f k l0 ((lm l0 a1).f0)).bind fun a=>(if a.length+((lm l0 a1).f1).length<17592186044416 then(some (a++((lm l0 a1).f1)))else(none)))else(none))else(none))
end Go.Proofs.Ytojpejfcafbafaa.P
end
section
namespace Go.Proofs.Ytojpejfcafbafaa.V
open Go Go.RowKit Go.Proofs.Ytojpejfcafbafaa.P
set_option linter.unusedVariables false
set_option linter.unusedSimpArgs false
abbrev nm (d:Nat):Nat:=1000 * (d+1)+900
def EO (P:Program) (g:Nat) (xs:List V) (e sz n:Nat) (f:Nat→List T):Prop:=Ct P g xs [] (fun r B' =>r= .c (.own 900 sz n)∧B' = [(900,some (.row e sz n f))])
theorem Ef {R:V→Bs→Prop} {B:Bs} {k e sz n:Nat} {f:Nat→List T} (g:Nat→List T) (hB:B.live k=some (.row e sz n f)) (hg:vR n f g) (h:R (.c (.own 900 sz n)) [(900,some (.row e sz n g))]):yl [] R (.c (.own k sz n)) B:=
  ⟨.c (.own 900 sz n), [(900,some (.row e sz n g))],rJ (r:= [(900,k)]) ⟨⟨⟨rfl,rfl,rfl,rfl⟩,trivial⟩,⟨⟨_,hB,rfl,rfl,rfl,hg⟩,trivial⟩,by simp[cZ,Rn.at],trivial⟩,h⟩
theorem EP {P:Program} {cl:Call} {d:Nat} {ev:Operand→V} {B:Bs} {g:Nat} {xs:List V} {e sz n:Nat} {f:Nat→List T} (bs es:List Nat) (hc:cl.callee= .value (.func g)) (hg:uR P g=true)
    (ct:EO P g xs e sz n f) (hp:dx [] bs B (cl.args.toList.map ev) xs) (hb: ∀k∈bs,∃e s n f,e∈es∧B.live k=some (.row e s n f)) (hf:B.get (nm d)=none) (hn: ∀e' ∈es,NoB e' (.row e sz n f)):
    CallAt P cl (some d) d ev B [] bs (fun v u=>v= .c (.own (nm d) sz n)∧u= [(nm d,some (.row e sz n f))]):=by
  refine⟨g,xs,es,_,hc,hg,⟨List.nodup_nil,by simp,by simp,fun k hk=>⟨by simp, ?_⟩⟩,hp,ct, ?_⟩
  ·obtain⟨e,s,n,f,_,h⟩:=hb k hk;exact⟨e,s,n,f,h⟩
  · rintro res B' ⟨rfl,rfl⟩
    refine⟨⟨by simp, ?_, ?_, ?_,hb⟩,rfl,fun _ _=>trivial, ?_,rfl,rfl⟩
    ·intro q y hm _;simp only[List.mem_singleton,Prod.mk.injEq]at hm;rw[hm.1];exact hf
    ·intro q y hm hq;simp only[List.mem_singleton,Prod.mk.injEq]at hm;omega
    ·intro q b hm;simp only[List.mem_singleton,Prod.mk.injEq,Option.some.injEq]at hm;obtain⟨_,rfl⟩:=hm;exact⟨rfl,hn⟩
    ·intro p hm;obtain rfl:=List.mem_singleton.1 hm;exact⟨by show(900:Nat)<1000;omega,fun _=>rfl⟩
theorem Ar {a:Bs} {P:Program} {cl:Call} {d:Nat} {ts:List V} {B:Bs} {g:Nat} {xs:List V} {e sz n:Nat} {f:Nat→List T} {K:List V→Bs→Prop} (bs es:List Nat) (hc:cl.callee= .value (.func g)) (hg:uR P g=true)
    (ct:EO P g xs e sz n f) (hp:dx [] bs B (cl.args.toList.map (evl ts)) xs) (hb: ∀k∈bs,∃e s n f,e∈es∧B.live k=some (.row e s n f)) (hf:B.get (nm d)=none) (hn: ∀e' ∈es,NoB e' (.row e sz n f))
    (h:K (ts.set d (.c (.own (nm d) sz n))) (B.set (nm d) (some (.row e sz n f)))):vX P a cl (some d) ts B K:=
  .inl ⟨[],bs,_,EP bs es hc hg ct hp hb hf hn,by rintro v u ⟨rfl,rfl⟩;exact h⟩
theorem Au {P:Program} {cl:Call} {d:Nat} {ts:List V} {B:Bs} {g:Nat} {xs:List V} {e sz n:Nat} {f:Nat→List T} {pt:List (List Nat)} {ds:List Nat} {i:Nat} {tr:Tr} {K:Tr→List V→Bs→Prop} (bs es:List Nat) (hc:cl.callee= .value (.func g)) (hg:uR P g=true)
    (ct:EO P g xs e sz n f) (hp:dx [] bs B (cl.args.toList.map (evl ts)) xs) (hb: ∀k∈bs,∃e s n f,e∈es∧B.live k=some (.row e s n f)) (hf:B.get (nm d)=none) (hn: ∀e' ∈es,NoB e' (.row e sz n f)) (hk:aj pt ds i bs [] tr=true)
    (h:K ((i,bs, [])::tr) (ts.set d (.c (.own (nm d) sz n))) (B.set (nm d) (some (.row e sz n f)))):zi P cl (some d) ts B pt ds i tr K:=
  ⟨[],bs,_,EP bs es hc hg ct hp hb hf hn,hk,by rintro v u ⟨rfl,rfl⟩;exact h⟩
theorem EQ {α:Type} {d:α} {en:α→List T} {xs ys:List α} {n:Nat}:vR n (uk xs.length (fl d en xs) (fl d en ys)) (fl d en (xs++ys)):=fun j hj=>by
  left
  unfold uk
  by_cases h1:j<xs.length
  ·rw[if_pos h1];simp[fl,List.getD_eq_getElem?_getD,List.getElem?_append,h1]
  ·rw[if_neg h1];simp[fl,List.getD_eq_getElem?_getD,List.getElem?_append,h1]
attribute [local simp ↓] eG eH fQ fT eO dM fZ eP eQ gm gp gq dN dO dP gB gz gG gF dQ bW dV cz dJ dR eT eU eX
attribute [local simp] fU fV dK bR eF dL bS bT bU bV bM bN dS eY dU bX bY bZ cu bO fD lM iL dz iw evl dI eZ fu kD iX List.range List.range.loop lT kX fo fB iC iA Bs.live Bs.get lN WkV WkA WkC lg lH kY lD cZ iM TEq.refl bg fH yK ei d9 splice dE Bs.set kU fC Rn.at gu gy iF iD lL chunks lC fP toT fE iE rowsOf cB ik plR plV plC lF lI lQ lh fI iR lU
attribute [local simp low] xE xD xG
attribute [local simp] ag3 un3 sz3 in3 by3 ze3 ct3 zt3 zu3 ag4 un4 sz4 in4 by4 ze4 ct4 zt4 zu4 ag5 un5 sz5 in5 by5 ze5 ct5 zt5 zu5 mi mq mD mE mF mG mH mI mJ io3 mK io5 bo4 mM mO mP mQ mR mU mV mW mX mY mZ ng ni nk nu ny nz nA nC nD nE nG nH nI nJ nK nL nM nN nO nP nQ nR nS nT nU nV nW nX nY nZ oh ol om oo oq ou ow oz oC oD oF oG oH oI oJ oK oL oM oN oO oP oQ oU oV oW oZ o6 o7 o8 iZ ja jb jc jd je jf jg jh ji jk jl jm jo jq jr jv jw jy jA o9 pg pu pz pE pF pG pI pJ pK jB jC jD jE jF jG jH jI jJ jK jL jM jN jO jP jQ jR jS jT jU jV jW jX jY jZ kg ko mz gH gI gJ gK gL gN gP gQ gT gU gV gW gX gY gZ ib pO pQ pR pU pV pW pX pY p9 qa qb qc qd qf qg qh qi qj ql qm qo qp qw qx qy qz qA qB qC qD qE qF qG qH qI qJ qK qL qM qN qO qP mix
attribute [local simp] eb eC eI eS eK eM nm lm
set_option maxRecDepth 20000 in
theorem xS (cs:List S41): ∀(k:Nat) (c:Int) (r:List Int),rR.f k cs c=some r→EO Try.prog 74 [.c (.t (tC cs)), .i c] 3 1 r.length (fl 0 ei r)
  |0,c,r,h=>by cases h
  | k + 1,c,r,h=>by
    unfold rR.f at h
    refine bF Try.func74 rfl rfl rfl ?_
    simp (maxSteps:=2000000)
    refine⟨fun h1=> ?_,fun h1=> ?_⟩
    · rw[if_pos h1]at h;cases h
      refine Ef _ rfl ?_ ⟨rfl,rfl⟩
      exact fun j hj=>absurd hj (by simp)
    · rw[if_neg h1]at h
      split at h<;>try cases h
      split at h<;>try cases h
      rename_i h2 h3
      cases hr:rR.f k cs (lm cs c).f0 with
      |none=>rw[hr]at h;cases h
      | some r1=>
        rw[hr]at h
        simp only[Option.bind]at h
        split at h<;>try cases h
        rename_i h4
        refine aT (by decide) [[], [], [], [1,2], [3,1,2], [4,3,1,2], [0,5,4,3,1,2], [], [], [7,8], [9,7,8], [10,9,7,8], [6,11,0,5,4,3,1,2,10,9,7,8], [12,0,1,2,3,4,5,6,7,8,9,10,11]] [8,9,10,11,12,13,14,15,16,17,18,19,20,4] [0,1,2,3,4,5,7,8,9,10,11,6,12,13] (by kernel_rfl) ?_
        simp (maxSteps:=2000000) [aj,ah,ae,ai,ak,au,af]
        refine⟨⟨h2,h3⟩, ?_⟩
        refine Au [] [] rfl rfl (xS cs k _ _ hr) ⟨rfl,rfl,trivial⟩ (by simp) rfl (by simp) rfl ?_
        simp (maxSteps:=2000000) [aj,ah,ae,ai,ak,au,af]
        simp at h4
        refine⟨⟨by unfold maxLen;omega,by omega⟩,Ef _ rfl EQ ⟨rfl,rfl⟩⟩
end Go.Proofs.Ytojpejfcafbafaa.V
end
section
namespace Go.Proofs.Ytojpejfcafbafaa.P
open Go.RowKit Go.Proofs.YtojpejfcafbafaaW.PrintWords Go.Proofs.YtojpejfcafbafaaW.PrintLast Go.Proofs.YtojpejfcafbafaaW.PrintMore
attribute [local go_sem] bn bq bP bQ aW aX bu bv
set_option linter.unusedVariables false
set_option linter.unusedSimpArgs false
def iK.f (a0:Int) (a1:Int) (a2:Int):Option (Bool):=if a0≥a1 then(some (decide (a0≤a2)))else(some false)
def uB.f (a0:Int):Option (Bool):=some (decide (a0≥2))
def tN.l0:Nat→List (S41)→Int→Int→Option (Bool)
  |0,_,_,_=>none
  |k+1,x0,x1,x2=>if x1>x2 then(if 0≤x1 then(if x1<(x0.length:Int)then(tN.l0 k x0 ((lm x0 x1).f0) x2)else(none))else(none))else(some (x1==x2))
def tN.f (k:Nat) (l0:List (S41)) (a1:Int) (a2:Int):Option (Bool):=tN.l0 k l0 a1 a2
mutual
def lq.j0:Nat→List (S41)→Int→Int→Bool→Option (Bool)
  |0,_,_,_,_=>none
  |k+1,x0,x1,x2,d=>if d=true then(some true)else(if x1=2 then((uB.f x2).bind fun a=>(some a))else((uB.f x1).bind fun c=>(if c=true then(lq.j1 k x0 x1 x2 (decide (x2<8)))else(lq.j1 k x0 x1 x2 true))))
def lq.j1:Nat→List (S41)→Int→Int→Bool→Option (Bool)
  |0,_,_,_,_=>none
  |k+1,x0,x1,x2,x24=>if x24=true then(some false)else(if x1<8 then(some (x2==8))else((tN.f k x0 (wrap64 (x1 - 8)) (wrap64 (x2 - 8))).bind fun a=>(some a)))
end
def lq.f (k:Nat) (l0:List (S41)) (a1:Int) (a2:Int):Option (Bool):=if a1=a2 then(lq.j0 k l0 a1 a2 true)else(lq.j0 k l0 a1 a2 (a2==0))
def uz.l0:Nat→List (S41)→Int→Int→Option (Int)
  |0,_,_,_=>none
  |k+1,x0,x1,x2=>(tN.f k x0 x2 x1).bind fun a=>(if a=true then(some x1)else(if 0≤x1 then(if x1<(x0.length:Int)then(uz.l0 k x0 ((lm x0 x1).f0) x2)else(none))else(none)))
def uz.f (k:Nat) (l0:List (S41)) (a1:Int) (a2:Int):Option (Int):=uz.l0 k l0 a1 a2
def qW.j0:Nat→List (S41)→Int→Int→Bool→Option (Int)
  |0,_,_,_,_=>none
  |k+1,x0,x1,x2,x24=>if x24=true then(some 0)else(if x1<8 then(some 8)else(if x2<8 then(some 8)else((uz.f k x0 (wrap64 (x1 - 8)) (wrap64 (x2 - 8))).bind fun a=>(some (wrap64 (8+a))))))
def qW.f (k:Nat) (l0:List (S41)) (a1:Int) (a2:Int):Option (Int):=(lq.f k l0 a1 a2).bind fun a=>(if a=true then(some a2)else((lq.f k l0 a2 a1).bind fun c=>(if c=true then(some a1)else((uB.f a1).bind fun d=>(if d=true then((uB.f a2).bind fun e=>(qW.j0 k l0 a1 a2 (!e)))else(qW.j0 k l0 a1 a2 true))))))
end Go.Proofs.Ytojpejfcafbafaa.P
end
section
namespace Go.Proofs.Ytojpejfcafbafaa.V
open Go Go.RowKit Go.Proofs.Ytojpejfcafbafaa.P
set_option linter.unusedVariables false
set_option linter.unusedSimpArgs false
def iU (P:Program) (g:Nat) (xs:List V) (v:V):Prop:=Ct P g xs [] (fun r B' =>r=v∧B' = [])
theorem av {a:Bs} {P:Program} {cl:Call} {dst:Option Tmp} {ts:List V} {B:Bs} {g:Nat} {xs:List V} {v:V} {K:List V→Bs→Prop} (ct:iU P g xs v) (hc:cl.callee= .value (.func g)) (hg:uR P g=true) (hp:dx [] [] B (cl.args.toList.map (evl ts)) xs)
    (hn:iQ v=true∧kr (ren (dst.getD 0) []) v=v) (h:K (dI ts dst v) B):vX P a cl dst ts B K:=
  EK [] [] (φ:=(·=v)) ct hc hg hp (by simp) (by rintro r rfl;exact⟨hn.1,by simp,hn.2⟩) (by rintro r rfl;exact h)
theorem bf {P:Program} {cl:Call} {dst:Option Tmp} {ts:List V} {B:Bs} {g:Nat} {xs:List V} {v:V} {pt:List (List Nat)} {ds:List Nat} {i:Nat} {tr:Tr} {K:Tr→List V→Bs→Prop} (ct:iU P g xs v) (hc:cl.callee= .value (.func g)) (hg:uR P g=true) (hp:dx [] [] B (cl.args.toList.map (evl ts)) xs)
    (hn:iQ v=true∧kr (ren (dst.getD 0) []) v=v) (hk:aj pt ds i [] [] tr=true) (h:K ((i, [], [])::tr) (dI ts dst v) B):zi P cl dst ts B pt ds i tr K:=
  JI [] [] (φ:=(·=v)) ct hc hg hp (by simp) (by rintro r rfl;exact⟨hn.1,by simp,hn.2⟩) hk (by rintro r rfl;exact h)
theorem ig (n:Int):wrap64 n=IntKind.i64.wrap n:=by rw[IntKind.wrap_i64];unfold wrap64;rfl
attribute [local simp ↓] eG eH fQ fT eO dM fZ eP eQ gm gp gq dN dO dP gB gz gG gF dQ bW dV cz dJ dR eT eU eX
attribute [local simp] fU fV dK bR eF dL bS bT bU bV bM bN dS eY dU bX bY bZ cu bO fD lM iL dz iw evl dI eZ fu kD iX List.range List.range.loop lT kX fo fB iC iA Bs.live Bs.get lN WkV WkA WkC lg lH kY lD cZ iM TEq.refl bg fH yK ei d9 splice dE Bs.set kU fC Rn.at gu gy iF iD lL chunks lC fP toT fE iE rowsOf cB ik plR plV plC lF lI lQ lh fI iR lU
attribute [local simp low] xE xD xG
attribute [local simp] ag3 un3 sz3 in3 by3 ze3 ct3 zt3 zu3 ag4 un4 sz4 in4 by4 ze4 ct4 zt4 zu4 ag5 un5 sz5 in5 by5 ze5 ct5 zt5 zu5 mi mq mD mE mF mG mH mI mJ io3 mK io5 bo4 mM mO mP mQ mR mU mV mW mX mY mZ ng ni nk nu ny nz nA nC nD nE nG nH nI nJ nK nL nM nN nO nP nQ nR nS nT nU nV nW nX nY nZ oh ol om oo oq ou ow oz oC oD oF oG oH oI oJ oK oL oM oN oO oP oQ oU oV oW oZ o6 o7 o8 iZ ja jb jc jd je jf jg jh ji jk jl jm jo jq jr jv jw jy jA o9 pg pu pz pE pF pG pI pJ pK jB jC jD jE jF jG jH jI jJ jK jL jM jN jO jP jQ jR jS jT jU jV jW jX jY jZ kg ko mz gH gI gJ gK gL gN gP gQ gT gU gV gW gX gY gZ ib pO pQ pR pU pV pW pX pY p9 qa qb qc qd qf qg qh qi qj ql qm qo qp qw qx qy qz qA qB qC qD qE qF qG qH qI qJ qK qL qM qN qO qP mix
attribute [local simp] eb eC eI eS eK eM nm
theorem si (a b c:Int) (r:Bool) (h:iK.f a b c=some r):iU Try.prog 27 [.i a, .i b, .i c] (.b r):=by
  unfold iK.f at h
  refine bF Try.func27 rfl rfl rfl ?_
  by_cases h1:b≤a
  ·rw[if_pos h1]at h;cases h;simp (maxSteps:=2000000) [h1];refine um rfl ?_;simp
  ·rw[if_neg h1]at h;cases h;simp (maxSteps:=2000000) [h1];refine um rfl ?_;simp
theorem xH (a:Int) (r:Bool) (h:uB.f a=some r):iU Try.prog 76 [.i a] (.b r):=by
  unfold uB.f at h
  refine bF Try.func76 rfl rfl rfl ?_
  simp (maxSteps:=2000000)
  cases h
  refine um rfl ?_
  simp
theorem GG (k:Nat) (cs:List S41) (a b:Int) (r:Bool) (h:tN.f k cs a b=some r):iU Try.prog 54 [.c (.t (tC cs)), .i a, .i b] (.b r):=by
  refine bF Try.func54 rfl rfl rfl ?_
  simp (maxSteps:=2000000)
  refine Ao (fun n ts B=> ∃a,tN.l0 n cs a b=some r∧ts= [.c (.t (tC cs)), .i a, .i b, .dead, .dead, .dead, .b false, .dead, .dead, .dead, .dead, .dead, .dead, .dead, .dead, .dead, .dead, .dead]∧B= []) k _ _ (rJ (r:= []) ?_) ⟨a,h,rfl,rfl⟩ ?_
  ·constructor<;>simp
  rintro n ts B ⟨a,h,rfl,rfl⟩
  simp (maxSteps:=2000000)
  rcases n with _|n
  ·cases h
  simp only[tN.l0]at h
  refine⟨fun h1=> ?_,fun h1=> ?_⟩
  · rw[if_pos h1]at h
    split at h<;>try cases h
    split at h<;>try cases h
    refine⟨⟨by assumption,by assumption⟩,n,by omega,_,_,rJ (r:= []) ?_,_,h,rfl,rfl⟩
    constructor<;>simp[lm]
  · rw[if_neg (by omega)]at h
    cases h
    refine um rfl ?_
    simp
theorem ER (k:Nat) (cs:List S41) (a b:Int) (r:Bool) (h:lq.f k cs a b=some r):iU Try.prog 80 [.c (.t (tC cs)), .i a, .i b] (.b r):=by
  unfold lq.f at h
  refine bF Try.func80 rfl rfl rfl ?_
  rcases k with _|k
  ·split at h<;>cases h
  simp only[lq.j0]at h
  by_cases e1:a=b∨b=0
  · have:r=true:=by
      rcases e1 with rfl|rfl
      ·simpa using h.symm
      · by_cases e:a=0
        ·rw[if_pos e]at h;simpa using h.symm
        ·rw[if_neg e]at h;simpa using h.symm
    subst this
    rcases e1 with rfl|rfl
    · simp (maxSteps:=2000000)
      refine um rfl ?_
      simp
    · by_cases e:a=0
      · simp (maxSteps:=2000000) [e]
        refine um rfl ?_
        simp
      · simp (maxSteps:=2000000) [e]
        refine um rfl ?_
        simp
  · have e2 : ¬a=b:=fun e=>e1 (.inl e)
    have e3: ¬b=0:=fun e=>e1 (.inr e)
    simp[e2,e3]at h
    simp (maxSteps:=2000000) [e2,e3]
    refine⟨fun e4=> ?_,fun e4=> ?_⟩
    · refine av (xH b _ rfl) rfl rfl ⟨rfl,trivial⟩ ⟨rfl,rfl⟩ ?_
      simp[e4,uB.f]at h
      simp (maxSteps:=2000000)
      refine um rfl ?_
      simp[h]
    · refine av (xH a _ rfl) rfl rfl ⟨rfl,trivial⟩ ⟨rfl,rfl⟩ ?_
      simp only[uB.f,Option.bind,if_neg e4]at h
      by_cases e5:2≤a
      · simp (maxSteps:=2000000) [e5]
        simp[e5]at h
        rcases k with _|k
        ·cases h
        simp only[lq.j1]at h
        by_cases e6:b<8
        · have e6' : ¬8≤b:=by omega
          simp (maxSteps:=2000000) [e6,e6']
          simp[e6]at h
          subst h
          refine um rfl ?_
          simp
        · have e6' :8≤b:=by omega
          simp[e6]at h
          simp (maxSteps:=2000000) [e6,e6']
          refine⟨fun e7=> ?_,fun e7=> ?_⟩
          · rw[if_pos e7]at h;cases h
            refine um rfl ?_
            simp
          · rw[if_neg (by omega),ig,ig]at h
            refine av (GG k cs _ _ _ h) rfl rfl ⟨rfl,rfl,rfl,trivial⟩ ⟨rfl,rfl⟩ ?_
            simp (maxSteps:=2000000)
            refine um rfl ?_
            simp
      · have e5' :a<2:=by omega
        simp[e5]at h
        rcases k with _|k
        ·cases h
        simp[lq.j1]at h
        subst h
        simp (maxSteps:=2000000) [e5]
        refine um rfl ?_
        simp
end Go.Proofs.Ytojpejfcafbafaa.V
end
