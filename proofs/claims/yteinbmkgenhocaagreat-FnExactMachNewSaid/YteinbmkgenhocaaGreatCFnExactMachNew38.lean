/- A part of the claim FnExactMachNew. -/
import Derived.Deep.Slices
import Derived.Lib.SmallJoins
import Derived.DataReads
import Derived.WideShapes
import Derived.Test.YteinbmkgenhocaaGreatCFnExactMachNew37
section
namespace Go.Proofs.YteinbmkgenhocaaGreat.Kit
open Go Go.RowKit Go.Proofs.YteinbmkgenhocaaGreatW.PrintWords Go.Proofs.YteinbmkgenhocaaGreat.P
set_option linter.unusedVariables false
theorem dI {p:Prop} (h: ¬p):(false=true)↔p:=⟨fun h2=>(by cases h2),fun h2=>absurd h2 h⟩
theorem gJ {p:Prop} (h:p):(true=true)↔p:=⟨fun _=>h,fun _=>rfl⟩
theorem Up.via {cs:List Cls} {a b p:Nat} (hp:sup cs a=(p:Int)) (hne:a≠b):Up cs a b↔Up cs p b:=by
  constructor
  · intro h
    rcases h.inv with rfl|⟨q,hq,h2⟩
    ·exact absurd rfl hne
    · have:p=q:=by omega
      subst this
      exact h2
  ·intro h;exact .step p hp h
theorem pI {cs:List Cls} (h:ClsOk cs) (b:Nat): ∀a:Nat,a<cs.length→Evp (fun k=>eG.f k cs (a:Int) (b:Int)) (fun r=>r=true↔Up cs a b):=by
  intro a
  induction a using Nat.strongRecOn with
  | _ a ih=>
    intro ha
    unfold eG.f at ih⊢
    refine Evp.step (f:=fun k=>_) (fun k=>by rw[eG.l0,lY]) (Evp.ite (fun hab=> ?_) (fun hab=>Evp.pure _ ?_))
    · obtain⟨p,hp,hlt⟩:=h.sup_nat (by omega:1≤a) ha
      refine Evp.yes (by omega) (Evp.yes (by omega) ?_)
      rw[hp]
      exact(ih p hlt (by omega)).mono fun r hr=>hr.trans (Up.via hp (by omega)).symm
    · rw[beq_iff_eq]
      constructor
      · intro h2
        have:a=b:=by omega
        subst this;exact .refl _
      · intro h2
        have:=h2.le h ha
        omega
theorem pJ {cs:List Cls} (h:ClsOk cs) (b:Nat): ∀a:Nat,a<cs.length→Evp (fun k=>dB.f k cs (a:Int) (b:Int)) (fun r=>r=true↔Up cs a b):=by
  intro a
  induction a using Nat.strongRecOn with
  | _ a ih=>
    intro ha
    unfold dB.f at ih⊢
    refine Evp.step (f:=fun k=>_) (fun k=>by rw[dB.l0,lY]) (Evp.yes (by omega) (Evp.ite (fun hab=>Evp.pure _ ?_) (fun hab=> ?_)))
    · have:a=b:=by omega
      subst this
      exact gJ (.refl _)
    · refine Evp.yes (by omega) (Evp.yes (by omega) ?_)
      rcases Nat.eq_zero_or_pos a with h0|h0
      · subst h0
        rw[h.root.1]
        refine Evp.step (f:=fun k=>_) (fun k=>by rw[dB.l0]) (Evp.no (by omega) (Evp.pure _ (dI ?_)))
        intro h2
        have:=h2.le h ha
        omega
      · obtain⟨p,hp,hlt⟩:=h.sup_nat h0 ha
        rw[hp]
        exact(ih p hlt (by omega)).mono fun r hr=>hr.trans (Up.via hp (by omega)).symm
def ik (n:Nat) (t:Int):Prop:=t=0∨t=2∨fu n t
theorem mI {n:Nat} {t:Int}:ik n t↔(0≤t∧t≤4)∨(8≤t∧t<8+(n:Int)):=by
  unfold ik fu
  omega
theorem nN {n:Nat} {t:Int} (hn:n≤1000000000) (h0: -9223372036854775808≤t) (h1:t≤9223372036854775807):
    ∃r,dF.f (n:Int) t=some r∧(ik n t∧r=t∨¬ik n t∧r= -1):=by
  refine⟨_,nL hn h0 h1, ?_⟩
  rw[mI]
  by_cases h:(0≤t∧t≤4)∨(8≤t∧t<8+(n:Int))
  ·rw[if_pos h];exact .inl ⟨h,rfl⟩
  ·rw[if_neg h];exact .inr ⟨h,rfl⟩
theorem mf {cs:List Cls} (hs:fU cs) (t:Int):Evp (fun k=>fE.f k cs t) (fun r=>r=true↔ClsOk cs∧ik cs.length t):=by
  have hl0:=hs.1
  unfold fE.f
  refine Evp.bind (jD hs) fun b hb=>Evp.ite (fun h=> ?_) (fun h=>Evp.pure _ (dI fun h2=>h (hb.2 h2.1)))
  refine Evp.ite (fun h0=>Evp.pure _ (gJ ⟨hb.1 h, .inl h0⟩)) (fun h0=>Evp.ite (fun h2=>Evp.pure _ (gJ ⟨hb.1 h, .inr (.inl h2)⟩)) (fun h2=> ?_))
  obtain⟨c,hc,hc2⟩:=lh (cs:=cs) (t:=t) (by omega)
  simp only[hc,Option.bind_some]
  refine Evp.pure _ (hc2.trans ⟨fun h3=>⟨hb.1 h, .inr (.inr h3)⟩,fun h3=> ?_⟩)
  rcases h3.2 with h4|h4|h4
  ·exact absurd h4 h0
  ·exact absurd h4 h2
  ·exact h4
theorem fB {Q:Nat→Prop} {Z:Prop} {i n:Nat} {r:Bool} (hq:Q i) (hr:r=true↔(∀j,i+1≤j→j<n→Q j)∧Z):r=true↔(∀j,i≤j→j<n→Q j)∧Z:=by
  rw[hr]
  constructor
  · intro ⟨h2,hz⟩
    refine⟨fun c h3 h4=> ?_,hz⟩
    rcases Nat.lt_or_ge i c with h5|h5
    ·exact h2 c h5 h4
    · have:c=i:=by omega
      subst this
      exact hq
  ·intro ⟨h2,hz⟩;exact⟨fun c h3 h4=>h2 c (by omega) h4,hz⟩
theorem dO {Q:Nat→Prop} {Z:Prop} {i n:Nat} (hi:i<n) (hq: ¬Q i):(false=true)↔(∀j,i≤j→j<n→Q j)∧Z:=dI fun h=>hq (h.1 i (Nat.le_refl _) hi)
theorem fw {Q:Nat→Prop} {Z:Prop} {n:Nat} {r:Bool} (h:r=true↔Z):r=true↔(∀j,n≤j→j<n→Q j)∧Z:=h.trans ⟨fun hz=>⟨fun j h1 h2=>absurd h2 (by omega),hz⟩,fun h=>h.2⟩
theorem jV {α:Type} {xs:List α} {d:α} {Q:α→Prop}:(∀j,0≤j→j<xs.length→Q (xs.getD j d))↔∀x∈xs,Q x:=by
  constructor
  · intro h x hx
    obtain⟨i,hi,rfl⟩:=List.mem_iff_getElem.1 hx
    have:=h i (Nat.zero_le _) hi
    rwa [getD_at hi]at this
  · intro h j _ hj
    rw[getD_at hj]
    exact h _ (List.getElem_mem hj)
def I64 (l:List Int):Prop:= ∀t∈l, -9223372036854775808≤t∧t≤9223372036854775807
theorem I64.at {l:List Int} (h:I64 l) {i:Nat} (hi:i<l.length): -9223372036854775808≤l.getD i 0∧l.getD i 0≤9223372036854775807:=by
  rw[getD_at hi];exact h _ (List.getElem_mem hi)
theorem rdN {xs:List Int} (i:Nat):rd xs (i:Int)=xs.getD i 0:=rfl
def ja (cs:List Cls) (n:Int) (b:Bool) (l m:List Int):Prop:=
  (b=true∧(l.length:Int)=n∧m.length≤4∧(∀t∈l,ik cs.length t)∧(∀t∈m,ik cs.length t∧t≠0))∨(b=false∧l.length=0∧m.length=0)
theorem oh {cs:List Cls} (hs:fU cs) (n:Int) (b:Bool) {l m:List Int} (hl:l.length≤1048576) (hm:m.length≤1048576):
    Evp (fun k=>bD.f k cs n b l m) (fun r=>r=true↔ClsOk cs∧ja cs n b l m):=by
  unfold bD.f
  refine Evp.bind (jD hs) fun c hc=>Evp.ite (fun h=> ?_) (fun h=>Evp.pure _ (dI fun h2=>h (hc.2 h2.1)))
  have hok:=hc.1 h
  refine Evp.ite (fun hb=> ?_) (fun hb=>Evp.ite (fun h1=>Evp.pure _ ?_) (fun h1=>Evp.pure _ (dI ?_)))
  · have jt : ¬ja cs n b l m→Evp (fun k=>bD.j0 k cs true b l m) (fun r=>r=true↔ClsOk cs∧ja cs n b l m):=fun h=>
      Evp.step (f:=fun k=>_) (fun k=>by rw[bD.j0]) (Evp.yes rfl (Evp.pure _ (dI fun h2=>h h2.2)))
    refine Evp.ite (fun h1=> ?_) (fun h1=>jt ?_)
    · by_cases h4:m.length≤4
      · rw[decide_eq_false (by omega)]
        refine Evp.step (f:=fun k=>_) (fun k=>by rw[bD.j0]) (Evp.no (by decide) ?_)
        have k1: ∀i,i≤m.length→Evp (fun k=>bD.l1 k cs (i:Int) b l m) (fun r=>r=true↔(∀j,i≤j→j<m.length→ik cs.length (m.getD j 0)∧m.getD j 0≠0)∧True):=by
          refine Evp.for_ ?_ (fun i hi ih=> ?_)
          ·refine Evp.step (f:=fun k=>_) (fun k=>by rw[bD.l1]) (Evp.no (by omega) (Evp.pure _ (fw (gJ trivial))))
          · refine Evp.step (f:=fun k=>_) (fun k=>by rw[bD.l1,rdN]) (Evp.yes (by omega) (Evp.yes (by omega) ?_))
            refine Evp.bind (mf hs _) fun d hd=>Evp.ite (fun h5=>Evp.ite (fun h6=>Evp.pure _ (dO hi fun h7=>h7.2 h6)) (fun h6=> ?_)) (fun h5=>Evp.pure _ (dO hi fun h7=>h5 (hd.2 ⟨hok,h7.1⟩)))
            rw[eU hi (by omega)]
            exact ih.mono fun r hr=>fB (Q:=fun j=>ik cs.length (m.getD j 0)∧m.getD j 0≠0) ⟨(hd.1 h5).2,h6⟩ hr
        have k0: ∀i,i≤l.length→Evp (fun k=>bD.l0 k cs (i:Int) b l m) (fun r=>r=true↔(∀j,i≤j→j<l.length→ik cs.length (l.getD j 0))∧((∀j,0≤j→j<m.length→ik cs.length (m.getD j 0)∧m.getD j 0≠0)∧True)):=by
          refine Evp.for_ ?_ (fun i hi ih=> ?_)
          · refine Evp.step (f:=fun k=>_) (fun k=>by rw[bD.l0]) (Evp.no (by omega) ?_)
            exact(k1 0 (Nat.zero_le _)).mono fun r hr=>fw hr
          · refine Evp.step (f:=fun k=>_) (fun k=>by rw[bD.l0,rdN]) (Evp.yes (by omega) (Evp.yes (by omega) ?_))
            refine Evp.bind (mf hs _) fun d hd=>Evp.ite (fun h5=> ?_) (fun h5=>Evp.pure _ (dO hi fun h7=>h5 (hd.2 ⟨hok,h7⟩)))
            rw[eU hi (by omega)]
            exact ih.mono fun r hr=>fB (Q:=fun j=>ik cs.length (l.getD j 0)) (hd.1 h5).2 hr
        refine(k0 0 (Nat.zero_le _)).mono fun r hr=>hr.trans ?_
        rw[jV (Q:=fun t=>ik cs.length t),jV (Q:=fun t=>ik cs.length t∧t≠0)]
        unfold ja
        rw[hb]
        constructor
        ·intro h5;exact⟨hok, .inl ⟨rfl,h1,h4,h5.1,h5.2.1⟩⟩
        · intro h5
          rcases h5.2 with h6|h6
          ·exact⟨h6.2.2.2.1,h6.2.2.2.2,trivial⟩
          ·cases h6.1
      · rw[decide_eq_true (by omega)]
        refine jt ?_
        unfold ja
        rw[hb]
        intro h5
        rcases h5 with h5|h5
        ·exact h4 h5.2.2.1
        ·cases h5.1
    · unfold ja
      rw[hb]
      intro h5
      rcases h5 with h5|h5
      ·exact h1 h5.2.1
      ·cases h5.1
  · have hb' :b=false:=by simpa using hb
    rw[beq_iff_eq]
    unfold ja
    rw[hb']
    constructor
    ·intro h2;exact⟨hok, .inr ⟨rfl,by omega,by omega⟩⟩
    · intro h2
      rcases h2.2 with h3|h3
      ·cases h3.1
      ·omega
  · have hb' :b=false:=by simpa using hb
    unfold ja
    rw[hb']
    intro h2
    rcases h2.2 with h3|h3
    ·cases h3.1
    ·omega
theorem nR {cs:List Cls} (hs:fU cs) (n:Int) (b:Bool) {l m:List Int} (hl:l.length≤1048576) (hm:m.length≤1048576) (il:I64 l) (im:I64 m):
    Evp (fun k=>bE.f k cs n b l m) (fun r=>r=true↔ja cs n b l m):=by
  have hl0:=hs.1
  unfold bE.f
  refine Evp.ite (fun hb=> ?_) (fun hb=>Evp.ite (fun h1=>Evp.pure _ ?_) (fun h1=>Evp.pure _ (dI ?_)))
  · have jt : ¬ja cs n b l m→Evp (fun k=>bE.j0 k cs true b l m) (fun r=>r=true↔ja cs n b l m):=fun h=>
      Evp.step (f:=fun k=>_) (fun k=>by rw[bE.j0]) (Evp.yes rfl (Evp.pure _ (dI h)))
    refine Evp.ite (fun h1=> ?_) (fun h1=>jt ?_)
    · by_cases h4:m.length≤4
      · rw[decide_eq_false (by omega)]
        refine Evp.step (f:=fun k=>_) (fun k=>by rw[bE.j0]) (Evp.no (by decide) ?_)
        have k1: ∀i,i≤m.length→Evp (fun k=>bE.l1 k cs m (m.length:Int) (i:Int)) (fun r=>r=true↔(∀j,i≤j→j<m.length→ik cs.length (m.getD j 0)∧m.getD j 0≠0)∧True):=by
          refine Evp.for_ ?_ (fun i hi ih=> ?_)
          ·refine Evp.step (f:=fun k=>_) (fun k=>by rw[bE.l1]) (Evp.no (by omega) (Evp.pure _ (fw (gJ trivial))))
          · obtain⟨q,hq,hq2⟩:=nN (n:=cs.length) (t:=m.getD i 0) (by omega) (im.at hi).1 (im.at hi).2
            refine Evp.step (f:=fun k=>_) (fun k=>by rw[bE.l1,rdN,hq,Option.bind_some]) (Evp.yes (by omega) (Evp.yes (by omega) (Evp.yes (by omega) ?_)))
            refine Evp.ite (fun h6=>Evp.pure _ (dO hi fun h7=>h7.2 h6)) (fun h6=> ?_)
            rcases hq2 with⟨h7,rfl⟩|⟨h7,rfl⟩
            · refine Evp.no (by have:=mI.1 h7;omega) ?_
              rw[eU hi (by omega)]
              exact ih.mono fun r hr=>fB (Q:=fun j=>ik cs.length (m.getD j 0)∧m.getD j 0≠0) ⟨h7,h6⟩ hr
            ·exact Evp.yes rfl (Evp.pure _ (dO hi fun h8=>h7 h8.1))
        have k0: ∀i,i≤l.length→Evp (fun k=>bE.l0 k cs l (l.length:Int) (i:Int) b l m) (fun r=>r=true↔(∀j,i≤j→j<l.length→ik cs.length (l.getD j 0))∧((∀j,0≤j→j<m.length→ik cs.length (m.getD j 0)∧m.getD j 0≠0)∧True)):=by
          refine Evp.for_ ?_ (fun i hi ih=> ?_)
          · refine Evp.step (f:=fun k=>_) (fun k=>by rw[bE.l0]) (Evp.no (by omega) ?_)
            exact(k1 0 (Nat.zero_le _)).mono fun r hr=>fw hr
          · obtain⟨q,hq,hq2⟩:=nN (n:=cs.length) (t:=l.getD i 0) (by omega) (il.at hi).1 (il.at hi).2
            refine Evp.step (f:=fun k=>_) (fun k=>by rw[bE.l0,rdN,hq,Option.bind_some]) (Evp.yes (by omega) (Evp.yes (by omega) (Evp.yes (by omega) ?_)))
            rcases hq2 with⟨h7,rfl⟩|⟨h7,rfl⟩
            · refine Evp.no (by have:=mI.1 h7;omega) ?_
              rw[eU hi (by omega)]
              exact ih.mono fun r hr=>fB (Q:=fun j=>ik cs.length (l.getD j 0)) h7 hr
            ·exact Evp.yes rfl (Evp.pure _ (dO hi h7))
        refine(k0 0 (Nat.zero_le _)).mono fun r hr=>hr.trans ?_
        rw[jV (Q:=fun t=>ik cs.length t),jV (Q:=fun t=>ik cs.length t∧t≠0)]
        unfold ja
        rw[hb]
        constructor
        ·intro h5;exact .inl ⟨rfl,h1,h4,h5.1,h5.2.1⟩
        · intro h5
          rcases h5 with h6|h6
          ·exact⟨h6.2.2.2.1,h6.2.2.2.2,trivial⟩
          ·cases h6.1
      · rw[decide_eq_true (by omega)]
        refine jt ?_
        unfold ja
        rw[hb]
        intro h5
        rcases h5 with h5|h5
        ·exact h4 h5.2.2.1
        ·cases h5.1
    · unfold ja
      rw[hb]
      intro h5
      rcases h5 with h5|h5
      ·exact h1 h5.2.1
      ·cases h5.1
  · have hb' :b=false:=by simpa using hb
    rw[beq_iff_eq]
    unfold ja
    rw[hb']
    constructor
    ·intro h2;exact .inr ⟨rfl,by omega,by omega⟩
    · intro h2
      rcases h2 with h3|h3
      ·cases h3.1
      ·omega
  · have hb' :b=false:=by simpa using hb
    unfold ja
    rw[hb']
    intro h2
    rcases h2 with h3|h3
    ·cases h3.1
    ·omega
abbrev Mth:=S104
abbrev Ins:=S113
abbrev jC:=S57
abbrev Cth:=S181
theorem rdX {xs:List Ins} (i:Nat):aQ xs (i:Int)=xs.getD i ig:=rfl
theorem rdS {xs:List jC} (i:Nat):aX xs (i:Int)=xs.getD i z57:=rfl
theorem rdK {xs:List Cth} (i:Nat):aH xs (i:Int)=xs.getD i gm:=rfl
def jl (a0:Int):Int:=if 0≤a0 then 1 else 0
theorem pU {a0:Int} (h:a0<0):jl a0=0:=if_neg (by omega)
theorem oW {a0:Int} (h:0≤a0):jl a0=1:=if_pos h
def nY (n:Nat) (a0 a1:Int):Prop:=(a0= -1∧a1=0)∨(1≤a0∧a0<(n:Int)∧0≤a1∧a1<3)
def qx (n:Nat) (a0:Int) (l2:List Int) (a3 a4:Int):Prop:=l2.length≤2∧fu n a3∧(∀t∈l2,fu n t)∧a4≤3∧jl a0+(l2.length:Int)≤a4
def kg (n:Nat) (a0 a1:Int) (l2:List Int) (a3 a4:Int):Prop:=nY n a0 a1∧qx n a0 l2 a3 a4
theorem sZ {a0 a1:Int} {l2:List Int} {a3 a4:Int} {l5:List Ins} {l6:List jC} {l7:List Cth} (hl:l2.length≤1048576): ∃g,je.f a0 a1 l2 a3 a4 l5 l6 l7=some g∧(g.length:Int)=jl a0+(l2.length:Int):=by
  unfold je.f
  by_cases h:a0≥0
  · rw[if_pos h,if_pos (by simp)]
    simp only[Option.bind_some]
    rw[if_pos (by simp;omega),oW h]
    exact⟨_,rfl,by simp;omega⟩
  · rw[if_neg h,if_pos (by simp;omega),pU (by omega)]
    exact⟨_,rfl,by simp⟩
theorem qG {cs:List Cls} (hs:fU cs) (ms:List Mth) {a0 a1:Int} {l2:List Int} {a3 a4:Int} (l5:List Ins) (l6:List jC) (l7:List Cth) (h0: -9223372036854775808≤a3) (h1:a3≤9223372036854775807) (hl:l2.length≤1048576) (il:I64 l2):
    Evp (fun k=>aZ.f k cs ms a0 a1 l2 a3 a4 l5 l6 l7) (fun r=>r=true↔kg cs.length a0 a1 l2 a3 a4):=by
  have hs0:=hs.1
  have jt: ∀P:Prop,¬P→Evp (fun k=>aZ.j1 k true cs ms a0 a1 l2 a3 a4 l5 l6 l7) (fun r=>r=true↔P):=fun P h=>
    Evp.step (f:=fun k=>_) (fun k=>by rw[aZ.j1]) (Evp.yes rfl (Evp.pure _ (dI h)))
  have j0 :Evp (fun k=>aZ.j0 k cs ms a0 a1 l2 a3 a4 l5 l6 l7) (fun r=>r=true↔qx cs.length a0 l2 a3 a4):=by
    refine Evp.step (f:=fun k=>_) (fun k=>by rw[aZ.j0]) (Evp.ite (fun h2=>jt _ fun h3=> ?_) (fun h2=> ?_))
    ·have:=h3.1;omega
    obtain⟨b,hb,hb2⟩:=j6 (n:=cs.length) (by omega) h0 h1
    simp only[hb,Option.bind_some]
    cases b with
    |false=>exact jt _ fun h3=>by have:=hb2.2 h3.2.1;cases this
    | true=>
      have h3:=hb2.1 rfl
      refine Evp.step (f:=fun k=>_) (fun k=>by rw[aZ.j1]) (Evp.no (by decide) ?_)
      obtain⟨g,hg,hg2⟩:=sZ (a0:=a0) (a1:=a1) (a3:=a3) (a4:=a4) (l5:=l5) (l6:=l6) (l7:=l7) hl
      have k0: ∀i,i≤l2.length→Evp (fun k=>aZ.l0 k l2 (l2.length:Int) (i:Int) cs ms a0 a1 l2 a3 a4 l5 l6 l7) (fun r=>r=true↔(∀j,i≤j→j<l2.length→fu cs.length (l2.getD j 0))∧(a4≤3∧jl a0+(l2.length:Int)≤a4)):=by
        refine Evp.for_ ?_ (fun i hi ih=> ?_)
        · refine Evp.step (f:=fun k=>_) (fun k=>by rw[aZ.l0]) (Evp.no (by omega) (Evp.ite (fun h4=> ?_) (fun h4=>Evp.pure _ (fw (dI fun h5=>h4 h5.1)))))
          simp only[hg,Option.bind_some]
          refine Evp.pure _ (fw ?_)
          rw[decide_eq_true_iff,ge_iff_le,hg2]
          exact⟨fun h5=>⟨h4,h5⟩,fun h5=>h5.2⟩
        · refine Evp.step (f:=fun k=>_) (fun k=>by rw[aZ.l0,rdN]) (Evp.yes (by omega) (Evp.yes (by omega) (Evp.yes (by omega) ?_)))
          obtain⟨c,hc,hc2⟩:=j6 (n:=cs.length) (by omega) (il.at hi).1 (il.at hi).2
          simp only[hc,Option.bind_some]
          refine Evp.ite (fun h5=> ?_) (fun h5=>Evp.pure _ (dO hi fun h7=>h5 (hc2.2 h7)))
          rw[eU hi (by omega)]
          exact ih.mono fun r hr=>fB (Q:=fun j=>fu cs.length (l2.getD j 0)) (hc2.1 h5) hr
      refine(k0 0 (Nat.zero_le _)).mono fun r hr=>hr.trans ?_
      rw[jV (Q:=fun t=>fu cs.length t)]
      unfold qx
      exact⟨fun h5=>⟨by omega,h3,h5.1,h5.2.1,h5.2.2⟩,fun h5=>⟨h5.2.2.1,h5.2.2.2.1,h5.2.2.2.2⟩⟩
  have fin:nY cs.length a0 a1→Evp (fun k=>aZ.j0 k cs ms a0 a1 l2 a3 a4 l5 l6 l7) (fun r=>r=true↔kg cs.length a0 a1 l2 a3 a4):=fun ha=>j0.mono fun r hr=>hr.trans ⟨fun h=>⟨ha,h⟩,fun h=>h.2⟩
  have no: ¬nY cs.length a0 a1→Evp (fun k=>some false) (fun r=>r=true↔kg cs.length a0 a1 l2 a3 a4):=fun ha=>Evp.pure _ (dI fun h=>ha h.1)
  unfold aZ.f
  refine Evp.ite (fun h2=>Evp.ite (fun h3=>fin (.inl ⟨h2,h3⟩)) (fun h3=>no ?_)) (fun h2=>Evp.ite (fun h3=>no ?_) (fun h3=> ?_))
  ·rintro(h4|h4)<;>omega
  ·rintro(h4|h4)<;>omega
  obtain⟨x,hx,hx2⟩:=jo cs a0
  simp only[hx,Option.bind_some]
  refine Evp.ite (fun h4=>Evp.ite (fun h5=>no ?_) (fun h5=>Evp.ite (fun h6=>no ?_) (fun h6=>fin (.inr ?_)))) (fun h4=>no ?_)
  ·rintro(h7|h7)<;>omega
  ·rintro(h7|h7)<;>omega
  ·have:=hx2.1 h4;omega
  · rintro(h7|h7)
    ·omega
    ·exact h4 (hx2.2 (by omega))
theorem qH {cs:List Cls} (hs:fU cs) (ms:List Mth) {a0 a1:Int} {l2:List Int} {a3 a4:Int} (l5:List Ins) (l6:List jC) (l7:List Cth) (hl:l2.length≤1048576):
    Evp (fun k=>bv.f k cs ms a0 a1 l2 a3 a4 l5 l6 l7) (fun r=>r=true↔kg cs.length a0 a1 l2 a3 a4):=by
  have hs0:=hs.1
  have jt: ∀P:Prop,¬P→Evp (fun k=>bv.j1 k true cs ms a0 a1 l2 a3 a4 l5 l6 l7) (fun r=>r=true↔P):=fun P h=>
    Evp.step (f:=fun k=>_) (fun k=>by rw[bv.j1]) (Evp.yes rfl (Evp.pure _ (dI h)))
  have key:Evp (fun k=>bv.j0 k (jl a0) cs ms a0 a1 l2 a3 a4 l5 l6 l7) (fun r=>r=true↔kg cs.length a0 a1 l2 a3 a4):=by
    have hself:0≤jl a0∧jl a0≤1:=by unfold jl;split<;>omega
    have noA:(¬(1≤a0∧a0<(cs.length:Int)∨a0= -1))→¬kg cs.length a0 a1 l2 a3 a4:=fun h h2=>by
      rcases h2.1 with h3|h3<;>omega
    refine Evp.step (f:=fun k=>_) (fun k=>by rw[bv.j0]) (Evp.ite (fun h2=>jt _ (noA (by omega))) (fun h2=> ?_))
    rw[gz,w64 (n:=(cs.length:Int) - 1) (by omega) (by omega)]
    simp only[Option.bind_some,decide_eq_true_iff]
    refine Evp.ite (fun h3=> ?_) (fun h3=>jt _ (noA (by omega)))
    refine Evp.ite (fun h4=>jt _ fun h5=> ?_) (fun h4=> ?_)
    ·have:=h5.2.1;omega
    obtain⟨b,hb,hb2⟩:=lh (cs:=cs) (t:=a3) (by omega)
    simp only[hb,Option.bind_some]
    refine Evp.ite (fun h5=> ?_) (fun h5=>jt _ fun h6=>h5 (hb2.2 h6.2.2.1))
    rw[gz,w64 (by omega) (by omega)]
    simp only[Option.bind_some]
    by_cases h6:jl a0+(l2.length:Int)≤a4∧a4≤3
    · rw[decide_eq_true h6]
      refine Evp.step (f:=fun k=>_) (fun k=>by rw[bv.j1]) (Evp.no (by decide) ?_)
      have k0: ∀i,i≤l2.length→Evp (fun k=>bv.l0 k (i:Int) cs ms a0 a1 l2 a3 a4 l5 l6 l7) (fun r=>r=true↔(∀j,i≤j→j<l2.length→fu cs.length (l2.getD j 0))∧nY cs.length a0 a1):=by
        refine Evp.for_ ?_ (fun i hi ih=> ?_)
        · refine Evp.step (f:=fun k=>_) (fun k=>by rw[bv.l0]) (Evp.no (by omega) ?_)
          rw[gz]
          simp only[Option.bind_some,decide_eq_true_iff]
          refine Evp.ite (fun h7=>Evp.ite (fun h8=>Evp.pure _ (fw (gJ (.inr ?_)))) (fun h8=>Evp.no (by omega) (Evp.pure _ (fw (dI ?_))))) (fun h7=>Evp.yes (by omega) (Evp.pure _ (fw ?_)))
          ·omega
          ·rintro(h9|h9)<;>omega
          · rw[beq_iff_eq]
            exact⟨fun h9=> .inl ⟨by omega,h9⟩,fun h9=>by rcases h9 with h10|h10<;>omega⟩
        · refine Evp.step (f:=fun k=>_) (fun k=>by rw[bv.l0,rdN]) (Evp.yes (by omega) (Evp.yes (by omega) ?_))
          obtain⟨c,hc,hc2⟩:=lh (cs:=cs) (t:=l2.getD i 0) (by omega)
          simp only[hc,Option.bind_some]
          refine Evp.ite (fun h5=> ?_) (fun h5=>Evp.pure _ (dO hi fun h7=>h5 (hc2.2 h7)))
          rw[eU hi (by omega)]
          exact ih.mono fun r hr=>fB (Q:=fun j=>fu cs.length (l2.getD j 0)) (hc2.1 h5) hr
      refine(k0 0 (Nat.zero_le _)).mono fun r hr=>hr.trans ?_
      rw[jV (Q:=fun t=>fu cs.length t)]
      exact⟨fun h7=>⟨h7.2,by omega,hb2.1 h5,h7.1,h6.2,h6.1⟩,fun h7=>⟨h7.2.2.2.1,h7.1⟩⟩
    · rw[decide_eq_false h6]
      exact jt _ fun h7=>h6 ⟨h7.2.2.2.2.2,h7.2.2.2.2.1⟩
  unfold bv.f
  refine Evp.ite (fun h=> ?_) (fun h=> ?_)
  · have:=key
    rw[oW h]at this
    exact this
  · have:=key
    rw[pU (by omega)]at this
    exact this
theorem qI {cs:List Cls} (h:ClsOk cs): ∀a:Nat,a<cs.length→Evp (fun k=>bR.f k cs (a:Int)) (fun r=>Flds cs a r∧r.length≤2 * a):=by
  have hhi:=h.hi
  intro a
  induction a using Nat.strongRecOn with
  | _ a ih=>
    intro ha
    refine Evp.step (f:=fun k=>_) (fun k=>by rw[bR.f]) (Evp.ite (fun h0=>Evp.pure _ ?_) (fun h0=> ?_))
    · have:a=0:=by omega
      subst this
      exact⟨.root,Nat.le_refl _⟩
    · obtain⟨p,hp,hlt⟩:=h.sup_nat (i:=a) (by omega) ha
      have e:(aD cs (a:Int)).f0=(p:Int):=hp
      have hl2:=h.len2 ha
      refine Evp.yes (by omega) (Evp.yes (by omega) ?_)
      rw[e,jZ]
      refine Evp.bind (ih p hlt (by omega)) fun l hl=>Evp.yes (by have:=hl.2;omega) (Evp.pure _ ⟨.step p (by omega) hp hl.1, ?_⟩)
      have:=hl.2
      rw[List.length_append];omega
theorem qJ {cs:List Cls} (h:ClsOk cs): ∀a:Nat,a<cs.length→Evp (fun k=>dE.f k cs (a:Int)) (fun r=>Flds cs a r∧r.length≤2 * a):=by
  have hhi:=h.hi
  intro a
  induction a using Nat.strongRecOn with
  | _ a ih=>
    intro ha
    refine Evp.step (f:=fun k=>_) (fun k=>by rw[dE.f]) (Evp.ite (fun h0=>Evp.pure _ ?_) (fun h0=> ?_))
    · have:a=0:=by omega
      subst this
      exact⟨.root,Nat.le_refl _⟩
    · obtain⟨p,hp,hlt⟩:=h.sup_nat (i:=a) (by omega) ha
      have e:(aD cs (a:Int)).f0=(p:Int):=hp
      have hl2:=h.len2 ha
      refine Evp.yes (by omega) (Evp.yes (by omega) ?_)
      rw[e,jZ]
      refine Evp.bind (ih p hlt (by omega)) fun l hl=>Evp.yes (by have:=hl.2;omega) (Evp.pure _ ⟨.step p (by omega) hp hl.1, ?_⟩)
      have:=hl.2
      rw[List.length_append];omega
end Go.Proofs.YteinbmkgenhocaaGreat.Kit
end
section
namespace Go.Proofs.YteinbmkgenhocaaGreat.Kit
open Go Go.RowKit Go.Proofs.YteinbmkgenhocaaGreatW.PrintWords Go.Proofs.YteinbmkgenhocaaGreat.P
set_option linter.unusedVariables false
set_option linter.unusedSimpArgs false
def gp (cs:List Cls) (ms:List Mth) (a4:Int) (nc:Nat) (xa what n:Int):Prop:=
  if what=1 then -128≤n∧n≤127 else if what=2 then 0≤n∧n<a4 else if what=3 then 1≤n∧n≤4 else if what=4 then 0≤n∧n<(nc:Int)else if what=5 then 0≤n∧n<(cs.length:Int)else if what=6 then n=0∨n=1 else
  if what=7 then 0≤n∧n<(ms.length:Int)∧(ms.getD n.toNat iQ).f0= -1 else if what=8 then 0≤n∧∃l,Flds cs xa.toNat l∧n<(l.length:Int)else if what=9 then 0≤n∧n<3 else n=0
def iK (cs:List Cls) (ms:List Mth) (a4:Int) (nc:Nat) (x:Ins):Prop:= ∃p q,eP x.f0 fJ=some (p,q)∧gp cs ms a4 nc x.f1 p x.f1∧gp cs ms a4 nc x.f1 q x.f2
theorem kM {A B:Prop} [Decidable A] [Decidable B]:Evp (fun _=>if A then some (decide B)else some false) (fun r=>r=true↔A∧B):=by
  refine Evp.ite (fun h=>Evp.pure _ ?_) (fun h=>Evp.pure _ (dI fun h2=>h h2.1))
  rw[decide_eq_true_iff]
  exact⟨fun h2=>⟨h,h2⟩,fun h2=>h2.2⟩
theorem lv {cs:List Cls} (hok:ClsOk cs) (ms:List Mth) {a0 a1:Int} {l2:List Int} {a3 a4:Int} (l5:List Ins) (l6:List jC) (l7:List Cth) {x0 xa x2 what n:Int} (h8:what=8→0≤xa∧xa<(cs.length:Int)):
    Evp (fun k=>eu.f k cs ms a0 a1 l2 a3 a4 l5 l6 l7 x0 xa x2 what n) (fun r=>r=true↔gp cs ms a4 l5.length xa what n):=by
  unfold eu.f gp
  by_cases h1:what=1
  · simp only[if_pos h1]
    unfold iN.f
    exact Evp.bind kM fun r hr=>Evp.pure _ hr
  simp only[if_neg h1]
  by_cases h2:what=2
  ·simp only[if_pos h2];exact kM
  simp only[if_neg h2]
  by_cases h3:what=3
  ·simp only[if_pos h3];exact kM
  simp only[if_neg h3]
  by_cases h4:what=4
  ·simp only[if_pos h4];exact kM
  simp only[if_neg h4]
  by_cases h5:what=5
  · simp only[if_pos h5]
    obtain⟨x,hx,hx2⟩:=jo cs n
    simp only[hx,Option.bind_some]
    exact Evp.pure _ hx2
  simp only[if_neg h5]
  by_cases h6:what=6
  · simp only[if_pos h6]
    refine Evp.ite (fun h=>Evp.pure _ (gJ (.inl h))) (fun h=>Evp.pure _ ?_)
    rw[beq_iff_eq]
    exact⟨fun h2=> .inr h2,fun h2=>h2.resolve_left h⟩
  simp only[if_neg h6]
  by_cases h7:what=7
  · simp only[if_pos h7]
    refine Evp.ite (fun h=>Evp.ite (fun h' =>Evp.yes h (Evp.pure _ ?_)) (fun h' =>Evp.pure _ (dI fun h2=>h' h2.2.1))) (fun h=>Evp.pure _ (dI fun h2=>h h2.1))
    rw[beq_iff_eq]
    exact⟨fun h2=>⟨h,h',h2⟩,fun h2=>h2.2.2⟩
  simp only[if_neg h7]
  by_cases h8' :what=8
  · simp only[if_pos h8']
    obtain⟨hx0,hx1⟩:=h8 h8'
    refine Evp.ite (fun h=> ?_) (fun h=>Evp.pure _ (dI fun h2=>h h2.1))
    have:=qI hok xa.toNat (by omega)
    rw[show((xa.toNat:Nat):Int)=xa by omega]at this
    refine Evp.bind this fun l hl=>Evp.pure _ ?_
    rw[decide_eq_true_iff]
    exact⟨fun h2=>⟨h,l,hl.1,h2⟩,fun h2=>by obtain⟨_,l',hl',h3⟩:=h2;rw[hl.1.fn hl'];exact h3⟩
  simp only[if_neg h8']
  by_cases h9:what=9
  ·simp only[if_pos h9];exact kM
  simp only[if_neg h9]
  exact Evp.pure _ (by rw[beq_iff_eq])
theorem lL {n:Int}: ∀ {l:List (Int×Int×Int)} {r:Int×Int},eP n l=some r→∃e∈l,e.2=r
  | [],_,h=>by cases h
  | e ::l,r,h=>by
    unfold eP at h
    split at h
    ·exact⟨e,List.mem_cons_self,Option.some.inj h⟩
    · obtain⟨x,hx,hr⟩:=lL h
      exact⟨x,List.mem_cons_of_mem _ hx,hr⟩
theorem vC {n p q:Int} (h:eP n fJ=some (p,q)):p≠8∧(q=8→p=5):=by
  obtain⟨e,he,hr⟩:=lL h
  have key: ∀e∈fJ,e.2.1≠8∧(e.2.2=8→e.2.1=5):=by decide
  have:=key e he
  rw[hr]at this
  exact this
def kC (cs:List Cls) (a4:Int) (s:jC):Prop:=ja cs a4 s.f0 s.f1 s.f2
structure SmallS (s:jC):Prop where
  l1:s.f1.length≤1048576
  l2:s.f2.length≤1048576
  i1:I64 s.f1
  i2:I64 s.f2
def oZ (cs:List Cls) (ms:List Mth) (a4:Int) (l5:List Ins) (l6:List jC):Prop:=(1≤l5.length∧l5.length≤12∧l6.length=l5.length)∧(∀j,0≤j→j<l5.length→iK cs ms a4 l5.length (l5.getD j ig))∧(∀j,0≤j→j<l6.length→kC cs a4 (l6.getD j z57))
theorem qK {cs:List Cls} (hs:fU cs) (hok:ClsOk cs) (ms:List Mth) {a0 a1:Int} {l2:List Int} {a3 a4:Int} (l5:List Ins) (l6:List jC) (l7:List Cth) (b:Int) (h6: ∀j,j<l6.length→SmallS (l6.getD j z57)) (a:l5.length≤1048576) (e:l6.length≤1048576):
    Evp (fun k=>bB.f k cs ms a0 a1 l2 a3 a4 l5 l6 l7 b) (fun r=>r=true↔oZ cs ms a4 l5 l6):=by
  have jt: ¬(1≤l5.length∧l5.length≤12∧l6.length=l5.length)→Evp (fun k=>bB.j0 k true cs ms a0 a1 l2 a3 a4 l5 l6 l7) (fun r=>r=true↔oZ cs ms a4 l5 l6):=fun h=>
    Evp.step (f:=fun k=>_) (fun k=>by rw[bB.j0]) (Evp.yes rfl (Evp.pure _ (dI fun h2=>h h2.1)))
  unfold bB.f
  refine Evp.ite (fun h1=>jt (by omega)) (fun h1=>Evp.ite (fun h2=>jt (by omega)) (fun h2=> ?_))
  by_cases he:l6.length=l5.length
  · rw [show ((l6.length:Int) !=(l5.length:Int))=false by simp;omega]
    refine Evp.step (f:=fun k=>_) (fun k=>by rw[bB.j0]) (Evp.no (by decide) ?_)
    have k1: ∀i,i≤l6.length→Evp (fun k=>bB.l1 k l6 (l6.length:Int) (i:Int) cs ms a0 a1 l2 a3 a4 l5 l6 l7) (fun r=>r=true↔(∀j,i≤j→j<l6.length→kC cs a4 (l6.getD j z57))∧True):=by
      refine Evp.for_ ?_ (fun i hi ih=> ?_)
      ·exact Evp.step (f:=fun k=>_) (fun k=>by rw[bB.l1]) (Evp.no (by omega) (Evp.pure _ (fw (gJ trivial))))
      · have hss:=h6 i hi
        refine Evp.step (f:=fun k=>_) (fun k=>by rw[bB.l1,rdS]) (Evp.yes (by omega) (Evp.yes (by omega) (Evp.yes (by omega) ?_)))
        refine Evp.bind (nR hs a4 _ hss.l1 hss.l2 hss.i1 hss.i2) fun c hc=>Evp.ite (fun h5=> ?_) (fun h5=>Evp.pure _ (dO hi fun h7=>h5 (hc.2 h7)))
        rw[eU hi (by omega)]
        exact ih.mono fun r hr=>fB (Q:=fun j=>kC cs a4 (l6.getD j z57)) (hc.1 h5) hr
    have k0 : ∀i,i≤l5.length→Evp (fun k=>bB.l0 k l5 (l5.length:Int) (i:Int) cs ms a0 a1 l2 a3 a4 l5 l6 l7) (fun r=>r=true↔(∀j,i≤j→j<l5.length→iK cs ms a4 l5.length (l5.getD j ig))∧((∀j,0≤j→j<l6.length→kC cs a4 (l6.getD j z57))∧True)):=by
      refine Evp.for_ ?_ (fun i hi ih=> ?_)
      · refine Evp.step (f:=fun k=>_) (fun k=>by rw[bB.l0]) (Evp.no (by omega) ?_)
        exact(k1 0 (Nat.zero_le _)).mono fun r hr=>fw hr
      · refine Evp.step (f:=fun k=>_) (fun k=>by rw[bB.l0,rdX]) (Evp.yes (by omega) (Evp.yes (by omega) (Evp.yes (by omega) ?_)))
        unfold jK.f
        simp only[Option.bind_some]
        cases hw:eP (l5.getD i ig).f0 fJ with
        | none=>
          refine Evp.no (by decide) (Evp.pure _ (dO hi fun h7=> ?_))
          obtain⟨p,q,h8,_⟩:=h7
          rw[hw]at h8;cases h8
        | some pq=>
          obtain⟨p,q⟩:=pq
          have h8:=vC hw
          dsimp only
          refine Evp.yes rfl (Evp.bind (lv hok ms l5 l6 l7 (fun h=>absurd h h8.1)) fun c hc=>Evp.ite (fun h9=> ?_) (fun h9=>Evp.pure _ (dO hi fun h7=> ?_)))
          · refine Evp.bind (lv hok ms l5 l6 l7 (fun h=> ?_)) fun d hd=>Evp.ite (fun h10=> ?_) (fun h10=>Evp.pure _ (dO hi fun h7=> ?_))
            · have:=hc.1 h9
              rw[h8.2 h]at this
              unfold gp at this
              simpa using this
            · rw[eU hi (by omega)]
              exact ih.mono fun r hr=>fB (Q:=fun j=>iK cs ms a4 l5.length (l5.getD j ig)) ⟨p,q,hw,hc.1 h9,hd.1 h10⟩ hr
            · obtain⟨p',q',h11,_,h12⟩:=h7
              rw[hw]at h11
              cases h11
              exact h10 (hd.2 h12)
          · obtain⟨p',q',h11,h12,_⟩:=h7
            rw[hw]at h11
            cases h11
            exact h9 (hc.2 h12)
    refine(k0 0 (Nat.zero_le _)).mono fun r hr=>hr.trans ?_
    exact⟨fun h=>⟨⟨by omega,by omega,he⟩,h.1,h.2.1⟩,fun h=>⟨h.2.1,h.2.2,trivial⟩⟩
  · rw[show((l6.length:Int) !=(l5.length:Int))=true by simp;omega]
    exact jt (by omega)
section
variable {cs:List Cls} {ms:List Mth} {a4:Int} {nc:Nat} {xa n:Int}
theorem op0:gp cs ms a4 nc xa 0 n↔n=0:=by simp[gp]
theorem op1:gp cs ms a4 nc xa 1 n↔ -128≤n∧n≤127:=by simp[gp]
theorem op2:gp cs ms a4 nc xa 2 n↔0≤n∧n<a4:=by simp[gp]
theorem op3:gp cs ms a4 nc xa 3 n↔1≤n∧n≤4:=by simp[gp]
theorem op4:gp cs ms a4 nc xa 4 n↔0≤n∧n<(nc:Int):=by simp[gp]
theorem op5:gp cs ms a4 nc xa 5 n↔0≤n∧n<(cs.length:Int):=by simp[gp]
theorem op6:gp cs ms a4 nc xa 6 n↔n=0∨n=1:=by simp[gp]
theorem op7:gp cs ms a4 nc xa 7 n↔0≤n∧n<(ms.length:Int)∧(ms.getD n.toNat iQ).f0= -1:=by simp[gp]
theorem op8:gp cs ms a4 nc xa 8 n↔0≤n∧∃l,Flds cs xa.toNat l∧n<(l.length:Int):=by simp[gp]
theorem op9:gp cs ms a4 nc xa 9 n↔0≤n∧n<3:=by simp[gp]
end
theorem o5 {A:Prop} [Decidable A] {n:Int}:Evp (fun _=>if decide A=true then some (n==0)else some false) (fun r=>r=true↔A∧n=0):=by
  refine Evp.ite (fun h=>Evp.pure _ ?_) (fun h=>Evp.pure _ (dI fun h2=>h (decide_eq_true h2.1)))
  rw[beq_iff_eq]
  exact⟨fun h2=>⟨of_decide_eq_true h,h2⟩,fun h2=>h2.2⟩
theorem rF {n:Int} (h:n<1∨24<n):eP n fJ=none:=by
  unfold fJ
  repeat(unfold eP;rw[if_neg (by dsimp only;omega)])
  rfl
theorem fD {cs:List Cls} {ms:List Mth} {a4:Int} {nc:Nat} {x:Ins} {n p q:Int} {r:Bool} (hn:x.f0=n) (hw:eP n fJ=some (p,q)) (h:r=true↔gp cs ms a4 nc x.f1 p x.f1∧gp cs ms a4 nc x.f1 q x.f2):r=true↔iK cs ms a4 nc x:=by
  rw[h]
  constructor
  ·intro h2;exact⟨p,q,by rw[hn];exact hw,h2⟩
  · rintro⟨p',q',hw',h2⟩
    rw[hn,hw]at hw'
    cases hw'
    exact h2
theorem sj {cs:List Cls} (hs:fU cs) (hok:ClsOk cs) (ms:List Mth) (hm:ms.length≤1048576) {a0 a1:Int} {l2:List Int} {a3 a4:Int} (b:0≤a4) (c:a4≤3) (l5:List Ins) (d:l5.length≤1048576) (l6:List jC) (l7:List Cth) (x:Ins):
    Evp (fun k=>aN.f k cs ms a0 a1 l2 a3 a4 l5 l6 l7 x.f0 x.f1 x.f2) (fun r=>r=true↔iK cs ms a4 l5.length x):=by
  have hlo:=hok.lo
  have hhi:=hok.hi
  unfold aN.f
  rw[gz,w64 (n:=(cs.length:Int) - 1) (by omega) (by omega)]
  simp only[Option.bind_some]
  have h7:decide (0≤x.f1∧x.f1≤(cs.length:Int) - 1)=true↔0≤x.f1∧x.f1<(cs.length:Int):=by rw[decide_eq_true_iff];omega
  generalize decide (0≤x.f1∧x.f1≤(cs.length:Int) - 1)=x7 at h7
  have J0: ∀n:Int,x.f0=n→eP n fJ=some (0,0)→Evp (fun k=>aN.j0 k x7 x.f0 (x.f0==n) cs ms a0 a1 l2 a3 a4 l5 l6 l7 x.f0 x.f1 x.f2) (fun r=>r=true↔iK cs ms a4 l5.length x):=by
    intro n hn hw
    rw[show(x.f0==n)=true by simpa using hn]
    refine Evp.step (f:=fun k=>_) (fun k=>by rw[aN.j0]) (Evp.yes rfl (Evp.ite (fun h=>Evp.pure _ (fD hn hw ?_)) (fun h=>Evp.pure _ (fD hn hw ?_))))
    ·rw[op0,op0,beq_iff_eq];exact⟨fun h2=>⟨h,h2⟩,fun h2=>h2.2⟩
    ·rw[op0,op0];exact dI fun h2=>h h2.1
  have J1: ∀n:Int,x.f0=n→eP n fJ=some (2,0)→Evp (fun k=>aN.j1 k x7 x.f0 (x.f0==n) cs ms a0 a1 l2 a3 a4 l5 l6 l7 x.f0 x.f1 x.f2) (fun r=>r=true↔iK cs ms a4 l5.length x):=by
    intro n hn hw
    rw[show(x.f0==n)=true by simpa using hn]
    refine Evp.step (f:=fun k=>_) (fun k=>by rw[aN.j1]) (Evp.yes rfl ?_)
    rw[gz,w64 (n:=a4 - 1) (by omega) (by omega)]
    simp only[Option.bind_some]
    refine o5.mono fun r hr=>fD hn hw (hr.trans ?_)
    rw[op2,op0];omega
  have J2: ∀n:Int,x.f0=n→eP n fJ=some (4,0)→Evp (fun k=>aN.j2 k x7 x.f0 (x.f0==n) cs ms a0 a1 l2 a3 a4 l5 l6 l7 x.f0 x.f1 x.f2) (fun r=>r=true↔iK cs ms a4 l5.length x):=by
    intro n hn hw
    rw[show(x.f0==n)=true by simpa using hn]
    refine Evp.step (f:=fun k=>_) (fun k=>by rw[aN.j2]) (Evp.yes rfl ?_)
    rw[gz,w64 (n:=(l5.length:Int) - 1) (by omega) (by omega)]
    simp only[Option.bind_some]
    refine o5.mono fun r hr=>fD hn hw (hr.trans ?_)
    rw[op4,op0];omega
  have J3: ∀n:Int,x.f0=n→eP n fJ=some (5,0)→Evp (fun k=>aN.j3 k x7 x.f0 (x.f0==n) cs ms x.f0 x.f1 x.f2) (fun r=>r=true↔iK cs ms a4 l5.length x):=by
    intro n hn hw
    rw[show(x.f0==n)=true by simpa using hn]
    refine Evp.step (f:=fun k=>_) (fun k=>by rw[aN.j3]) (Evp.yes rfl (Evp.ite (fun h=>Evp.pure _ (fD hn hw ?_)) (fun h=>Evp.pure _ (fD hn hw ?_))))
    ·rw[op5,op0,beq_iff_eq];exact⟨fun h2=>⟨h7.1 h,h2⟩,fun h2=>h2.2⟩
    ·rw[op5,op0];exact dI fun h2=>h (h7.2 h2.1)
  have J4: ∀n:Int,x.f0=n→eP n fJ=some (6,0)→Evp (fun k=>aN.j4 k x7 x.f0 (x.f0==n) cs ms x.f0 x.f1 x.f2) (fun r=>r=true↔iK cs ms a4 l5.length x):=by
    intro n hn hw
    rw[show(x.f0==n)=true by simpa using hn]
    refine Evp.step (f:=fun k=>_) (fun k=>by rw[aN.j4]) (Evp.yes rfl ?_)
    rw[gz]
    simp only[Option.bind_some]
    refine o5.mono fun r hr=>fD hn hw (hr.trans ?_)
    rw[op6,op0];omega
  have J5: ∀n:Int,x.f0=n→eP n fJ=some (5,8)→Evp (fun k=>aN.j5 k x7 x.f0 (x.f0==n) cs ms x.f0 x.f1 x.f2) (fun r=>r=true↔iK cs ms a4 l5.length x):=by
    intro n hn hw
    rw[show(x.f0==n)=true by simpa using hn]
    refine Evp.step (f:=fun k=>_) (fun k=>by rw[aN.j5]) (Evp.yes rfl (Evp.ite (fun h=> ?_) (fun h=>Evp.pure _ (fD hn hw ?_))))
    · obtain⟨hx0,hx1⟩:=h7.1 h
      have:=qJ hok x.f1.toNat (by omega)
      rw[show((x.f1.toNat:Nat):Int)=x.f1 by omega]at this
      refine Evp.bind this fun l hl=> ?_
      have a:=hl.2
      rw[gz,w64 (n:=(l.length:Int) - 1) (by omega) (by omega)]
      simp only[Option.bind_some]
      refine Evp.pure _ (fD hn hw ?_)
      rw[op5,op8,decide_eq_true_iff]
      constructor
      ·intro h2;exact⟨⟨hx0,hx1⟩,h2.1,l,hl.1,by omega⟩
      · rintro⟨_,h2,l',hl',h3⟩
        rw[←hl.1.fn hl']at h3
        exact⟨h2,by omega⟩
    ·rw[op5];exact dI fun h2=>h (h7.2 h2.1)
  by_cases e1:x.f0=1
  · simp only[if_pos e1]
    unfold ic.f
    rw[gz]
    simp only[Option.bind_some]
    refine o5.mono fun r hr=>fD e1 rfl (hr.trans ?_)
    rw[op1,op0]
  simp only[if_neg e1]
  by_cases e2:x.f0=2
  ·simp only[if_pos e2];exact J0 2 e2 rfl
  simp only[if_neg e2]
  by_cases e5:x.f0=5
  ·simp only[if_pos e5];exact J0 5 e5 rfl
  simp only[if_neg e5]
  by_cases e6:x.f0=6
  ·simp only[if_pos e6];exact J0 6 e6 rfl
  simp only[if_neg e6]
  by_cases e14:x.f0=14
  ·simp only[if_pos e14];exact J0 14 e14 rfl
  simp only[if_neg e14]
  by_cases e22:x.f0=22
  ·simp only[if_pos e22];exact J0 22 e22 rfl
  simp only[if_neg e22]
  by_cases e23:x.f0=23
  ·simp only[if_pos e23];exact J0 23 e23 rfl
  simp only[if_neg e23]
  by_cases e24:x.f0=24
  ·exact J0 24 e24 rfl
  rw[show(x.f0==24)=false by simpa using e24]
  refine Evp.step (f:=fun k=>_) (fun k=>by rw[aN.j0]) (Evp.no (by decide) ?_)
  by_cases e3:x.f0=3
  ·simp only[if_pos e3];exact J1 3 e3 rfl
  simp only[if_neg e3]
  by_cases e4:x.f0=4
  ·exact J1 4 e4 rfl
  rw[show(x.f0==4)=false by simpa using e4]
  refine Evp.step (f:=fun k=>_) (fun k=>by rw[aN.j1]) (Evp.no (by decide) ?_)
  by_cases e7:x.f0=7
  · simp only[if_pos e7]
    rw[gz]
    simp only[Option.bind_some]
    refine o5.mono fun r hr=>fD e7 rfl (hr.trans ?_)
    rw[op3,op0]
  simp only[if_neg e7]
  by_cases e8:x.f0=8
  ·simp only[if_pos e8];exact J2 8 e8 rfl
  simp only[if_neg e8]
  by_cases e9:x.f0=9
  ·simp only[if_pos e9];exact J2 9 e9 rfl
  simp only[if_neg e9]
  by_cases e10:x.f0=10
  ·simp only[if_pos e10];exact J2 10 e10 rfl
  simp only[if_neg e10]
  by_cases e11:x.f0=11
  ·exact J2 11 e11 rfl
  rw[show(x.f0==11)=false by simpa using e11]
  refine Evp.step (f:=fun k=>_) (fun k=>by rw[aN.j2]) (Evp.no (by decide) ?_)
  by_cases e12:x.f0=12
  ·simp only[if_pos e12];exact J3 12 e12 rfl
  simp only[if_neg e12]
  by_cases e19:x.f0=19
  ·exact J3 19 e19 rfl
  rw[show(x.f0==19)=false by simpa using e19]
  refine Evp.step (f:=fun k=>_) (fun k=>by rw[aN.j3]) (Evp.no (by decide) ?_)
  by_cases e13:x.f0=13
  ·simp only[if_pos e13];exact J4 13 e13 rfl
  simp only[if_neg e13]
  by_cases e15:x.f0=15
  ·simp only[if_pos e15];exact J4 15 e15 rfl
  simp only[if_neg e15]
  by_cases e16:x.f0=16
  ·exact J4 16 e16 rfl
  rw[show(x.f0==16)=false by simpa using e16]
  refine Evp.step (f:=fun k=>_) (fun k=>by rw[aN.j4]) (Evp.no (by decide) ?_)
  by_cases e17:x.f0=17
  ·simp only[if_pos e17];exact J5 17 e17 rfl
  simp only[if_neg e17]
  by_cases e18:x.f0=18
  ·exact J5 18 e18 rfl
  rw[show(x.f0==18)=false by simpa using e18]
  refine Evp.step (f:=fun k=>_) (fun k=>by rw[aN.j5]) (Evp.no (by decide) ?_)
  by_cases e20:x.f0=20
  · simp only[if_pos e20]
    rw[gz,w64 (n:=(ms.length:Int) - 1) (by omega) (by omega)]
    simp only[Option.bind_some]
    refine Evp.ite (fun h=> ?_) (fun h=>Evp.pure _ (fD e20 rfl ?_))
    · have h' :=of_decide_eq_true h
      refine Evp.ite (fun h2=>Evp.yes h'.1 (Evp.yes (by omega) (Evp.pure _ (fD e20 rfl ?_)))) (fun h2=>Evp.pure _ (fD e20 rfl ?_))
      · rw[op7,op0,beq_iff_eq]
        exact⟨fun h3=>⟨⟨h'.1,by omega,h3⟩,h2⟩,fun h3=>h3.1.2.2⟩
      ·rw[op0];exact dI fun h3=>h2 h3.2
    ·rw[op7];exact dI fun h3=>h (decide_eq_true (by omega))
  simp only[if_neg e20]
  by_cases e21:x.f0=21
  · simp only[if_pos e21]
    refine Evp.ite (fun h=> ?_) (fun h=>Evp.pure _ (fD e21 rfl ?_))
    · rw[gz]
      simp only[Option.bind_some]
      refine Evp.pure _ (fD e21 rfl ?_)
      rw[op5,op9,decide_eq_true_iff]
      have:=h7.1 h
      omega
    ·rw[op5];exact dI fun h2=>h (h7.2 h2.1)
  simp only[if_neg e21]
  refine Evp.pure _ (dI ?_)
  rintro⟨p,q,hw,_⟩
  rw[rF (by omega)]at hw
  cases hw
def fQ (cs:List Cls) (nc:Nat) (c:Cth):Prop:=(0≤c.f0∧c.f0<(nc:Int))∧(c.f0<c.f1∧c.f1≤(nc:Int))∧(0≤c.f2∧c.f2<(nc:Int))∧(0≤c.f3∧c.f3<(cs.length:Int))∧Up cs c.f3.toNat 1
def nO (cs:List Cls) (nc:Nat) (l7:List Cth):Prop:=l7.length≤2∧∀j,0≤j→j<l7.length→fQ cs nc (l7.getD j gm)
theorem ol {cs:List Cls} (hok:ClsOk cs) (ms:List Mth) {a0 a1:Int} {l2:List Int} {a3 a4:Int} (l5:List Ins) (l6:List jC) (l7:List Cth):
    Evp (fun k=>bf.f k cs ms a0 a1 l2 a3 a4 l5 l6 l7) (fun r=>r=true↔nO cs l5.length l7):=by
  unfold bf.f
  refine Evp.ite (fun h=>Evp.pure _ (dI fun h2=>by have:=h2.1;omega)) (fun h=> ?_)
  have k0: ∀i,i≤l7.length→Evp (fun k=>bf.l0 k l7 (l7.length:Int) (i:Int) cs ms a0 a1 l2 a3 a4 l5 l6 l7) (fun r=>r=true↔(∀j,i≤j→j<l7.length→fQ cs l5.length (l7.getD j gm))∧True):=by
    refine Evp.for_ ?_ (fun i hi ih=> ?_)
    ·exact Evp.step (f:=fun k=>_) (fun k=>by rw[bf.l0]) (Evp.no (by omega) (Evp.pure _ (fw (gJ trivial))))
    · generalize hc:l7.getD i gm=c at ih
      have a: ¬fQ cs l5.length c→Evp (fun k=>bf.j1 k l7 (l7.length:Int) (i:Int) true cs ms a0 a1 l2 a3 a4 l5 l6 l7 c.f0 c.f1 c.f2 c.f3) (fun r=>r=true↔(∀j,i≤j→j<l7.length→fQ cs l5.length (l7.getD j gm))∧True):=fun hn=>
        Evp.step (f:=fun k=>_) (fun k=>by rw[bf.j1]) (Evp.yes rfl (Evp.pure _ (dO (Q:=fun j=>fQ cs l5.length (l7.getD j gm)) hi (by rw[hc];exact hn))))
      have b: ¬fQ cs l5.length c→Evp (fun k=>bf.j2 k l7 (l7.length:Int) (i:Int) true cs ms a0 a1 l2 a3 a4 l5 l6 l7 c.f0 c.f1 c.f2 c.f3) (fun r=>r=true↔(∀j,i≤j→j<l7.length→fQ cs l5.length (l7.getD j gm))∧True):=fun hn=>
        Evp.step (f:=fun k=>_) (fun k=>by rw[bf.j2]) (Evp.yes rfl (Evp.pure _ (dO (Q:=fun j=>fQ cs l5.length (l7.getD j gm)) hi (by rw[hc];exact hn))))
      refine Evp.step (f:=fun k=>_) (fun k=>by rw[bf.l0,rdK,hc]) (Evp.yes (by omega) (Evp.yes (by omega) (Evp.yes (by omega) ?_)))
      refine Evp.ite (fun h1=>a fun h9=>by have:=h9.1;omega) (fun h1=>Evp.ite (fun h2=>a fun h9=>by have:=h9.1;omega) (fun h2=>Evp.ite (fun h3=>a fun h9=>by have:=h9.2.2.1;omega) (fun h3=> ?_)))
      by_cases h4:c.f2≥(l5.length:Int)
      · rw[decide_eq_true h4]
        exact a fun h9=>by have:=h9.2.2.1;omega
      rw[decide_eq_false h4]
      refine Evp.step (f:=fun k=>_) (fun k=>by rw[bf.j1]) (Evp.no (by decide) (Evp.ite (fun h5=>b fun h9=>by have:=h9.2.1;omega) (fun h5=> ?_)))
      by_cases h6:c.f1>(l5.length:Int)
      · rw[decide_eq_true h6]
        exact b fun h9=>by have:=h9.2.1;omega
      rw[decide_eq_false h6]
      refine Evp.step (f:=fun k=>_) (fun k=>by rw[bf.j2]) (Evp.no (by decide) ?_)
      obtain⟨x,hx,hx2⟩:=jo cs c.f3
      simp only[hx,Option.bind_some]
      refine Evp.ite (fun h7=> ?_) (fun h7=>Evp.pure _ (dO (Q:=fun j=>fQ cs l5.length (l7.getD j gm)) hi (by rw[hc];exact fun h9=>h7 (hx2.2 h9.2.2.2.1))))
      have h8:=hx2.1 h7
      have hu:=pJ hok 1 c.f3.toNat (by omega)
      rw[show((c.f3.toNat:Nat):Int)=c.f3 by omega]at hu
      refine Evp.bind hu fun u hu=>Evp.ite (fun h9=> ?_) (fun h9=>Evp.pure _ (dO (Q:=fun j=>fQ cs l5.length (l7.getD j gm)) hi (by rw[hc];exact fun h10=>h9 (hu.2 h10.2.2.2.2))))
      rw[eU (n:=l7.length) hi (by omega)]
      exact ih.mono fun r hr=>fB (Q:=fun j=>fQ cs l5.length (l7.getD j gm)) (by rw[hc];exact⟨by omega,by omega,by omega,h8,hu.1 h9⟩) hr
  exact(k0 0 (Nat.zero_le _)).mono fun r hr=>hr.trans ⟨fun h2=>⟨by omega,h2.1⟩,fun h2=>⟨h2.2,trivial⟩⟩
theorem pY {cs:List Cls} (hok:ClsOk cs) (ms:List Mth) {a0 a1:Int} {l2:List Int} {a3 a4:Int} (l5:List Ins) (a:l5.length≤1048576) (l6:List jC) (l7:List Cth) (c:Cth):
    Evp (fun k=>gV.f k cs ms a0 a1 l2 a3 a4 l5 l6 l7 c.f0 c.f1 c.f2 c.f3) (fun r=>r=true↔fQ cs l5.length c):=by
  have hlo:=hok.lo
  have hhi:=hok.hi
  unfold gV.f
  rw[gz,w64 (n:=(l5.length:Int) - 1) (by omega) (by omega),w64 (n:=(cs.length:Int) - 1) (by omega) (by omega)]
  simp only[Option.bind_some]
  refine Evp.ite (fun h1=> ?_) (fun h1=>Evp.pure _ (dI fun h9=>h1 (decide_eq_true (by have:=h9.1;omega))))
  have h1' :=of_decide_eq_true h1
  rw[gz,w64 (n:=c.f0+1) (by omega) (by omega)]
  simp only[Option.bind_some]
  refine Evp.ite (fun h2=> ?_) (fun h2=>Evp.pure _ (dI fun h9=>h2 (decide_eq_true (by have:=h9.2.1;omega))))
  have h2' :=of_decide_eq_true h2
  rw[gz]
  simp only[Option.bind_some]
  refine Evp.ite (fun h3=> ?_) (fun h3=>Evp.pure _ (dI fun h9=>h3 (decide_eq_true (by have:=h9.2.2.1;omega))))
  have h3' :=of_decide_eq_true h3
  rw[gz]
  simp only[Option.bind_some]
  refine Evp.ite (fun h4=> ?_) (fun h4=>Evp.pure _ (dI fun h9=>h4 (decide_eq_true (by have:=h9.2.2.2.1;omega))))
  have h4' :=of_decide_eq_true h4
  have hu:=pI hok 1 c.f3.toNat (by omega)
  rw[show((c.f3.toNat:Nat):Int)=c.f3 by omega]at hu
  exact Evp.bind hu fun u hu=>Evp.pure _ (hu.trans ⟨fun h5=>⟨by omega,by omega,by omega,by omega,h5⟩,fun h5=>h5.2.2.2.2⟩)
def gH (cs:List Cls) (ms:List Mth) (m:Mth):Prop:=kg cs.length m.f0 m.f1 m.f2 m.f3 m.f4∧oZ cs ms m.f4 m.f5 m.f6∧nO cs m.f5.length m.f7
theorem o9 {cs:List Cls} (hs:fU cs) (hok:ClsOk cs) (ms:List Mth) (hm:ms.length≤1048576) (m:Mth) (h2:m.f2.length≤1048576) (h5:m.f5.length≤1048576) (h6:m.f6.length≤1048576) (h7:m.f7.length≤1048576) (a: ∀j,j<m.f6.length→SmallS (m.f6.getD j z57)):
    Evp (fun k=>aT.f k cs ms m.f0 m.f1 m.f2 m.f3 m.f4 m.f5 m.f6 m.f7) (fun r=>r=true↔gH cs ms m):=by
  obtain⟨a0,a1,l2,a3,a4,l5,l6,l7⟩:=m
  dsimp only at *
  have jt: ¬gH cs ms ⟨a0,a1,l2,a3,a4,l5,l6,l7⟩→Evp (fun k=>aT.j0 k true cs ms a0 a1 l2 a3 a4 l5 l6 l7) (fun r=>r=true↔gH cs ms ⟨a0,a1,l2,a3,a4,l5,l6,l7⟩):=fun h=>
    Evp.step (f:=fun k=>_) (fun k=>by rw[aT.j0]) (Evp.yes rfl (Evp.pure _ (dI h)))
  unfold aT.f
  refine Evp.bind (qH hs ms l5 l6 l7 h2) fun b hb=>Evp.ite (fun hh=> ?_) (fun hh=>jt fun h=>hh (hb.2 h.1))
  have hhd:=hb.1 hh
  have e:a4≤3:=hhd.2.2.2.2.1
  have g:0≤a4:=by
    have:=hhd.2.2.2.2.2
    unfold jl at this
    split at this<;>omega
  rw[gz]
  simp only[Option.bind_some]
  refine Evp.ite (fun h1=> ?_) (fun h1=>jt fun h=>h1 (decide_eq_true (by have:=h.2.1.1;dsimp only at this;omega)))
  have h1' :=of_decide_eq_true h1
  refine Evp.ite (fun he=> ?_) (fun he=>jt fun h=>he (by have:=h.2.1.1.2.2;dsimp only at this;omega))
  by_cases h3:(l7.length:Int)>2
  · rw[decide_eq_true h3]
    exact jt fun h=>by have:=h.2.2.1;dsimp only at this;omega
  rw[decide_eq_false h3]
  refine Evp.step (f:=fun k=>_) (fun k=>by rw[aT.j0]) (Evp.no (by decide) ?_)
  have k1: ∀i,i≤l7.length→Evp (fun k=>aT.l1 k (i:Int) cs ms a0 a1 l2 a3 a4 l5 l6 l7) (fun r=>r=true↔(∀j,i≤j→j<l7.length→fQ cs l5.length (l7.getD j gm))∧True):=by
    refine Evp.for_ ?_ (fun i hi ih=> ?_)
    ·exact Evp.step (f:=fun k=>_) (fun k=>by rw[aT.l1]) (Evp.no (by omega) (Evp.pure _ (fw (gJ trivial))))
    · refine Evp.step (f:=fun k=>_) (fun k=>by rw[aT.l1,rdK]) (Evp.yes (by omega) (Evp.yes (by omega) ?_))
      refine Evp.bind (pY hok ms l5 h5 l6 l7 _) fun c hc=>Evp.ite (fun h8=> ?_) (fun h8=>Evp.pure _ (dO (Q:=fun j=>fQ cs l5.length (l7.getD j gm)) hi fun h9=>h8 (hc.2 h9)))
      rw[eU (n:=l7.length) hi (by omega)]
      exact ih.mono fun r hr=>fB (Q:=fun j=>fQ cs l5.length (l7.getD j gm)) (hc.1 h8) hr
  have k0: ∀i,i≤l5.length→Evp (fun k=>aT.l0 k (i:Int) cs ms a0 a1 l2 a3 a4 l5 l6 l7) (fun r=>r=true↔(∀j,i≤j→j<l5.length→iK cs ms a4 l5.length (l5.getD j ig)∧kC cs a4 (l6.getD j z57))∧((∀j,0≤j→j<l7.length→fQ cs l5.length (l7.getD j gm))∧True)):=by
    refine Evp.for_ ?_ (fun i hi ih=> ?_)
    · refine Evp.step (f:=fun k=>_) (fun k=>by rw[aT.l0]) (Evp.no (by omega) ?_)
      exact(k1 0 (Nat.zero_le _)).mono fun r hr=>fw hr
    · have hss:=a i (by omega)
      refine Evp.step (f:=fun k=>_) (fun k=>by rw[aT.l0,rdX,rdS]) (Evp.yes (by omega) (Evp.yes (by omega) ?_))
      refine Evp.bind (sj hs hok ms hm g e l5 h5 l6 l7 _) fun c hc=>Evp.ite (fun h8=> ?_) (fun h8=>Evp.pure _ (dO (Q:=fun j=>iK cs ms a4 l5.length (l5.getD j ig)∧kC cs a4 (l6.getD j z57)) hi fun h9=>h8 (hc.2 h9.1)))
      refine Evp.yes (by omega) (Evp.bind (oh hs a4 _ hss.l1 hss.l2) fun d hd=>Evp.ite (fun h9=> ?_) (fun h9=>Evp.pure _ (dO (Q:=fun j=>iK cs ms a4 l5.length (l5.getD j ig)∧kC cs a4 (l6.getD j z57)) hi fun h10=>h9 (hd.2 ⟨hok,h10.2⟩))))
      rw[eU (n:=l5.length) hi (by omega)]
      exact ih.mono fun r hr=>fB (Q:=fun j=>iK cs ms a4 l5.length (l5.getD j ig)∧kC cs a4 (l6.getD j z57)) ⟨hc.1 h8,(hd.1 h9).2⟩ hr
  refine(k0 0 (Nat.zero_le _)).mono fun r hr=>hr.trans ?_
  constructor
  · intro h
    refine⟨hhd,⟨⟨by dsimp only;omega,by dsimp only;omega,by dsimp only;omega⟩,fun j hj hj2=>(h.1 j hj hj2).1,fun j hj hj2=>(h.1 j hj (by dsimp only at hj2;omega)).2⟩,⟨by dsimp only;omega,h.2.1⟩⟩
  · intro h
    exact⟨fun j hj hj2=>⟨h.2.1.2.1 j hj hj2,h.2.1.2.2 j hj (by dsimp only;omega)⟩,h.2.2.2,trivial⟩
abbrev mth (ms:List Mth) (i:Nat):Mth:=ms.getD i iQ
theorem mJ {xs:List Mth} (i:Nat):aa xs (i:Int)=mth xs i:=rfl
theorem mD {l m:List Int} (h:l.length=m.length):(∀j,0≤j→j<l.length→l.getD j 0=m.getD j 0)↔l=m:=by
  constructor
  · intro h2
    refine List.ext_getElem h fun i hi hi2=> ?_
    have:=h2 i (Nat.zero_le _) hi
    rwa [getD_at hi,getD_at hi2]at this
  · intro h2 j _ _
    rw[h2]
theorem all_cons {Q:Nat→Prop} {i n:Nat} (hi:i<n):(∀j,i≤j→j<n→Q j)↔Q i∧(∀j,i+1≤j→j<n→Q j):=by
  constructor
  ·intro h;exact⟨h i (Nat.le_refl _) hi,fun j hj hj2=>h j (by omega) hj2⟩
  · intro h j hj hj2
    rcases Nat.eq_or_lt_of_le hj with rfl|h3
    ·exact h.1
    ·exact h.2 j h3 hj2
theorem rG {l m:List Int} (hl:l.length≤1048576):Evp (fun k=>slices_Equal_int_int.f k l m) (fun r=>r=true↔l=m):=by
  unfold slices_Equal_int_int.f
  refine Evp.ite (fun h=> ?_) (fun h=>Evp.pure _ (dI fun h2=>h (by rw[h2])))
  have k0: ∀i,i≤l.length→Evp (fun k=>slices_Equal_int_int.l0 k l m (l.length:Int) (i:Int)) (fun r=>r=true↔(∀j,i≤j→j<l.length→l.getD j 0=m.getD j 0)∧True):=by
    refine Evp.for_ ?_ (fun i hi ih=> ?_)
    ·exact Evp.step (f:=fun k=>_) (fun k=>by rw[slices_Equal_int_int.l0]) (Evp.no (by omega) (Evp.pure _ (fw (gJ trivial))))
    · refine Evp.step (f:=fun k=>_) (fun k=>by rw[slices_Equal_int_int.l0,rdN,rdN]) (Evp.yes (by omega) (Evp.yes (by omega) (Evp.yes (by omega) (Evp.yes (by omega) (Evp.ite (fun h2=> ?_) (fun h2=>Evp.pure _ (dO hi h2)))))))
      rw[eU (n:=l.length) hi (by omega)]
      exact ih.mono fun r hr=>fB (Q:=fun j=>l.getD j 0=m.getD j 0) h2 hr
  refine(k0 0 (Nat.zero_le _)).mono fun r hr=>hr.trans ?_
  rw[mD (by omega)]
  exact⟨fun h2=>h2.1,fun h2=>⟨h2,trivial⟩⟩
theorem tq {a b:Mth} (ha:a.f2.length≤1048576):Evp (fun k=>bY.f k a.f0 a.f1 a.f2 a.f3 a.f4 a.f5 a.f6 a.f7 b.f0 b.f1 b.f2 b.f3 b.f4 b.f5 b.f6 b.f7) (fun r=>r=true↔a.f3=b.f3∧a.f2=b.f2):=by
  unfold bY.f
  have jt: ¬(a.f3=b.f3∧a.f2=b.f2)→Evp (fun k=>bY.j0 k true a.f0 a.f1 a.f2 a.f3 a.f4 a.f5 a.f6 a.f7 b.f0 b.f1 b.f2 b.f3 b.f4 b.f5 b.f6 b.f7) (fun r=>r=true↔a.f3=b.f3∧a.f2=b.f2):=fun h=>
    Evp.step (f:=fun k=>_) (fun k=>by rw[bY.j0]) (Evp.yes rfl (Evp.pure _ (dI h)))
  refine Evp.ite (fun h=> ?_) (fun h=>jt fun h2=>h h2.1)
  by_cases hl:a.f2.length=b.f2.length
  · rw[show((a.f2.length:Int) !=(b.f2.length:Int))=false by simp;omega]
    refine Evp.step (f:=fun k=>_) (fun k=>by rw[bY.j0]) (Evp.no (by decide) ?_)
    have k0: ∀i,i≤a.f2.length→Evp (fun k=>bY.l0 k (i:Int) a.f0 a.f1 a.f2 a.f3 a.f4 a.f5 a.f6 a.f7 b.f0 b.f1 b.f2 b.f3 b.f4 b.f5 b.f6 b.f7) (fun r=>r=true↔(∀j,i≤j→j<a.f2.length→a.f2.getD j 0=b.f2.getD j 0)∧True):=by
      refine Evp.for_ ?_ (fun i hi ih=> ?_)
      ·exact Evp.step (f:=fun k=>_) (fun k=>by rw[bY.l0]) (Evp.no (by omega) (Evp.pure _ (fw (gJ trivial))))
      · refine Evp.step (f:=fun k=>_) (fun k=>by rw[bY.l0,rdN,rdN]) (Evp.yes (by omega) (Evp.yes (by omega) (Evp.yes (by omega) (Evp.ite (fun h2=> ?_) (fun h2=>Evp.pure _ (dO hi h2))))))
        rw[eU (n:=a.f2.length) hi (by omega)]
        exact ih.mono fun r hr=>fB (Q:=fun j=>a.f2.getD j 0=b.f2.getD j 0) h2 hr
    refine(k0 0 (Nat.zero_le _)).mono fun r hr=>hr.trans ?_
    rw[mD hl]
    exact⟨fun h2=>⟨h,h2.1⟩,fun h2=>⟨h2.2,trivial⟩⟩
  · rw[show((a.f2.length:Int) !=(b.f2.length:Int))=true by simp;omega]
    exact jt fun h2=>hl (by rw[h2.2])
def jb (cs:List Cls) (a b:Mth):Prop:=0≤a.f0→0≤b.f0→a.f1=b.f1→Up cs a.f0.toNat b.f0.toNat→a.f0≠b.f0∧a.f3=b.f3∧a.f2=b.f2
def Row (cs:List Cls) (ms:List Mth) (i:Nat):Prop:= ∀j,0≤j→j<ms.length→i≠j→jb cs (mth ms i) (mth ms j)
def Agree (cs:List Cls) (ms:List Mth):Prop:= ∀i,0≤i→i<ms.length→Row cs ms i
def InR (cs:List Cls) (ms:List Mth):Prop:= ∀i,i<ms.length→(0≤(mth ms i).f0→(mth ms i).f0<(cs.length:Int))∧(mth ms i).f2.length≤1048576
theorem pg {cs:List Cls} (hok:ClsOk cs) {ms:List Mth} (hm:ms.length≤1048576) (hr:InR cs ms):Evp (fun k=>bK.f k cs ms) (fun r=>r=true↔Agree cs ms):=by
  unfold bK.f
  have k0 : ∀i,i≤ms.length→Evp (fun k=>bK.l0 k ms (ms.length:Int) (i:Int) cs ms) (fun r=>r=true↔(∀j,i≤j→j<ms.length→Row cs ms j)∧True):=by
    refine Evp.for_ ?_ (fun i hi ih=> ?_)
    ·exact Evp.step (f:=fun k=>_) (fun k=>by rw[bK.l0]) (Evp.no (by omega) (Evp.pure _ (fw (gJ trivial))))
    · refine Evp.step (f:=fun k=>_) (fun k=>by rw[bK.l0,mJ]) (Evp.yes (by omega) (Evp.yes (by omega) (Evp.yes (by omega) ?_)))
      have hri:=hr i hi
      have k1: ∀j,j≤ms.length→Evp (fun k=>bK.l1 k (i:Int) ms (ms.length:Int) (i:Int) ms (ms.length:Int) (j:Int) cs ms (mth ms i).f0 (mth ms i).f1 (mth ms i).f2 (mth ms i).f3 (mth ms i).f4 (mth ms i).f5 (mth ms i).f6 (mth ms i).f7) (fun r=>r=true↔(∀j',j≤j' →j' <ms.length→(i≠j' →jb cs (mth ms i) (mth ms j')))∧(∀j',i+1≤j' →j' <ms.length→Row cs ms j')):=by
        refine Evp.for_ ?_ (fun j hj ihj=> ?_)
        · refine Evp.step (f:=fun k=>_) (fun k=>by rw[bK.l1]) (Evp.no (by omega) ?_)
          rw[eU (n:=ms.length) hi (by omega)]
          exact ih.mono fun r hr=>fw (hr.trans ⟨fun h=>h.1,fun h=>⟨h,trivial⟩⟩)
        · have hrj:=hr j hj
          refine Evp.step (f:=fun k=>_) (fun k=>by rw[bK.l1,mJ]) (Evp.yes (by omega) (Evp.yes (by omega) (Evp.yes (by omega) ?_)))
          show Evp (fun k=>if(i:Int)=(j:Int)then bK.j2 k (i:Int) ms (ms.length:Int) (i:Int) ms (ms.length:Int) (j:Int) true cs ms (mth ms i).f0 (mth ms i).f1 (mth ms i).f2 (mth ms i).f3 (mth ms i).f4 (mth ms i).f5 (mth ms i).f6 (mth ms i).f7 (mth ms j).f0 (mth ms j).f1 (mth ms j).f2 (mth ms j).f3 (mth ms j).f4 (mth ms j).f5 (mth ms j).f6 (mth ms j).f7 else _) _
          have go:(i≠j→jb cs (mth ms i) (mth ms j))→Evp (fun k=>bK.l1 k (i:Int) ms (ms.length:Int) (i:Int) ms (ms.length:Int) (wrap64 ((j:Int)+1)) cs ms (mth ms i).f0 (mth ms i).f1 (mth ms i).f2 (mth ms i).f3 (mth ms i).f4 (mth ms i).f5 (mth ms i).f6 (mth ms i).f7) (fun r=>r=true↔(∀j',j≤j' →j' <ms.length→(i≠j' →jb cs (mth ms i) (mth ms j')))∧(∀j',i+1≤j' →j' <ms.length→Row cs ms j')):=by
            intro hp
            rw[eU (n:=ms.length) hj (by omega)]
            exact ihj.mono fun r hr=>fB (Q:=fun j' =>i≠j' →jb cs (mth ms i) (mth ms j')) hp hr
          have skip:(i≠j→jb cs (mth ms i) (mth ms j))→Evp (fun k=>bK.j2 k (i:Int) ms (ms.length:Int) (i:Int) ms (ms.length:Int) (j:Int) true cs ms (mth ms i).f0 (mth ms i).f1 (mth ms i).f2 (mth ms i).f3 (mth ms i).f4 (mth ms i).f5 (mth ms i).f6 (mth ms i).f7 (mth ms j).f0 (mth ms j).f1 (mth ms j).f2 (mth ms j).f3 (mth ms j).f4 (mth ms j).f5 (mth ms j).f6 (mth ms j).f7) (fun r=>r=true↔(∀j',j≤j' →j' <ms.length→(i≠j' →jb cs (mth ms i) (mth ms j')))∧(∀j',i+1≤j' →j' <ms.length→Row cs ms j')):=fun hp=>
            Evp.step (f:=fun k=>_) (fun k=>by rw[bK.j2]) (Evp.yes rfl (go hp))
          have stop:i≠j→¬jb cs (mth ms i) (mth ms j)→Evp (fun k=>some false) (fun r=>r=true↔(∀j',j≤j' →j' <ms.length→(i≠j' →jb cs (mth ms i) (mth ms j')))∧(∀j',i+1≤j' →j' <ms.length→Row cs ms j')):=fun hne hp=>
            Evp.pure _ (dO (Q:=fun j' =>i≠j' →jb cs (mth ms i) (mth ms j')) hj fun h=>hp (h hne))
          refine Evp.ite (fun h1=>skip fun h=>absurd (by omega) h) (fun h1=>Evp.ite (fun h2=>skip fun _ h3=>absurd h3 (by omega)) (fun h2=>Evp.ite (fun h3=>skip fun _ _ h4=>absurd h4 (by omega)) (fun h3=> ?_)))
          by_cases h4:(mth ms i).f1=(mth ms j).f1
          · rw[show((mth ms i).f1 !=(mth ms j).f1)=false by simpa using h4]
            refine Evp.step (f:=fun k=>_) (fun k=>by rw[bK.j2]) (Evp.no (by decide) ?_)
            have e1:(((mth ms i).f0.toNat:Nat):Int)=(mth ms i).f0:=by omega
            have e2:(((mth ms j).f0.toNat:Nat):Int)=(mth ms j).f0:=by omega
            have hij:i≠j:=by omega
            refine Evp.ite (fun h5=>stop hij fun h=>(h (by omega) (by omega) h4 (by rw[h5];exact .refl _)).1 h5) (fun h5=> ?_)
            have hu:=pJ hok (mth ms j).f0.toNat (mth ms i).f0.toNat (by have:=hri.1 (by omega);omega)
            rw[e1,e2]at hu
            refine Evp.bind hu fun u hu=>Evp.ite (fun h6=> ?_) (fun h6=>go fun _ _ _ _ h7=>absurd (hu.2 h7) h6)
            refine Evp.ite (fun h7=> ?_) (fun h7=>stop hij fun h=>h7 (h (by omega) (by omega) h4 (hu.1 h6)).2.1)
            refine Evp.bind (rG hri.2) fun e he=>Evp.ite (fun h8=>go fun _ _ _ _ _=>⟨h5,h7,he.1 h8⟩) (fun h8=>stop hij fun h=>h8 (he.2 (h (by omega) (by omega) h4 (hu.1 h6)).2.2))
          · rw[show((mth ms i).f1 !=(mth ms j).f1)=true by simpa using h4]
            exact skip fun _ _ _ h5=>absurd h5 h4
      refine(k1 0 (Nat.zero_le _)).mono fun r hr=>hr.trans ?_
      rw[all_cons (Q:=fun j=>Row cs ms j) hi]
      exact⟨fun h=>⟨h,trivial⟩,fun h=>h.1⟩
  exact(k0 0 (Nat.zero_le _)).mono fun r hr=>hr.trans ⟨fun h=>h.1,fun h=>⟨h,trivial⟩⟩
theorem p8 {cs:List Cls} (hok:ClsOk cs) {ms:List Mth} (hm:ms.length≤1048576) (hr:InR cs ms):Evp (fun k=>bP.f k cs ms) (fun r=>r=true↔Agree cs ms):=by
  unfold bP.f
  have k0 : ∀i,i≤ms.length→Evp (fun k=>bP.l0 k (i:Int) cs ms) (fun r=>r=true↔(∀j,i≤j→j<ms.length→Row cs ms j)∧True):=by
    refine Evp.for_ ?_ (fun i hi ih=> ?_)
    ·exact Evp.step (f:=fun k=>_) (fun k=>by rw[bP.l0]) (Evp.no (by omega) (Evp.pure _ (fw (gJ trivial))))
    · refine Evp.step (f:=fun k=>_) (fun k=>by rw[bP.l0]) (Evp.yes (by omega) ?_)
      have hri:=hr i hi
      have k1: ∀j,j≤ms.length→Evp (fun k=>bP.l1 k (i:Int) (j:Int) cs ms) (fun r=>r=true↔(∀j',j≤j' →j' <ms.length→(i≠j' →jb cs (mth ms i) (mth ms j')))∧(∀j',i+1≤j' →j' <ms.length→Row cs ms j')):=by
        refine Evp.for_ ?_ (fun j hj ihj=> ?_)
        · refine Evp.step (f:=fun k=>_) (fun k=>by rw[bP.l1]) (Evp.no (by omega) ?_)
          rw[eU (n:=ms.length) hi (by omega)]
          exact ih.mono fun r hr=>fw (hr.trans ⟨fun h=>h.1,fun h=>⟨h,trivial⟩⟩)
        · have hrj:=hr j hj
          refine Evp.step (f:=fun k=>_) (fun k=>by rw[bP.l1,mJ,mJ,eU (n:=ms.length) hj (by omega)]) (Evp.yes (by omega) (Evp.yes (by omega) (Evp.yes (by omega) (Evp.yes (by omega) ?_))))
          have go:(i≠j→jb cs (mth ms i) (mth ms j))→Evp (fun k=>bP.l1 k (i:Int) ((j+1:Nat):Int) cs ms) (fun r=>r=true↔(∀j',j≤j' →j' <ms.length→(i≠j' →jb cs (mth ms i) (mth ms j')))∧(∀j',i+1≤j' →j' <ms.length→Row cs ms j')):=by
            intro hp
            exact ihj.mono fun r hr=>fB (Q:=fun j' =>i≠j' →jb cs (mth ms i) (mth ms j')) hp hr
          have stop:i≠j→¬jb cs (mth ms i) (mth ms j)→Evp (fun k=>some false) (fun r=>r=true↔(∀j',j≤j' →j' <ms.length→(i≠j' →jb cs (mth ms i) (mth ms j')))∧(∀j',i+1≤j' →j' <ms.length→Row cs ms j')):=fun hne hp=>
            Evp.pure _ (dO (Q:=fun j' =>i≠j' →jb cs (mth ms i) (mth ms j')) hj fun h=>hp (h hne))
          refine Evp.ite (fun h1=>go fun h=>absurd (by omega) h) (fun h1=>Evp.ite (fun h2=>Evp.ite (fun h3=>Evp.ite (fun h4=> ?_) (fun h4=>go fun _ _ _ h5=>absurd h5 h4)) (fun h3=>go fun _ _ h4=>absurd h4 h3)) (fun h2=>go fun _ h3=>absurd h3 h2))
          have hij:i≠j:=by omega
          have e1:(((mth ms i).f0.toNat:Nat):Int)=(mth ms i).f0:=by omega
          have e2:(((mth ms j).f0.toNat:Nat):Int)=(mth ms j).f0:=by omega
          have hu:=pI hok (mth ms j).f0.toNat (mth ms i).f0.toNat (by have:=hri.1 h2;omega)
          rw[e1,e2]at hu
          refine Evp.bind hu fun u hu=>Evp.ite (fun h6=>Evp.ite (fun h5=>stop hij fun h=>(h h2 h3 h4 (hu.1 h6)).1 h5) (fun h5=> ?_)) (fun h6=>go fun _ _ _ _ h7=>absurd (hu.2 h7) h6)
          refine Evp.bind (tq (a:=mth ms i) (b:=mth ms j) hri.2) fun e he=>Evp.ite (fun h8=>go fun _ _ _ _ _=>⟨h5,he.1 h8⟩) (fun h8=>stop hij fun h=>h8 (he.2 (h h2 h3 h4 (hu.1 h6)).2))
      refine(k1 0 (Nat.zero_le _)).mono fun r hr=>hr.trans ?_
      rw[all_cons (Q:=fun j=>Row cs ms j) hi]
      exact⟨fun h=>⟨h,trivial⟩,fun h=>h.1⟩
  exact(k0 0 (Nat.zero_le _)).mono fun r hr=>hr.trans ⟨fun h=>h.1,fun h=>⟨h,trivial⟩⟩
structure SmallM (m:Mth):Prop where
  a3: -9223372036854775808≤m.f3∧m.f3≤9223372036854775807
  l2:m.f2.length≤1048576
  i2:I64 m.f2
  l5:m.f5.length≤1048576
  l6:m.f6.length≤1048576
  l7:m.f7.length≤1048576
  s6: ∀j,j<m.f6.length→SmallS (m.f6.getD j z57)
structure SmallU (cs:List Cls) (ms:List Mth):Prop where
  c:fU cs
  m:ms.length≤1048576
  e: ∀i,i<ms.length→SmallM (mth ms i)
def uD (m:Mth):Prop:=m.f0= -1∧m.f2.length=0∧m.f3=1
def iE (cs:List Cls) (ms:List Mth):Prop:=ClsOk cs∧(1≤ms.length∧ms.length≤4)∧uD (mth ms 0)∧(∀i,0≤i→i<ms.length→gH cs ms (mth ms i))∧Agree cs ms
theorem rH {cs:List Cls} {ms:List Mth} (hu:SmallU cs ms) (h: ∀i,i<ms.length→gH cs ms (mth ms i)):InR cs ms:=fun i hi=>⟨fun h0=>by
  rcases (h i hi).1.1 with h1|h1<;>omega,(hu.e i hi).l2⟩
theorem mg {cs:List Cls} {ms:List Mth} (hu:SmallU cs ms):Evp (fun k=>bC.f k cs ms) (fun r=>r=true↔iE cs ms):=by
  have hs:=hu.c
  have hm:=hu.m
  have g: ¬iE cs ms→Evp (fun k=>bC.j0 k true cs ms) (fun r=>r=true↔iE cs ms):=fun h=>
    Evp.step (f:=fun k=>_) (fun k=>by rw[bC.j0]) (Evp.yes rfl (Evp.pure _ (dI h)))
  have l: ¬iE cs ms→Evp (fun k=>bC.j1 k true cs ms) (fun r=>r=true↔iE cs ms):=fun h=>
    Evp.step (f:=fun k=>_) (fun k=>by rw[bC.j1]) (Evp.yes rfl (Evp.pure _ (dI h)))
  unfold bC.f
  refine Evp.bind (mV hs) fun c hc=>Evp.ite (fun h=> ?_) (fun h=>g fun h2=>h (hc.2 h2.1))
  have hok:=hc.1 h
  refine Evp.ite (fun h1=>g fun h2=>by have:=h2.2.1;omega) (fun h1=> ?_)
  by_cases h2:(ms.length:Int)>4
  · rw[decide_eq_true h2]
    exact g fun h3=>by have:=h3.2.1;omega
  rw[decide_eq_false h2]
  have e0:aa ms 0=mth ms 0:=rfl
  refine Evp.step (f:=fun k=>_) (fun k=>by rw[bC.j0,e0]) (Evp.no (by decide) (Evp.yes (by omega) (Evp.ite (fun h3=>Evp.ite (fun h4=> ?_) (fun h4=>l fun h5=>h4 (by have:=h5.2.2.1.2.1;omega))) (fun h3=>l fun h5=>h3 h5.2.2.1.1))))
  by_cases h5:(mth ms 0).f3=1
  · rw[show((mth ms 0).f3 !=1)=false by simpa using h5]
    refine Evp.step (f:=fun k=>_) (fun k=>by rw[bC.j1]) (Evp.no (by decide) ?_)
    have k0: ∀d i:Nat,i+d=ms.length→(∀j,j<i→gH cs ms (mth ms j))→Evp (fun k=>bC.l0 k ms (ms.length:Int) (i:Int) cs ms) (fun r=>r=true↔(∀j,i≤j→j<ms.length→gH cs ms (mth ms j))∧Agree cs ms):=by
      intro d
      induction d with
      | zero=>
        intro i hi hall
        refine Evp.step (f:=fun k=>_) (fun k=>by rw[bC.l0]) (Evp.no (by omega) ?_)
        refine Evp.bind (pg hok hm (rH hu fun j hj=>hall j (by omega))) fun a ha=>Evp.pure _ ?_
        exact ha.trans ⟨fun h=>⟨fun j hj hj2=>absurd hj2 (by omega),h⟩,fun h=>h.2⟩
      | succ d ih=>
        intro i hi hall
        have hil:i<ms.length:=by omega
        have hsm:=hu.e i hil
        refine Evp.step (f:=fun k=>_) (fun k=>by rw[bC.l0,mJ]) (Evp.yes (by omega) (Evp.yes (by omega) (Evp.yes (by omega) ?_)))
        refine Evp.bind (qG hs ms (mth ms i).f5 (mth ms i).f6 (mth ms i).f7 hsm.a3.1 hsm.a3.2 hsm.l2 hsm.i2) fun a ha=>Evp.ite (fun h6=> ?_) (fun h6=>Evp.pure _ (dO (Q:=fun j=>gH cs ms (mth ms j)) hil fun h9=>h6 (ha.2 h9.1)))
        refine Evp.bind (qK hs hok ms (mth ms i).f5 (mth ms i).f6 (mth ms i).f7 0 hsm.s6 hsm.l5 hsm.l6) fun b hb=>Evp.ite (fun h7=> ?_) (fun h7=>Evp.pure _ (dO (Q:=fun j=>gH cs ms (mth ms j)) hil fun h9=>h7 (hb.2 h9.2.1)))
        refine Evp.bind (ol hok ms (mth ms i).f5 (mth ms i).f6 (mth ms i).f7) fun e he=>Evp.ite (fun h8=> ?_) (fun h8=>Evp.pure _ (dO (Q:=fun j=>gH cs ms (mth ms j)) hil fun h9=>h8 (he.2 h9.2.2)))
        have hmi:gH cs ms (mth ms i):=⟨ha.1 h6,hb.1 h7,he.1 h8⟩
        rw[eU (n:=ms.length) hil (by omega)]
        refine(ih (i+1) (by omega) fun j hj=> ?_).mono fun r hr=>fB (Q:=fun j=>gH cs ms (mth ms j)) hmi hr
        rcases Nat.eq_or_lt_of_le (Nat.le_of_lt_succ hj)with rfl|h9
        ·exact hmi
        ·exact hall j h9
    refine(k0 ms.length 0 (by omega) fun j hj=>absurd hj (Nat.not_lt_zero _)).mono fun r hr=>hr.trans ?_
    exact⟨fun h6=>⟨hok,by omega,⟨h3,by omega,h5⟩,h6.1,h6.2⟩,fun h6=>⟨h6.2.2.2.1,h6.2.2.2.2⟩⟩
  · rw[show((mth ms 0).f3 !=1)=true by simpa using h5]
    exact l fun h6=>h5 h6.2.2.1.2.2
theorem mh {cs:List Cls} {ms:List Mth} (hu:SmallU cs ms):Evp (fun k=>aY.f k cs ms) (fun r=>r=true↔iE cs ms):=by
  have hs:=hu.c
  have hm:=hu.m
  have g: ¬iE cs ms→Evp (fun k=>aY.j0 k true cs ms) (fun r=>r=true↔iE cs ms):=fun h=>
    Evp.step (f:=fun k=>_) (fun k=>by rw[aY.j0]) (Evp.yes rfl (Evp.pure _ (dI h)))
  have b: ¬iE cs ms→Evp (fun k=>aY.j1 k true cs ms) (fun r=>r=true↔iE cs ms):=fun h=>
    Evp.step (f:=fun k=>_) (fun k=>by rw[aY.j1]) (Evp.yes rfl (Evp.pure _ (dI h)))
  unfold aY.f
  refine Evp.bind (jD hs) fun c hc=>Evp.ite (fun h=> ?_) (fun h=>g fun h2=>h (hc.2 h2.1))
  have hok:=hc.1 h
  rw[gz]
  simp only[Option.bind_some]
  by_cases h2:1≤(ms.length:Int)∧(ms.length:Int)≤4
  · rw[decide_eq_true h2]
    have e0:aa ms 0=mth ms 0:=rfl
    refine Evp.step (f:=fun k=>_) (fun k=>by rw[aY.j0,e0]) (Evp.no (by decide) (Evp.yes (by omega) (Evp.ite (fun h3=>Evp.ite (fun h4=>b fun h5=>by have:=h5.2.2.1.2.1;omega) (fun h4=> ?_)) (fun h3=>b fun h5=>h3 h5.2.2.1.1))))
    by_cases h5:(mth ms 0).f3=1
    · rw[show((mth ms 0).f3 !=1)=false by simpa using h5]
      refine Evp.step (f:=fun k=>_) (fun k=>by rw[aY.j1]) (Evp.no (by decide) ?_)
      have k0: ∀d i:Nat,i+d=ms.length→(∀j,j<i→gH cs ms (mth ms j))→Evp (fun k=>aY.l0 k (i:Int) cs ms) (fun r=>r=true↔(∀j,i≤j→j<ms.length→gH cs ms (mth ms j))∧Agree cs ms):=by
        intro d
        induction d with
        | zero=>
          intro i hi hall
          refine Evp.step (f:=fun k=>_) (fun k=>by rw[aY.l0]) (Evp.no (by omega) ?_)
          refine Evp.bind (p8 hok hm (rH hu fun j hj=>hall j (by omega))) fun a ha=>Evp.pure _ ?_
          exact ha.trans ⟨fun h=>⟨fun j hj hj2=>absurd hj2 (by omega),h⟩,fun h=>h.2⟩
        | succ d ih=>
          intro i hi hall
          have hil:i<ms.length:=by omega
          have hsm:=hu.e i hil
          refine Evp.step (f:=fun k=>_) (fun k=>by rw[aY.l0,mJ]) (Evp.yes (by omega) (Evp.yes (by omega) ?_))
          refine Evp.bind (o9 hs hok ms hm (mth ms i) hsm.l2 hsm.l5 hsm.l6 hsm.l7 hsm.s6) fun a ha=>Evp.ite (fun h6=> ?_) (fun h6=>Evp.pure _ (dO (Q:=fun j=>gH cs ms (mth ms j)) hil fun h9=>h6 (ha.2 h9)))
          rw[eU (n:=ms.length) hil (by omega)]
          refine(ih (i+1) (by omega) fun j hj=> ?_).mono fun r hr=>fB (Q:=fun j=>gH cs ms (mth ms j)) (ha.1 h6) hr
          rcases Nat.eq_or_lt_of_le (Nat.le_of_lt_succ hj)with rfl|h9
          ·exact ha.1 h6
          ·exact hall j h9
      refine(k0 ms.length 0 (by omega) fun j hj=>absurd hj (Nat.not_lt_zero _)).mono fun r hr=>hr.trans ?_
      exact⟨fun h6=>⟨hok,by omega,⟨h3,by omega,h5⟩,h6.1,h6.2⟩,fun h6=>⟨h6.2.2.2.1,h6.2.2.2.2⟩⟩
    · rw[show((mth ms 0).f3 !=1)=true by simpa using h5]
      exact b fun h6=>h5 h6.2.2.1.2.2
  · rw[decide_eq_false h2]
    exact g fun h3=>h2 (by have:=h3.2.1;omega)
end Go.Proofs.YteinbmkgenhocaaGreat.Kit
end
section
namespace Go.Proofs.YteinbmkgenhocaaGreat.Open
open Go Go.RowKit Go.ChangeShapes Go.WideShapes Go.Deep Go.Proofs.YteinbmkgenhocaaGreatW.PrintWords
set_option linter.unusedVariables false
set_option linter.unusedSectionVars false
theorem uE {α:Type} {n:Nat} {p:Nat→α→Prop} (h: ∀i,i<n→∃x,p i x): ∃xs:List α,xs.length=n∧∀i y,xs[i]? =some y→p i y:=by
  induction n with
  |zero=>exact⟨[],rfl,fun i y hy=>by simp at hy⟩
  | succ q ih=>
    obtain⟨xs,hl,hxs⟩:=ih (fun i hi=>h i (by omega))
    obtain⟨z,hz⟩:=h q (by omega)
    refine⟨xs++ [z],by simp[hl],fun i y hy=> ?_⟩
    by_cases hi:i<xs.length
    · rw[List.getElem?_append_left hi]at hy
      exact hxs i y hy
    · rw[List.getElem?_append_right (by omega)]at hy
      have hi2:i=xs.length:=by
        have:=(List.getElem?_eq_some_iff.1 hy).1
        simp at this
        omega
      subst hi2
      simp at hy
      subst hy
      rw[hl]
      exact hz
section
variable {H:Type} {enc:TypeId×Value→H} {P:Program} {w:World} {base:Nat} {spare:Nat→Bool} {held:Bool}
def iR {H:Type} (enc:TypeId×Value→H) (P:Program) (w:World) (base:Nat) (spare:Nat→Bool) (held:Bool) {α:Type} (t:TypeId) (d:Kd α) (wf:α→Prop):Prop:=
  ∀(fuel:Nat) (cs:List Value) (x:DataW H×List MemPlace),DataW.trod enc P w base spare held fuel t cs=some x→∃a,d.K w a cs∧wf a
theorem fe {k:IntKind} {t:TypeId} (hu:P.underlying t=some (.int k)):iR enc P w base spare held t (Kd.int k) (fun n=>(Lit.int k n).wf=true):=by
  intro fuel cs x h
  obtain⟨n,rfl,_,hw⟩:=DataW.trod_int hu h
  exact⟨n,rfl,hw⟩
theorem qy {t:TypeId} (hu:P.underlying t=some .bool):iR enc P w base spare held t Kd.bool (fun _=>True):=by
  intro fuel cs x h
  obtain⟨b,rfl,_⟩:=DataW.trod_bool hu h
  exact⟨b,rfl,trivial⟩
theorem rJ {base n:Nat} {a:Addr} {cs:List Value} (h:w.cells? base a n=some cs):cs.length=n∧∀i u,cs[i]? =some u→w.cell? (a.add i)=some u:=by
  obtain⟨hb,hl,hc⟩:=World.cells?_some h
  refine⟨hl,fun i u hu=> ?_⟩
  have hi:i<cs.length:=(List.getElem?_eq_some_iff.1 hu).1
  rw[hc i (by omega),hu]
theorem gB {α:Type} {d:Kd α} {wf:α→Prop} {t e:TypeId} (hu:P.underlying t=some (.slice e)) (hc:P.cellsOf e=d.sz) (ho:iR enc P w base spare held e d wf):
    iR enc P w base spare held t (Kd.slice e d) (fun xs=>xs.length≤9223372036854775807∧∀x∈xs,wf x):=by
  intro fuel cs x h
  rcases open_slice hu h with⟨rfl,_⟩|⟨a,len,cap,m,n,D,Pl,rfl,_,hlc,hcm,hm,_,hel⟩
  ·exact⟨[],⟨none,0,rfl,Nat.le_refl 0,rfl,Nat.zero_le _,fun hp=>absurd hp (Nat.lt_irrefl 0)⟩,Nat.zero_le _,fun x hx=>by cases hx⟩
  · have hlm:len≤m:=by rw[hm];split<;>omega
    obtain⟨xs,hxl,hxs⟩:=uE (p:=fun i y=> ∃c,w.cells? base (a.add (i * P.cellsOf e)) (P.cellsOf e)=some c∧d.K w y c∧wf y) (fun i hi=>by
      obtain⟨cs',h1,h2⟩:=hel i (by omega)
      obtain⟨y,hy,hw⟩:=ho n cs' _ h2
      exact⟨y,cs',h1,hy,hw⟩: ∀i,i<len→_)
    have hmax:len≤9223372036854775807:=by unfold maxLen at hcm;omega
    subst hxl
    refine⟨xs,⟨some a,cap,rfl,hlc,rfl,hmax,fun _=>⟨a,rfl,fun j p hj=> ?_⟩⟩,hmax,fun y hy=> ?_⟩
    · obtain⟨c,h1,h2,_⟩:=hxs j p hj
      rw[hc]at h1
      obtain⟨h3,h4⟩:=rJ h1
      exact⟨c,h3,h2,fun i u hu=>by rw[←Go.Deep.add_add];exact h4 i u hu⟩
    · obtain⟨i,hi⟩:=List.getElem?_of_mem hy
      obtain⟨_,_,_,h3⟩:=hxs i y hi
      exact h3
def mU {H:Type} (enc:TypeId×Value→H) (P:Program) (w:World) (base:Nat) (spare:Nat→Bool) (held:Bool) {β:Type} (fs:List Field) (off:Nat) (d:Kd β) (wf:β→Prop):Prop:=
  ∀(fuel:Nat) (cs:List Value),cs.length=off+d.sz→(∀f∈fs,∃y,DataW.trod enc P w base spare held fuel f.type ((cs.drop f.offset).take (P.cellsOf f.type))=some y)→∃b,d.K w b (cs.drop off)∧wf b
theorem ji {α:Type} {d:Kd α} {wf:α→Prop} {f:Field} {off:Nat} (ho:f.offset=off) (hc:P.cellsOf f.type=d.sz) (h:iR enc P w base spare held f.type d wf):mU enc P w base spare held [f] off d wf:=by
  intro fuel cs hl hf
  obtain⟨y,hy⟩:=hf f (by simp)
  rw[ho,hc,List.take_of_length_le (by simp;omega)]at hy
  exact h fuel _ _ hy
theorem eH {α β:Type} {d:Kd α} {d2:Kd β} {wf:α→Prop} {wf2:β→Prop} {f:Field} {fs:List Field} {off c:Nat} (ho:f.offset=off) (hc:P.cellsOf f.type=d.sz) (h2:c=off+d.sz)
    (h:iR enc P w base spare held f.type d wf) (hr:mU enc P w base spare held fs c d2 wf2):mU enc P w base spare held (f::fs) off (Kd.pair d d2) (fun p=>wf p.1∧wf2 p.2):=by
  intro fuel cs hl hf
  have hl' :cs.length=off+(d.sz+d2.sz):=hl
  obtain⟨y,hy⟩:=hf f (by simp)
  rw[ho,hc]at hy
  obtain⟨a,ha,hwa⟩:=h fuel _ _ hy
  obtain⟨b,hb,hwb⟩:=hr fuel cs (by omega) (fun g hg=>hf g (by simp[hg]))
  refine⟨(a,b),⟨_,_, ?_,ha,hb⟩,hwa,hwb⟩
  rw[h2,←List.drop_drop]
  exact(List.take_append_drop d.sz (cs.drop off)).symm
theorem iF {α β:Type} {d:Kd β} {wf:β→Prop} {t:TypeId} {fs:Array Field} (hu:P.underlying t=some (.struct fs)) (hc:P.cellsOf t=d.sz) (h:mU enc P w base spare held fs.toList 0 d wf) (f:α→β) (g:β→α) (hfg: ∀b,f (g b)=b):
    iR enc P w base spare held t (Kd.iso d f) (fun a=>wf (f a)):=by
  intro fuel cs x hx
  obtain⟨xs,n,_,_,hl,hxl,hfs⟩:=DataW.trod_struct hu hx
  obtain⟨b,hb,hwb⟩:=h n cs (by omega) (fun q hq=>by
    obtain⟨i,hi⟩:=List.getElem?_of_mem hq
    rw[Array.getElem?_toList]at hi
    have hlt:i<xs.length:=by rw[hxl];exact(Array.getElem?_eq_some_iff.1 hi).1
    rw[hfs i q hi,List.getElem?_eq_getElem hlt]
    exact⟨_,rfl⟩)
  exact⟨g b,by show d.K w (f (g b)) cs;rw[hfg];exact hb,by show wf (f (g b));rw[hfg];exact hwb⟩
theorem rM {α:Type} {d:Kd α} {wf:α→Prop} {t:TypeId} {v:Value} {x:DataW H} {ps:List MemPlace} (h:DataW.Trod enc P w base spare held t v x ps) (ho:iR enc P w base spare held t d wf): ∃a,d.K w a v.cells.toList∧wf a:=by
  obtain⟨fuel,hf⟩:=h
  exact ho fuel _ _ hf
end
end Go.Proofs.YteinbmkgenhocaaGreat.Open
end
section
namespace Go.Proofs.YteinbmkgenhocaaGreat.P
open Go.RowKit Go.Proofs.YteinbmkgenhocaaGreatW.PrintWords Go.Proofs.YteinbmkgenhocaaGreat.Open
structure S25 where
  f0:(List S116)
  f1:(List S122)
def k25:Kd S25:=Kd.iso (Kd.pair (Kd.slice 116 kE) (Kd.slice 122 kH)) (fun x:S25=>(x.f0,x.f1))
theorem tu {w:World} {x:S25} {cs:List Value} (h:k25.K w x cs): ∃A0 c0 A1 c1,cs= [.slice A0 x.f0.length c0, .slice A1 x.f1.length c1]∧x.f0.length≤c0∧kE.C w A0 x.f0.length x.f0∧x.f1.length≤c1∧kH.C w A1 x.f1.length x.f1:=by
  obtain⟨_,_,rfl,⟨A0,c0,rfl,l0,g0⟩,⟨A1,c1,rfl,l1,g1⟩⟩:=h
  exact⟨A0,c0,A1,c1,rfl,l0,g0,l1,g1⟩
structure S49 where
  f0:(List S143)
  f1:(List S146)
  f2:(List Int)
  f3:Int
  f4:Int
  f5:S47
def o6 (x:S116):Prop:=((Lit.int .i64 x.f0).wf=true)∧((x.f1.length≤9223372036854775807∧∀y∈x.f1,(Lit.int .i64 y).wf=true))
theorem tC (H:Type) (enc:TypeId×Value→H) (w:World) (base:Nat) (spare:Nat→Bool) (held:Bool):iR enc Tryz.prog w base spare held 116 kE o6:=
  iF Tryz.underlying116 (by kernel_rfl) (eH rfl (by kernel_rfl) rfl (fe Tryz.underlying3) (ji rfl (by kernel_rfl) (gB Tryz.underlying29 (by kernel_rfl) (fe Tryz.underlying3)))) (fun x:S116=>(x.f0,x.f1)) (fun p=>⟨p.1,p.2⟩) (fun _=>rfl)
def rO (x:S217):Prop:=((Lit.int .i64 x.f0).wf=true)∧((Lit.int .i64 x.f1).wf=true)∧((Lit.int .i64 x.f2).wf=true)
theorem tF (H:Type) (enc:TypeId×Value→H) (w:World) (base:Nat) (spare:Nat→Bool) (held:Bool):iR enc Tryz.prog w base spare held 217 kF rO:=
  iF Tryz.underlying217 (by kernel_rfl) (eH rfl (by kernel_rfl) rfl (fe Tryz.underlying3) (eH rfl (by kernel_rfl) rfl (fe Tryz.underlying3) (ji rfl (by kernel_rfl) (fe Tryz.underlying3)))) (fun x:S217=>(x.f0,(x.f1,x.f2))) (fun p=>⟨p.1,p.2.1,p.2.2⟩) (fun _=>rfl)
def qz (x:S55):Prop:=(True)∧((x.f1.length≤9223372036854775807∧∀y∈x.f1,(Lit.int .i64 y).wf=true))∧((x.f2.length≤9223372036854775807∧∀y∈x.f2,(Lit.int .i64 y).wf=true))
theorem uF (H:Type) (enc:TypeId×Value→H) (w:World) (base:Nat) (spare:Nat→Bool) (held:Bool):iR enc Tryz.prog w base spare held 55 k55 qz:=
  iF Tryz.underlying55 (by kernel_rfl) (eH rfl (by kernel_rfl) rfl (qy Tryz.underlying4) (eH rfl (by kernel_rfl) rfl (gB Tryz.underlying29 (by kernel_rfl) (fe Tryz.underlying3)) (ji rfl (by kernel_rfl) (gB Tryz.underlying29 (by kernel_rfl) (fe Tryz.underlying3))))) (fun x:S55=>(x.f0,(x.f1,x.f2))) (fun p=>⟨p.1,p.2.1,p.2.2⟩) (fun _=>rfl)
def rP (x:S219):Prop:=((Lit.int .i64 x.f0).wf=true)∧((Lit.int .i64 x.f1).wf=true)∧((Lit.int .i64 x.f2).wf=true)∧((Lit.int .i64 x.f3).wf=true)
theorem tH (H:Type) (enc:TypeId×Value→H) (w:World) (base:Nat) (spare:Nat→Bool) (held:Bool):iR enc Tryz.prog w base spare held 219 kG rP:=
  iF Tryz.underlying219 (by kernel_rfl) (eH rfl (by kernel_rfl) rfl (fe Tryz.underlying3) (eH rfl (by kernel_rfl) rfl (fe Tryz.underlying3) (eH rfl (by kernel_rfl) rfl (fe Tryz.underlying3) (ji rfl (by kernel_rfl) (fe Tryz.underlying3))))) (fun x:S219=>(x.f0,(x.f1,(x.f2,x.f3)))) (fun p=>⟨p.1,p.2.1,p.2.2.1,p.2.2.2⟩) (fun _=>rfl)
def lM (x:S122):Prop:=((Lit.int .i64 x.f0).wf=true)∧((Lit.int .i64 x.f1).wf=true)∧((x.f2.length≤9223372036854775807∧∀y∈x.f2,(Lit.int .i64 y).wf=true))∧((Lit.int .i64 x.f3).wf=true)∧((Lit.int .i64 x.f4).wf=true)∧((x.f5.length≤9223372036854775807∧∀y∈x.f5,rO y))∧((x.f6.length≤9223372036854775807∧∀y∈x.f6,qz y))∧((x.f7.length≤9223372036854775807∧∀y∈x.f7,rP y))
theorem tJ (H:Type) (enc:TypeId×Value→H) (w:World) (base:Nat) (spare:Nat→Bool) (held:Bool):iR enc Tryz.prog w base spare held 122 kH lM:=
  iF Tryz.underlying122 (by kernel_rfl) (eH rfl (by kernel_rfl) rfl (fe Tryz.underlying3) (eH rfl (by kernel_rfl) rfl (fe Tryz.underlying3) (eH rfl (by kernel_rfl) rfl (gB Tryz.underlying29 (by kernel_rfl) (fe Tryz.underlying3)) (eH rfl (by kernel_rfl) rfl (fe Tryz.underlying3) (eH rfl (by kernel_rfl) rfl (fe Tryz.underlying3) (eH rfl (by kernel_rfl) rfl (gB Tryz.underlying118 (by kernel_rfl) (tF H enc w base spare held)) (eH rfl (by kernel_rfl) rfl (gB Tryz.underlying119 (by kernel_rfl) (uF H enc w base spare held)) (ji rfl (by kernel_rfl) (gB Tryz.underlying120 (by kernel_rfl) (tH H enc w base spare held)))))))))) (fun x:S122=>(x.f0,(x.f1,(x.f2,(x.f3,(x.f4,(x.f5,(x.f6,x.f7)))))))) (fun p=>⟨p.1,p.2.1,p.2.2.1,p.2.2.2.1,p.2.2.2.2.1,p.2.2.2.2.2.1,p.2.2.2.2.2.2.1,p.2.2.2.2.2.2.2⟩) (fun _=>rfl)
def nZ (x:S25):Prop:=((x.f0.length≤9223372036854775807∧∀y∈x.f0,o6 y))∧((x.f1.length≤9223372036854775807∧∀y∈x.f1,lM y))
theorem uG (H:Type) (enc:TypeId×Value→H) (w:World) (base:Nat) (spare:Nat→Bool) (held:Bool):iR enc Tryz.prog w base spare held 25 k25 nZ:=
  iF Tryz.underlying25 (by kernel_rfl) (eH rfl (by kernel_rfl) rfl (gB Tryz.underlying22 (by kernel_rfl) (tC H enc w base spare held)) (ji rfl (by kernel_rfl) (gB Tryz.underlying23 (by kernel_rfl) (tJ H enc w base spare held)))) (fun x:S25=>(x.f0,x.f1)) (fun p=>⟨p.1,p.2⟩) (fun _=>rfl)
end Go.Proofs.YteinbmkgenhocaaGreat.P
end
