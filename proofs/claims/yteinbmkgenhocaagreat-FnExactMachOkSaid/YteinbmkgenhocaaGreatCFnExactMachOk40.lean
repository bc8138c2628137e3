/- FnExactMachOk: for all units and machines (of at most 2^20 values together) the program's MachOk answers as the reference does and leaves its arguments. -/
import Derived.Test.YteinbmkgenhocaaGreatRows
import Derived.ProofKit
import Derived.OpenShut
import Derived.ShutString
import Derived.ChangeOld
import Derived.SizedLaws
import Derived.Test.YteinbmkgenhocaaGreatCFnExactMachOk39
section
namespace Go.Proofs.YteinbmkgenhocaaGreat.Kit
open Go Go.RowKit Go.Proofs.YteinbmkgenhocaaGreatW.PrintWords Go.Proofs.YteinbmkgenhocaaGreat.P
set_option linter.unusedVariables false
set_option linter.unusedSimpArgs false
theorem fF {a b:Nat→Option Bool} {p q:Prop} (ha:Evp a (fun r=>r=true↔p)) (hb:p→Evp b (fun r=>r=true↔q)):Evp (fun k=>thenB (a k) (b k)) (fun r=>r=true↔p∧q):=by
  unfold thenB
  refine Evp.bind ha fun t ht=>Evp.ite (fun h=>(hb (ht.1 h)).mono fun r hr=>⟨fun h2=>⟨ht.1 h,hr.1 h2⟩,fun h2=>hr.2 h2.2⟩) (fun h=>Evp.pure _ ⟨fun h2=>absurd h2 (by decide),fun h2=>absurd (ht.2 h2.1) h⟩)
theorem jI {α:Type} {g:Nat→α→Option Bool} {p:α→Prop} (l:List α) (hl:l.length≤1099511627776) (h: ∀x∈l,Evp (fun k=>g k x) (fun r=>r=true↔p x)):Evp (fun k=>everyG (g k) l) (fun r=>r=true↔∀x∈l,p x):=by
  have key: ∀l:List α,(∀x∈l,Evp (fun k=>g k x) (fun r=>r=true↔p x))→Evp (fun k=>everyB (g k) l) (fun r=>r=true↔∀x∈l,p x):=by
    intro l
    induction l with
    |nil=>exact fun _=>Evp.pure _ ⟨fun _ _ hx=>(by cases hx),fun _=>rfl⟩
    | cons x l ih=>
      intro h
      refine(fF (h x (by simp)) (fun _=>ih (fun y hy=>h y (by simp[hy])))).mono fun r hr=>hr.trans ⟨fun h2 y hy=> ?_,fun h2=>⟨h2 x (by simp),fun y hy=>h2 y (by simp[hy])⟩⟩
      rcases List.mem_cons.1 hy with rfl|hy
      ·exact h2.1
      ·exact h2.2 y hy
  exact Evp.yes hl (key l h)
theorem oF {n:Nat} {g c:Nat→Nat→Option Bool} {P:Nat→Prop} {Q:Prop} (hend:Evp (g n) (fun r=>r=true↔Q)) (hc: ∀i,i<n→Evp (c i) (fun b=>b=true↔P i)) (hs: ∀i,i<n→∀k,g i (k+1)=thenB (c i k) (g (i+1) k)):Evp (g 0) (fun r=>r=true↔(∀j,j<n→P j)∧Q):=by
  have key: ∀i,i≤n→Evp (g i) (fun r=>r=true↔(∀j,i≤j→j<n→P j)∧Q):=by
    refine Evp.for_ (R:=fun i r=>r=true↔(∀j,i≤j→j<n→P j)∧Q) ?_ (fun i hi ih=> ?_)
    ·exact hend.mono fun r hr=>hr.trans ⟨fun h=>⟨fun j h1 h2=>by omega,h⟩,fun h=>h.2⟩
    · refine Evp.step (f:=fun k=>_) (fun k=>hs i hi k) ((fF (hc i hi) (fun _=>ih)).mono fun r hr=>hr.trans ⟨fun h=>⟨fun j h1 h2=> ?_,h.2.2⟩,fun h=>⟨h.1 i (Nat.le_refl _) hi,fun j h1 h2=>h.1 j (by omega) h2,h.2⟩⟩)
      rcases Nat.eq_or_lt_of_le h1 with rfl|h3
      ·exact h.1
      ·exact h.2.1 j h3 h2
  exact(key 0 (Nat.zero_le _)).mono fun r hr=>hr.trans ⟨fun h=>⟨fun j hj=>h.1 j (Nat.zero_le _) hj,h.2⟩,fun h=>⟨fun j _ hj=>h.1 j hj,h.2⟩⟩
def VOk (n:Int) (v:lK):Prop:=if v.f0=true then 0≤v.f1∧v.f1≤n else -128≤v.f1∧v.f1≤127
def lL (n:Int) (l:List lK):Prop:= ∀v∈l,VOk n v
def nG (o:jH):Prop:=o.f0= -1∨o.f0= -2
instance (o:jH):Decidable (nG o):=inferInstanceAs (Decidable (_∨_))
def jo (cs:List Cls) (o:jH):Prop:=if nG o then(o.f1.length:Int)≤6 else(0≤o.f0∧o.f0<(cs.length:Int))∧∃l,Flds cs o.f0.toNat l∧o.f1.length=l.length
def mh (ms:List Mth) (n:Int) (f:Frm):Prop:=(0≤f.f0∧f.f0<(ms.length:Int))∧(0≤f.f1∧f.f1≤((mth ms f.f0.toNat).f5.length:Int))∧(f.f2.length:Int)=(mth ms f.f0.toNat).f4∧(f.f3.length:Int)≤4∧lL n f.f2∧lL n f.f3
def gB (fr:Nat) (en:Int) (rf:Bool) (n:Int):Prop:=((en=0∨en=3)∧0<fr∧rf=false∧n=0)∨(en=1∧fr=0)∨(en=2∧fr=0∧rf=true∧1≤n)
structure MachOk_ (cs:List Cls) (ms:List Mth) (objs:List jH) (frs:List Frm) (said:List Int) (st en:Int) (rf:Bool) (n:Int):Prop where
  st:0≤st∧st≤200
  ob:(7:Int)≤(objs.length:Int)∧(objs.length:Int)≤207
  fr:(frs.length:Int)≤4
  sd:(said.length:Int)≤200
  wd: ∀x∈said, -128≤x∧x≤127
  ft: ∀j,j<objs.length→j<7→(objs.getD j z91).f0=1
  oo: ∀o∈objs,jo cs o∧lL (objs.length:Int) o.f1
  ff: ∀f∈frs,mh ms (objs.length:Int) f
  vo:VOk (objs.length:Int) ⟨rf,n⟩
  eo:gB frs.length en rf n
theorem kX {p:Prop} [Decidable p]:decide p=true↔p:=decide_eq_true_iff
theorem jN {p q:Prop} [Decidable p] [Decidable q]: ∃b,(if p then some (decide q)else some false)=some b∧(b=true↔p∧q):=by
  by_cases h:p
  ·exact⟨_,if_pos h,by rw[kX];exact⟨fun h2=>⟨h,h2⟩,fun h2=>h2.2⟩⟩
  ·exact⟨_,if_neg h,⟨fun h2=>absurd h2 (by decide),fun h2=>absurd h2.1 h⟩⟩
theorem lM (a b c:Int): ∃r,eH.f a b c=some r∧(r=true↔a≤b∧b≤c):=jN
theorem nY (a:Int): ∃r,dU.f a=some r∧(r=true↔ -128≤a∧a≤127):=jN
theorem jO (a b c:Int): ∃r,az.f a b c=some r∧(r=true↔b≤a∧a≤c):=jN
theorem nZ (a:Int): ∃r,eZ.f a=some r∧(r=true↔ -128≤a∧a≤127):=by
  obtain⟨r,h,h2⟩:=jO a (-128) 127
  exact⟨r,by unfold eZ.f;rw[h];rfl,h2⟩
theorem qp (n:Int) (v:lK): ∃r,jq n v=some r∧(r=true↔VOk n v):=by
  unfold jq VOk
  by_cases h:v.f0=true
  · rw[if_pos h,if_pos h]
    unfold jd.f
    rw[if_pos h]
    exact jN
  · rw[if_neg h,if_neg h]
    exact nY _
theorem oh (n:Int) (a:Bool) (b:Int): ∃r,fV.f a b n=some r∧(r=true↔VOk n ⟨a,b⟩):=by
  unfold fV.f VOk
  by_cases h:a=true
  · rw[if_pos h,if_pos h]
    obtain⟨r,h1,h2⟩:=jO b 0 n
    rw[h1,Option.bind_some]
    cases r with
    |true=>exact⟨_,if_pos rfl,h2⟩
    |false=>exact⟨_,if_neg (by decide),h2⟩
  · rw[if_neg h,if_neg h]
    obtain⟨r,h1,h2⟩:=nZ b
    rw[h1]
    exact⟨r,rfl,h2⟩
theorem jv {a:Option Bool} {p:Prop} (h: ∃r,a=some r∧(r=true↔p)):Evp (fun _=>a) (fun r=>r=true↔p):=by
  obtain⟨r,rfl,h⟩:=h
  exact Evp.pure _ h
theorem lN {n:Int} {l:List lK} (hl:l.length≤1048576):Evp (fun _=>everyG (jq n) l) (fun r=>r=true↔lL n l):=
  jI (g:=fun _=>jq n) l (by omega) (fun x _=>jv (qp n x))
theorem lQ {n:Int} {l:List lK} (hl:l.length≤1048576):Evp (fun k=>cK.f k l n) (fun r=>r=true↔lL n l):=by
  unfold cK.f
  refine(oF (n:=l.length) (g:=fun i k=>cK.l0 k l n (i:Int)) (c:=fun i _=>fV.f ((di l (i:Int)).f0) ((di l (i:Int)).f1) n) (P:=fun i=>VOk n (di l (i:Int))) (Q:=True) ?_ (fun i hi=>jv (oh n _ _)) (fun i hi k=> ?_)).mono fun r hr=>hr.trans ⟨fun h v hv=> ?_,fun h=>⟨fun j hj=>h _ (by rw[rdV hj];exact List.getElem_mem hj),trivial⟩⟩
  ·exact Evp.step (f:=fun k=>_) (fun k=>by rw[cK.l0]) (Evp.no (by omega) (Evp.pure _ (by simp)))
  · show cK.l0 (k+1) l n (i:Int)=_
    rw[cK.l0,if_pos (by omega),if_pos (by omega),eF hi (by omega)]
    rfl
  · obtain⟨i,hi,rfl⟩:=List.getElem_of_mem hv
    have:=h.1 i hi
    rwa [rdV hi]at this
theorem sV {cs:List Cls} (hs:gq cs) (hok:ClsOk cs) {n:Int} (o:jH) (ho:o.f1.length≤1048576):Evp (fun k=>jX k cs n o) (fun r=>r=true↔jo cs o∧lL n o.f1):=by
  unfold jX
  refine fF ?_ (fun _=>lN ho)
  have j1:nG o→Evp (fun k=>dn.j0 k cs true o.f0 o.f1) (fun r=>r=true↔jo cs o):=fun h=>
    Evp.step (f:=fun k=>_) (fun k=>by rw[dn.j0]) (Evp.yes rfl (Evp.pure _ (by rw[kX];unfold jo;rw[if_pos h])))
  have j0: ¬nG o→Evp (fun k=>dn.j0 k cs false o.f0 o.f1) (fun r=>r=true↔jo cs o):=fun h=>by
    refine Evp.step (f:=fun k=>_) (fun k=>by rw[dn.j0]) (Evp.no (by decide) ?_)
    obtain⟨x,hx,hx2⟩:=jb cs o.f0
    simp only[hx,Option.bind_some]
    unfold jo
    rw[if_neg h]
    refine Evp.ite (fun h1=> ?_) (fun h1=>Evp.pure _ ⟨fun h2=>absurd h2 (by decide),fun h2=>absurd (hx2.2 h2.1) h1⟩)
    have h2:=hx2.1 h1
    have hf:=nH hok o.f0.toNat (by omega)
    rw[show((o.f0.toNat:Nat):Int)=o.f0 by omega]at hf
    refine Evp.bind hf fun l hl=>Evp.pure _ ?_
    rw[beq_iff_eq]
    exact⟨fun h3=>⟨h2,l,hl.1,by omega⟩,fun h3=>by obtain⟨_,l',h4,h5⟩:=h3;have:=hl.1.fn h4;subst this;omega⟩
  unfold dn.f
  refine Evp.ite (fun h=>j1 (.inl h)) (fun h=> ?_)
  by_cases h2:o.f0= -2
  ·rw[beq_iff_eq.mpr h2];exact j1 (.inr h2)
  ·rw[beq_eq_false_iff_ne.mpr h2];exact j0 (fun h3=>h3.elim h h2)
theorem sW {cs:List Cls} {ms:List Mth} (hs:gq cs) (hok:ClsOk cs) {n:Int} (o:jH) (ho:o.f1.length≤1048576):Evp (fun k=>bP.f k cs ms o.f0 o.f1 n) (fun r=>r=true↔jo cs o∧lL n o.f1):=by
  have hl0:=hs.1
  have j1:nG o→Evp (fun k=>bP.j0 k true cs ms o.f0 o.f1) (fun r=>r=true↔jo cs o):=fun h=>
    Evp.step (f:=fun k=>_) (fun k=>by rw[bP.j0]) (Evp.yes rfl (Evp.pure _ (by rw[kX];unfold jo;rw[if_pos h])))
  have j0: ¬nG o→Evp (fun k=>bP.j0 k false cs ms o.f0 o.f1) (fun r=>r=true↔jo cs o):=fun h=>by
    refine Evp.step (f:=fun k=>_) (fun k=>by rw[bP.j0]) (Evp.no (by decide) ?_)
    rw[w64 (n:=(cs.length:Int) - 1) (by omega) (by omega)]
    obtain⟨x,hx,hx2⟩:=jO o.f0 0 ((cs.length:Int) - 1)
    simp only[hx,Option.bind_some]
    unfold jo
    rw[if_neg h]
    refine Evp.ite (fun h1=> ?_) (fun h1=>Evp.pure _ ⟨fun h2=>absurd h2 (by decide),fun h2=>absurd (hx2.2 (by have:=h2.1;omega)) h1⟩)
    have h2:=hx2.1 h1
    have hf:=nI hok o.f0.toNat (by omega)
    rw[show((o.f0.toNat:Nat):Int)=o.f0 by omega]at hf
    refine Evp.bind hf fun l hl=>Evp.pure _ ?_
    rw[beq_iff_eq]
    exact⟨fun h3=>⟨by omega,l,hl.1,by omega⟩,fun h3=>by obtain⟨_,l',h4,h5⟩:=h3;have:=hl.1.fn h4;subst this;omega⟩
  unfold bP.f
  refine Evp.bind (lQ ho) fun t ht=>Evp.ite (fun h=> ?_) (fun h=>Evp.pure _ ⟨fun h2=>absurd h2 (by decide),fun h2=>absurd (ht.2 h2.2) h⟩)
  have fin:Evp (fun k=>if o.f0= -1 then bP.j0 k true cs ms o.f0 o.f1 else bP.j0 k (o.f0== -2) cs ms o.f0 o.f1) (fun r=>r=true↔jo cs o):=by
    refine Evp.ite (fun h=>j1 (.inl h)) (fun h=> ?_)
    by_cases h2:o.f0= -2
    ·rw[beq_iff_eq.mpr h2];exact j1 (.inr h2)
    ·rw[beq_eq_false_iff_ne.mpr h2];exact j0 (fun h3=>h3.elim h h2)
  exact fin.mono fun r hr=>hr.trans ⟨fun h2=>⟨h2,ht.1 h⟩,fun h2=>h2.1⟩
theorem qA {cs:List Cls} {ms:List Mth} {n:Int} (f:Frm) (h2:f.f2.length≤1048576) (h3:f.f3.length≤1048576):Evp (fun _=>iY cs ms n f) (fun r=>r=true↔mh ms n f):=by
  unfold iY mh
  have h1: ∃r,fu.f cs ms f.f0=some r∧(r=true↔(0≤f.f0∧f.f0<(ms.length:Int))):=jN
  refine fF (jv h1) (fun _=>fF (jv (lM _ _ _)) (fun _=> ?_))
  refine Evp.ite (fun c=> ?_) (fun c=>Evp.pure _ ⟨fun h=>absurd h (by decide),fun h=>absurd h.1 c⟩)
  refine Evp.ite (fun c2=> ?_) (fun c2=>Evp.pure _ ⟨fun h=>absurd h (by decide),fun h=>absurd h.2.1 c2⟩)
  exact(fF (lN h2) (fun _=>lN h3)).mono fun r hr=>hr.trans ⟨fun h=>⟨c,c2,h⟩,fun h=>h.2.2⟩
theorem qB {cs:List Cls} {ms:List Mth} (hm:ms.length≤1048576) {n:Int} (f:Frm) (h2:f.f2.length≤1048576) (h3:f.f3.length≤1048576):Evp (fun k=>bM.f k cs ms f.f0 f.f1 f.f2 f.f3 n) (fun r=>r=true↔mh ms n f):=by
  unfold bM.f mh
  rw[w64 (n:=(ms.length:Int) - 1) (by omega) (by omega)]
  obtain⟨x,hx,hx2⟩:=jO f.f0 0 ((ms.length:Int) - 1)
  simp only[hx,Option.bind_some]
  refine Evp.ite (fun a=> ?_) (fun a=>Evp.pure _ ⟨fun h=>absurd h (by decide),fun h=>absurd (hx2.2 (by have:=h.1;omega)) a⟩)
  have b:=hx2.1 a
  refine Evp.yes b.1 (Evp.yes (by omega) ?_)
  obtain⟨y,hy,hy2⟩:=jO f.f1 0 ((aa ms f.f0).f5.length:Int)
  simp only[hy,Option.bind_some]
  refine Evp.ite (fun a2=> ?_) (fun a2=>Evp.pure _ ⟨fun h=>absurd h (by decide),fun h=>absurd (hy2.2 h.2.1) a2⟩)
  have b2:=hy2.1 a2
  refine Evp.ite (fun c=> ?_) (fun c=>Evp.pure _ ⟨fun h=>absurd h (by decide),fun h=>absurd h.2.2.1 c⟩)
  refine Evp.ite (fun c2=> ?_) (fun c2=>Evp.pure _ ⟨fun h=>absurd h (by decide),fun h=>absurd h.2.2.2.1 c2⟩)
  refine Evp.bind (lQ h2) fun t ht=>Evp.ite (fun d=> ?_) (fun d=>Evp.pure _ ⟨fun h=>absurd h (by decide),fun h=>absurd (ht.2 h.2.2.2.2.1) d⟩)
  refine Evp.bind (lQ h3) fun u hu=>Evp.pure _ (hu.trans ⟨fun h=>⟨by omega,b2,c,c2,ht.1 d,h⟩,fun h=>h.2.2.2.2.2⟩)
section
variable {cs:List Cls} {ms:List Mth} {objs:List jH} {frs:List Frm} {said:List Int} {st en:Int} {rf:Bool} {n:Int}
theorem vV {r:Bool} (h:r=true↔((en=0∨en=3)∧0<frs.length∧rf=false∧n=0)) (h0:en=0∨en=3):r=true↔gB frs.length en rf n:=
  h.trans ⟨fun h=> .inl h,fun h2=>by rcases h2 with h2|h2|h2<;>omega⟩
theorem vW {r:Bool} (h0:en=0∨en=3) (hf:0<frs.length) (h:r=(!rf && (n==0))):r=true↔gB frs.length en rf n:=by
  subst h
  refine vV (frs:=frs) ?_ h0
  cases rf<;>simp[h0,hf]
theorem sZ:Evp (fun k=>ed.f k objs frs said st en rf n) (fun r=>r=true↔gB frs.length en rf n):=by
  have j1:(en=0∨en=3)→Evp (fun k=>ed.j0 k en true objs frs said st en rf n) (fun r=>r=true↔gB frs.length en rf n):=fun h0=>by
    refine Evp.step (f:=fun k=>_) (fun k=>by rw[ed.j0]) (Evp.yes rfl ?_)
    exact Evp.ite (fun h=>Evp.pure _ (vW h0 (by omega) rfl)) (fun h=>Evp.pure _ ⟨fun h2=>absurd h2 (by decide),fun h2=>by unfold gB at h2;rcases h2 with h2|h2|h2<;>omega⟩)
  have j0: ¬(en=0∨en=3)→Evp (fun k=>ed.j0 k en false objs frs said st en rf n) (fun r=>r=true↔gB frs.length en rf n):=fun h0=>by
    refine Evp.step (f:=fun k=>_) (fun k=>by rw[ed.j0]) (Evp.no (by decide) ?_)
    refine Evp.ite (fun h=>Evp.pure _ ?_) (fun h=>Evp.ite (fun h1=>Evp.ite (fun h2=>Evp.ite (fun h3=>Evp.pure _ ?_) (fun h3=>Evp.pure _ ?_)) (fun h2=>Evp.pure _ ?_)) (fun h1=>Evp.pure _ ?_))
    ·rw[beq_iff_eq];exact⟨fun h2=> .inr (.inl ⟨h,by omega⟩),fun h2=>by unfold gB at h2;rcases h2 with h2|h2|h2<;>omega⟩
    ·rw[kX];exact⟨fun h4=> .inr (.inr ⟨h1,by omega,h3,by omega⟩),fun h4=>by unfold gB at h4;rcases h4 with h4|h4|h4<;>omega⟩
    ·exact⟨fun h4=>absurd h4 (by decide),fun h4=>by unfold gB at h4;rcases h4 with h4|h4|h4<;>first|omega|exact absurd h4.2.2.1 h3⟩
    ·exact⟨fun h4=>absurd h4 (by decide),fun h4=>by unfold gB at h4;rcases h4 with h4|h4|h4<;>omega⟩
    ·exact⟨fun h4=>absurd h4 (by decide),fun h4=>by unfold gB at h4;rcases h4 with h4|h4|h4<;>omega⟩
  unfold ed.f
  by_cases h:en=0
  ·rw[beq_iff_eq.mpr h];exact Evp.yes h (j1 (.inl h))
  · refine Evp.no h ?_
    by_cases h3:en=3
    ·rw[beq_iff_eq.mpr h3];exact j1 (.inr h3)
    ·rw[beq_eq_false_iff_ne.mpr h3];exact j0 (fun h4=>h4.elim h h3)
theorem tq:Evp (fun k=>eu.f k objs frs said st en rf n) (fun r=>r=true↔gB frs.length en rf n):=by
  have j1:(en=0∨en=3)→Evp (fun k=>eu.j0 k (frs.length:Int) en true objs frs said st en rf n) (fun r=>r=true↔gB frs.length en rf n):=fun h0=>by
    refine Evp.step (f:=fun k=>_) (fun k=>by rw[eu.j0]) (Evp.yes rfl ?_)
    exact Evp.ite (fun h=>Evp.pure _ (vW h0 (by omega) rfl)) (fun h=>Evp.pure _ ⟨fun h2=>absurd h2 (by decide),fun h2=>by unfold gB at h2;rcases h2 with h2|h2|h2<;>omega⟩)
  have j0: ¬(en=0∨en=3)→Evp (fun k=>eu.j0 k (frs.length:Int) en false objs frs said st en rf n) (fun r=>r=true↔gB frs.length en rf n):=fun h0=>by
    refine Evp.step (f:=fun k=>_) (fun k=>by rw[eu.j0]) (Evp.no (by decide) ?_)
    refine Evp.ite (fun h=>Evp.pure _ ?_) (fun h=>Evp.ite (fun h1=>Evp.ite (fun h2=>Evp.ite (fun h3=>Evp.pure _ ?_) (fun h3=>Evp.pure _ ?_)) (fun h2=>Evp.pure _ ?_)) (fun h1=>Evp.pure _ ?_))
    ·rw[beq_iff_eq];exact⟨fun h2=> .inr (.inl ⟨h,by omega⟩),fun h2=>by unfold gB at h2;rcases h2 with h2|h2|h2<;>omega⟩
    ·rw[kX];exact⟨fun h4=> .inr (.inr ⟨h1,by omega,h3,by omega⟩),fun h4=>by unfold gB at h4;rcases h4 with h4|h4|h4<;>omega⟩
    ·exact⟨fun h4=>absurd h4 (by decide),fun h4=>by unfold gB at h4;rcases h4 with h4|h4|h4<;>first|omega|exact absurd h4.2.2.1 h3⟩
    ·exact⟨fun h4=>absurd h4 (by decide),fun h4=>by unfold gB at h4;rcases h4 with h4|h4|h4<;>omega⟩
    ·exact⟨fun h4=>absurd h4 (by decide),fun h4=>by unfold gB at h4;rcases h4 with h4|h4|h4<;>omega⟩
  unfold eu.f
  by_cases h:en=0
  ·rw[beq_iff_eq.mpr h];exact Evp.yes h (j1 (.inl h))
  · refine Evp.no h ?_
    by_cases h3:en=3
    ·rw[beq_iff_eq.mpr h3];exact j1 (.inr h3)
    ·rw[beq_eq_false_iff_ne.mpr h3];exact j0 (fun h4=>h4.elim h h3)
set_option maxHeartbeats 4000000 in
theorem rq (hs:gq cs) (hok:ClsOk cs) (hm:SmallMach objs frs said):Evp (fun k=>iZ.f k cs ms objs frs said st en rf n) (fun r=>r=true↔MachOk_ cs ms objs frs said st en rf n):=by
  have ho:=hm.o
  have hf:=hm.f
  have hsd:=hm.s
  show Evp (fun k=>thenB (eH.f 0 st 200) (thenB (eH.f 7 (objs.length:Int) 207) (thenB (if(frs.length:Int)≤4 then some (decide ((said.length:Int)≤200))else some false) (thenB (everyG dU.f said) (thenB (if 7≤objs.length then everyG (fun o=>some (o.f0==1)) (objs.take 7)else none) (thenB (everyG (jX k cs (objs.length:Int)) objs) (thenB (everyG (iY cs ms (objs.length:Int)) frs) (thenB (thenB (jq (objs.length:Int) ⟨rf,n⟩) (ed.f k objs frs said st en rf n)) (some true))))))))) _
  have p1:=fF (jv (qp (objs.length:Int) ⟨rf,n⟩)) (fun _=>sZ (objs:=objs) (frs:=frs) (said:=said) (st:=st) (en:=en) (rf:=rf) (n:=n))
  have p2:=fF p1 (fun _=>(Evp.pure true (⟨fun _=>trivial,fun _=>rfl⟩:true=true↔True)))
  have p3:=fF (jI (g:=fun _=>iY cs ms (objs.length:Int)) frs (by omega) (fun f hf2=>qA f (hm.f2 f hf2).1 (hm.f2 f hf2).2)) (fun _=>p2)
  have p4:=fF (jI (g:=fun k=>jX k cs (objs.length:Int)) objs (by omega) (fun o ho2=>sV hs hok o (hm.o2 o ho2))) (fun _=>p3)
  have p5:7≤objs.length→_:=fun h7=>fF (a:=fun _=>if 7≤objs.length then everyG (fun o=>some (o.f0==1)) (objs.take 7)else none) (Evp.yes h7 (jI (g:=fun _ (o:jH)=>some (o.f0==1)) (p:=fun o=>o.f0=1) (objs.take 7) (by simp;omega) (fun o _=>Evp.pure _ beq_iff_eq))) (fun _=>p4)
  refine(fF (jv (lM 0 st 200)) (fun _=>fF (jv (lM 7 (objs.length:Int) 207)) (fun h7=>fF (jv jN) (fun _=>fF (jI (g:=fun _=>dU.f) said (by omega) (fun x _=>jv (nY x))) (fun _=>p5 (by omega)))))).mono fun r hr=>hr.trans ⟨fun h=> ?_,fun h=> ?_⟩
  · obtain⟨h1,h2,⟨h3,h4⟩,h5,h6,h7,h8,⟨h9,h10⟩,_⟩:=h
    refine⟨h1,h2,h3,h4,h5,fun j hj b=> ?_,h7,h8,h9,h10⟩
    rw[getD_at hj]
    exact h6 _ (List.mem_iff_getElem.2 ⟨j,by simp;omega,by simp⟩)
  · refine⟨h.st,h.ob,⟨h.fr,h.sd⟩,h.wd,fun o ho2=> ?_,h.oo,h.ff,⟨h.vo,h.eo⟩,trivial⟩
    obtain⟨j,hj,rfl⟩:=List.getElem_of_mem ho2
    rw[List.length_take]at hj
    have:=h.ft j (by omega) (by omega)
    rw[getD_at (by omega)]at this
    rw[List.getElem_take]
    exact this
theorem ru (hu:SmallU cs ms) (hm:SmallMach objs frs said):Evp (fun k=>aJ.f k cs ms objs frs said st en rf n) (fun r=>r=true↔gX cs ms∧MachOk_ cs ms objs frs said st en rf n):=by
  have ho:=hm.o
  have hf:=hm.f
  have hsd:=hm.s
  have no: ¬(gX cs ms∧MachOk_ cs ms objs frs said st en rf n)→Evp (fun k=>aJ.j0 k (objs.length:Int) true cs ms objs frs said st en rf n) (fun r=>r=true↔gX cs ms∧MachOk_ cs ms objs frs said st en rf n):=fun h=>
    Evp.step (f:=fun k=>_) (fun k=>by rw[aJ.j0]) (Evp.yes rfl (Evp.pure _ ⟨fun h2=>absurd h2 (by decide),fun h2=>absurd h2 h⟩))
  unfold aJ.f
  refine Evp.bind (pU hu) fun u hu1=>Evp.ite (fun h=> ?_) (fun h=>no fun h2=>h (hu1.2 h2.1))
  have hok:=hu1.1 h
  obtain⟨a,ha,ha2⟩:=jO st 0 200
  simp only[ha,Option.bind_some]
  refine Evp.ite (fun h1=> ?_) (fun h1=>no fun h2=>h1 (ha2.2 h2.2.st))
  obtain⟨b,hb,hb2⟩:=jO (objs.length:Int) 7 207
  simp only[hb,Option.bind_some]
  refine Evp.ite (fun h2=> ?_) (fun h2=>no fun h3=>h2 (hb2.2 h3.2.ob))
  refine Evp.ite (fun h3=>no fun h4=>by have:=h4.2.fr;omega) (fun h3=> ?_)
  refine Evp.ite (fun h4=>no fun h5=>by have:=h5.2.sd;omega) (fun h4=> ?_)
  obtain⟨c,hc,hc2⟩:=oh (objs.length:Int) rf n
  simp only[hc,Option.bind_some]
  cases c with
  |false=>exact no fun h5=>absurd (hc2.2 h5.2.vo) (by decide)
  | true=>
    refine Evp.step (f:=fun k=>_) (fun k=>by rw[aJ.j0]) (Evp.no (by decide) ?_)
    have e2:Evp (fun k=>aJ.l2 k 0 objs frs said st en rf n) (fun r=>r=true↔(∀j,j<said.length→ -128≤rd said (j:Int)∧rd said (j:Int)≤127)∧gB frs.length en rf n):=by
      refine oF (n:=said.length) (g:=fun i k=>aJ.l2 k (i:Int) objs frs said st en rf n) (c:=fun i _=>eZ.f (rd said (i:Int))) ?_ (fun i hi=>jv (nZ _)) (fun i hi k=> ?_)
      · refine Evp.step (f:=fun k=>_) (fun k=>by rw[aJ.l2]) (Evp.no (by omega) ?_)
        exact Evp.bind tq fun r hr=>Evp.pure _ hr
      · show aJ.l2 (k+1) (i:Int) objs frs said st en rf n=_
        rw[aJ.l2,if_pos (by omega),if_pos (by omega),eF hi (by omega)]
        rfl
    have e1:Evp (fun k=>aJ.l1 k (objs.length:Int) 0 cs ms objs frs said st en rf n) (fun r=>r=true↔(∀j,j<frs.length→mh ms (objs.length:Int) (aY frs (j:Int)))∧((∀j,j<said.length→ -128≤rd said (j:Int)∧rd said (j:Int)≤127)∧gB frs.length en rf n)):=by
      refine oF (n:=frs.length) (g:=fun i k=>aJ.l1 k (objs.length:Int) (i:Int) cs ms objs frs said st en rf n) (c:=fun i k=>bM.f k cs ms ((aY frs (i:Int)).f0) ((aY frs (i:Int)).f1) ((aY frs (i:Int)).f2) ((aY frs (i:Int)).f3) (objs.length:Int)) ?_ (fun i hi=> ?_) (fun i hi k=> ?_)
      ·exact Evp.step (f:=fun k=>_) (fun k=>by rw[aJ.l1]) (Evp.no (by omega) e2)
      · have hz:=hm.f2 _ (List.getElem_mem hi)
        rw[rdF hi]
        exact qB hu.m _ hz.1 hz.2
      · show aJ.l1 (k+1) (objs.length:Int) (i:Int) cs ms objs frs said st en rf n=_
        rw[aJ.l1,if_pos (by omega),if_pos (by omega),eF hi (by omega)]
        rfl
    have e0 : Evp (fun k=>aJ.l0 k (objs.length:Int) 0 cs ms objs frs said st en rf n) (fun r=>r=true↔(∀j,j<objs.length→(jo cs (bz objs (j:Int))∧lL (objs.length:Int) (bz objs (j:Int)).f1)∧((j:Int)<7→(bz objs (j:Int)).f0=1))∧((∀j,j<frs.length→mh ms (objs.length:Int) (aY frs (j:Int)))∧((∀j,j<said.length→ -128≤rd said (j:Int)∧rd said (j:Int)≤127)∧gB frs.length en rf n))):=by
      refine oF (n:=objs.length) (g:=fun i k=>aJ.l0 k (objs.length:Int) (i:Int) cs ms objs frs said st en rf n) (c:=fun i k=>thenB (bP.f k cs ms ((bz objs (i:Int)).f0) ((bz objs (i:Int)).f1) (objs.length:Int)) (if(i:Int)<7 then(if((bz objs (i:Int)).f0)=1 then some true else some false)else some true)) ?_ (fun i hi=> ?_) (fun i hi k=> ?_)
      ·exact Evp.step (f:=fun k=>_) (fun k=>by rw[aJ.l0]) (Evp.no (by omega) e1)
      · have hz:=hm.o2 _ (List.getElem_mem hi)
        rw[←rdO hi]at hz
        refine fF (sW hu.c hok.1 _ hz) (fun _=> ?_)
        refine Evp.ite (fun c1=>Evp.ite (fun c2=>Evp.pure _ ⟨fun _ _=>c2,fun _=>rfl⟩) (fun c2=>Evp.pure _ ⟨fun h=>absurd h (by decide),fun h=>absurd (h c1) c2⟩)) (fun c1=>Evp.pure _ ⟨fun _ h=>absurd h c1,fun _=>rfl⟩)
      · show aJ.l0 (k+1) (objs.length:Int) (i:Int) cs ms objs frs said st en rf n=_
        rw[aJ.l0,if_pos (by omega),if_pos (by omega),if_pos (by omega),eF hi (by omega)]
        cases bP.f k cs ms ((bz objs (i:Int)).f0) ((bz objs (i:Int)).f1) (objs.length:Int)with
        |none=>rfl
        | some t=>
          cases t with
          |false=>rfl
          | true=>
            by_cases c1:(i:Int)<7
            · by_cases c2:(bz objs (i:Int)).f0=1
              ·simp[thenB,c1,c2]
              ·simp[thenB,c1,c2]
            ·simp[thenB,c1]
    refine e0.mono fun r hr=>hr.trans ⟨fun h=>⟨hok,ha2.1 h1,hb2.1 h2,by omega,by omega,fun x hx=> ?_,fun j hj d=> ?_,fun o ho2=> ?_,fun f hf2=> ?_,hc2.1 rfl,h.2.2.2⟩,fun h=>⟨fun j hj=>⟨?_,fun d=>h.2.ft j hj (by omega)⟩,fun j hj=> ?_,fun j hj=> ?_,h.2.eo⟩⟩
    · obtain⟨j,hj,rfl⟩:=List.getElem_of_mem hx
      have:=h.2.2.1 j hj
      rwa [mK hj]at this
    ·exact(h.1 j hj).2 (by omega)
    · obtain⟨j,hj,rfl⟩:=List.getElem_of_mem ho2
      have:=(h.1 j hj).1
      rwa [rdO hj]at this
    · obtain⟨j,hj,rfl⟩:=List.getElem_of_mem hf2
      have:=h.2.1 j hj
      rwa [rdF hj]at this
    ·rw[rdO hj];exact h.2.oo _ (List.getElem_mem hj)
    ·rw[rdF hj];exact h.2.ff _ (List.getElem_mem hj)
    ·rw[mK hj];exact h.2.wd _ (List.getElem_mem hj)
theorem oI (hu:SmallU cs ms) (hm:SmallMach objs frs said):Evp (fun k=>fZ.f k cs ms objs frs said st en rf n) (fun r=>r=true↔gX cs ms∧MachOk_ cs ms objs frs said st en rf n):=by
  unfold fZ.f
  refine Evp.bind (pR hu) fun u hu1=>Evp.ite (fun h=> ?_) (fun h=>Evp.pure _ ⟨fun h2=>absurd h2 (by decide),fun h2=>absurd (hu1.2 h2.1) h⟩)
  have hok:=hu1.1 h
  exact Evp.bind (rq hu.c hok.1 hm) fun r hr=>Evp.pure _ (hr.trans ⟨fun h2=>⟨hok,h2⟩,fun h2=>h2.2⟩)
end
end Go.Proofs.YteinbmkgenhocaaGreat.Kit
end
section
namespace Go.Proofs.YteinbmkgenhocaaGreat.Pure
open Go Go.RowKit Go.Proofs.YteinbmkgenhocaaGreatW.PrintWords Go.Proofs.YteinbmkgenhocaaGreat.P Go.Proofs.YteinbmkgenhocaaGreat.Kit
theorem FnExactMachOk:laws_FnExactMachOk.Pure:=by
  intro x y hw hy
  refine Evp.rounds ?_
  unfold laws_FnExactMachOk.f
  refine Evp.bind (uy hw) fun t ht=>Evp.ite (fun _=>Evp.pure _ rfl) (fun h=> ?_)
  have hc:=ht (by omega)
  have hu:=sN hw hc.2
  refine Evp.bind (uZ (by omega) hc.1 hy) fun u hu0=>Evp.ite (fun _=>Evp.pure _ rfl) (fun h2=> ?_)
  have hz:=hu0 (by omega)
  have hm:=pM hz
  refine Evp.bind (nz hc.2) fun a ha=> ?_
  subst ha
  refine Evp.bind (nE hz) fun b hb=> ?_
  subst hb
  refine Evp.bind (ru hu hm) fun s hs=>Evp.bind (nz hc.2) fun c hc' => ?_
  subst hc'
  refine Evp.bind (nE hz) fun d hd=> ?_
  subst hd
  refine Evp.bind (oI hu hm) fun i hi=>Evp.no (vJ hs hi) (Evp.bind (nz hc.2) fun e he=> ?_)
  subst he
  refine Evp.bind (uV hu) fun f hf=>Evp.yes hf (Evp.bind (nE hz) fun g hg=> ?_)
  subst hg
  exact Evp.bind (u6 hm) fun q hq=>Evp.yes hq (Evp.pure _ rfl)
end Go.Proofs.YteinbmkgenhocaaGreat.Pure
end
section
namespace Go.Proofs.YteinbmkgenhocaaGreat.fnExactMachOk
open Go Go.ChangeShapes Go.WideShapes Go.ChangeAt Go.RowKit Go.Proofs.YteinbmkgenhocaaGreatW.PrintWords Go.Proofs.YteinbmkgenhocaaGreat.P Go.Proofs.YteinbmkgenhocaaGreat.Open
set_option linter.unusedVariables false
theorem own:ownKnob Tryz.prog.godebug=none:=by kernel_rfl
theorem laidOut:laidOutB Tryz.prog=true:=by kernel_rfl
set_option maxRecDepth 100000 in
theorem lifted (os:Os) (started:os.Started) (H:Type) (enc:TypeId×Value→H):
    ReturnsInHanded {} Tryz.checked os 4 .any (Rows.fnExactMachOkSpec.pre6 enc Tryz.prog Tryz.f4 Rows.fnExactMachOkRow.domain false) (Rows.fnExactMachOkSpec.post enc Tryz.prog Tryz.f4 false true false false):=by
  refine returnsInHanded_of_change_sized (C:=Tryz.checked) own started (by kernel_rfl) Tryz.func4
    (ChangeSpec.witness6 (enc:=enc) (C:=Tryz.checked) false ⟨#[],#[.agg #[.slice none 0 0, .slice none 0 0], .agg #[.slice none 0 0, .slice none 0 0, .slice none 0 0, .int .i64 0, .int .i64 0, .bool false, .int .i64 0]], []⟩ 8 (by kernel_rfl) (by kernel_rfl) (by kernel_rfl) (by kernel_rfl)) ?_
  intro W base args ds gs before hval0 hW hcnd hsz0 _
  have hval: ∀(j:Nat) t v,Tryz.f4.params[j]? =some t→args[j]? =some v→Value.okWide Tryz.prog W .any base t v:=hval0
  have hW' :=hW
  obtain⟨p,q,s,hV,rfl,hfz,hnd⟩:=hW
  have hA:DataW.TrodAll enc Tryz.prog W 0 (fun _=>true) true Tryz.f4.params.toList args.toList ds p:=s
  rw[Tryz.params4]at hA hval
  obtain⟨v0,M,d0,ds0,p0,q0,hargs,rfl,rfl,h0,r0⟩:=trodAll_cons hA
  obtain⟨v1,vs1,d1,ds1,p1,q1,rfl,rfl,rfl,h1,r1⟩:=trodAll_cons r0
  obtain⟨rfl,rfl,rfl⟩:=trodAll_nil r1
  obtain rfl:args= #[v0,v1]:=by cases args;simp_all
  obtain⟨rfl,rfl⟩:=trodVars_none hV
  have k0:=h0
  have J: ∀x∈p0,x.block<W.heap.size:=by obtain⟨m,hm⟩:=k0;exact DataW.trod_lt m _ _ _ hm
  obtain⟨x0,g0,K⟩:=nS (v:=v0) h0 (uR H enc W 0 (fun _=>true) true)
  obtain⟨cs0,rfl,z0⟩:=okWide_struct Tryz.underlying25 (hval 0 25 v0 rfl rfl)
  obtain⟨u,w,y,z,e0,a,b,c,d⟩:=tY g0
  obtain rfl:cs0= #[.slice u x0.f0.length w, .slice y x0.f1.length z]:=by cases cs0;simpa[Value.cells] using e0
  have k1:=h1
  have L: ∀x∈p1,x.block<W.heap.size:=by obtain⟨m,hm⟩:=k1;exact DataW.trod_lt m _ _ _ hm
  obtain⟨x1,g1,wf1⟩:=nS (v:=v1) h1 (uS H enc W 0 (fun _=>true) true)
  obtain⟨cs1,rfl,z1⟩:=okWide_struct Tryz.underlying49 (hval 1 49 v1 rfl rfl)
  obtain⟨A,B,D,E,G,I,e1,g,i,l,n,o,r⟩:=tZ g1
  obtain rfl:cs1= #[.slice A x1.f0.length B, .slice D x1.f1.length E, .slice G x1.f2.length I, .int .i64 x1.f3, .int .i64 x1.f4, .bool x1.f5.f0, .int .i64 x1.f5.f1]:=by cases cs1;simpa[Value.cells] using e1
  clear s hval0 hsz0
  obtain⟨k,h⟩:=Pure.FnExactMachOk x0 x1 K wf1
  refine(laws_FnExactMachOk.calls k _ _ x0.f0 _ _ x0.f1 _ _ x1.f0 _ _ x1.f1 _ _ x1.f2 x1.f3 x1.f4 x1.f5.f0 x1.f5.f1 true W b a d c i g n l r o h rfl).mono fun e W' ⟨he,bel⟩=> ?_
  subst he
  exact⟨_,rfl,_,_,_, [],_, [],hW',trodAll_mk1 (shut_bool Tryz.underlying4 _),(trodAll_cons_mk (Below.trod laidOut (by kernel_rfl) (of_decide_eq_true (by kernel_rfl)) k0 bel J) (trodAll_cons_mk (Below.trod laidOut (by kernel_rfl) (of_decide_eq_true (by kernel_rfl)) k1 bel L) trodAll_mk0)),rfl,bel.frame _,fun h=>by cases h⟩
theorem over:Rows.fnExactMachOkRow.holds Tryz.pinned (OpenSpec.ofChange Rows.fnExactMachOkSpec):=
  OpenClaim.holds_of_wide 4 Tryz.f4 rfl rfl rfl rfl rfl rfl rfl ⟨rfl,rfl,rfl,rfl,rfl⟩ rfl rfl rfl rfl rfl (by kernel_rfl) Tryz.func4 (by show joinedFacts Tryz.prog _ _ _ _=true;unfold joinedFacts;rw[Go.Proofs.YteinbmkgenhocaaGreat.enter,Go.Proofs.YteinbmkgenhocaaGreat.make,Go.Proofs.YteinbmkgenhocaaGreat.lifts];kernel_rfl)
    (of_decide_eq_true (by kernel_rfl)) (by unfold Func.isWrapper;first|(rw[if_pos (by decide+kernel)];kernel_rfl)|(rw[if_neg (by decide+kernel)];exact⟨rfl,rfl⟩))
    (fun os started H enc _=>lifted os started H enc)
theorem proved:Rows.FnExactMachOkSaid:=over
end Go.Proofs.YteinbmkgenhocaaGreat.fnExactMachOk
namespace Go.Proofs.YteinbmkgenhocaaGreat
theorem fnExactMachOk_holds:Rows.FnExactMachOkSaid:=fnExactMachOk.proved
end Go.Proofs.YteinbmkgenhocaaGreat
end
