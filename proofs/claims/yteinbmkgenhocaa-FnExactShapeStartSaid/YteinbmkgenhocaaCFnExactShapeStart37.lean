/- FnExactShapeStart: for all units (of at most 2^20 values together) and a method the program's ShapeStart answers as the reference does, leaves its argument, keeps nothing of it, and its answer owns its memory. -/
import Derived.Test.YteinbmkgenhocaaRows
import Derived.ProofKit
import Derived.OpenShut
import Derived.ShutString
import Derived.ChangeOld
import Derived.SizedLaws
import Derived.Test.YteinbmkgenhocaaCFnExactShapeStart36
section
namespace Go.Proofs.Yteinbmkgenhocaa.Kit
open Go Go.RowKit Go.Proofs.YteinbmkgenhocaaW.PrintWords Go.Proofs.Yteinbmkgenhocaa.P
set_option linter.unusedVariables false
set_option linter.unusedSimpArgs false
abbrev mth (ms:List Mth) (i:Nat):Mth:=ms.getD i z50
theorem jT {xs:List Mth} (i:Nat):aa xs (i:Int)=mth xs i:=rfl
theorem kX {l m:List Int} (h:l.length=m.length):(∀j,0≤j→j<l.length→l.getD j 0=m.getD j 0)↔l=m:=by
  constructor
  · intro h2
    refine List.ext_getElem h fun i hi hi2=> ?_
    have:=h2 i (Nat.zero_le _) hi
    rwa [getD_at hi,getD_at hi2]at this
  · intro h2 j _ _
    rw[h2]
theorem all_cons {Q:Nat→Prop} {i n:Nat} (hi:i<n):(∀j,i≤j→j<n→Q j)↔Q i∧(∀j,i+1≤j→j<n→Q j):=by
  constructor
  ·intro h;exact⟨h i (Nat.le_refl _) hi,fun j hj hj2=>h j (by omega) hj2⟩
  · intro h j hj hj2
    rcases Nat.eq_or_lt_of_le hj with rfl|h3
    ·exact h.1
    ·exact h.2 j h3 hj2
theorem qa {l m:List Int} (hl:l.length≤1048576):Evp (fun k=>slices_Equal_int_int.f k l m) (fun r=>r=true↔l=m):=by
  unfold slices_Equal_int_int.f
  refine Evp.ite (fun h=> ?_) (fun h=>Evp.pure _ (dz fun h2=>h (by rw[h2])))
  have k0: ∀i,i≤l.length→Evp (fun k=>slices_Equal_int_int.l0 k l m (l.length:Int) (i:Int)) (fun r=>r=true↔(∀j,i≤j→j<l.length→l.getD j 0=m.getD j 0)∧True):=by
    refine Evp.for_ ?_ (fun i hi ih=> ?_)
    ·exact Evp.step (f:=fun k=>_) (fun k=>by rw[slices_Equal_int_int.l0]) (Evp.no (by omega) (Evp.pure _ (dZ (fM trivial))))
    · refine Evp.step (f:=fun k=>_) (fun k=>by rw[slices_Equal_int_int.l0,rdN,rdN]) (Evp.yes (by omega) (Evp.yes (by omega) (Evp.yes (by omega) (Evp.yes (by omega) (Evp.ite (fun h2=> ?_) (fun h2=>Evp.pure _ (dD hi h2)))))))
      rw[dS (n:=l.length) hi (by omega)]
      exact ih.mono fun r hr=>ek (Q:=fun j=>l.getD j 0=m.getD j 0) h2 hr
  refine(k0 0 (Nat.zero_le _)).mono fun r hr=>hr.trans ?_
  rw[kX (by omega)]
  exact⟨fun h2=>h2.1,fun h2=>⟨h2,trivial⟩⟩
theorem qW {a b:Mth} (ha:a.f2.length≤1048576):Evp (fun k=>bP.f k a.f0 a.f1 a.f2 a.f3 a.f4 a.f5 a.f6 a.f7 b.f0 b.f1 b.f2 b.f3 b.f4 b.f5 b.f6 b.f7) (fun r=>r=true↔a.f3=b.f3∧a.f2=b.f2):=by
  unfold bP.f
  have jt: ¬(a.f3=b.f3∧a.f2=b.f2)→Evp (fun k=>bP.j0 k true a.f0 a.f1 a.f2 a.f3 a.f4 a.f5 a.f6 a.f7 b.f0 b.f1 b.f2 b.f3 b.f4 b.f5 b.f6 b.f7) (fun r=>r=true↔a.f3=b.f3∧a.f2=b.f2):=fun h=>
    Evp.step (f:=fun k=>_) (fun k=>by rw[bP.j0]) (Evp.yes rfl (Evp.pure _ (dz h)))
  refine Evp.ite (fun h=> ?_) (fun h=>jt fun h2=>h h2.1)
  by_cases hl:a.f2.length=b.f2.length
  · rw[show((a.f2.length:Int) !=(b.f2.length:Int))=false by simp;omega]
    refine Evp.step (f:=fun k=>_) (fun k=>by rw[bP.j0]) (Evp.no (by decide) ?_)
    have k0: ∀i,i≤a.f2.length→Evp (fun k=>bP.l0 k (i:Int) a.f0 a.f1 a.f2 a.f3 a.f4 a.f5 a.f6 a.f7 b.f0 b.f1 b.f2 b.f3 b.f4 b.f5 b.f6 b.f7) (fun r=>r=true↔(∀j,i≤j→j<a.f2.length→a.f2.getD j 0=b.f2.getD j 0)∧True):=by
      refine Evp.for_ ?_ (fun i hi ih=> ?_)
      ·exact Evp.step (f:=fun k=>_) (fun k=>by rw[bP.l0]) (Evp.no (by omega) (Evp.pure _ (dZ (fM trivial))))
      · refine Evp.step (f:=fun k=>_) (fun k=>by rw[bP.l0,rdN,rdN]) (Evp.yes (by omega) (Evp.yes (by omega) (Evp.yes (by omega) (Evp.ite (fun h2=> ?_) (fun h2=>Evp.pure _ (dD hi h2))))))
        rw[dS (n:=a.f2.length) hi (by omega)]
        exact ih.mono fun r hr=>ek (Q:=fun j=>a.f2.getD j 0=b.f2.getD j 0) h2 hr
    refine(k0 0 (Nat.zero_le _)).mono fun r hr=>hr.trans ?_
    rw[kX hl]
    exact⟨fun h2=>⟨h,h2.1⟩,fun h2=>⟨h2.2,trivial⟩⟩
  · rw[show((a.f2.length:Int) !=(b.f2.length:Int))=true by simp;omega]
    exact jt fun h2=>hl (by rw[h2.2])
def iE (cs:List Cls) (a b:Mth):Prop:=0≤a.f0→0≤b.f0→a.f1=b.f1→Up cs a.f0.toNat b.f0.toNat→a.f0≠b.f0∧a.f3=b.f3∧a.f2=b.f2
def Row (cs:List Cls) (ms:List Mth) (i:Nat):Prop:= ∀j,0≤j→j<ms.length→i≠j→iE cs (mth ms i) (mth ms j)
def Agree (cs:List Cls) (ms:List Mth):Prop:= ∀i,0≤i→i<ms.length→Row cs ms i
def InR (cs:List Cls) (ms:List Mth):Prop:= ∀i,i<ms.length→(0≤(mth ms i).f0→(mth ms i).f0<(cs.length:Int))∧(mth ms i).f2.length≤1048576
theorem nE {cs:List Cls} (hok:ClsOk cs) {ms:List Mth} (hm:ms.length≤1048576) (hr:InR cs ms):Evp (fun k=>bA.f k cs ms) (fun r=>r=true↔Agree cs ms):=by
  unfold bA.f
  have k0 : ∀i,i≤ms.length→Evp (fun k=>bA.l0 k ms (ms.length:Int) (i:Int) cs ms) (fun r=>r=true↔(∀j,i≤j→j<ms.length→Row cs ms j)∧True):=by
    refine Evp.for_ ?_ (fun i hi ih=> ?_)
    ·exact Evp.step (f:=fun k=>_) (fun k=>by rw[bA.l0]) (Evp.no (by omega) (Evp.pure _ (dZ (fM trivial))))
    · refine Evp.step (f:=fun k=>_) (fun k=>by rw[bA.l0,jT]) (Evp.yes (by omega) (Evp.yes (by omega) (Evp.yes (by omega) ?_)))
      have hri:=hr i hi
      have k1: ∀j,j≤ms.length→Evp (fun k=>bA.l1 k (i:Int) ms (ms.length:Int) (i:Int) ms (ms.length:Int) (j:Int) cs ms (mth ms i).f0 (mth ms i).f1 (mth ms i).f2 (mth ms i).f3 (mth ms i).f4 (mth ms i).f5 (mth ms i).f6 (mth ms i).f7) (fun r=>r=true↔(∀j',j≤j' →j' <ms.length→(i≠j' →iE cs (mth ms i) (mth ms j')))∧(∀j',i+1≤j' →j' <ms.length→Row cs ms j')):=by
        refine Evp.for_ ?_ (fun j hj ihj=> ?_)
        · refine Evp.step (f:=fun k=>_) (fun k=>by rw[bA.l1]) (Evp.no (by omega) ?_)
          rw[dS (n:=ms.length) hi (by omega)]
          exact ih.mono fun r hr=>dZ (hr.trans ⟨fun h=>h.1,fun h=>⟨h,trivial⟩⟩)
        · have hrj:=hr j hj
          refine Evp.step (f:=fun k=>_) (fun k=>by rw[bA.l1,jT]) (Evp.yes (by omega) (Evp.yes (by omega) (Evp.yes (by omega) ?_)))
          show Evp (fun k=>if(i:Int)=(j:Int)then bA.j2 k (i:Int) ms (ms.length:Int) (i:Int) ms (ms.length:Int) (j:Int) true cs ms (mth ms i).f0 (mth ms i).f1 (mth ms i).f2 (mth ms i).f3 (mth ms i).f4 (mth ms i).f5 (mth ms i).f6 (mth ms i).f7 (mth ms j).f0 (mth ms j).f1 (mth ms j).f2 (mth ms j).f3 (mth ms j).f4 (mth ms j).f5 (mth ms j).f6 (mth ms j).f7 else _) _
          have go:(i≠j→iE cs (mth ms i) (mth ms j))→Evp (fun k=>bA.l1 k (i:Int) ms (ms.length:Int) (i:Int) ms (ms.length:Int) (wrap64 ((j:Int)+1)) cs ms (mth ms i).f0 (mth ms i).f1 (mth ms i).f2 (mth ms i).f3 (mth ms i).f4 (mth ms i).f5 (mth ms i).f6 (mth ms i).f7) (fun r=>r=true↔(∀j',j≤j' →j' <ms.length→(i≠j' →iE cs (mth ms i) (mth ms j')))∧(∀j',i+1≤j' →j' <ms.length→Row cs ms j')):=by
            intro hp
            rw[dS (n:=ms.length) hj (by omega)]
            exact ihj.mono fun r hr=>ek (Q:=fun j' =>i≠j' →iE cs (mth ms i) (mth ms j')) hp hr
          have skip:(i≠j→iE cs (mth ms i) (mth ms j))→Evp (fun k=>bA.j2 k (i:Int) ms (ms.length:Int) (i:Int) ms (ms.length:Int) (j:Int) true cs ms (mth ms i).f0 (mth ms i).f1 (mth ms i).f2 (mth ms i).f3 (mth ms i).f4 (mth ms i).f5 (mth ms i).f6 (mth ms i).f7 (mth ms j).f0 (mth ms j).f1 (mth ms j).f2 (mth ms j).f3 (mth ms j).f4 (mth ms j).f5 (mth ms j).f6 (mth ms j).f7) (fun r=>r=true↔(∀j',j≤j' →j' <ms.length→(i≠j' →iE cs (mth ms i) (mth ms j')))∧(∀j',i+1≤j' →j' <ms.length→Row cs ms j')):=fun hp=>
            Evp.step (f:=fun k=>_) (fun k=>by rw[bA.j2]) (Evp.yes rfl (go hp))
          have stop:i≠j→¬iE cs (mth ms i) (mth ms j)→Evp (fun k=>some false) (fun r=>r=true↔(∀j',j≤j' →j' <ms.length→(i≠j' →iE cs (mth ms i) (mth ms j')))∧(∀j',i+1≤j' →j' <ms.length→Row cs ms j')):=fun hne hp=>
            Evp.pure _ (dD (Q:=fun j' =>i≠j' →iE cs (mth ms i) (mth ms j')) hj fun h=>hp (h hne))
          refine Evp.ite (fun h1=>skip fun h=>absurd (by omega) h) (fun h1=>Evp.ite (fun h2=>skip fun _ h3=>absurd h3 (by omega)) (fun h2=>Evp.ite (fun h3=>skip fun _ _ h4=>absurd h4 (by omega)) (fun h3=> ?_)))
          by_cases h4:(mth ms i).f1=(mth ms j).f1
          · rw[show((mth ms i).f1 !=(mth ms j).f1)=false by simpa using h4]
            refine Evp.step (f:=fun k=>_) (fun k=>by rw[bA.j2]) (Evp.no (by decide) ?_)
            have e1:(((mth ms i).f0.toNat:Nat):Int)=(mth ms i).f0:=by omega
            have e2:(((mth ms j).f0.toNat:Nat):Int)=(mth ms j).f0:=by omega
            have hij:i≠j:=by omega
            refine Evp.ite (fun h5=>stop hij fun h=>(h (by omega) (by omega) h4 (by rw[h5];exact .refl _)).1 h5) (fun h5=> ?_)
            have hu:=nM hok (mth ms j).f0.toNat (mth ms i).f0.toNat (by have:=hri.1 (by omega);omega)
            rw[e1,e2]at hu
            refine Evp.bind hu fun u hu=>Evp.ite (fun h6=> ?_) (fun h6=>go fun _ _ _ _ h7=>absurd (hu.2 h7) h6)
            refine Evp.ite (fun h7=> ?_) (fun h7=>stop hij fun h=>h7 (h (by omega) (by omega) h4 (hu.1 h6)).2.1)
            refine Evp.bind (qa hri.2) fun e he=>Evp.ite (fun h8=>go fun _ _ _ _ _=>⟨h5,h7,he.1 h8⟩) (fun h8=>stop hij fun h=>h8 (he.2 (h (by omega) (by omega) h4 (hu.1 h6)).2.2))
          · rw[show((mth ms i).f1 !=(mth ms j).f1)=true by simpa using h4]
            exact skip fun _ _ _ h5=>absurd h5 h4
      refine(k1 0 (Nat.zero_le _)).mono fun r hr=>hr.trans ?_
      rw[all_cons (Q:=fun j=>Row cs ms j) hi]
      exact⟨fun h=>⟨h,trivial⟩,fun h=>h.1⟩
  exact(k0 0 (Nat.zero_le _)).mono fun r hr=>hr.trans ⟨fun h=>h.1,fun h=>⟨h,trivial⟩⟩
theorem ol {cs:List Cls} (hok:ClsOk cs) {ms:List Mth} (hm:ms.length≤1048576) (hr:InR cs ms):Evp (fun k=>bF.f k cs ms) (fun r=>r=true↔Agree cs ms):=by
  unfold bF.f
  have k0 : ∀i,i≤ms.length→Evp (fun k=>bF.l0 k (i:Int) cs ms) (fun r=>r=true↔(∀j,i≤j→j<ms.length→Row cs ms j)∧True):=by
    refine Evp.for_ ?_ (fun i hi ih=> ?_)
    ·exact Evp.step (f:=fun k=>_) (fun k=>by rw[bF.l0]) (Evp.no (by omega) (Evp.pure _ (dZ (fM trivial))))
    · refine Evp.step (f:=fun k=>_) (fun k=>by rw[bF.l0]) (Evp.yes (by omega) ?_)
      have hri:=hr i hi
      have k1: ∀j,j≤ms.length→Evp (fun k=>bF.l1 k (i:Int) (j:Int) cs ms) (fun r=>r=true↔(∀j',j≤j' →j' <ms.length→(i≠j' →iE cs (mth ms i) (mth ms j')))∧(∀j',i+1≤j' →j' <ms.length→Row cs ms j')):=by
        refine Evp.for_ ?_ (fun j hj ihj=> ?_)
        · refine Evp.step (f:=fun k=>_) (fun k=>by rw[bF.l1]) (Evp.no (by omega) ?_)
          rw[dS (n:=ms.length) hi (by omega)]
          exact ih.mono fun r hr=>dZ (hr.trans ⟨fun h=>h.1,fun h=>⟨h,trivial⟩⟩)
        · have hrj:=hr j hj
          refine Evp.step (f:=fun k=>_) (fun k=>by rw[bF.l1,jT,jT,dS (n:=ms.length) hj (by omega)]) (Evp.yes (by omega) (Evp.yes (by omega) (Evp.yes (by omega) (Evp.yes (by omega) ?_))))
          have go:(i≠j→iE cs (mth ms i) (mth ms j))→Evp (fun k=>bF.l1 k (i:Int) ((j+1:Nat):Int) cs ms) (fun r=>r=true↔(∀j',j≤j' →j' <ms.length→(i≠j' →iE cs (mth ms i) (mth ms j')))∧(∀j',i+1≤j' →j' <ms.length→Row cs ms j')):=by
            intro hp
            exact ihj.mono fun r hr=>ek (Q:=fun j' =>i≠j' →iE cs (mth ms i) (mth ms j')) hp hr
          have stop:i≠j→¬iE cs (mth ms i) (mth ms j)→Evp (fun k=>some false) (fun r=>r=true↔(∀j',j≤j' →j' <ms.length→(i≠j' →iE cs (mth ms i) (mth ms j')))∧(∀j',i+1≤j' →j' <ms.length→Row cs ms j')):=fun hne hp=>
            Evp.pure _ (dD (Q:=fun j' =>i≠j' →iE cs (mth ms i) (mth ms j')) hj fun h=>hp (h hne))
          refine Evp.ite (fun h1=>go fun h=>absurd (by omega) h) (fun h1=>Evp.ite (fun h2=>Evp.ite (fun h3=>Evp.ite (fun h4=> ?_) (fun h4=>go fun _ _ _ h5=>absurd h5 h4)) (fun h3=>go fun _ _ h4=>absurd h4 h3)) (fun h2=>go fun _ h3=>absurd h3 h2))
          have hij:i≠j:=by omega
          have e1:(((mth ms i).f0.toNat:Nat):Int)=(mth ms i).f0:=by omega
          have e2:(((mth ms j).f0.toNat:Nat):Int)=(mth ms j).f0:=by omega
          have hu:=nL hok (mth ms j).f0.toNat (mth ms i).f0.toNat (by have:=hri.1 h2;omega)
          rw[e1,e2]at hu
          refine Evp.bind hu fun u hu=>Evp.ite (fun h6=>Evp.ite (fun h5=>stop hij fun h=>(h h2 h3 h4 (hu.1 h6)).1 h5) (fun h5=> ?_)) (fun h6=>go fun _ _ _ _ h7=>absurd (hu.2 h7) h6)
          refine Evp.bind (qW (a:=mth ms i) (b:=mth ms j) hri.2) fun e he=>Evp.ite (fun h8=>go fun _ _ _ _ _=>⟨h5,he.1 h8⟩) (fun h8=>stop hij fun h=>h8 (he.2 (h h2 h3 h4 (hu.1 h6)).2))
      refine(k1 0 (Nat.zero_le _)).mono fun r hr=>hr.trans ?_
      rw[all_cons (Q:=fun j=>Row cs ms j) hi]
      exact⟨fun h=>⟨h,trivial⟩,fun h=>h.1⟩
  exact(k0 0 (Nat.zero_le _)).mono fun r hr=>hr.trans ⟨fun h=>h.1,fun h=>⟨h,trivial⟩⟩
structure SmallM (m:Mth):Prop where
  a3: -9223372036854775808≤m.f3∧m.f3≤9223372036854775807
  l2:m.f2.length≤1048576
  i2:I64 m.f2
  l5:m.f5.length≤1048576
  l6:m.f6.length≤1048576
  l7:m.f7.length≤1048576
  s6: ∀j,j<m.f6.length→SmallS (m.f6.getD j z29)
structure SmallU (cs:List Cls) (ms:List Mth):Prop where
  c:eZ cs
  m:ms.length≤1048576
  e: ∀i,i<ms.length→SmallM (mth ms i)
def rP (m:Mth):Prop:=m.f0= -1∧m.f2.length=0∧m.f3=1
def fD (cs:List Cls) (ms:List Mth):Prop:=ClsOk cs∧(1≤ms.length∧ms.length≤4)∧rP (mth ms 0)∧(∀i,0≤i→i<ms.length→fZ cs ms (mth ms i))∧Agree cs ms
theorem qb {cs:List Cls} {ms:List Mth} (hu:SmallU cs ms) (h: ∀i,i<ms.length→fZ cs ms (mth ms i)):InR cs ms:=fun i hi=>⟨fun h0=>by
  rcases (h i hi).1.1 with h1|h1<;>omega,(hu.e i hi).l2⟩
theorem nG {cs:List Cls} {ms:List Mth} (hu:SmallU cs ms):Evp (fun k=>bg.f k cs ms) (fun r=>r=true↔fD cs ms):=by
  have hs:=hu.c
  have hm:=hu.m
  have g: ¬fD cs ms→Evp (fun k=>bg.j0 k true cs ms) (fun r=>r=true↔fD cs ms):=fun h=>
    Evp.step (f:=fun k=>_) (fun k=>by rw[bg.j0]) (Evp.yes rfl (Evp.pure _ (dz h)))
  have l: ¬fD cs ms→Evp (fun k=>bg.j1 k true cs ms) (fun r=>r=true↔fD cs ms):=fun h=>
    Evp.step (f:=fun k=>_) (fun k=>by rw[bg.j1]) (Evp.yes rfl (Evp.pure _ (dz h)))
  unfold bg.f
  refine Evp.bind (lI hs) fun c hc=>Evp.ite (fun h=> ?_) (fun h=>g fun h2=>h (hc.2 h2.1))
  have hok:=hc.1 h
  refine Evp.ite (fun h1=>g fun h2=>by have:=h2.2.1;omega) (fun h1=> ?_)
  by_cases h2:(ms.length:Int)>4
  · rw[decide_eq_true h2]
    exact g fun h3=>by have:=h3.2.1;omega
  rw[decide_eq_false h2]
  have e0:aa ms 0=mth ms 0:=rfl
  refine Evp.step (f:=fun k=>_) (fun k=>by rw[bg.j0,e0]) (Evp.no (by decide) (Evp.yes (by omega) (Evp.ite (fun h3=>Evp.ite (fun h4=> ?_) (fun h4=>l fun h5=>h4 (by have:=h5.2.2.1.2.1;omega))) (fun h3=>l fun h5=>h3 h5.2.2.1.1))))
  by_cases h5:(mth ms 0).f3=1
  · rw[show((mth ms 0).f3 !=1)=false by simpa using h5]
    refine Evp.step (f:=fun k=>_) (fun k=>by rw[bg.j1]) (Evp.no (by decide) ?_)
    have k0: ∀d i:Nat,i+d=ms.length→(∀j,j<i→fZ cs ms (mth ms j))→Evp (fun k=>bg.l0 k ms (ms.length:Int) (i:Int) cs ms) (fun r=>r=true↔(∀j,i≤j→j<ms.length→fZ cs ms (mth ms j))∧Agree cs ms):=by
      intro d
      induction d with
      | zero=>
        intro i hi hall
        refine Evp.step (f:=fun k=>_) (fun k=>by rw[bg.l0]) (Evp.no (by omega) ?_)
        refine Evp.bind (nE hok hm (qb hu fun j hj=>hall j (by omega))) fun a ha=>Evp.pure _ ?_
        exact ha.trans ⟨fun h=>⟨fun j hj hj2=>absurd hj2 (by omega),h⟩,fun h=>h.2⟩
      | succ d ih=>
        intro i hi hall
        have hil:i<ms.length:=by omega
        have hsm:=hu.e i hil
        refine Evp.step (f:=fun k=>_) (fun k=>by rw[bg.l0,jT]) (Evp.yes (by omega) (Evp.yes (by omega) (Evp.yes (by omega) ?_)))
        refine Evp.bind (o5 hs ms (mth ms i).f5 (mth ms i).f6 (mth ms i).f7 hsm.a3.1 hsm.a3.2 hsm.l2 hsm.i2) fun a ha=>Evp.ite (fun h6=> ?_) (fun h6=>Evp.pure _ (dD (Q:=fun j=>fZ cs ms (mth ms j)) hil fun h9=>h6 (ha.2 h9.1)))
        refine Evp.bind (o9 hs hok ms (mth ms i).f5 (mth ms i).f6 (mth ms i).f7 0 hsm.s6 hsm.l5 hsm.l6) fun b hb=>Evp.ite (fun h7=> ?_) (fun h7=>Evp.pure _ (dD (Q:=fun j=>fZ cs ms (mth ms j)) hil fun h9=>h7 (hb.2 h9.2.1)))
        refine Evp.bind (mJ hok ms (mth ms i).f5 (mth ms i).f6 (mth ms i).f7) fun e he=>Evp.ite (fun h8=> ?_) (fun h8=>Evp.pure _ (dD (Q:=fun j=>fZ cs ms (mth ms j)) hil fun h9=>h8 (he.2 h9.2.2)))
        have hmi:fZ cs ms (mth ms i):=⟨ha.1 h6,hb.1 h7,he.1 h8⟩
        rw[dS (n:=ms.length) hil (by omega)]
        refine(ih (i+1) (by omega) fun j hj=> ?_).mono fun r hr=>ek (Q:=fun j=>fZ cs ms (mth ms j)) hmi hr
        rcases Nat.eq_or_lt_of_le (Nat.le_of_lt_succ hj)with rfl|h9
        ·exact hmi
        ·exact hall j h9
    refine(k0 ms.length 0 (by omega) fun j hj=>absurd hj (Nat.not_lt_zero _)).mono fun r hr=>hr.trans ?_
    exact⟨fun h6=>⟨hok,by omega,⟨h3,by omega,h5⟩,h6.1,h6.2⟩,fun h6=>⟨h6.2.2.2.1,h6.2.2.2.2⟩⟩
  · rw[show((mth ms 0).f3 !=1)=true by simpa using h5]
    exact l fun h6=>h5 h6.2.2.1.2.2
theorem nH {cs:List Cls} {ms:List Mth} (hu:SmallU cs ms):Evp (fun k=>aT.f k cs ms) (fun r=>r=true↔fD cs ms):=by
  have hs:=hu.c
  have hm:=hu.m
  have g: ¬fD cs ms→Evp (fun k=>aT.j0 k true cs ms) (fun r=>r=true↔fD cs ms):=fun h=>
    Evp.step (f:=fun k=>_) (fun k=>by rw[aT.j0]) (Evp.yes rfl (Evp.pure _ (dz h)))
  have b: ¬fD cs ms→Evp (fun k=>aT.j1 k true cs ms) (fun r=>r=true↔fD cs ms):=fun h=>
    Evp.step (f:=fun k=>_) (fun k=>by rw[aT.j1]) (Evp.yes rfl (Evp.pure _ (dz h)))
  unfold aT.f
  refine Evp.bind (iQ hs) fun c hc=>Evp.ite (fun h=> ?_) (fun h=>g fun h2=>h (hc.2 h2.1))
  have hok:=hc.1 h
  rw[fq]
  simp only[Option.bind_some]
  by_cases h2:1≤(ms.length:Int)∧(ms.length:Int)≤4
  · rw[decide_eq_true h2]
    have e0:aa ms 0=mth ms 0:=rfl
    refine Evp.step (f:=fun k=>_) (fun k=>by rw[aT.j0,e0]) (Evp.no (by decide) (Evp.yes (by omega) (Evp.ite (fun h3=>Evp.ite (fun h4=>b fun h5=>by have:=h5.2.2.1.2.1;omega) (fun h4=> ?_)) (fun h3=>b fun h5=>h3 h5.2.2.1.1))))
    by_cases h5:(mth ms 0).f3=1
    · rw[show((mth ms 0).f3 !=1)=false by simpa using h5]
      refine Evp.step (f:=fun k=>_) (fun k=>by rw[aT.j1]) (Evp.no (by decide) ?_)
      have k0: ∀d i:Nat,i+d=ms.length→(∀j,j<i→fZ cs ms (mth ms j))→Evp (fun k=>aT.l0 k (i:Int) cs ms) (fun r=>r=true↔(∀j,i≤j→j<ms.length→fZ cs ms (mth ms j))∧Agree cs ms):=by
        intro d
        induction d with
        | zero=>
          intro i hi hall
          refine Evp.step (f:=fun k=>_) (fun k=>by rw[aT.l0]) (Evp.no (by omega) ?_)
          refine Evp.bind (ol hok hm (qb hu fun j hj=>hall j (by omega))) fun a ha=>Evp.pure _ ?_
          exact ha.trans ⟨fun h=>⟨fun j hj hj2=>absurd hj2 (by omega),h⟩,fun h=>h.2⟩
        | succ d ih=>
          intro i hi hall
          have hil:i<ms.length:=by omega
          have hsm:=hu.e i hil
          refine Evp.step (f:=fun k=>_) (fun k=>by rw[aT.l0,jT]) (Evp.yes (by omega) (Evp.yes (by omega) ?_))
          refine Evp.bind (nD hs hok ms hm (mth ms i) hsm.l2 hsm.l5 hsm.l6 hsm.l7 hsm.s6) fun a ha=>Evp.ite (fun h6=> ?_) (fun h6=>Evp.pure _ (dD (Q:=fun j=>fZ cs ms (mth ms j)) hil fun h9=>h6 (ha.2 h9)))
          rw[dS (n:=ms.length) hil (by omega)]
          refine(ih (i+1) (by omega) fun j hj=> ?_).mono fun r hr=>ek (Q:=fun j=>fZ cs ms (mth ms j)) (ha.1 h6) hr
          rcases Nat.eq_or_lt_of_le (Nat.le_of_lt_succ hj)with rfl|h9
          ·exact ha.1 h6
          ·exact hall j h9
      refine(k0 ms.length 0 (by omega) fun j hj=>absurd hj (Nat.not_lt_zero _)).mono fun r hr=>hr.trans ?_
      exact⟨fun h6=>⟨hok,by omega,⟨h3,by omega,h5⟩,h6.1,h6.2⟩,fun h6=>⟨h6.2.2.2.1,h6.2.2.2.2⟩⟩
    · rw[show((mth ms 0).f3 !=1)=true by simpa using h5]
      exact b fun h6=>h5 h6.2.2.1.2.2
  · rw[decide_eq_false h2]
    exact g fun h3=>h2 (by have:=h3.2.1;omega)
def ib (a0:Int) (l2:List Int):List Int:=(if 0≤a0 then[8+a0]else[])++l2
def qc (m:Mth):List Int:=ib m.f0 m.f2++List.replicate (m.f4.toNat - (ib m.f0 m.f2).length) 0
theorem jU (a0:Int) (l2:List Int):((ib a0 l2).length:Int)=gI a0+(l2.length:Int):=by
  unfold ib gI
  split<;>simp<;>omega
section
variable {a0 a1 a3 a4:Int} {l2:List Int} {l5:List Ins} {l6:List iJ} {l7:List Cth}
theorem mg (h0:a0≤1048576) (hl:l2.length≤1048576):fF.f a0 a1 l2 a3 a4 l5 l6 l7=some (ib a0 l2):=by
  unfold fF.f ib
  by_cases h:a0≥0
  · rw[if_pos h,if_pos (by decide),Option.bind_some,if_pos (by simp;omega),if_pos h,w64 (n:=8+a0) (by omega) (by omega)]
    rfl
  ·rw[if_neg h,if_pos (by simp;omega),if_neg h]
theorem mh (h0:a0≤1048576) (hl:l2.length≤1048576):fQ.f a0 a1 l2 a3 a4 l5 l6 l7=some (ib a0 l2):=by
  unfold fQ.f ib
  rw[Option.bind_some]
  by_cases h:a0≥0
  · rw[if_pos h,if_pos (by decide),Option.bind_some,if_pos (by simp;omega),if_pos h,w64 (n:=8+a0) (by omega) (by omega)]
    rfl
  ·rw[if_neg h,if_pos (by simp;omega),if_neg h]
theorem lJ (h0:a0≤1048576) (hl:l2.length≤1048576) (h4:a4≤1048576):
    Evp (fun k=>dh.f k a0 a1 l2 a3 a4 l5 l6 l7) (fun r=>r=(true,ib a0 l2++List.replicate (a4.toNat - (ib a0 l2).length) 0, [])):=by
  unfold dh.f
  rw[mh h0 hl]
  simp only[Option.bind_some]
  have key: ∀(d:Nat) (x:List Int),a4.toNat - x.length=d→x.length≤4194304→Evp (fun k=>dh.l0 k a0 a1 l2 a3 a4 l5 l6 l7 true x []) (fun r=>r=(true,x++List.replicate d 0, [])):=by
    intro d
    induction d with
    | zero=>
      intro x hd hx
      exact Evp.step (f:=fun k=>_) (fun k=>by rw[dh.l0]) (Evp.no (by omega) (Evp.pure _ (by simp)))
    | succ d ih=>
      intro x hd hx
      refine Evp.step (f:=fun k=>_) (fun k=>by rw[dh.l0]) (Evp.yes (by omega) (Evp.yes (by omega) ((ih (x++ [0]) (by simp;omega) (by simp;omega)).mono fun r hr=> ?_)))
      rw[hr,List.append_assoc]
      rfl
  have hg:=jU a0 l2
  have hs:gI a0≤1:=by unfold gI;split<;>omega
  exact key _ _ rfl (by omega)
theorem mi (h0:a0≤1048576) (hl:l2.length≤1048576) (h4:a4≤1048576) (hg:gI a0+(l2.length:Int)≤a4):
    eH.f a0 a1 l2 a3 a4 l5 l6 l7=some (true,ib a0 l2++List.replicate (a4.toNat - (ib a0 l2).length) 0, []):=by
  have hl2:=jU a0 l2
  unfold eH.f
  rw[if_pos (by omega),if_pos (by omega),mg h0 hl,Option.bind_some]
  congr 3
  unfold iG
  rw[List.length_replicate,List.take_of_length_le (by omega),List.drop_replicate]
end
def jb (cs:List Cls) (ms:List Mth) (a:Int) (r:Bool×List Int×List Int):Prop:=(fD cs ms∧(0≤a∧a<(ms.length:Int))∧r=(true,qc (mth ms a.toNat), []))∨(¬(fD cs ms∧(0≤a∧a<(ms.length:Int)))∧r=(false, [], []))
theorem jb.fn {cs:List Cls} {ms:List Mth} {a:Int} {r r' :Bool×List Int×List Int} (h:jb cs ms a r) (h' :jb cs ms a r'):r=r' :=by
  rcases h with h1|h1<;>rcases h' with h2|h2
  ·rw[h1.2.2,h2.2.2]
  ·exact absurd ⟨h1.1,h1.2.1⟩ h2.1
  ·exact absurd ⟨h2.1,h2.2.1⟩ h1.1
  ·rw[h1.2,h2.2]
theorem jb.small {cs:List Cls} {ms:List Mth} {a:Int} {r:Bool×List Int×List Int} (h:jb cs ms a r):r.2.1.length≤1048576∧r.2.2.length≤1048576:=by
  rcases h with⟨hu,ha,rfl⟩|⟨_,rfl⟩
  · have hm:=(hu.2.2.2.1 a.toNat (Nat.zero_le _) (by omega)).1.2
    have hg:=jU (mth ms a.toNat).f0 (mth ms a.toNat).f2
    obtain⟨h1,h2,h3,h4,h5⟩:=hm
    refine⟨?_,by simp⟩
    simp only[qc,List.length_append,List.length_replicate]
    omega
  ·simp
theorem j6 {cs:List Cls} {ms:List Mth} (hc:eZ cs) (hu:fD cs ms) {i:Nat} (hi:i<ms.length):(mth ms i).f0≤1048576∧(mth ms i).f2.length≤1048576∧(mth ms i).f4≤1048576∧gI (mth ms i).f0+((mth ms i).f2.length:Int)≤(mth ms i).f4:=by
  have hh:=(hu.2.2.2.1 i (Nat.zero_le _) hi).1
  have hl:=hc.1
  obtain⟨ha,h1,h2,h3,h4,h5⟩:=hh
  refine⟨?_,by omega,by omega,h5⟩
  rcases ha with h|h<;>omega
theorem jh {cs:List Cls} {ms:List Mth} (hu:SmallU cs ms) (a:Int):Evp (fun k=>dC.f k cs ms a) (jb cs ms a):=by
  unfold dC.f
  refine Evp.bind (nG hu) fun b hb=>Evp.ite (fun h=> ?_) (fun h=>Evp.pure _ (.inr ⟨fun h2=>h (hb.2 h2.1),rfl⟩))
  have hok:=hb.1 h
  unfold fT.f
  by_cases h1:a≥0
  · rw[if_pos h1,Option.bind_some]
    by_cases h2:a<(ms.length:Int)
    · rw[decide_eq_true h2]
      obtain⟨n,rfl⟩: ∃n:Nat,a=(n:Int):=⟨a.toNat,by omega⟩
      obtain⟨b1,b2,b3,b4⟩:=j6 hu.c hok (i:=n) (by omega)
      refine Evp.yes rfl (Evp.yes h1 (Evp.yes h2 ?_))
      rw[jT,mi b1 b2 b3 b4]
      exact Evp.pure _ (.inl ⟨hok,⟨h1,h2⟩,rfl⟩)
    · rw[decide_eq_false h2]
      exact Evp.no (by decide) (Evp.pure _ (.inr ⟨fun h3=>h2 h3.2.2,rfl⟩))
  · rw[if_neg h1,Option.bind_some]
    exact Evp.no (by decide) (Evp.pure _ (.inr ⟨fun h3=>h1 h3.2.1,rfl⟩))
theorem kY {cs:List Cls} {ms:List Mth} (hu:SmallU cs ms) (a:Int):Evp (fun k=>eG.f k cs ms a) (jb cs ms a):=by
  have hm:=hu.m
  have no: ¬(fD cs ms∧(0≤a∧a<(ms.length:Int)))→Evp (fun k=>(gz.f).bind fun bt=>(some (bt.1,bt.2.1,bt.2.2))) (jb cs ms a):=fun h=>by
    unfold gz.f
    rw[Option.bind_some]
    exact Evp.pure _ (.inr ⟨h,rfl⟩)
  unfold eG.f gW.f
  refine Evp.bind (P:=fun b=>b=true↔(fD cs ms∧(0≤a∧a<(ms.length:Int)))) ?_ (fun b hb=>Evp.ite (fun h=> ?_) (fun h=>no fun h2=>h (hb.2 h2)))
  · refine Evp.bind (nH hu) fun b hb=>Evp.ite (fun h=> ?_) (fun h=>Evp.pure _ ⟨fun h2=>absurd h2 (by decide),fun h2=>absurd (hb.2 h2.1) h⟩)
    have hok:=hb.1 h
    have h1:=hok.2.1
    rw[fq,w64 (n:=(ms.length:Int) - 1) (by omega) (by omega)]
    simp only[Option.bind_some]
    exact Evp.pure _ ⟨fun h2=>⟨hok,by have:=of_decide_eq_true h2;omega⟩,fun h2=>decide_eq_true (by have:=h2.2;omega)⟩
  · obtain⟨hok,h1,h2⟩:=hb.1 h
    obtain⟨n,rfl⟩: ∃n:Nat,a=(n:Int):=⟨a.toNat,by omega⟩
    obtain⟨b1,b2,b3,b4⟩:=j6 hu.c hok (i:=n) (by omega)
    refine Evp.yes h1 (Evp.yes h2 ?_)
    rw[jT]
    refine Evp.bind (lJ b1 b2 b3) fun r hr=> ?_
    rw[hr]
    exact Evp.pure _ (.inl ⟨hok,⟨h1,h2⟩,rfl⟩)
end Go.Proofs.Yteinbmkgenhocaa.Kit
end
section
namespace Go.Proofs.Yteinbmkgenhocaa.Kit
open Go Go.RowKit Go.Proofs.YteinbmkgenhocaaW.PrintWords Go.Proofs.Yteinbmkgenhocaa.P
set_option linter.unusedVariables false
abbrev oP:=S62
def cvC (c:oP):Cls:=⟨c.f0,c.f1⟩
theorem rdL {xs:List oP} {i:Nat} (h:i<xs.length):eB xs (i:Int)=xs[i]:=getD_at h _
theorem nz {n:Int} (h:(Lit.int .i64 n).wf=true): -9223372036854775808≤n∧n≤9223372036854775807:=by
  simp[Lit.wf,IntKind.min,IntKind.max,IntKind.bits,IntKind.signed]at h
  omega
theorem kQ {l:List Int} {a:Int} (h0:0≤a) (h1:a≤1048576) (hl:l.length≤9223372036854775807): ∃t,bY.f l a=some t∧(0≤t→(l.length:Int)+t=a):=by
  unfold bY.f
  rw[w64 (by omega) (by omega)]
  by_cases h:a - (l.length:Int)<0
  ·rw[if_pos h];exact⟨_,rfl,by omega⟩
  ·rw[if_neg h];exact⟨_,rfl,by omega⟩
theorem sK {l:List oP} (hl:l.length≤9223372036854775807) (hw: ∀y∈l,oL y):
    Evp (fun k=>bZ.f k l 1048576) (fun t=>0≤t→t≤1048576∧eZ (l.map cvC)):=by
  unfold bZ.f
  rw[w64 (by omega) (by omega)]
  refine Evp.ite (fun _=>Evp.pure _ (by omega)) (fun h=> ?_)
  have key: ∀i,i≤l.length→∀s:Int,(0≤s∧s≤1048576)→Evp (fun k=>bZ.l0 k l s (i:Int)) (fun t=>0≤t→t≤s∧∀o∈l.drop i,o.f1.length≤1048576):=by
    refine Evp.fors (g:=fun i s k=>bZ.l0 k l s (i:Int)) (I:=fun _ s=>0≤s∧s≤1048576) (R:=fun i s t=>0≤t→t≤s∧∀o∈l.drop i,o.f1.length≤1048576) (fun s hs=> ?_) (fun i hil ih s hs=> ?_)
    ·refine Evp.step (f:=fun k=>_) (fun k=>by rw[bZ.l0]) (Evp.no (by omega) (Evp.pure _ (fun _=>⟨by omega,by simp⟩)))
    · have a:=(hw _ (List.getElem_mem hil)).2.1
      obtain⟨t,ht,ht2⟩:=kQ (l:=l[i].f1) hs.1 hs.2 a
      refine Evp.step (f:=fun k=>_) (fun k=>by rw[bZ.l0,rdL hil,gL.f,ht,Option.bind_some]) (Evp.yes (by omega) (Evp.yes (by omega) ?_))
      by_cases h3:t<0
      · simp only[if_pos h3,Option.bind_some]
        exact Evp.pure _ (by omega)
      · simp only[if_neg h3,Option.bind_some]
        rw[dS hil (by omega)]
        refine(ih t (by omega)).mono fun r hr h0=> ?_
        obtain⟨h4,h5⟩:=hr h0
        refine⟨by omega, ?_⟩
        rw[drop_at hil]
        intro o ho
        rcases List.mem_cons.1 ho with rfl|ho
        ·omega
        ·exact h5 o ho
  refine(key 0 (Nat.zero_le _) _ (by omega)).mono fun t ht h0=> ?_
  obtain⟨h2,h3⟩:=ht h0
  refine⟨by omega,by rw[List.length_map];omega,fun i hi=> ?_⟩
  rw[List.length_map]at hi
  have e:dI (l.map cvC) i=l[i].f1:=by unfold dI;rw[getD_at (by simpa using hi)];simp[cvC]
  rw[e]
  exact⟨h3 _ (by simp),fun t ht=>nz ((hw _ (List.getElem_mem hi)).2.2 t ht)⟩
theorem lm {α β:Type} (l:List α) (f:α→β) (z:β) {i:Nat} (hi:i<l.length):((l.take i).map f++List.replicate (l.length - i) z).set i (f l[i])=(l.take (i+1)).map f++List.replicate (l.length - (i+1)) z:=by
  rw[List.take_succ_eq_append_getElem hi,List.map_append,List.append_assoc]
  rw[List.set_append_right _ _ (by simp;omega)]
  congr 1
  rw[show l.length - i=(l.length - (i+1))+1 by omega,List.replicate_succ]
  simp[Nat.min_eq_left (Nat.le_of_lt hi)]
theorem kR {l:List Int} (hl:l.length≤1048576):Evp (fun k=>bM.f k l) (fun r=>r=l):=by
  unfold bM.f
  refine Evp.yes (by omega) (Evp.yes (by omega) ?_)
  have key: ∀i,i≤l.length→∀s:List Int,s=(l.take i).map id++List.replicate (l.length - i) 0→Evp (fun k=>bM.l0 k l s (i:Int)) (fun r=>r=l):=by
    refine Evp.fors (g:=fun i s k=>bM.l0 k l s (i:Int)) (I:=fun i s=>s=(l.take i).map id++List.replicate (l.length - i) 0) (R:=fun _ _ r=>r=l) (fun s hs=> ?_) (fun i hi ih s hs=> ?_)
    · subst hs
      refine Evp.step (f:=fun k=>_) (fun k=>by rw[bM.l0]) (Evp.no (by omega) (Evp.pure _ (by simp)))
    · have hsl:s.length=l.length:=by rw[hs];simp;omega
      refine Evp.step (f:=fun k=>_) (fun k=>by rw[bM.l0,oM hi]) (Evp.yes (by omega) (Evp.yes (by omega) (Evp.yes (by omega) ?_)))
      rw[dS hi (by omega)]
      refine ih _ ?_
      rw[hs]
      exact lm l id 0 hi
  exact key 0 (Nat.zero_le _) _ (by simp)
theorem sM {l:List oP} (hl:eZ (l.map cvC)):Evp (fun k=>bW.f k l) (fun r=>r=l.map cvC):=by
  have hl1:=hl.1
  rw[List.length_map]at hl1
  unfold bW.f
  refine Evp.yes (by omega) (Evp.yes (by omega) ?_)
  have key: ∀i,i≤l.length→∀s:List Cls,s=(l.take i).map cvC++List.replicate (l.length - i) z71→Evp (fun k=>bW.l0 k l s (i:Int)) (fun r=>r=l.map cvC):=by
    refine Evp.fors (g:=fun i s k=>bW.l0 k l s (i:Int)) (I:=fun i s=>s=(l.take i).map cvC++List.replicate (l.length - i) z71) (R:=fun _ _ r=>r=l.map cvC) (fun s hs=> ?_) (fun i hi ih s hs=> ?_)
    · subst hs
      refine Evp.step (f:=fun k=>_) (fun k=>by rw[bW.l0]) (Evp.no (by omega) (Evp.pure _ (by simp)))
    · have hsl:s.length=l.length:=by rw[hs];simp;omega
      refine Evp.step (f:=fun k=>_) (fun k=>by rw[bW.l0,rdL hi]) (Evp.yes (by omega) (Evp.yes (by omega) ?_))
      refine Evp.bind (P:=fun r=>r=(l[i].f0,l[i].f1)) ?_ (fun a ha=> ?_)
      · unfold iq.f
        have e:dI (l.map cvC) i=l[i].f1:=by unfold dI;rw[getD_at (by simpa using hi)];simp[cvC]
        have:=(hl.2 i (by simpa using hi)).1
        rw[e]at this
        exact Evp.bind (kR this) (fun a ha=>Evp.pure _ (by rw[ha]))
      · subst ha
        refine Evp.yes (by omega) ?_
        rw[dS hi (by omega)]
        refine ih _ ?_
        rw[hs]
        exact lm l cvC z71 hi
  exact key 0 (Nat.zero_le _) _ (by simp)
theorem kS {l:List Int} (hl:l.length≤1048576):Evp (fun k=>bB.f k l l) (fun r=>r=true):=by
  unfold bB.f
  refine Evp.yes rfl ?_
  refine Evp.for_ (n:=l.length) (g:=fun i k=>bB.l0 k l l (i:Int)) (R:=fun _ r=>r=true) ?_ (fun i hi ih=> ?_) 0 (Nat.zero_le _)
  ·refine Evp.step (f:=fun k=>_) (fun k=>by rw[bB.l0]) (Evp.no (by omega) (Evp.pure _ rfl))
  · refine Evp.step (f:=fun k=>_) (fun k=>by rw[bB.l0]) (Evp.yes (by omega) (Evp.yes (by omega) (Evp.yes (by omega) (Evp.yes rfl ?_))))
    rw[dS hi (by omega)]
    exact ih
theorem sN {l:List Cls} (hl:eZ l):Evp (fun k=>bC.f k l l) (fun r=>r=true):=by
  have hl1:=hl.1
  unfold bC.f
  refine Evp.yes rfl ?_
  refine Evp.for_ (n:=l.length) (g:=fun i k=>bC.l0 k l l (i:Int)) (R:=fun _ r=>r=true) ?_ (fun i h ih=> ?_) 0 (Nat.zero_le _)
  ·refine Evp.step (f:=fun k=>_) (fun k=>by rw[bC.l0]) (Evp.no (by omega) (Evp.pure _ rfl))
  · refine Evp.step (f:=fun k=>_) (fun k=>by rw[bC.l0]) (Evp.yes (by omega) (Evp.yes (by omega) (Evp.yes (by omega) ?_)))
    refine Evp.bind (P:=fun r=>r=true) ?_ (fun a ha=> ?_)
    · unfold gP.f
      rw[jo]
      exact Evp.yes rfl (Evp.bind (kS (hl.2 i h).1) (fun a ha=>Evp.yes ha (Evp.pure _ rfl)))
    · refine Evp.yes ha ?_
      rw[dS h (by omega)]
      exact ih
theorem qX {x0:Bool} {l1 l2:List Int} {a:Int} (h0:0≤a) (h1:a≤1048576) (hl1:l1.length≤9223372036854775807) (hl2:l2.length≤9223372036854775807):
    ∃t,gu.f x0 l1 l2 a=some t∧(0≤t→t≤a∧l1.length≤1048576∧l2.length≤1048576):=by
  unfold gu.f
  obtain⟨t,ht,ht2⟩:=kQ (l:=l1) h0 h1 hl1
  rw[ht,Option.bind_some]
  by_cases h:t<0
  ·rw[if_pos h];exact⟨_,rfl,by omega⟩
  · rw[if_neg h]
    obtain⟨q,hq,hq2⟩:=kQ (l:=l2) (a:=t) (by omega) (by omega) hl2
    rw[hq,Option.bind_some]
    by_cases h' :q<0
    ·rw[if_pos h'];exact⟨_,rfl,by omega⟩
    ·rw[if_neg h'];exact⟨_,rfl,by omega⟩
theorem qY {x0:Bool} {l1 l2:List Int} (hl1:l1.length≤1048576) (hl2:l2.length≤1048576):Evp (fun k=>gN.f k x0 l1 l2) (fun r=>r=(x0,l1,l2)):=by
  unfold gN.f
  exact Evp.bind (kR hl1) fun a ha=>Evp.bind (kR hl2) fun b hb=>Evp.pure _ (by rw[ha,hb])
theorem jV {x0:Bool} {l1 l2:List Int} (hl1:l1.length≤1048576) (hl2:l2.length≤1048576):Evp (fun k=>bL.f k x0 l1 l2 x0 l1 l2) (fun r=>r=true):=by
  unfold bL.f
  exact Evp.no (by simp) (Evp.bind (kS hl1) fun a ha=>Evp.yes ha (Evp.bind (kS hl2) fun b hb=>Evp.yes hb (Evp.pure _ rfl)))
end Go.Proofs.Yteinbmkgenhocaa.Kit
end
section
namespace Go.Proofs.Yteinbmkgenhocaa.Kit
open Go Go.RowKit Go.Proofs.YteinbmkgenhocaaW.PrintWords Go.Proofs.Yteinbmkgenhocaa.P
set_option linter.unusedVariables false
set_option linter.unusedSimpArgs false
abbrev kJ:=S68
abbrev qZ:=S112
abbrev nA:=S108
abbrev q8:=S115
def cvX (x:qZ):Ins:=⟨x.f0,x.f1,x.f2⟩
def cvS (x:nA):iJ:=⟨x.f0,x.f1,x.f2⟩
def cvK (x:q8):Cth:=⟨x.f0,x.f1,x.f2,x.f3⟩
def cvM (x:kJ):Mth:=⟨x.f0,x.f1,x.f2,x.f3,x.f4,x.f5.map cvX,x.f6.map cvS,x.f7.map cvK⟩
theorem tJ {xs:List qZ} {i:Nat} (h:i<xs.length):gq xs (i:Int)=xs[i]:=getD_at h _
theorem sO {xs:List nA} {i:Nat} (h:i<xs.length):dn xs (i:Int)=xs[i]:=getD_at h _
theorem tK {xs:List q8} {i:Nat} (h:i<xs.length):eQ xs (i:Int)=xs[i]:=getD_at h _
theorem sP {xs:List kJ} {i:Nat} (h:i<xs.length):aX xs (i:Int)=xs[i]:=getD_at h _
theorem jW {α β:Type} (l:List α) (f:α→β) (z:β) {g:Nat→List β→Nat→Option (List β)} (hend: ∀s:List β,s.length=l.length→Evp (g l.length s) (fun r=>r=s))
    (hstep: ∀(i:Nat) (hi:i<l.length) (s:List β),s.length=l.length→Evp (g (i+1) (s.set i (f l[i]))) (fun r=>r=l.map f)→Evp (g i s) (fun r=>r=l.map f)):Evp (g 0 (List.replicate l.length z)) (fun r=>r=l.map f):=by
  have key: ∀i,i≤l.length→∀s:List β,s=(l.take i).map f++List.replicate (l.length - i) z→Evp (g i s) (fun r=>r=l.map f):=by
    refine Evp.fors (g:=g) (I:=fun i s=>s=(l.take i).map f++List.replicate (l.length - i) z) (R:=fun _ _ r=>r=l.map f) (fun s hs=> ?_) (fun i hi ih s hs=> ?_)
    · have hs2:s=l.map f:=by rw[hs];simp
      exact(hend s (by rw[hs2];simp)).mono fun r hr=>by rw[hr,hs2]
    · have hsl:s.length=l.length:=by rw[hs];simp;omega
      refine hstep i hi s hsl (ih _ ?_)
      rw[hs]
      exact lm l f z hi
  exact key 0 (Nat.zero_le _) _ (by simp)
theorem sQ {l:List qZ} (hl:l.length≤1048576):Evp (fun k=>dA.f k l) (fun r=>r=l.map cvX):=by
  unfold dA.f
  refine Evp.yes (by omega) (Evp.yes (by omega) ?_)
  rw[Int.toNat_natCast]
  refine jW l cvX z97 (g:=fun i s k=>dA.l0 k l s (i:Int)) (fun s hs=> ?_) (fun i hi s hs ih=> ?_)
  ·exact Evp.step (f:=fun k=>_) (fun k=>by rw[dA.l0]) (Evp.no (by omega) (Evp.pure _ rfl))
  · refine Evp.step (f:=fun k=>_) (fun k=>by rw[dA.l0,tJ hi,iL.f,Option.bind_some]) (Evp.yes (by omega) (Evp.yes (by omega) (Evp.yes (by omega) ?_)))
    rw[dS hi (by omega)]
    exact ih
theorem oQ {l:List q8} (hl:l.length≤1048576):Evp (fun k=>cB.f k l) (fun r=>r=l.map cvK):=by
  unfold cB.f
  refine Evp.yes (by omega) (Evp.yes (by omega) ?_)
  rw[Int.toNat_natCast]
  refine jW l cvK fB (g:=fun i s k=>cB.l0 k l s (i:Int)) (fun s hs=> ?_) (fun i hi s hs ih=> ?_)
  ·exact Evp.step (f:=fun k=>_) (fun k=>by rw[cB.l0]) (Evp.no (by omega) (Evp.pure _ rfl))
  · refine Evp.step (f:=fun k=>_) (fun k=>by rw[cB.l0,tK hi,iw.f,Option.bind_some]) (Evp.yes (by omega) (Evp.yes (by omega) (Evp.yes (by omega) ?_)))
    rw[dS hi (by omega)]
    exact ih
def SzS (s:nA):Prop:=s.f1.length≤1048576∧s.f2.length≤1048576
def SzM (m:kJ):Prop:=m.f2.length≤1048576∧m.f5.length≤1048576∧m.f6.length≤1048576∧m.f7.length≤1048576∧∀s∈m.f6,SzS s
theorem qd {l:List nA} (hl:l.length≤1048576) (hs: ∀s∈l,SzS s):Evp (fun k=>cu.f k l) (fun r=>r=l.map cvS):=by
  unfold cu.f
  refine Evp.yes (by omega) (Evp.yes (by omega) ?_)
  rw[Int.toNat_natCast]
  refine jW l cvS z29 (g:=fun i s k=>cu.l0 k l s (i:Int)) (fun s hs=> ?_) (fun i hi s hs' ih=> ?_)
  ·exact Evp.step (f:=fun k=>_) (fun k=>by rw[cu.l0]) (Evp.no (by omega) (Evp.pure _ rfl))
  · have hsz:=hs _ (List.getElem_mem hi)
    refine Evp.step (f:=fun k=>_) (fun k=>by rw[cu.l0,sO hi]) (Evp.yes (by omega) (Evp.yes (by omega) (Evp.bind (qY hsz.1 hsz.2) fun b hb=>Evp.yes (by omega) ?_)))
    subst hb
    rw[dS hi (by omega)]
    exact ih
theorem qf {m:kJ} (h:SzM m):Evp (fun k=>gG.f k m.f0 m.f1 m.f2 m.f3 m.f4 m.f5 m.f6 m.f7) (fun r=>r=(m.f0,m.f1,m.f2,m.f3,m.f4,m.f5.map cvX,m.f6.map cvS,m.f7.map cvK)):=by
  unfold gG.f
  refine Evp.bind (kR h.1) fun a ha=>Evp.bind (sQ h.2.1) fun b hb=>Evp.bind (qd h.2.2.1 h.2.2.2.2) fun c hc=>Evp.bind (oQ h.2.2.2.1) fun d hd=>Evp.pure _ (by rw[ha,hb,hc,hd])
theorem oU {l:List kJ} (hl:l.length≤1048576) (hm: ∀m∈l,SzM m):Evp (fun k=>bS.f k l) (fun r=>r=l.map cvM):=by
  unfold bS.f
  refine Evp.yes (by omega) (Evp.yes (by omega) ?_)
  rw[Int.toNat_natCast]
  refine jW l cvM z50 (g:=fun i s k=>bS.l0 k l s (i:Int)) (fun s hs=> ?_) (fun i hi s hs' ih=> ?_)
  ·exact Evp.step (f:=fun k=>_) (fun k=>by rw[bS.l0]) (Evp.no (by omega) (Evp.pure _ rfl))
  · refine Evp.step (f:=fun k=>_) (fun k=>by rw[bS.l0,sP hi]) (Evp.yes (by omega) (Evp.yes (by omega) (Evp.bind (qf (hm _ (List.getElem_mem hi))) fun b hb=>Evp.yes (by omega) ?_)))
    subst hb
    rw[dS hi (by omega)]
    exact ih
theorem lH {n:Nat} {g:Nat→Nat→Option Bool} (hend:Evp (g n) (fun r=>r=true)) (hstep: ∀i,i<n→Evp (g (i+1)) (fun r=>r=true)→Evp (g i) (fun r=>r=true)):Evp (g 0) (fun r=>r=true):=
  Evp.for_ (g:=g) (R:=fun _ r=>r=true) hend hstep 0 (Nat.zero_le _)
theorem sS {l:List Ins} (hl:l.length≤1048576):Evp (fun k=>bI.f k l l) (fun r=>r=true):=by
  unfold bI.f
  refine Evp.yes rfl (lH (n:=l.length) (g:=fun i k=>bI.l0 k l l (i:Int)) ?_ (fun i hi ih=> ?_))
  ·exact Evp.step (f:=fun k=>_) (fun k=>by rw[bI.l0]) (Evp.no (by omega) (Evp.pure _ rfl))
  · refine Evp.step (f:=fun k=>_) (fun k=>by rw[bI.l0]) (Evp.yes (by omega) (Evp.yes (by omega) (Evp.yes (by omega) ?_)))
    refine Evp.bind (P:=fun r=>r=true) ?_ (fun a ha=>Evp.yes ha ?_)
    · unfold iF.f
      exact Evp.yes rfl (Evp.yes rfl (Evp.yes rfl (Evp.pure _ rfl)))
    · rw[dS hi (by omega)]
      exact ih
theorem oV {l:List Cth} (hl:l.length≤1048576):Evp (fun k=>bE.f k l l) (fun r=>r=true):=by
  unfold bE.f
  refine Evp.yes rfl (lH (n:=l.length) (g:=fun i k=>bE.l0 k l l (i:Int)) ?_ (fun i hi ih=> ?_))
  ·exact Evp.step (f:=fun k=>_) (fun k=>by rw[bE.l0]) (Evp.no (by omega) (Evp.pure _ rfl))
  · refine Evp.step (f:=fun k=>_) (fun k=>by rw[bE.l0]) (Evp.yes (by omega) (Evp.yes (by omega) (Evp.yes (by omega) ?_)))
    refine Evp.bind (P:=fun r=>r=true) ?_ (fun a ha=>Evp.yes ha ?_)
    · unfold gQ.f
      exact Evp.yes rfl (Evp.yes rfl (Evp.yes rfl (Evp.yes rfl (Evp.pure _ rfl))))
    · rw[dS hi (by omega)]
      exact ih
theorem qg {l:List iJ} (hl:l.length≤1048576) (hs: ∀j,j<l.length→SmallS (l.getD j z29)):Evp (fun k=>bD.f k l l) (fun r=>r=true):=by
  unfold bD.f
  refine Evp.yes rfl (lH (n:=l.length) (g:=fun i k=>bD.l0 k l l (i:Int)) ?_ (fun i hi ih=> ?_))
  ·exact Evp.step (f:=fun k=>_) (fun k=>by rw[bD.l0]) (Evp.no (by omega) (Evp.pure _ rfl))
  · have h:=hs i hi
    refine Evp.step (f:=fun k=>_) (fun k=>by rw[bD.l0,rdS]) (Evp.yes (by omega) (Evp.yes (by omega) (Evp.yes (by omega) (Evp.bind (jV h.l1 h.l2) fun b hb=>Evp.yes hb ?_))))
    rw[dS hi (by omega)]
    exact ih
theorem qh {m:Mth} (h:SmallM m):Evp (fun k=>fU.f k m.f0 m.f1 m.f2 m.f3 m.f4 m.f5 m.f6 m.f7 m.f0 m.f1 m.f2 m.f3 m.f4 m.f5 m.f6 m.f7) (fun r=>r=true):=by
  unfold fU.f
  refine Evp.yes rfl (Evp.yes rfl (Evp.bind (kS h.l2) fun a ha=>Evp.yes ha (Evp.yes rfl (Evp.yes rfl (Evp.bind (sS h.l5) fun b hb=>Evp.yes hb (Evp.bind (qg h.l6 h.s6) fun c hc=>Evp.yes hc (Evp.bind (oV h.l7) fun d hd=>Evp.yes hd (Evp.pure _ rfl))))))))
theorem oW {l:List Mth} (hl:l.length≤1048576) (hs: ∀j,j<l.length→SmallM (mth l j)):Evp (fun k=>bz.f k l l) (fun r=>r=true):=by
  unfold bz.f
  refine Evp.yes rfl (lH (n:=l.length) (g:=fun i k=>bz.l0 k l l (i:Int)) ?_ (fun i hi ih=> ?_))
  ·exact Evp.step (f:=fun k=>_) (fun k=>by rw[bz.l0]) (Evp.no (by omega) (Evp.pure _ rfl))
  · refine Evp.step (f:=fun k=>_) (fun k=>by rw[bz.l0,jT]) (Evp.yes (by omega) (Evp.yes (by omega) (Evp.yes (by omega) (Evp.bind (qh (hs i hi)) fun b hb=>Evp.yes hb ?_))))
    rw[dS hi (by omega)]
    exact ih
theorem rQ {cs:List Cls} {ms:List Mth} (h:SmallU cs ms):Evp (fun k=>eu.f k cs ms cs ms) (fun r=>r=true):=by
  unfold eu.f
  exact Evp.bind (sN h.c) fun a ha=>Evp.yes ha (Evp.bind (oW h.m h.e) fun b hb=>Evp.yes hb (Evp.pure _ rfl))
theorem nX {α:Type} {l:List α} {Q:α→Prop} {g:Nat→Int→Nat→Option Int} (hend: ∀s,0≤s→Evp (g l.length s) (fun t=>t=s))
    (hstep: ∀(i:Nat) (hi:i<l.length) (s:Int),0≤s→s≤1048576→(∀t,0≤t→t≤s→Q l[i]→Evp (g (i+1) t) (fun r=>0≤r→r≤t∧∀o∈l.drop (i+1),Q o))→Evp (g i s) (fun r=>0≤r→r≤s∧∀o∈l.drop i,Q o)):
    ∀s,0≤s→s≤1048576→Evp (g 0 s) (fun r=>0≤r→r≤s∧∀o∈l,Q o):=by
  have key: ∀i,i≤l.length→∀s:Int,(0≤s∧s≤1048576)→Evp (g i s) (fun r=>0≤r→r≤s∧∀o∈l.drop i,Q o):=by
    refine Evp.fors (g:=g) (I:=fun _ s=>0≤s∧s≤1048576) (R:=fun i s r=>0≤r→r≤s∧∀o∈l.drop i,Q o) (fun s hs=> ?_) (fun i hi ih s hs=> ?_)
    ·exact(hend s hs.1).mono fun r hr h0=>⟨by omega,by simp⟩
    ·exact hstep i hi s hs.1 hs.2 fun t h0 h1 _=>ih t ⟨h0,by omega⟩
  intro s h0 h1
  exact key 0 (Nat.zero_le _) s ⟨h0,h1⟩
theorem ma {α:Type} {l:List α} {Q:α→Prop} {i:Nat} (hi:i<l.length) (h:Q l[i]) (h2: ∀o∈l.drop (i+1),Q o): ∀o∈l.drop i,Q o:=by
  rw[drop_at hi]
  intro o ho
  rcases List.mem_cons.1 ho with rfl|ho
  ·exact h
  ·exact h2 o ho
theorem qi {l:List nA} {a:Int} (h0:0≤a) (h1:a≤1048576) (hl:l.length≤9223372036854775807) (hw: ∀y∈l,mZ y):
    Evp (fun k=>cZ.f k l a) (fun t=>0≤t→t≤a∧l.length≤1048576∧∀s∈l,SzS s):=by
  unfold cZ.f
  rw[w64 (by omega) (by omega)]
  refine Evp.ite (fun _=>Evp.pure _ (by omega)) (fun h=> ?_)
  refine(nX (l:=l) (Q:=SzS) (g:=fun i s k=>cZ.l0 k l s (i:Int)) (fun s hs=> ?_) (fun i hi s hs0 hs1 ih=> ?_) _ (by omega) (by omega)).mono fun t ht h2=>⟨by have:=(ht h2).1;omega,by omega,(ht h2).2⟩
  ·exact Evp.step (f:=fun k=>_) (fun k=>by rw[cZ.l0]) (Evp.no (by omega) (Evp.pure _ rfl))
  · have hwi:=hw _ (List.getElem_mem hi)
    obtain⟨t,ht,ht2⟩:=qX (x0:=l[i].f0) hs0 hs1 hwi.2.1.1 hwi.2.2.1
    refine Evp.step (f:=fun k=>_) (fun k=>by rw[cZ.l0,sO hi,ht,Option.bind_some]) (Evp.yes (by omega) (Evp.yes (by omega) (Evp.ite (fun _=>Evp.pure _ (by omega)) (fun h3=> ?_))))
    obtain⟨h4,h5,h6⟩:=ht2 (by omega)
    rw[dS hi (by omega)]
    exact(ih t (by omega) h4 ⟨h5,h6⟩).mono fun r hr hr0=>⟨by have:=(hr hr0).1;omega,ma hi ⟨h5,h6⟩ (hr hr0).2⟩
theorem qj {m:kJ} {a:Int} (h0:0≤a) (h1:a≤1048576) (hw:lG m):Evp (fun k=>fP.f k m.f0 m.f1 m.f2 m.f3 m.f4 m.f5 m.f6 m.f7 a) (fun t=>0≤t→t≤a∧SzM m):=by
  obtain⟨_,_,⟨w2,_⟩,_,_,⟨w5,_⟩,⟨w6,w6'⟩,⟨w7,_⟩⟩:=hw
  unfold fP.f
  obtain⟨t,ht,ht2⟩:=kQ (l:=m.f2) h0 h1 w2
  rw[ht]
  simp only[Option.bind_some]
  refine Evp.ite (fun _=>Evp.pure _ (by omega)) (fun h=> ?_)
  have ht3:=ht2 (by omega)
  unfold fE.f
  rw[w64 (by omega) (by omega)]
  by_cases h2:t - (m.f5.length:Int)<0
  · simp only[if_pos h2,Option.bind_some]
    exact Evp.yes (by decide) (Evp.pure _ (by omega))
  simp only[if_neg h2,Option.bind_some]
  refine Evp.bind (qi (by omega) (by omega) w6 w6') fun u hu=>Evp.ite (fun _=>Evp.pure _ (by omega)) (fun h3=> ?_)
  have hu2:=hu (by omega)
  unfold fO.f
  rw[w64 (by omega) (by omega)]
  by_cases h4:u - (m.f7.length:Int)<0
  · simp only[if_pos h4,Option.bind_some]
    exact Evp.yes (by decide) (Evp.pure _ (by omega))
  simp only[if_neg h4,Option.bind_some]
  exact Evp.pure _ fun _=>⟨by omega,by omega,by omega,hu2.2.1,by omega,hu2.2.2⟩
theorem oZ {l:List kJ} {a:Int} (h0:0≤a) (h1:a≤1048576) (hl:l.length≤9223372036854775807) (hw: ∀y∈l,lG y):
    Evp (fun k=>cK.f k l a) (fun t=>0≤t→t≤a∧l.length≤1048576∧∀m∈l,SzM m):=by
  unfold cK.f
  rw[w64 (by omega) (by omega)]
  refine Evp.ite (fun _=>Evp.pure _ (by omega)) (fun h=> ?_)
  refine(nX (l:=l) (Q:=SzM) (g:=fun i s k=>cK.l0 k l s (i:Int)) (fun s hs=> ?_) (fun i hi s hs0 hs1 ih=> ?_) _ (by omega) (by omega)).mono fun t ht h2=>⟨by have:=(ht h2).1;omega,by omega,(ht h2).2⟩
  ·exact Evp.step (f:=fun k=>_) (fun k=>by rw[cK.l0]) (Evp.no (by omega) (Evp.pure _ rfl))
  · refine Evp.step (f:=fun k=>_) (fun k=>by rw[cK.l0,sP hi]) (Evp.yes (by omega) (Evp.yes (by omega) (Evp.bind (qj hs0 hs1 (hw _ (List.getElem_mem hi))) fun t ht=>Evp.ite (fun _=>Evp.pure _ (by omega)) (fun h3=> ?_))))
    obtain⟨h4,h5⟩:=ht (by omega)
    rw[dS hi (by omega)]
    exact(ih t (by omega) h4 h5).mono fun r hr hr0=>⟨by have:=(hr hr0).1;omega,ma hi h5 (hr hr0).2⟩
def cvU (x:S25):List Cls×List Mth:=(x.f0.map cvC,x.f1.map cvM)
theorem ql {m:kJ} (h:SzM m) (hw:lG m):SmallM (cvM m):=by
  obtain⟨_,_,⟨w2,w2'⟩,w3,_,_,⟨_,w6'⟩,_⟩:=hw
  refine⟨nz w3,h.1,fun t ht=>nz (w2' t ht),by show(m.f5.map cvX).length≤_;rw[List.length_map];exact h.2.1,by show(m.f6.map cvS).length≤_;rw[List.length_map];exact h.2.2.1,by show(m.f7.map cvK).length≤_;rw[List.length_map];exact h.2.2.2.1,fun j hj=> ?_⟩
  have hj' :j<m.f6.length:=by have:j<(m.f6.map cvS).length:=hj;rwa [List.length_map]at this
  have e:(cvM m).f6.getD j z29=cvS m.f6[j]:=by
    show(m.f6.map cvS).getD j _=_
    rw[getD_at (by rw[List.length_map];exact hj')];simp
  rw[e]
  have hs:=h.2.2.2.2 _ (List.getElem_mem hj')
  have hws:=w6' _ (List.getElem_mem hj')
  exact⟨hs.1,hs.2,fun t ht=>nz (hws.2.1.2 t ht),fun t ht=>nz (hws.2.2.2 t ht)⟩
theorem rR {x:S25} (hw:mG x):Evp (fun k=>gm.f k x.f0 x.f1 1048576) (fun t=>0≤t→eZ (x.f0.map cvC)∧x.f1.length≤1048576∧∀m∈x.f1,SzM m):=by
  obtain⟨⟨w0,w0'⟩,⟨w1,w1'⟩⟩:=hw
  unfold gm.f
  refine Evp.bind (sK w0 w0') fun t ht=>Evp.ite (fun _=>Evp.pure _ (by omega)) (fun h=> ?_)
  have ht2:=ht (by omega)
  refine Evp.bind (oZ (by omega) ht2.1 w1 w1') fun u hu=>Evp.ite (fun _=>Evp.pure _ (by omega)) (fun h2=>Evp.pure _ fun h3=> ?_)
  have hu2:=hu h3
  exact⟨ht2.2,hu2.2.1,hu2.2.2⟩
theorem kT {x:S25} (h:eZ (x.f0.map cvC)∧x.f1.length≤1048576∧∀m∈x.f1,SzM m):Evp (fun k=>di.f k x.f0 x.f1) (fun r=>r=cvU x):=by
  unfold di.f
  exact Evp.bind (sM h.1) fun a ha=>Evp.bind (oU h.2.1 h.2.2) fun b hb=>Evp.pure _ (by rw[ha,hb];rfl)
theorem qm {x:S25} (hw:mG x) (h:eZ (x.f0.map cvC)∧x.f1.length≤1048576∧∀m∈x.f1,SzM m):SmallU (cvU x).1 (cvU x).2:=by
  obtain⟨_,⟨w1,w1'⟩⟩:=hw
  refine⟨h.1,by show(x.f1.map cvM).length≤_;rw[List.length_map];exact h.2.1,fun i hi=> ?_⟩
  have hi' :i<x.f1.length:=by have:i<(x.f1.map cvM).length:=hi;rwa [List.length_map]at this
  have e:mth (cvU x).2 i=cvM x.f1[i]:=by
    show(x.f1.map cvM).getD i _=_
    rw[getD_at (by rw[List.length_map];exact hi')];simp
  rw[e]
  exact ql (h.2.2 _ (List.getElem_mem hi')) (w1' _ (List.getElem_mem hi'))
end Go.Proofs.Yteinbmkgenhocaa.Kit
end
section
namespace Go.Proofs.Yteinbmkgenhocaa.Kit
open Go Go.RowKit Go.Proofs.YteinbmkgenhocaaW.PrintWords Go.Proofs.Yteinbmkgenhocaa.P
set_option linter.unusedVariables false
theorem sU {xs:List Int} {i:Nat} (hi:i<xs.length) (v:Int) (j:Nat):rd (xs.set (i:Int).toNat v) (j:Int)=if j=i then v else rd xs (j:Int):=by
  show(xs.set (i:Int).toNat v).getD (j:Int).toNat 0=if j=i then v else xs.getD (j:Int).toNat 0
  rw[Int.toNat_natCast,Int.toNat_natCast,List.getD_eq_getElem?_getD,List.getD_eq_getElem?_getD]
  split
  · rename_i h;subst h
    rw[List.getElem?_set_self hi];rfl
  · rename_i h
    rw[List.getElem?_set_ne (fun e=>h e.symm)]
theorem kK {l:List Int} (hl:l.length≤1048576) {a:Int} (h0:0≤a) (h1:a≤4611686018427387904):
    Evp (fun k=>bR.f k l a) (fun r=>r.1=a+(l.length:Int)∧r.2.length=l.length∧∀j:Nat,j<l.length→rd r.2 (j:Int)=a+(j:Int)):=by
  unfold bR.f
  have key: ∀d i:Nat,i+d=l.length→∀(xs:List Int) (b:Int),b=a+(i:Int)→xs.length=l.length→(∀j:Nat,j<i→rd xs (j:Int)=a+(j:Int))→Evp (fun k=>bR.l0 k xs b (i:Int)) (fun r=>r.1=a+(l.length:Int)∧r.2.length=l.length∧∀j:Nat,j<l.length→rd r.2 (j:Int)=a+(j:Int)):=by
    intro d
    induction d with
    | zero=>
      intro i hi xs b hb hx hr
      refine Evp.step (f:=fun k=>_) (fun k=>by rw[bR.l0]) (Evp.no (by omega) (Evp.pure _ ⟨?_,hx,fun j hj=>hr j (by omega)⟩))
      show b=_
      omega
    | succ d ih=>
      intro i hi xs b hb hx hr
      refine Evp.step (f:=fun k=>_) (fun k=>by rw[bR.l0]) (Evp.yes (by omega) (Evp.yes (by omega) ?_))
      rw[w64 (n:=b+1) (by omega) (by omega),dS (n:=l.length) (by omega) (by omega)]
      refine ih (i+1) (by omega) _ _ (by omega) (by rw[List.length_set];exact hx) (fun j hj=> ?_)
      rw[sU (by omega)]
      split
      ·rename_i h;subst h;exact hb
      ·exact hr j (by omega)
  exact key l.length 0 (by omega) l a (by omega) rfl (fun j hj=>absurd hj (Nat.not_lt_zero _))
theorem nC {l:List Int} (hl:l.length≤1048576) {a:Int} (h0:0≤a) (h1:a≤4611686018427387904) (h: ∀j:Nat,j<l.length→rd l (j:Int)=a+(j:Int)):
    Evp (fun k=>bO.f k l a) (fun r=>r=a+(l.length:Int)):=by
  unfold bO.f
  have key: ∀d i:Nat,i+d=l.length→∀b:Int,b=a+(i:Int)→Evp (fun k=>bO.l0 k l b (i:Int)) (fun r=>r=a+(l.length:Int)):=by
    intro d
    induction d with
    | zero=>
      intro i hi b hb
      exact Evp.step (f:=fun k=>_) (fun k=>by rw[bO.l0]) (Evp.no (by omega) (Evp.pure _ (by omega)))
    | succ d ih=>
      intro i hi b hb
      refine Evp.step (f:=fun k=>_) (fun k=>by rw[bO.l0]) (Evp.yes (by omega) (Evp.yes (by omega) (Evp.yes (by rw[h i (by omega)];omega) ?_)))
      rw[w64 (n:=b+1) (by omega) (by omega),dS (n:=l.length) (by omega) (by omega)]
      exact ih (i+1) (by omega) _ (by omega)
  exact key l.length 0 (by omega) a (by omega)
theorem jJ {α:Type} (f:α→Nat) (d:α) (B:Nat) (l:List α) (h: ∀i,i<l.length→f (l.getD i d)≤B):iI f l≤l.length * B:=by
  induction l with
  |nil=>exact Nat.zero_le _
  | cons x l ih=>
    have h0:=h 0 (by simp)
    have h1:=ih (fun i hi=>h (i+1) (by simpa using hi))
    simp only[iI,List.length_cons,Nat.add_mul,Nat.one_mul]
    have:f ((x::l).getD 0 d)=f x:=rfl
    omega
theorem cnt1 (l:List Int):iI (fun _=>1) l=l.length:=by
  induction l with
  |nil=>rfl
  |cons x l ih=>simp only[iI,List.length_cons];omega
theorem nK {cs:List Cls} {ms:List Mth} (hu:SmallU cs ms): ∃r,dV.f cs ms 1=some r∧0≤r:=by
  have hc:=hu.c.1
  have hm:=hu.m
  have b1:iB cs≤cs.length * 1048577:=jJ _ z71 _ _ (fun i hi=>by
    have:=(hu.c.2 i hi).1
    show 1+iU _≤_
    unfold iU
    rw[cnt1]
    unfold dI at this
    omega)
  have b2:iO ms≤ms.length * 2200000000000:=jJ _ z50 _ _ (fun i hi=>by
    have h:=hu.e i hi
    have h2:=h.l2
    have h5:=h.l5
    have h6:=h.l6
    have h7:=h.l7
    have s5:kF (mth ms i).f5≤(mth ms i).f5.length * 3:=jJ _ z97 _ _ (fun _ _=>Nat.le_refl _)
    have s7:kG (mth ms i).f7≤(mth ms i).f7.length * 4:=jJ _ fB _ _ (fun _ _=>Nat.le_refl _)
    have s6:iC (mth ms i).f6≤(mth ms i).f6.length * 2097153:=jJ _ z29 _ _ (fun j hj=>by
      have hs:=h.s6 j hj
      have e1:=hs.l1
      have e2:=hs.l2
      show 1+iU _+iU _≤_
      unfold iU
      rw[cnt1,cnt1]
      omega)
    show 1+1+iU (mth ms i).f2+1+1+kF (mth ms i).f5+iC (mth ms i).f6+kG (mth ms i).f7≤_
    unfold iU
    rw[cnt1]
    omega)
  refine⟨_,rfl, ?_⟩
  rw[su 1 _ (by omega) (by omega)]
  omega
end Go.Proofs.Yteinbmkgenhocaa.Kit
end
section
namespace Go.Proofs.Yteinbmkgenhocaa.Pure
open Go Go.RowKit Go.Proofs.YteinbmkgenhocaaW.PrintWords Go.Proofs.Yteinbmkgenhocaa.P Go.Proofs.Yteinbmkgenhocaa.Kit
theorem mD {b:Bool} {l1 l2:List Int} (h1:l1.length≤1048576) (h2:l2.length≤1048576):Evp (fun k=>gp.f k b l1 l2 1) (fun r=>r.1=1+(l1.length:Int)+(l2.length:Int)∧Evp (fun k=>dJ.f k b r.2.1 r.2.2 1) (fun q=>q=r.1)):=by
  unfold gp.f
  refine Evp.bind (kK h1 (by decide) (by decide)) fun m hm=>Evp.bind (kK h2 (by omega) (by omega)) fun n hn=>Evp.pure _ ⟨by have:=hn.1;have:=hm.1;show n.1=_;omega, ?_⟩
  show Evp (fun k=>dJ.f k b m.2 n.2 1) (fun q=>q=n.1)
  have e1:=hm.1
  have e2:=hm.2.1
  have e3:=hn.1
  have e4:=hn.2.1
  unfold dJ.f
  refine Evp.bind (nC (by omega) (by decide) (by decide) (fun j hj=>hm.2.2 j (by omega))) fun p hp=>Evp.no (by omega) ?_
  have e5:p=m.1:=by omega
  rw[e5]
  refine Evp.bind (nC (by omega) (by omega) (by omega) (fun j hj=>hn.2.2 j (by omega))) fun q hq=>Evp.no (by omega) (Evp.pure _ (by show q=n.1;omega))
theorem FnExactShapeStart:laws_FnExactShapeStart.Pure:=by
  intro x a1 hw _
  refine Evp.rounds ?_
  unfold laws_FnExactShapeStart.f
  refine Evp.bind (rR hw) fun t ht=>Evp.ite (fun _=>Evp.pure _ rfl) (fun h=> ?_)
  have hc:=ht (by omega)
  have hu:=qm hw hc
  refine Evp.bind (kT hc) fun a ha=> ?_
  subst ha
  refine Evp.bind (kY hu a1) fun u hu1=>Evp.bind (kT hc) fun b hb=> ?_
  subst hb
  refine Evp.bind (jh hu a1) fun v hv1=> ?_
  have e:=hv1.fn hu1
  subst e
  obtain⟨s1,s2⟩:=hv1.small
  refine Evp.bind (jV s1 s2) fun t1 h1=>Evp.yes h1 (Evp.bind (kT hc) fun c hc' => ?_)
  subst hc'
  refine Evp.bind (rQ hu) fun e he=>Evp.yes he ?_
  obtain⟨m,hm,hm0⟩:=nK hu
  simp only[hm,Option.bind_some]
  refine Evp.no (by omega) (Evp.bind (jV s1 s2) fun t2 h2=> ?_)
  rw[h2]
  refine Evp.step (f:=fun k=>_) (fun k=>by rw[laws_FnExactShapeStart.j0]) (Evp.no (by decide) ?_)
  refine Evp.bind (mD s1 s2) fun m2 hm2=> ?_
  have hp:=hm2.1
  refine Evp.bind hm2.2 fun q hq=>Evp.no (by omega) (Evp.yes (by omega) (Evp.bind (kT hc) fun c hc' => ?_))
  subst hc'
  refine Evp.bind (jh hu a1) fun v' hv' => ?_
  rw[hv'.fn hv1]
  refine Evp.bind (jV s1 s2) fun t5 h5=>Evp.yes h5 (Evp.bind hm2.2 fun q' hq' =>Evp.no (by omega) (Evp.yes (by omega) (Evp.pure _ rfl)))
end Go.Proofs.Yteinbmkgenhocaa.Pure
end
section
namespace Go.Proofs.Yteinbmkgenhocaa.fnExactShapeStart
open Go Go.ChangeShapes Go.WideShapes Go.ChangeAt Go.RowKit Go.Proofs.YteinbmkgenhocaaW.PrintWords Go.Proofs.Yteinbmkgenhocaa.P Go.Proofs.Yteinbmkgenhocaa.Open
set_option linter.unusedVariables false
theorem own:ownKnob Try.prog.godebug=none:=by kernel_rfl
theorem laidOut:laidOutB Try.prog=true:=by kernel_rfl
set_option maxRecDepth 100000 in
theorem lifted (os:Os) (started:os.Started) (H:Type) (enc:TypeId×Value→H):
    ReturnsInHanded {} Try.checked os 3 .any (Rows.fnExactShapeStartSpec.pre6 enc Try.prog Try.f3 Rows.fnExactShapeStartRow.domain false) (Rows.fnExactShapeStartSpec.post enc Try.prog Try.f3 false true false false):=by
  refine returnsInHanded_of_change_sized (C:=Try.checked) own started (by kernel_rfl) Try.func3
    (ChangeSpec.witness6 (enc:=enc) (C:=Try.checked) false ⟨#[],#[.agg #[.slice none 0 0, .slice none 0 0], .int .i64 0], []⟩ 8 (by kernel_rfl) (by kernel_rfl) (by kernel_rfl) (by kernel_rfl)) ?_
  intro W base args ds gs before hval0 hW hcnd hsz0 _
  have hval: ∀(j:Nat) t v,Try.f3.params[j]? =some t→args[j]? =some v→Value.okWide Try.prog W .any base t v:=hval0
  have hW' :=hW
  obtain⟨p,q,g,hV,rfl,hfz,hnd⟩:=hW
  have hA:DataW.TrodAll enc Try.prog W 0 (fun _=>true) true Try.f3.params.toList args.toList ds p:=g
  rw[Try.params3]at hA hval
  obtain⟨v0,u,d0,ds0,p0,q0,hargs,rfl,rfl,h0,r0⟩:=trodAll_cons hA
  obtain⟨v1,vs1,d1,ds1,p1,q1,rfl,rfl,rfl,h1,r1⟩:=trodAll_cons r0
  obtain⟨rfl,rfl,rfl⟩:=trodAll_nil r1
  obtain rfl:args= #[v0,v1]:=by cases args;simp_all
  obtain⟨rfl,rfl⟩:=trodVars_none hV
  have k0:=h0
  have r: ∀x∈p0,x.block<W.heap.size:=by obtain⟨m,hm⟩:=k0;exact DataW.trod_lt m _ _ _ hm
  obtain⟨x0,g0,s⟩:=pW (v:=v0) h0 (rO H enc W 0 (fun _=>true) true)
  obtain⟨cs0,rfl,z0⟩:=okWide_struct Try.underlying25 (hval 0 25 v0 rfl rfl)
  obtain⟨i,l,n,o,e0,a,b,c,d⟩:=qP g0
  obtain rfl:cs0= #[.slice i x0.f0.length l, .slice n x0.f1.length o]:=by cases cs0;simpa[Value.cells] using e0
  obtain⟨a1,rfl,rfl,rfl,w1⟩:=open_int Try.underlying3 (hval 1 3 v1 rfl rfl) h1
  clear g hval0 hsz0
  obtain⟨k,h⟩:=Pure.FnExactShapeStart x0 a1 s w1
  refine(laws_FnExactShapeStart.calls k _ _ x0.f0 _ _ x0.f1 a1 true W b a d c h rfl).mono fun e W' ⟨he,bel⟩=> ?_
  subst he
  exact⟨_,rfl,_,_,_, [],_, [],hW',trodAll_mk1 (shut_bool Try.underlying4 _),(trodAll_cons_mk (Below.trod laidOut (by kernel_rfl) (of_decide_eq_true (by kernel_rfl)) k0 bel r) (trodAll_cons_mk (shut_int Try.underlying3 w1) trodAll_mk0)),rfl,bel.frame _,fun h=>by cases h⟩
theorem over:Rows.fnExactShapeStartRow.holds Try.pinned (OpenSpec.ofChange Rows.fnExactShapeStartSpec):=
  OpenClaim.holds_of_wide 3 Try.f3 rfl rfl rfl rfl rfl rfl rfl ⟨rfl,rfl,rfl,rfl,rfl⟩ rfl rfl rfl rfl rfl (by kernel_rfl) Try.func3 (by show joinedFacts Try.prog _ _ _ _=true;unfold joinedFacts;rw[Go.Proofs.Yteinbmkgenhocaa.enter,Go.Proofs.Yteinbmkgenhocaa.make,Go.Proofs.Yteinbmkgenhocaa.lifts];kernel_rfl)
    (of_decide_eq_true (by kernel_rfl)) (by unfold Func.isWrapper;first|(rw[if_pos (by decide+kernel)];kernel_rfl)|(rw[if_neg (by decide+kernel)];exact⟨rfl,rfl⟩))
    (fun os started H enc _=>lifted os started H enc)
theorem proved:Rows.FnExactShapeStartSaid:=over
end Go.Proofs.Yteinbmkgenhocaa.fnExactShapeStart
namespace Go.Proofs.Yteinbmkgenhocaa
theorem fnExactShapeStart_holds:Rows.FnExactShapeStartSaid:=fnExactShapeStart.proved
end Go.Proofs.Yteinbmkgenhocaa
end
