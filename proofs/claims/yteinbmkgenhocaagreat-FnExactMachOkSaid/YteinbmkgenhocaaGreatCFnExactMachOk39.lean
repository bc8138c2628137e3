/- A part of the claim FnExactMachOk. -/
import Derived.Test.YteinbmkgenhocaaGreatCFnExactMachOk38
section
namespace Go.Proofs.YteinbmkgenhocaaGreat.Kit
open Go Go.RowKit Go.Proofs.YteinbmkgenhocaaGreatW.PrintWords Go.Proofs.YteinbmkgenhocaaGreat.P
set_option linter.unusedVariables false
set_option linter.unusedSimpArgs false
def gJ (cs:List Cls) (nc:Nat) (c:Cth):Prop:=(0≤c.f0∧c.f0<(nc:Int))∧(c.f0<c.f1∧c.f1≤(nc:Int))∧(0≤c.f2∧c.f2<(nc:Int))∧(0≤c.f3∧c.f3<(cs.length:Int))∧Up cs c.f3.toNat 1
def nW (cs:List Cls) (nc:Nat) (l7:List Cth):Prop:=l7.length≤2∧∀j,0≤j→j<l7.length→gJ cs nc (l7.getD j ig)
theorem oH {cs:List Cls} (hok:ClsOk cs) (ms:List Mth) {a0 a1:Int} {l2:List Int} {a3 a4:Int} (l5:List Ins) (l6:List jF) (l7:List Cth):
    Evp (fun k=>bv.f k cs ms a0 a1 l2 a3 a4 l5 l6 l7) (fun r=>r=true↔nW cs l5.length l7):=by
  unfold bv.f
  refine Evp.ite (fun h=>Evp.pure _ (dQ fun h2=>by have:=h2.1;omega)) (fun h=> ?_)
  have k0: ∀i,i≤l7.length→Evp (fun k=>bv.l0 k l7 (l7.length:Int) (i:Int) cs ms a0 a1 l2 a3 a4 l5 l6 l7) (fun r=>r=true↔(∀j,i≤j→j<l7.length→gJ cs l5.length (l7.getD j ig))∧True):=by
    refine Evp.for_ ?_ (fun i hi ih=> ?_)
    ·exact Evp.step (f:=fun k=>_) (fun k=>by rw[bv.l0]) (Evp.no (by omega) (Evp.pure _ (fJ (gW trivial))))
    · generalize hc:l7.getD i ig=c at ih
      have a: ¬gJ cs l5.length c→Evp (fun k=>bv.j1 k l7 (l7.length:Int) (i:Int) true cs ms a0 a1 l2 a3 a4 l5 l6 l7 c.f0 c.f1 c.f2 c.f3) (fun r=>r=true↔(∀j,i≤j→j<l7.length→gJ cs l5.length (l7.getD j ig))∧True):=fun hn=>
        Evp.step (f:=fun k=>_) (fun k=>by rw[bv.j1]) (Evp.yes rfl (Evp.pure _ (dX (Q:=fun j=>gJ cs l5.length (l7.getD j ig)) hi (by rw[hc];exact hn))))
      have b: ¬gJ cs l5.length c→Evp (fun k=>bv.j2 k l7 (l7.length:Int) (i:Int) true cs ms a0 a1 l2 a3 a4 l5 l6 l7 c.f0 c.f1 c.f2 c.f3) (fun r=>r=true↔(∀j,i≤j→j<l7.length→gJ cs l5.length (l7.getD j ig))∧True):=fun hn=>
        Evp.step (f:=fun k=>_) (fun k=>by rw[bv.j2]) (Evp.yes rfl (Evp.pure _ (dX (Q:=fun j=>gJ cs l5.length (l7.getD j ig)) hi (by rw[hc];exact hn))))
      refine Evp.step (f:=fun k=>_) (fun k=>by rw[bv.l0,rdK,hc]) (Evp.yes (by omega) (Evp.yes (by omega) (Evp.yes (by omega) ?_)))
      refine Evp.ite (fun h1=>a fun h9=>by have:=h9.1;omega) (fun h1=>Evp.ite (fun h2=>a fun h9=>by have:=h9.1;omega) (fun h2=>Evp.ite (fun h3=>a fun h9=>by have:=h9.2.2.1;omega) (fun h3=> ?_)))
      by_cases h4:c.f2≥(l5.length:Int)
      · rw[decide_eq_true h4]
        exact a fun h9=>by have:=h9.2.2.1;omega
      rw[decide_eq_false h4]
      refine Evp.step (f:=fun k=>_) (fun k=>by rw[bv.j1]) (Evp.no (by decide) (Evp.ite (fun h5=>b fun h9=>by have:=h9.2.1;omega) (fun h5=> ?_)))
      by_cases h6:c.f1>(l5.length:Int)
      · rw[decide_eq_true h6]
        exact b fun h9=>by have:=h9.2.1;omega
      rw[decide_eq_false h6]
      refine Evp.step (f:=fun k=>_) (fun k=>by rw[bv.j2]) (Evp.no (by decide) ?_)
      obtain⟨x,hx,hx2⟩:=jb cs c.f3
      simp only[hx,Option.bind_some]
      refine Evp.ite (fun h7=> ?_) (fun h7=>Evp.pure _ (dX (Q:=fun j=>gJ cs l5.length (l7.getD j ig)) hi (by rw[hc];exact fun h9=>h7 (hx2.2 h9.2.2.2.1))))
      have h8:=hx2.1 h7
      have hu:=qb hok 1 c.f3.toNat (by omega)
      rw[show((c.f3.toNat:Nat):Int)=c.f3 by omega]at hu
      refine Evp.bind hu fun u hu=>Evp.ite (fun h9=> ?_) (fun h9=>Evp.pure _ (dX (Q:=fun j=>gJ cs l5.length (l7.getD j ig)) hi (by rw[hc];exact fun h10=>h9 (hu.2 h10.2.2.2.2))))
      rw[eF (n:=l7.length) hi (by omega)]
      exact ih.mono fun r hr=>fK (Q:=fun j=>gJ cs l5.length (l7.getD j ig)) (by rw[hc];exact⟨by omega,by omega,by omega,h8,hu.1 h9⟩) hr
  exact(k0 0 (Nat.zero_le _)).mono fun r hr=>hr.trans ⟨fun h2=>⟨by omega,h2.1⟩,fun h2=>⟨h2.2,trivial⟩⟩
theorem qy {cs:List Cls} (hok:ClsOk cs) (ms:List Mth) {a0 a1:Int} {l2:List Int} {a3 a4:Int} (l5:List Ins) (a:l5.length≤1048576) (l6:List jF) (l7:List Cth) (c:Cth):
    Evp (fun k=>iC.f k cs ms a0 a1 l2 a3 a4 l5 l6 l7 c.f0 c.f1 c.f2 c.f3) (fun r=>r=true↔gJ cs l5.length c):=by
  have hlo:=hok.lo
  have hhi:=hok.hi
  unfold iC.f
  rw[gV,w64 (n:=(l5.length:Int) - 1) (by omega) (by omega),w64 (n:=(cs.length:Int) - 1) (by omega) (by omega)]
  simp only[Option.bind_some]
  refine Evp.ite (fun h1=> ?_) (fun h1=>Evp.pure _ (dQ fun h9=>h1 (decide_eq_true (by have:=h9.1;omega))))
  have h1' :=of_decide_eq_true h1
  rw[gV,w64 (n:=c.f0+1) (by omega) (by omega)]
  simp only[Option.bind_some]
  refine Evp.ite (fun h2=> ?_) (fun h2=>Evp.pure _ (dQ fun h9=>h2 (decide_eq_true (by have:=h9.2.1;omega))))
  have h2' :=of_decide_eq_true h2
  rw[gV]
  simp only[Option.bind_some]
  refine Evp.ite (fun h3=> ?_) (fun h3=>Evp.pure _ (dQ fun h9=>h3 (decide_eq_true (by have:=h9.2.2.1;omega))))
  have h3' :=of_decide_eq_true h3
  rw[gV]
  simp only[Option.bind_some]
  refine Evp.ite (fun h4=> ?_) (fun h4=>Evp.pure _ (dQ fun h9=>h4 (decide_eq_true (by have:=h9.2.2.2.1;omega))))
  have h4' :=of_decide_eq_true h4
  have hu:=qa hok 1 c.f3.toNat (by omega)
  rw[show((c.f3.toNat:Nat):Int)=c.f3 by omega]at hu
  exact Evp.bind hu fun u hu=>Evp.pure _ (hu.trans ⟨fun h5=>⟨by omega,by omega,by omega,by omega,h5⟩,fun h5=>h5.2.2.2.2⟩)
def ik (cs:List Cls) (ms:List Mth) (m:Mth):Prop:=kC cs.length m.f0 m.f1 m.f2 m.f3 m.f4∧pE cs ms m.f4 m.f5 m.f6∧nW cs m.f5.length m.f7
theorem pO {cs:List Cls} (hs:gq cs) (hok:ClsOk cs) (ms:List Mth) (hm:ms.length≤1048576) (m:Mth) (h2:m.f2.length≤1048576) (h5:m.f5.length≤1048576) (h6:m.f6.length≤1048576) (h7:m.f7.length≤1048576) (a: ∀j,j<m.f6.length→SmallS (m.f6.getD j z57)):
    Evp (fun k=>aT.f k cs ms m.f0 m.f1 m.f2 m.f3 m.f4 m.f5 m.f6 m.f7) (fun r=>r=true↔ik cs ms m):=by
  obtain⟨a0,a1,l2,a3,a4,l5,l6,l7⟩:=m
  dsimp only at *
  have jt: ¬ik cs ms ⟨a0,a1,l2,a3,a4,l5,l6,l7⟩→Evp (fun k=>aT.j0 k true cs ms a0 a1 l2 a3 a4 l5 l6 l7) (fun r=>r=true↔ik cs ms ⟨a0,a1,l2,a3,a4,l5,l6,l7⟩):=fun h=>
    Evp.step (f:=fun k=>_) (fun k=>by rw[aT.j0]) (Evp.yes rfl (Evp.pure _ (dQ h)))
  unfold aT.f
  refine Evp.bind (qZ hs ms l5 l6 l7 h2) fun b hb=>Evp.ite (fun hh=> ?_) (fun hh=>jt fun h=>hh (hb.2 h.1))
  have hhd:=hb.1 hh
  have e:a4≤3:=hhd.2.2.2.2.1
  have g:0≤a4:=by
    have:=hhd.2.2.2.2.2
    unfold jG at this
    split at this<;>omega
  rw[gV]
  simp only[Option.bind_some]
  refine Evp.ite (fun h1=> ?_) (fun h1=>jt fun h=>h1 (decide_eq_true (by have:=h.2.1.1;dsimp only at this;omega)))
  have h1' :=of_decide_eq_true h1
  refine Evp.ite (fun he=> ?_) (fun he=>jt fun h=>he (by have:=h.2.1.1.2.2;dsimp only at this;omega))
  by_cases h3:(l7.length:Int)>2
  · rw[decide_eq_true h3]
    exact jt fun h=>by have:=h.2.2.1;dsimp only at this;omega
  rw[decide_eq_false h3]
  refine Evp.step (f:=fun k=>_) (fun k=>by rw[aT.j0]) (Evp.no (by decide) ?_)
  have k1: ∀i,i≤l7.length→Evp (fun k=>aT.l1 k (i:Int) cs ms a0 a1 l2 a3 a4 l5 l6 l7) (fun r=>r=true↔(∀j,i≤j→j<l7.length→gJ cs l5.length (l7.getD j ig))∧True):=by
    refine Evp.for_ ?_ (fun i hi ih=> ?_)
    ·exact Evp.step (f:=fun k=>_) (fun k=>by rw[aT.l1]) (Evp.no (by omega) (Evp.pure _ (fJ (gW trivial))))
    · refine Evp.step (f:=fun k=>_) (fun k=>by rw[aT.l1,rdK]) (Evp.yes (by omega) (Evp.yes (by omega) ?_))
      refine Evp.bind (qy hok ms l5 h5 l6 l7 _) fun c hc=>Evp.ite (fun h8=> ?_) (fun h8=>Evp.pure _ (dX (Q:=fun j=>gJ cs l5.length (l7.getD j ig)) hi fun h9=>h8 (hc.2 h9)))
      rw[eF (n:=l7.length) hi (by omega)]
      exact ih.mono fun r hr=>fK (Q:=fun j=>gJ cs l5.length (l7.getD j ig)) (hc.1 h8) hr
  have k0: ∀i,i≤l5.length→Evp (fun k=>aT.l0 k (i:Int) cs ms a0 a1 l2 a3 a4 l5 l6 l7) (fun r=>r=true↔(∀j,i≤j→j<l5.length→iW cs ms a4 l5.length (l5.getD j iU)∧kH cs a4 (l6.getD j z57))∧((∀j,0≤j→j<l7.length→gJ cs l5.length (l7.getD j ig))∧True)):=by
    refine Evp.for_ ?_ (fun i hi ih=> ?_)
    · refine Evp.step (f:=fun k=>_) (fun k=>by rw[aT.l0]) (Evp.no (by omega) ?_)
      exact(k1 0 (Nat.zero_le _)).mono fun r hr=>fJ hr
    · have hss:=a i (by omega)
      refine Evp.step (f:=fun k=>_) (fun k=>by rw[aT.l0,rdX,rdS]) (Evp.yes (by omega) (Evp.yes (by omega) ?_))
      refine Evp.bind (sU hs hok ms hm g e l5 h5 l6 l7 _) fun c hc=>Evp.ite (fun h8=> ?_) (fun h8=>Evp.pure _ (dX (Q:=fun j=>iW cs ms a4 l5.length (l5.getD j iU)∧kH cs a4 (l6.getD j z57)) hi fun h9=>h8 (hc.2 h9.1)))
      refine Evp.yes (by omega) (Evp.bind (oG hs a4 _ hss.l1 hss.l2) fun d hd=>Evp.ite (fun h9=> ?_) (fun h9=>Evp.pure _ (dX (Q:=fun j=>iW cs ms a4 l5.length (l5.getD j iU)∧kH cs a4 (l6.getD j z57)) hi fun h10=>h9 (hd.2 ⟨hok,h10.2⟩))))
      rw[eF (n:=l5.length) hi (by omega)]
      exact ih.mono fun r hr=>fK (Q:=fun j=>iW cs ms a4 l5.length (l5.getD j iU)∧kH cs a4 (l6.getD j z57)) ⟨hc.1 h8,(hd.1 h9).2⟩ hr
  refine(k0 0 (Nat.zero_le _)).mono fun r hr=>hr.trans ?_
  constructor
  · intro h
    refine⟨hhd,⟨⟨by dsimp only;omega,by dsimp only;omega,by dsimp only;omega⟩,fun j hj hj2=>(h.1 j hj hj2).1,fun j hj hj2=>(h.1 j hj (by dsimp only at hj2;omega)).2⟩,⟨by dsimp only;omega,h.2.1⟩⟩
  · intro h
    exact⟨fun j hj hj2=>⟨h.2.1.2.1 j hj hj2,h.2.1.2.2 j hj (by dsimp only;omega)⟩,h.2.2.2,trivial⟩
abbrev mth (ms:List Mth) (i:Nat):Mth:=ms.getD i jM
theorem mf {xs:List Mth} (i:Nat):aa xs (i:Int)=mth xs i:=rfl
theorem l9 {l m:List Int} (h:l.length=m.length):(∀j,0≤j→j<l.length→l.getD j 0=m.getD j 0)↔l=m:=by
  constructor
  · intro h2
    refine List.ext_getElem h fun i hi hi2=> ?_
    have:=h2 i (Nat.zero_le _) hi
    rwa [getD_at hi,getD_at hi2]at this
  · intro h2 j _ _
    rw[h2]
theorem all_cons {Q:Nat→Prop} {i n:Nat} (hi:i<n):(∀j,i≤j→j<n→Q j)↔Q i∧(∀j,i+1≤j→j<n→Q j):=by
  constructor
  ·intro h;exact⟨h i (Nat.le_refl _) hi,fun j hj hj2=>h j (by omega) hj2⟩
  · intro h j hj hj2
    rcases Nat.eq_or_lt_of_le hj with rfl|h3
    ·exact h.1
    ·exact h.2 j h3 hj2
theorem sw {l m:List Int} (hl:l.length≤1048576):Evp (fun k=>slices_Equal_int_int.f k l m) (fun r=>r=true↔l=m):=by
  unfold slices_Equal_int_int.f
  refine Evp.ite (fun h=> ?_) (fun h=>Evp.pure _ (dQ fun h2=>h (by rw[h2])))
  have k0: ∀i,i≤l.length→Evp (fun k=>slices_Equal_int_int.l0 k l m (l.length:Int) (i:Int)) (fun r=>r=true↔(∀j,i≤j→j<l.length→l.getD j 0=m.getD j 0)∧True):=by
    refine Evp.for_ ?_ (fun i hi ih=> ?_)
    ·exact Evp.step (f:=fun k=>_) (fun k=>by rw[slices_Equal_int_int.l0]) (Evp.no (by omega) (Evp.pure _ (fJ (gW trivial))))
    · refine Evp.step (f:=fun k=>_) (fun k=>by rw[slices_Equal_int_int.l0,rdN,rdN]) (Evp.yes (by omega) (Evp.yes (by omega) (Evp.yes (by omega) (Evp.yes (by omega) (Evp.ite (fun h2=> ?_) (fun h2=>Evp.pure _ (dX hi h2)))))))
      rw[eF (n:=l.length) hi (by omega)]
      exact ih.mono fun r hr=>fK (Q:=fun j=>l.getD j 0=m.getD j 0) h2 hr
  refine(k0 0 (Nat.zero_le _)).mono fun r hr=>hr.trans ?_
  rw[l9 (by omega)]
  exact⟨fun h2=>h2.1,fun h2=>⟨h2,trivial⟩⟩
theorem um {a b:Mth} (ha:a.f2.length≤1048576):Evp (fun k=>df.f k a.f0 a.f1 a.f2 a.f3 a.f4 a.f5 a.f6 a.f7 b.f0 b.f1 b.f2 b.f3 b.f4 b.f5 b.f6 b.f7) (fun r=>r=true↔a.f3=b.f3∧a.f2=b.f2):=by
  unfold df.f
  have jt: ¬(a.f3=b.f3∧a.f2=b.f2)→Evp (fun k=>df.j0 k true a.f0 a.f1 a.f2 a.f3 a.f4 a.f5 a.f6 a.f7 b.f0 b.f1 b.f2 b.f3 b.f4 b.f5 b.f6 b.f7) (fun r=>r=true↔a.f3=b.f3∧a.f2=b.f2):=fun h=>
    Evp.step (f:=fun k=>_) (fun k=>by rw[df.j0]) (Evp.yes rfl (Evp.pure _ (dQ h)))
  refine Evp.ite (fun h=> ?_) (fun h=>jt fun h2=>h h2.1)
  by_cases hl:a.f2.length=b.f2.length
  · rw[show((a.f2.length:Int) !=(b.f2.length:Int))=false by simp;omega]
    refine Evp.step (f:=fun k=>_) (fun k=>by rw[df.j0]) (Evp.no (by decide) ?_)
    have k0: ∀i,i≤a.f2.length→Evp (fun k=>df.l0 k (i:Int) a.f0 a.f1 a.f2 a.f3 a.f4 a.f5 a.f6 a.f7 b.f0 b.f1 b.f2 b.f3 b.f4 b.f5 b.f6 b.f7) (fun r=>r=true↔(∀j,i≤j→j<a.f2.length→a.f2.getD j 0=b.f2.getD j 0)∧True):=by
      refine Evp.for_ ?_ (fun i hi ih=> ?_)
      ·exact Evp.step (f:=fun k=>_) (fun k=>by rw[df.l0]) (Evp.no (by omega) (Evp.pure _ (fJ (gW trivial))))
      · refine Evp.step (f:=fun k=>_) (fun k=>by rw[df.l0,rdN,rdN]) (Evp.yes (by omega) (Evp.yes (by omega) (Evp.yes (by omega) (Evp.ite (fun h2=> ?_) (fun h2=>Evp.pure _ (dX hi h2))))))
        rw[eF (n:=a.f2.length) hi (by omega)]
        exact ih.mono fun r hr=>fK (Q:=fun j=>a.f2.getD j 0=b.f2.getD j 0) h2 hr
    refine(k0 0 (Nat.zero_le _)).mono fun r hr=>hr.trans ?_
    rw[l9 hl]
    exact⟨fun h2=>⟨h,h2.1⟩,fun h2=>⟨h2.2,trivial⟩⟩
  · rw[show((a.f2.length:Int) !=(b.f2.length:Int))=true by simp;omega]
    exact jt fun h2=>hl (by rw[h2.2])
def jh (cs:List Cls) (a b:Mth):Prop:=0≤a.f0→0≤b.f0→a.f1=b.f1→Up cs a.f0.toNat b.f0.toNat→a.f0≠b.f0∧a.f3=b.f3∧a.f2=b.f2
def Row (cs:List Cls) (ms:List Mth) (i:Nat):Prop:= ∀j,0≤j→j<ms.length→i≠j→jh cs (mth ms i) (mth ms j)
def Agree (cs:List Cls) (ms:List Mth):Prop:= ∀i,0≤i→i<ms.length→Row cs ms i
def InR (cs:List Cls) (ms:List Mth):Prop:= ∀i,i<ms.length→(0≤(mth ms i).f0→(mth ms i).f0<(cs.length:Int))∧(mth ms i).f2.length≤1048576
theorem pQ {cs:List Cls} (hok:ClsOk cs) {ms:List Mth} (hm:ms.length≤1048576) (hr:InR cs ms):Evp (fun k=>bO.f k cs ms) (fun r=>r=true↔Agree cs ms):=by
  unfold bO.f
  have k0 : ∀i,i≤ms.length→Evp (fun k=>bO.l0 k ms (ms.length:Int) (i:Int) cs ms) (fun r=>r=true↔(∀j,i≤j→j<ms.length→Row cs ms j)∧True):=by
    refine Evp.for_ ?_ (fun i hi ih=> ?_)
    ·exact Evp.step (f:=fun k=>_) (fun k=>by rw[bO.l0]) (Evp.no (by omega) (Evp.pure _ (fJ (gW trivial))))
    · refine Evp.step (f:=fun k=>_) (fun k=>by rw[bO.l0,mf]) (Evp.yes (by omega) (Evp.yes (by omega) (Evp.yes (by omega) ?_)))
      have hri:=hr i hi
      have k1: ∀j,j≤ms.length→Evp (fun k=>bO.l1 k (i:Int) ms (ms.length:Int) (i:Int) ms (ms.length:Int) (j:Int) cs ms (mth ms i).f0 (mth ms i).f1 (mth ms i).f2 (mth ms i).f3 (mth ms i).f4 (mth ms i).f5 (mth ms i).f6 (mth ms i).f7) (fun r=>r=true↔(∀j',j≤j' →j' <ms.length→(i≠j' →jh cs (mth ms i) (mth ms j')))∧(∀j',i+1≤j' →j' <ms.length→Row cs ms j')):=by
        refine Evp.for_ ?_ (fun j hj ihj=> ?_)
        · refine Evp.step (f:=fun k=>_) (fun k=>by rw[bO.l1]) (Evp.no (by omega) ?_)
          rw[eF (n:=ms.length) hi (by omega)]
          exact ih.mono fun r hr=>fJ (hr.trans ⟨fun h=>h.1,fun h=>⟨h,trivial⟩⟩)
        · have hrj:=hr j hj
          refine Evp.step (f:=fun k=>_) (fun k=>by rw[bO.l1,mf]) (Evp.yes (by omega) (Evp.yes (by omega) (Evp.yes (by omega) ?_)))
          show Evp (fun k=>if(i:Int)=(j:Int)then bO.j2 k (i:Int) ms (ms.length:Int) (i:Int) ms (ms.length:Int) (j:Int) true cs ms (mth ms i).f0 (mth ms i).f1 (mth ms i).f2 (mth ms i).f3 (mth ms i).f4 (mth ms i).f5 (mth ms i).f6 (mth ms i).f7 (mth ms j).f0 (mth ms j).f1 (mth ms j).f2 (mth ms j).f3 (mth ms j).f4 (mth ms j).f5 (mth ms j).f6 (mth ms j).f7 else _) _
          have go:(i≠j→jh cs (mth ms i) (mth ms j))→Evp (fun k=>bO.l1 k (i:Int) ms (ms.length:Int) (i:Int) ms (ms.length:Int) (wrap64 ((j:Int)+1)) cs ms (mth ms i).f0 (mth ms i).f1 (mth ms i).f2 (mth ms i).f3 (mth ms i).f4 (mth ms i).f5 (mth ms i).f6 (mth ms i).f7) (fun r=>r=true↔(∀j',j≤j' →j' <ms.length→(i≠j' →jh cs (mth ms i) (mth ms j')))∧(∀j',i+1≤j' →j' <ms.length→Row cs ms j')):=by
            intro hp
            rw[eF (n:=ms.length) hj (by omega)]
            exact ihj.mono fun r hr=>fK (Q:=fun j' =>i≠j' →jh cs (mth ms i) (mth ms j')) hp hr
          have skip:(i≠j→jh cs (mth ms i) (mth ms j))→Evp (fun k=>bO.j2 k (i:Int) ms (ms.length:Int) (i:Int) ms (ms.length:Int) (j:Int) true cs ms (mth ms i).f0 (mth ms i).f1 (mth ms i).f2 (mth ms i).f3 (mth ms i).f4 (mth ms i).f5 (mth ms i).f6 (mth ms i).f7 (mth ms j).f0 (mth ms j).f1 (mth ms j).f2 (mth ms j).f3 (mth ms j).f4 (mth ms j).f5 (mth ms j).f6 (mth ms j).f7) (fun r=>r=true↔(∀j',j≤j' →j' <ms.length→(i≠j' →jh cs (mth ms i) (mth ms j')))∧(∀j',i+1≤j' →j' <ms.length→Row cs ms j')):=fun hp=>
            Evp.step (f:=fun k=>_) (fun k=>by rw[bO.j2]) (Evp.yes rfl (go hp))
          have stop:i≠j→¬jh cs (mth ms i) (mth ms j)→Evp (fun k=>some false) (fun r=>r=true↔(∀j',j≤j' →j' <ms.length→(i≠j' →jh cs (mth ms i) (mth ms j')))∧(∀j',i+1≤j' →j' <ms.length→Row cs ms j')):=fun hne hp=>
            Evp.pure _ (dX (Q:=fun j' =>i≠j' →jh cs (mth ms i) (mth ms j')) hj fun h=>hp (h hne))
          refine Evp.ite (fun h1=>skip fun h=>absurd (by omega) h) (fun h1=>Evp.ite (fun h2=>skip fun _ h3=>absurd h3 (by omega)) (fun h2=>Evp.ite (fun h3=>skip fun _ _ h4=>absurd h4 (by omega)) (fun h3=> ?_)))
          by_cases h4:(mth ms i).f1=(mth ms j).f1
          · rw[show((mth ms i).f1 !=(mth ms j).f1)=false by simpa using h4]
            refine Evp.step (f:=fun k=>_) (fun k=>by rw[bO.j2]) (Evp.no (by decide) ?_)
            have e1:(((mth ms i).f0.toNat:Nat):Int)=(mth ms i).f0:=by omega
            have e2:(((mth ms j).f0.toNat:Nat):Int)=(mth ms j).f0:=by omega
            have hij:i≠j:=by omega
            refine Evp.ite (fun h5=>stop hij fun h=>(h (by omega) (by omega) h4 (by rw[h5];exact .refl _)).1 h5) (fun h5=> ?_)
            have hu:=qb hok (mth ms j).f0.toNat (mth ms i).f0.toNat (by have:=hri.1 (by omega);omega)
            rw[e1,e2]at hu
            refine Evp.bind hu fun u hu=>Evp.ite (fun h6=> ?_) (fun h6=>go fun _ _ _ _ h7=>absurd (hu.2 h7) h6)
            refine Evp.ite (fun h7=> ?_) (fun h7=>stop hij fun h=>h7 (h (by omega) (by omega) h4 (hu.1 h6)).2.1)
            refine Evp.bind (sw hri.2) fun e he=>Evp.ite (fun h8=>go fun _ _ _ _ _=>⟨h5,h7,he.1 h8⟩) (fun h8=>stop hij fun h=>h8 (he.2 (h (by omega) (by omega) h4 (hu.1 h6)).2.2))
          · rw[show((mth ms i).f1 !=(mth ms j).f1)=true by simpa using h4]
            exact skip fun _ _ _ h5=>absurd h5 h4
      refine(k1 0 (Nat.zero_le _)).mono fun r hr=>hr.trans ?_
      rw[all_cons (Q:=fun j=>Row cs ms j) hi]
      exact⟨fun h=>⟨h,trivial⟩,fun h=>h.1⟩
  exact(k0 0 (Nat.zero_le _)).mono fun r hr=>hr.trans ⟨fun h=>h.1,fun h=>⟨h,trivial⟩⟩
theorem qz {cs:List Cls} (hok:ClsOk cs) {ms:List Mth} (hm:ms.length≤1048576) (hr:InR cs ms):Evp (fun k=>bU.f k cs ms) (fun r=>r=true↔Agree cs ms):=by
  unfold bU.f
  have k0 : ∀i,i≤ms.length→Evp (fun k=>bU.l0 k (i:Int) cs ms) (fun r=>r=true↔(∀j,i≤j→j<ms.length→Row cs ms j)∧True):=by
    refine Evp.for_ ?_ (fun i hi ih=> ?_)
    ·exact Evp.step (f:=fun k=>_) (fun k=>by rw[bU.l0]) (Evp.no (by omega) (Evp.pure _ (fJ (gW trivial))))
    · refine Evp.step (f:=fun k=>_) (fun k=>by rw[bU.l0]) (Evp.yes (by omega) ?_)
      have hri:=hr i hi
      have k1: ∀j,j≤ms.length→Evp (fun k=>bU.l1 k (i:Int) (j:Int) cs ms) (fun r=>r=true↔(∀j',j≤j' →j' <ms.length→(i≠j' →jh cs (mth ms i) (mth ms j')))∧(∀j',i+1≤j' →j' <ms.length→Row cs ms j')):=by
        refine Evp.for_ ?_ (fun j hj ihj=> ?_)
        · refine Evp.step (f:=fun k=>_) (fun k=>by rw[bU.l1]) (Evp.no (by omega) ?_)
          rw[eF (n:=ms.length) hi (by omega)]
          exact ih.mono fun r hr=>fJ (hr.trans ⟨fun h=>h.1,fun h=>⟨h,trivial⟩⟩)
        · have hrj:=hr j hj
          refine Evp.step (f:=fun k=>_) (fun k=>by rw[bU.l1,mf,mf,eF (n:=ms.length) hj (by omega)]) (Evp.yes (by omega) (Evp.yes (by omega) (Evp.yes (by omega) (Evp.yes (by omega) ?_))))
          have go:(i≠j→jh cs (mth ms i) (mth ms j))→Evp (fun k=>bU.l1 k (i:Int) ((j+1:Nat):Int) cs ms) (fun r=>r=true↔(∀j',j≤j' →j' <ms.length→(i≠j' →jh cs (mth ms i) (mth ms j')))∧(∀j',i+1≤j' →j' <ms.length→Row cs ms j')):=by
            intro hp
            exact ihj.mono fun r hr=>fK (Q:=fun j' =>i≠j' →jh cs (mth ms i) (mth ms j')) hp hr
          have stop:i≠j→¬jh cs (mth ms i) (mth ms j)→Evp (fun k=>some false) (fun r=>r=true↔(∀j',j≤j' →j' <ms.length→(i≠j' →jh cs (mth ms i) (mth ms j')))∧(∀j',i+1≤j' →j' <ms.length→Row cs ms j')):=fun hne hp=>
            Evp.pure _ (dX (Q:=fun j' =>i≠j' →jh cs (mth ms i) (mth ms j')) hj fun h=>hp (h hne))
          refine Evp.ite (fun h1=>go fun h=>absurd (by omega) h) (fun h1=>Evp.ite (fun h2=>Evp.ite (fun h3=>Evp.ite (fun h4=> ?_) (fun h4=>go fun _ _ _ h5=>absurd h5 h4)) (fun h3=>go fun _ _ h4=>absurd h4 h3)) (fun h2=>go fun _ h3=>absurd h3 h2))
          have hij:i≠j:=by omega
          have e1:(((mth ms i).f0.toNat:Nat):Int)=(mth ms i).f0:=by omega
          have e2:(((mth ms j).f0.toNat:Nat):Int)=(mth ms j).f0:=by omega
          have hu:=qa hok (mth ms j).f0.toNat (mth ms i).f0.toNat (by have:=hri.1 h2;omega)
          rw[e1,e2]at hu
          refine Evp.bind hu fun u hu=>Evp.ite (fun h6=>Evp.ite (fun h5=>stop hij fun h=>(h h2 h3 h4 (hu.1 h6)).1 h5) (fun h5=> ?_)) (fun h6=>go fun _ _ _ _ h7=>absurd (hu.2 h7) h6)
          refine Evp.bind (um (a:=mth ms i) (b:=mth ms j) hri.2) fun e he=>Evp.ite (fun h8=>go fun _ _ _ _ _=>⟨h5,he.1 h8⟩) (fun h8=>stop hij fun h=>h8 (he.2 (h h2 h3 h4 (hu.1 h6)).2))
      refine(k1 0 (Nat.zero_le _)).mono fun r hr=>hr.trans ?_
      rw[all_cons (Q:=fun j=>Row cs ms j) hi]
      exact⟨fun h=>⟨h,trivial⟩,fun h=>h.1⟩
  exact(k0 0 (Nat.zero_le _)).mono fun r hr=>hr.trans ⟨fun h=>h.1,fun h=>⟨h,trivial⟩⟩
structure SmallM (m:Mth):Prop where
  a3: -9223372036854775808≤m.f3∧m.f3≤9223372036854775807
  l2:m.f2.length≤1048576
  i2:I64 m.f2
  l5:m.f5.length≤1048576
  l6:m.f6.length≤1048576
  l7:m.f7.length≤1048576
  s6: ∀j,j<m.f6.length→SmallS (m.f6.getD j z57)
structure SmallU (cs:List Cls) (ms:List Mth):Prop where
  c:gq cs
  m:ms.length≤1048576
  e: ∀i,i<ms.length→SmallM (mth ms i)
def uU (m:Mth):Prop:=m.f0= -1∧m.f2.length=0∧m.f3=1
def gX (cs:List Cls) (ms:List Mth):Prop:=ClsOk cs∧(1≤ms.length∧ms.length≤4)∧uU (mth ms 0)∧(∀i,0≤i→i<ms.length→ik cs ms (mth ms i))∧Agree cs ms
theorem sD {cs:List Cls} {ms:List Mth} (hu:SmallU cs ms) (h: ∀i,i<ms.length→ik cs ms (mth ms i)):InR cs ms:=fun i hi=>⟨fun h0=>by
  rcases (h i hi).1.1 with h1|h1<;>omega,(hu.e i hi).l2⟩
theorem pR {cs:List Cls} {ms:List Mth} (hu:SmallU cs ms):Evp (fun k=>bE.f k cs ms) (fun r=>r=true↔gX cs ms):=by
  have hs:=hu.c
  have hm:=hu.m
  have g: ¬gX cs ms→Evp (fun k=>bE.j0 k true cs ms) (fun r=>r=true↔gX cs ms):=fun h=>
    Evp.step (f:=fun k=>_) (fun k=>by rw[bE.j0]) (Evp.yes rfl (Evp.pure _ (dQ h)))
  have l: ¬gX cs ms→Evp (fun k=>bE.j1 k true cs ms) (fun r=>r=true↔gX cs ms):=fun h=>
    Evp.step (f:=fun k=>_) (fun k=>by rw[bE.j1]) (Evp.yes rfl (Evp.pure _ (dQ h)))
  unfold bE.f
  refine Evp.bind (mM hs) fun c hc=>Evp.ite (fun h=> ?_) (fun h=>g fun h2=>h (hc.2 h2.1))
  have hok:=hc.1 h
  refine Evp.ite (fun h1=>g fun h2=>by have:=h2.2.1;omega) (fun h1=> ?_)
  by_cases h2:(ms.length:Int)>4
  · rw[decide_eq_true h2]
    exact g fun h3=>by have:=h3.2.1;omega
  rw[decide_eq_false h2]
  have e0:aa ms 0=mth ms 0:=rfl
  refine Evp.step (f:=fun k=>_) (fun k=>by rw[bE.j0,e0]) (Evp.no (by decide) (Evp.yes (by omega) (Evp.ite (fun h3=>Evp.ite (fun h4=> ?_) (fun h4=>l fun h5=>h4 (by have:=h5.2.2.1.2.1;omega))) (fun h3=>l fun h5=>h3 h5.2.2.1.1))))
  by_cases h5:(mth ms 0).f3=1
  · rw[show((mth ms 0).f3 !=1)=false by simpa using h5]
    refine Evp.step (f:=fun k=>_) (fun k=>by rw[bE.j1]) (Evp.no (by decide) ?_)
    have k0: ∀d i:Nat,i+d=ms.length→(∀j,j<i→ik cs ms (mth ms j))→Evp (fun k=>bE.l0 k ms (ms.length:Int) (i:Int) cs ms) (fun r=>r=true↔(∀j,i≤j→j<ms.length→ik cs ms (mth ms j))∧Agree cs ms):=by
      intro d
      induction d with
      | zero=>
        intro i hi hall
        refine Evp.step (f:=fun k=>_) (fun k=>by rw[bE.l0]) (Evp.no (by omega) ?_)
        refine Evp.bind (pQ hok hm (sD hu fun j hj=>hall j (by omega))) fun a ha=>Evp.pure _ ?_
        exact ha.trans ⟨fun h=>⟨fun j hj hj2=>absurd hj2 (by omega),h⟩,fun h=>h.2⟩
      | succ d ih=>
        intro i hi hall
        have hil:i<ms.length:=by omega
        have hsm:=hu.e i hil
        refine Evp.step (f:=fun k=>_) (fun k=>by rw[bE.l0,mf]) (Evp.yes (by omega) (Evp.yes (by omega) (Evp.yes (by omega) ?_)))
        refine Evp.bind (qY hs ms (mth ms i).f5 (mth ms i).f6 (mth ms i).f7 hsm.a3.1 hsm.a3.2 hsm.l2 hsm.i2) fun a ha=>Evp.ite (fun h6=> ?_) (fun h6=>Evp.pure _ (dX (Q:=fun j=>ik cs ms (mth ms j)) hil fun h9=>h6 (ha.2 h9.1)))
        refine Evp.bind (q8 hs hok ms (mth ms i).f5 (mth ms i).f6 (mth ms i).f7 0 hsm.s6 hsm.l5 hsm.l6) fun b hb=>Evp.ite (fun h7=> ?_) (fun h7=>Evp.pure _ (dX (Q:=fun j=>ik cs ms (mth ms j)) hil fun h9=>h7 (hb.2 h9.2.1)))
        refine Evp.bind (oH hok ms (mth ms i).f5 (mth ms i).f6 (mth ms i).f7) fun e he=>Evp.ite (fun h8=> ?_) (fun h8=>Evp.pure _ (dX (Q:=fun j=>ik cs ms (mth ms j)) hil fun h9=>h8 (he.2 h9.2.2)))
        have hmi:ik cs ms (mth ms i):=⟨ha.1 h6,hb.1 h7,he.1 h8⟩
        rw[eF (n:=ms.length) hil (by omega)]
        refine(ih (i+1) (by omega) fun j hj=> ?_).mono fun r hr=>fK (Q:=fun j=>ik cs ms (mth ms j)) hmi hr
        rcases Nat.eq_or_lt_of_le (Nat.le_of_lt_succ hj)with rfl|h9
        ·exact hmi
        ·exact hall j h9
    refine(k0 ms.length 0 (by omega) fun j hj=>absurd hj (Nat.not_lt_zero _)).mono fun r hr=>hr.trans ?_
    exact⟨fun h6=>⟨hok,by omega,⟨h3,by omega,h5⟩,h6.1,h6.2⟩,fun h6=>⟨h6.2.2.2.1,h6.2.2.2.2⟩⟩
  · rw[show((mth ms 0).f3 !=1)=true by simpa using h5]
    exact l fun h6=>h5 h6.2.2.1.2.2
theorem pU {cs:List Cls} {ms:List Mth} (hu:SmallU cs ms):Evp (fun k=>bg.f k cs ms) (fun r=>r=true↔gX cs ms):=by
  have hs:=hu.c
  have hm:=hu.m
  have g: ¬gX cs ms→Evp (fun k=>bg.j0 k true cs ms) (fun r=>r=true↔gX cs ms):=fun h=>
    Evp.step (f:=fun k=>_) (fun k=>by rw[bg.j0]) (Evp.yes rfl (Evp.pure _ (dQ h)))
  have b: ¬gX cs ms→Evp (fun k=>bg.j1 k true cs ms) (fun r=>r=true↔gX cs ms):=fun h=>
    Evp.step (f:=fun k=>_) (fun k=>by rw[bg.j1]) (Evp.yes rfl (Evp.pure _ (dQ h)))
  unfold bg.f
  refine Evp.bind (jJ hs) fun c hc=>Evp.ite (fun h=> ?_) (fun h=>g fun h2=>h (hc.2 h2.1))
  have hok:=hc.1 h
  rw[gV]
  simp only[Option.bind_some]
  by_cases h2:1≤(ms.length:Int)∧(ms.length:Int)≤4
  · rw[decide_eq_true h2]
    have e0:aa ms 0=mth ms 0:=rfl
    refine Evp.step (f:=fun k=>_) (fun k=>by rw[bg.j0,e0]) (Evp.no (by decide) (Evp.yes (by omega) (Evp.ite (fun h3=>Evp.ite (fun h4=>b fun h5=>by have:=h5.2.2.1.2.1;omega) (fun h4=> ?_)) (fun h3=>b fun h5=>h3 h5.2.2.1.1))))
    by_cases h5:(mth ms 0).f3=1
    · rw[show((mth ms 0).f3 !=1)=false by simpa using h5]
      refine Evp.step (f:=fun k=>_) (fun k=>by rw[bg.j1]) (Evp.no (by decide) ?_)
      have k0: ∀d i:Nat,i+d=ms.length→(∀j,j<i→ik cs ms (mth ms j))→Evp (fun k=>bg.l0 k (i:Int) cs ms) (fun r=>r=true↔(∀j,i≤j→j<ms.length→ik cs ms (mth ms j))∧Agree cs ms):=by
        intro d
        induction d with
        | zero=>
          intro i hi hall
          refine Evp.step (f:=fun k=>_) (fun k=>by rw[bg.l0]) (Evp.no (by omega) ?_)
          refine Evp.bind (qz hok hm (sD hu fun j hj=>hall j (by omega))) fun a ha=>Evp.pure _ ?_
          exact ha.trans ⟨fun h=>⟨fun j hj hj2=>absurd hj2 (by omega),h⟩,fun h=>h.2⟩
        | succ d ih=>
          intro i hi hall
          have hil:i<ms.length:=by omega
          have hsm:=hu.e i hil
          refine Evp.step (f:=fun k=>_) (fun k=>by rw[bg.l0,mf]) (Evp.yes (by omega) (Evp.yes (by omega) ?_))
          refine Evp.bind (pO hs hok ms hm (mth ms i) hsm.l2 hsm.l5 hsm.l6 hsm.l7 hsm.s6) fun a ha=>Evp.ite (fun h6=> ?_) (fun h6=>Evp.pure _ (dX (Q:=fun j=>ik cs ms (mth ms j)) hil fun h9=>h6 (ha.2 h9)))
          rw[eF (n:=ms.length) hil (by omega)]
          refine(ih (i+1) (by omega) fun j hj=> ?_).mono fun r hr=>fK (Q:=fun j=>ik cs ms (mth ms j)) (ha.1 h6) hr
          rcases Nat.eq_or_lt_of_le (Nat.le_of_lt_succ hj)with rfl|h9
          ·exact ha.1 h6
          ·exact hall j h9
      refine(k0 ms.length 0 (by omega) fun j hj=>absurd hj (Nat.not_lt_zero _)).mono fun r hr=>hr.trans ?_
      exact⟨fun h6=>⟨hok,by omega,⟨h3,by omega,h5⟩,h6.1,h6.2⟩,fun h6=>⟨h6.2.2.2.1,h6.2.2.2.2⟩⟩
    · rw[show((mth ms 0).f3 !=1)=true by simpa using h5]
      exact b fun h6=>h5 h6.2.2.1.2.2
  · rw[decide_eq_false h2]
    exact g fun h3=>h2 (by have:=h3.2.1;omega)
end Go.Proofs.YteinbmkgenhocaaGreat.Kit
end
section
namespace Go.Proofs.YteinbmkgenhocaaGreat.Kit
open Go Go.RowKit Go.Proofs.YteinbmkgenhocaaGreatW.PrintWords Go.Proofs.YteinbmkgenhocaaGreat.P
set_option linter.unusedVariables false
abbrev qP:=S116
def cvC (c:qP):Cls:=⟨c.f0,c.f1⟩
theorem rdL {xs:List qP} {i:Nat} (h:i<xs.length):fA xs (i:Int)=xs[i]:=getD_at h _
theorem pG {n:Int} (h:(Lit.int .i64 n).wf=true): -9223372036854775808≤n∧n≤9223372036854775807:=by
  simp[Lit.wf,IntKind.min,IntKind.max,IntKind.bits,IntKind.signed]at h
  omega
theorem kT {l:List Int} {a:Int} (h0:0≤a) (h1:a≤1048576) (hl:l.length≤9223372036854775807): ∃t,cZ.f l a=some t∧(0≤t→(l.length:Int)+t=a):=by
  unfold cZ.f
  rw[w64 (by omega) (by omega)]
  by_cases h:a - (l.length:Int)<0
  ·rw[if_pos h];exact⟨_,rfl,by omega⟩
  ·rw[if_neg h];exact⟨_,rfl,by omega⟩
theorem vL {l:List qP} (hl:l.length≤9223372036854775807) (hw: ∀y∈l,o7 y):
    Evp (fun k=>dF.f k l 1048576) (fun t=>0≤t→t≤1048576∧gq (l.map cvC)):=by
  unfold dF.f
  rw[w64 (by omega) (by omega)]
  refine Evp.ite (fun _=>Evp.pure _ (by omega)) (fun h=> ?_)
  have key: ∀i,i≤l.length→∀s:Int,(0≤s∧s≤1048576)→Evp (fun k=>dF.l0 k l s (i:Int)) (fun t=>0≤t→t≤s∧∀o∈l.drop i,o.f1.length≤1048576):=by
    refine Evp.fors (g:=fun i s k=>dF.l0 k l s (i:Int)) (I:=fun _ s=>0≤s∧s≤1048576) (R:=fun i s t=>0≤t→t≤s∧∀o∈l.drop i,o.f1.length≤1048576) (fun s hs=> ?_) (fun i hil ih s hs=> ?_)
    ·refine Evp.step (f:=fun k=>_) (fun k=>by rw[dF.l0]) (Evp.no (by omega) (Evp.pure _ (fun _=>⟨by omega,by simp⟩)))
    · have a:=(hw _ (List.getElem_mem hil)).2.1
      obtain⟨t,ht,ht2⟩:=kT (l:=l[i].f1) hs.1 hs.2 a
      refine Evp.step (f:=fun k=>_) (fun k=>by rw[dF.l0,rdL hil,iP.f,ht,Option.bind_some]) (Evp.yes (by omega) (Evp.yes (by omega) ?_))
      by_cases h3:t<0
      · simp only[if_pos h3,Option.bind_some]
        exact Evp.pure _ (by omega)
      · simp only[if_neg h3,Option.bind_some]
        rw[eF hil (by omega)]
        refine(ih t (by omega)).mono fun r hr h0=> ?_
        obtain⟨h4,h5⟩:=hr h0
        refine⟨by omega, ?_⟩
        rw[drop_at hil]
        intro o ho
        rcases List.mem_cons.1 ho with rfl|ho
        ·omega
        ·exact h5 o ho
  refine(key 0 (Nat.zero_le _) _ (by omega)).mono fun t ht h0=> ?_
  obtain⟨h2,h3⟩:=ht h0
  refine⟨by omega,by rw[List.length_map];omega,fun i hi=> ?_⟩
  rw[List.length_map]at hi
  have e:eT (l.map cvC) i=l[i].f1:=by unfold eT;rw[getD_at (by simpa using hi)];simp[cvC]
  rw[e]
  exact⟨h3 _ (by simp),fun t ht=>pG ((hw _ (List.getElem_mem hi)).2.2 t ht)⟩
theorem mg {α β:Type} (l:List α) (f:α→β) (z:β) {i:Nat} (hi:i<l.length):((l.take i).map f++List.replicate (l.length - i) z).set i (f l[i])=(l.take (i+1)).map f++List.replicate (l.length - (i+1)) z:=by
  rw[List.take_succ_eq_append_getElem hi,List.map_append,List.append_assoc]
  rw[List.set_append_right _ _ (by simp;omega)]
  congr 1
  rw[show l.length - i=(l.length - (i+1))+1 by omega,List.replicate_succ]
  simp[Nat.min_eq_left (Nat.le_of_lt hi)]
theorem kU {l:List Int} (hl:l.length≤1048576):Evp (fun k=>bY.f k l) (fun r=>r=l):=by
  unfold bY.f
  refine Evp.yes (by omega) (Evp.yes (by omega) ?_)
  have key: ∀i,i≤l.length→∀s:List Int,s=(l.take i).map id++List.replicate (l.length - i) 0→Evp (fun k=>bY.l0 k l s (i:Int)) (fun r=>r=l):=by
    refine Evp.fors (g:=fun i s k=>bY.l0 k l s (i:Int)) (I:=fun i s=>s=(l.take i).map id++List.replicate (l.length - i) 0) (R:=fun _ _ r=>r=l) (fun s hs=> ?_) (fun i hi ih s hs=> ?_)
    · subst hs
      refine Evp.step (f:=fun k=>_) (fun k=>by rw[bY.l0]) (Evp.no (by omega) (Evp.pure _ (by simp)))
    · have hsl:s.length=l.length:=by rw[hs];simp;omega
      refine Evp.step (f:=fun k=>_) (fun k=>by rw[bY.l0,mK hi]) (Evp.yes (by omega) (Evp.yes (by omega) (Evp.yes (by omega) ?_)))
      rw[eF hi (by omega)]
      refine ih _ ?_
      rw[hs]
      exact mg l id 0 hi
  exact key 0 (Nat.zero_le _) _ (by simp)
theorem vM {l:List qP} (hl:gq (l.map cvC)):Evp (fun k=>dB.f k l) (fun r=>r=l.map cvC):=by
  have hl1:=hl.1
  rw[List.length_map]at hl1
  unfold dB.f
  refine Evp.yes (by omega) (Evp.yes (by omega) ?_)
  have key: ∀i,i≤l.length→∀s:List Cls,s=(l.take i).map cvC++List.replicate (l.length - i) jC→Evp (fun k=>dB.l0 k l s (i:Int)) (fun r=>r=l.map cvC):=by
    refine Evp.fors (g:=fun i s k=>dB.l0 k l s (i:Int)) (I:=fun i s=>s=(l.take i).map cvC++List.replicate (l.length - i) jC) (R:=fun _ _ r=>r=l.map cvC) (fun s hs=> ?_) (fun i hi ih s hs=> ?_)
    · subst hs
      refine Evp.step (f:=fun k=>_) (fun k=>by rw[dB.l0]) (Evp.no (by omega) (Evp.pure _ (by simp)))
    · have hsl:s.length=l.length:=by rw[hs];simp;omega
      refine Evp.step (f:=fun k=>_) (fun k=>by rw[dB.l0,rdL hi]) (Evp.yes (by omega) (Evp.yes (by omega) ?_))
      refine Evp.bind (P:=fun r=>r=(l[i].f0,l[i].f1)) ?_ (fun a ha=> ?_)
      · unfold je.f
        have e:eT (l.map cvC) i=l[i].f1:=by unfold eT;rw[getD_at (by simpa using hi)];simp[cvC]
        have:=(hl.2 i (by simpa using hi)).1
        rw[e]at this
        exact Evp.bind (kU this) (fun a ha=>Evp.pure _ (by rw[ha]))
      · subst ha
        refine Evp.yes (by omega) ?_
        rw[eF hi (by omega)]
        refine ih _ ?_
        rw[hs]
        exact mg l cvC jC hi
  exact key 0 (Nat.zero_le _) _ (by simp)
theorem kV {l:List Int} (hl:l.length≤1048576):Evp (fun k=>bA.f k l l) (fun r=>r=true):=by
  unfold bA.f
  refine Evp.yes rfl ?_
  refine Evp.for_ (n:=l.length) (g:=fun i k=>bA.l0 k l l (i:Int)) (R:=fun _ r=>r=true) ?_ (fun i hi ih=> ?_) 0 (Nat.zero_le _)
  ·refine Evp.step (f:=fun k=>_) (fun k=>by rw[bA.l0]) (Evp.no (by omega) (Evp.pure _ rfl))
  · refine Evp.step (f:=fun k=>_) (fun k=>by rw[bA.l0]) (Evp.yes (by omega) (Evp.yes (by omega) (Evp.yes (by omega) (Evp.yes rfl ?_))))
    rw[eF hi (by omega)]
    exact ih
theorem vO {l:List Cls} (hl:gq l):Evp (fun k=>bQ.f k l l) (fun r=>r=true):=by
  have hl1:=hl.1
  unfold bQ.f
  refine Evp.yes rfl ?_
  refine Evp.for_ (n:=l.length) (g:=fun i k=>bQ.l0 k l l (i:Int)) (R:=fun _ r=>r=true) ?_ (fun i h ih=> ?_) 0 (Nat.zero_le _)
  ·refine Evp.step (f:=fun k=>_) (fun k=>by rw[bQ.l0]) (Evp.no (by omega) (Evp.pure _ rfl))
  · refine Evp.step (f:=fun k=>_) (fun k=>by rw[bQ.l0]) (Evp.yes (by omega) (Evp.yes (by omega) (Evp.yes (by omega) ?_)))
    refine Evp.bind (P:=fun r=>r=true) ?_ (fun a ha=> ?_)
    · unfold iM.f
      rw[ky]
      exact Evp.yes rfl (Evp.bind (kV (hl.2 i h).1) (fun a ha=>Evp.yes ha (Evp.pure _ rfl)))
    · refine Evp.yes ha ?_
      rw[eF h (by omega)]
      exact ih
theorem uo {x0:Bool} {l1 l2:List Int} {a:Int} (h0:0≤a) (h1:a≤1048576) (hl1:l1.length≤9223372036854775807) (hl2:l2.length≤9223372036854775807):
    ∃t,iD.f x0 l1 l2 a=some t∧(0≤t→t≤a∧l1.length≤1048576∧l2.length≤1048576):=by
  unfold iD.f
  obtain⟨t,ht,ht2⟩:=kT (l:=l1) h0 h1 hl1
  rw[ht,Option.bind_some]
  by_cases h:t<0
  ·rw[if_pos h];exact⟨_,rfl,by omega⟩
  · rw[if_neg h]
    obtain⟨q,hq,hq2⟩:=kT (l:=l2) (a:=t) (by omega) (by omega) hl2
    rw[hq,Option.bind_some]
    by_cases h' :q<0
    ·rw[if_pos h'];exact⟨_,rfl,by omega⟩
    ·rw[if_neg h'];exact⟨_,rfl,by omega⟩
theorem uq {x0:Bool} {l1 l2:List Int} (hl1:l1.length≤1048576) (hl2:l2.length≤1048576):Evp (fun k=>iQ.f k x0 l1 l2) (fun r=>r=(x0,l1,l2)):=by
  unfold iQ.f
  exact Evp.bind (kU hl1) fun a ha=>Evp.bind (kU hl2) fun b hb=>Evp.pure _ (by rw[ha,hb])
theorem ut {x0:Bool} {l1 l2:List Int} (hl1:l1.length≤1048576) (hl2:l2.length≤1048576):Evp (fun k=>iB.f k x0 l1 l2 x0 l1 l2) (fun r=>r=true):=by
  unfold iB.f
  exact Evp.no (by simp) (Evp.bind (kV hl1) fun a ha=>Evp.yes ha (Evp.bind (kV hl2) fun b hb=>Evp.yes hb (Evp.pure _ rfl)))
end Go.Proofs.YteinbmkgenhocaaGreat.Kit
end
section
namespace Go.Proofs.YteinbmkgenhocaaGreat.Kit
open Go Go.RowKit Go.Proofs.YteinbmkgenhocaaGreatW.PrintWords Go.Proofs.YteinbmkgenhocaaGreat.P
set_option linter.unusedVariables false
set_option linter.unusedSimpArgs false
abbrev lJ:=S122
abbrev uu:=S217
abbrev pI:=S55
abbrev uw:=S219
def cvX (x:uu):Ins:=⟨x.f0,x.f1,x.f2⟩
def cvS (x:pI):jF:=⟨x.f0,x.f1,x.f2⟩
def cvK (x:uw):Cth:=⟨x.f0,x.f1,x.f2,x.f3⟩
def cvM (x:lJ):Mth:=⟨x.f0,x.f1,x.f2,x.f3,x.f4,x.f5.map cvX,x.f6.map cvS,x.f7.map cvK⟩
theorem wy {xs:List uu} {i:Nat} (h:i<xs.length):iA xs (i:Int)=xs[i]:=getD_at h _
theorem vP {xs:List pI} {i:Nat} (h:i<xs.length):ek xs (i:Int)=xs[i]:=getD_at h _
theorem wz {xs:List uw} {i:Nat} (h:i<xs.length):gy xs (i:Int)=xs[i]:=getD_at h _
theorem vQ {xs:List lJ} {i:Nat} (h:i<xs.length):bf xs (i:Int)=xs[i]:=getD_at h _
theorem jw {α β:Type} (l:List α) (f:α→β) (z:β) {g:Nat→List β→Nat→Option (List β)} (hend: ∀s:List β,s.length=l.length→Evp (g l.length s) (fun r=>r=s))
    (hstep: ∀(i:Nat) (hi:i<l.length) (s:List β),s.length=l.length→Evp (g (i+1) (s.set i (f l[i]))) (fun r=>r=l.map f)→Evp (g i s) (fun r=>r=l.map f)):Evp (g 0 (List.replicate l.length z)) (fun r=>r=l.map f):=by
  have key: ∀i,i≤l.length→∀s:List β,s=(l.take i).map f++List.replicate (l.length - i) z→Evp (g i s) (fun r=>r=l.map f):=by
    refine Evp.fors (g:=g) (I:=fun i s=>s=(l.take i).map f++List.replicate (l.length - i) z) (R:=fun _ _ r=>r=l.map f) (fun s hs=> ?_) (fun i hi ih s hs=> ?_)
    · have hs2:s=l.map f:=by rw[hs];simp
      exact(hend s (by rw[hs2];simp)).mono fun r hr=>by rw[hr,hs2]
    · have hsl:s.length=l.length:=by rw[hs];simp;omega
      refine hstep i hi s hsl (ih _ ?_)
      rw[hs]
      exact mg l f z hi
  exact key 0 (Nat.zero_le _) _ (by simp)
theorem vR {l:List uu} (hl:l.length≤1048576):Evp (fun k=>dV.f k l) (fun r=>r=l.map cvX):=by
  unfold dV.f
  refine Evp.yes (by omega) (Evp.yes (by omega) ?_)
  rw[Int.toNat_natCast]
  refine jw l cvX iU (g:=fun i s k=>dV.l0 k l s (i:Int)) (fun s hs=> ?_) (fun i hi s hs ih=> ?_)
  ·exact Evp.step (f:=fun k=>_) (fun k=>by rw[dV.l0]) (Evp.no (by omega) (Evp.pure _ rfl))
  · refine Evp.step (f:=fun k=>_) (fun k=>by rw[dV.l0,wy hi,jB.f,Option.bind_some]) (Evp.yes (by omega) (Evp.yes (by omega) (Evp.yes (by omega) ?_)))
    rw[eF hi (by omega)]
    exact ih
theorem qQ {l:List uw} (hl:l.length≤1048576):Evp (fun k=>dH.f k l) (fun r=>r=l.map cvK):=by
  unfold dH.f
  refine Evp.yes (by omega) (Evp.yes (by omega) ?_)
  rw[Int.toNat_natCast]
  refine jw l cvK ig (g:=fun i s k=>dH.l0 k l s (i:Int)) (fun s hs=> ?_) (fun i hi s hs ih=> ?_)
  ·exact Evp.step (f:=fun k=>_) (fun k=>by rw[dH.l0]) (Evp.no (by omega) (Evp.pure _ rfl))
  · refine Evp.step (f:=fun k=>_) (fun k=>by rw[dH.l0,wz hi,jf.f,Option.bind_some]) (Evp.yes (by omega) (Evp.yes (by omega) (Evp.yes (by omega) ?_)))
    rw[eF hi (by omega)]
    exact ih
def SzS (s:pI):Prop:=s.f1.length≤1048576∧s.f2.length≤1048576
def SzM (m:lJ):Prop:=m.f2.length≤1048576∧m.f5.length≤1048576∧m.f6.length≤1048576∧m.f7.length≤1048576∧∀s∈m.f6,SzS s
theorem sF {l:List pI} (hl:l.length≤1048576) (hs: ∀s∈l,SzS s):Evp (fun k=>dG.f k l) (fun r=>r=l.map cvS):=by
  unfold dG.f
  refine Evp.yes (by omega) (Evp.yes (by omega) ?_)
  rw[Int.toNat_natCast]
  refine jw l cvS z57 (g:=fun i s k=>dG.l0 k l s (i:Int)) (fun s hs=> ?_) (fun i hi s hs' ih=> ?_)
  ·exact Evp.step (f:=fun k=>_) (fun k=>by rw[dG.l0]) (Evp.no (by omega) (Evp.pure _ rfl))
  · have hsz:=hs _ (List.getElem_mem hi)
    refine Evp.step (f:=fun k=>_) (fun k=>by rw[dG.l0,vP hi]) (Evp.yes (by omega) (Evp.yes (by omega) (Evp.bind (uq hsz.1 hsz.2) fun b hb=>Evp.yes (by omega) ?_)))
    subst hb
    rw[eF hi (by omega)]
    exact ih
theorem sG {m:lJ} (h:SzM m):Evp (fun k=>iH.f k m.f0 m.f1 m.f2 m.f3 m.f4 m.f5 m.f6 m.f7) (fun r=>r=(m.f0,m.f1,m.f2,m.f3,m.f4,m.f5.map cvX,m.f6.map cvS,m.f7.map cvK)):=by
  unfold iH.f
  refine Evp.bind (kU h.1) fun a ha=>Evp.bind (vR h.2.1) fun b hb=>Evp.bind (sF h.2.2.1 h.2.2.2.2) fun c hc=>Evp.bind (qQ h.2.2.2.1) fun d hd=>Evp.pure _ (by rw[ha,hb,hc,hd])
theorem qR {l:List lJ} (hl:l.length≤1048576) (hm: ∀m∈l,SzM m):Evp (fun k=>dz.f k l) (fun r=>r=l.map cvM):=by
  unfold dz.f
  refine Evp.yes (by omega) (Evp.yes (by omega) ?_)
  rw[Int.toNat_natCast]
  refine jw l cvM jM (g:=fun i s k=>dz.l0 k l s (i:Int)) (fun s hs=> ?_) (fun i hi s hs' ih=> ?_)
  ·exact Evp.step (f:=fun k=>_) (fun k=>by rw[dz.l0]) (Evp.no (by omega) (Evp.pure _ rfl))
  · refine Evp.step (f:=fun k=>_) (fun k=>by rw[dz.l0,vQ hi]) (Evp.yes (by omega) (Evp.yes (by omega) (Evp.bind (sG (hm _ (List.getElem_mem hi))) fun b hb=>Evp.yes (by omega) ?_)))
    subst hb
    rw[eF hi (by omega)]
    exact ih
theorem kD {n:Nat} {g:Nat→Nat→Option Bool} (hend:Evp (g n) (fun r=>r=true)) (hstep: ∀i,i<n→Evp (g (i+1)) (fun r=>r=true)→Evp (g i) (fun r=>r=true)):Evp (g 0) (fun r=>r=true):=
  Evp.for_ (g:=g) (R:=fun _ r=>r=true) hend hstep 0 (Nat.zero_le _)
theorem vS {l:List Ins} (hl:l.length≤1048576):Evp (fun k=>bZ.f k l l) (fun r=>r=true):=by
  unfold bZ.f
  refine Evp.yes rfl (kD (n:=l.length) (g:=fun i k=>bZ.l0 k l l (i:Int)) ?_ (fun i hi ih=> ?_))
  ·exact Evp.step (f:=fun k=>_) (fun k=>by rw[bZ.l0]) (Evp.no (by omega) (Evp.pure _ rfl))
  · refine Evp.step (f:=fun k=>_) (fun k=>by rw[bZ.l0]) (Evp.yes (by omega) (Evp.yes (by omega) (Evp.yes (by omega) ?_)))
    refine Evp.bind (P:=fun r=>r=true) ?_ (fun a ha=>Evp.yes ha ?_)
    · unfold jk.f
      exact Evp.yes rfl (Evp.yes rfl (Evp.yes rfl (Evp.pure _ rfl)))
    · rw[eF hi (by omega)]
      exact ih
theorem qU {l:List Cth} (hl:l.length≤1048576):Evp (fun k=>bS.f k l l) (fun r=>r=true):=by
  unfold bS.f
  refine Evp.yes rfl (kD (n:=l.length) (g:=fun i k=>bS.l0 k l l (i:Int)) ?_ (fun i hi ih=> ?_))
  ·exact Evp.step (f:=fun k=>_) (fun k=>by rw[bS.l0]) (Evp.no (by omega) (Evp.pure _ rfl))
  · refine Evp.step (f:=fun k=>_) (fun k=>by rw[bS.l0]) (Evp.yes (by omega) (Evp.yes (by omega) (Evp.yes (by omega) ?_)))
    refine Evp.bind (P:=fun r=>r=true) ?_ (fun a ha=>Evp.yes ha ?_)
    · unfold iN.f
      exact Evp.yes rfl (Evp.yes rfl (Evp.yes rfl (Evp.yes rfl (Evp.pure _ rfl))))
    · rw[eF hi (by omega)]
      exact ih
theorem sH {l:List jF} (hl:l.length≤1048576) (hs: ∀j,j<l.length→SmallS (l.getD j z57)):Evp (fun k=>bR.f k l l) (fun r=>r=true):=by
  unfold bR.f
  refine Evp.yes rfl (kD (n:=l.length) (g:=fun i k=>bR.l0 k l l (i:Int)) ?_ (fun i hi ih=> ?_))
  ·exact Evp.step (f:=fun k=>_) (fun k=>by rw[bR.l0]) (Evp.no (by omega) (Evp.pure _ rfl))
  · have h:=hs i hi
    refine Evp.step (f:=fun k=>_) (fun k=>by rw[bR.l0,rdS]) (Evp.yes (by omega) (Evp.yes (by omega) (Evp.yes (by omega) (Evp.bind (ut h.l1 h.l2) fun b hb=>Evp.yes hb ?_))))
    rw[eF hi (by omega)]
    exact ih
theorem sI {m:Mth} (h:SmallM m):Evp (fun k=>gY.f k m.f0 m.f1 m.f2 m.f3 m.f4 m.f5 m.f6 m.f7 m.f0 m.f1 m.f2 m.f3 m.f4 m.f5 m.f6 m.f7) (fun r=>r=true):=by
  unfold gY.f
  refine Evp.yes rfl (Evp.yes rfl (Evp.bind (kV h.l2) fun a ha=>Evp.yes ha (Evp.yes rfl (Evp.yes rfl (Evp.bind (vS h.l5) fun b hb=>Evp.yes hb (Evp.bind (sH h.l6 h.s6) fun c hc=>Evp.yes hc (Evp.bind (qU h.l7) fun d hd=>Evp.yes hd (Evp.pure _ rfl))))))))
theorem qV {l:List Mth} (hl:l.length≤1048576) (hs: ∀j,j<l.length→SmallM (mth l j)):Evp (fun k=>bL.f k l l) (fun r=>r=true):=by
  unfold bL.f
  refine Evp.yes rfl (kD (n:=l.length) (g:=fun i k=>bL.l0 k l l (i:Int)) ?_ (fun i hi ih=> ?_))
  ·exact Evp.step (f:=fun k=>_) (fun k=>by rw[bL.l0]) (Evp.no (by omega) (Evp.pure _ rfl))
  · refine Evp.step (f:=fun k=>_) (fun k=>by rw[bL.l0,mf]) (Evp.yes (by omega) (Evp.yes (by omega) (Evp.yes (by omega) (Evp.bind (sI (hs i hi)) fun b hb=>Evp.yes hb ?_))))
    rw[eF hi (by omega)]
    exact ih
theorem uV {cs:List Cls} {ms:List Mth} (h:SmallU cs ms):Evp (fun k=>fM.f k cs ms cs ms) (fun r=>r=true):=by
  unfold fM.f
  exact Evp.bind (vO h.c) fun a ha=>Evp.yes ha (Evp.bind (qV h.m h.e) fun b hb=>Evp.yes hb (Evp.pure _ rfl))
theorem lX {α:Type} {l:List α} {Q:α→Prop} {g:Nat→Int→Nat→Option Int} (hend: ∀s,0≤s→Evp (g l.length s) (fun t=>t=s))
    (hstep: ∀(i:Nat) (hi:i<l.length) (s:Int),0≤s→s≤1048576→(∀t,0≤t→t≤s→Q l[i]→Evp (g (i+1) t) (fun r=>0≤r→r≤t∧∀o∈l.drop (i+1),Q o))→Evp (g i s) (fun r=>0≤r→r≤s∧∀o∈l.drop i,Q o)):
    ∀s,0≤s→s≤1048576→Evp (g 0 s) (fun r=>0≤r→r≤s∧∀o∈l,Q o):=by
  have key: ∀i,i≤l.length→∀s:Int,(0≤s∧s≤1048576)→Evp (g i s) (fun r=>0≤r→r≤s∧∀o∈l.drop i,Q o):=by
    refine Evp.fors (g:=g) (I:=fun _ s=>0≤s∧s≤1048576) (R:=fun i s r=>0≤r→r≤s∧∀o∈l.drop i,Q o) (fun s hs=> ?_) (fun i hi ih s hs=> ?_)
    ·exact(hend s hs.1).mono fun r hr h0=>⟨by omega,by simp⟩
    ·exact hstep i hi s hs.1 hs.2 fun t h0 h1 _=>ih t ⟨h0,by omega⟩
  intro s h0 h1
  exact key 0 (Nat.zero_le _) s ⟨h0,h1⟩
theorem nX {α:Type} {l:List α} {Q:α→Prop} {i:Nat} (hi:i<l.length) (h:Q l[i]) (h2: ∀o∈l.drop (i+1),Q o): ∀o∈l.drop i,Q o:=by
  rw[drop_at hi]
  intro o ho
  rcases List.mem_cons.1 ho with rfl|ho
  ·exact h
  ·exact h2 o ho
theorem sJ {l:List pI} {a:Int} (h0:0≤a) (h1:a≤1048576) (hl:l.length≤9223372036854775807) (hw: ∀y∈l,qL y):
    Evp (fun k=>dN.f k l a) (fun t=>0≤t→t≤a∧l.length≤1048576∧∀s∈l,SzS s):=by
  unfold dN.f
  rw[w64 (by omega) (by omega)]
  refine Evp.ite (fun _=>Evp.pure _ (by omega)) (fun h=> ?_)
  refine(lX (l:=l) (Q:=SzS) (g:=fun i s k=>dN.l0 k l s (i:Int)) (fun s hs=> ?_) (fun i hi s hs0 hs1 ih=> ?_) _ (by omega) (by omega)).mono fun t ht h2=>⟨by have:=(ht h2).1;omega,by omega,(ht h2).2⟩
  ·exact Evp.step (f:=fun k=>_) (fun k=>by rw[dN.l0]) (Evp.no (by omega) (Evp.pure _ rfl))
  · have hwi:=hw _ (List.getElem_mem hi)
    obtain⟨t,ht,ht2⟩:=uo (x0:=l[i].f0) hs0 hs1 hwi.2.1.1 hwi.2.2.1
    refine Evp.step (f:=fun k=>_) (fun k=>by rw[dN.l0,vP hi,ht,Option.bind_some]) (Evp.yes (by omega) (Evp.yes (by omega) (Evp.ite (fun _=>Evp.pure _ (by omega)) (fun h3=> ?_))))
    obtain⟨h4,h5,h6⟩:=ht2 (by omega)
    rw[eF hi (by omega)]
    exact(ih t (by omega) h4 ⟨h5,h6⟩).mono fun r hr hr0=>⟨by have:=(hr hr0).1;omega,nX hi ⟨h5,h6⟩ (hr hr0).2⟩
theorem sK {m:lJ} {a:Int} (h0:0≤a) (h1:a≤1048576) (hw:lH m):Evp (fun k=>ib.f k m.f0 m.f1 m.f2 m.f3 m.f4 m.f5 m.f6 m.f7 a) (fun t=>0≤t→t≤a∧SzM m):=by
  obtain⟨_,_,⟨w2,_⟩,_,_,⟨w5,_⟩,⟨w6,w6'⟩,⟨w7,_⟩⟩:=hw
  unfold ib.f
  obtain⟨t,ht,ht2⟩:=kT (l:=m.f2) h0 h1 w2
  rw[ht]
  simp only[Option.bind_some]
  refine Evp.ite (fun _=>Evp.pure _ (by omega)) (fun h=> ?_)
  have ht3:=ht2 (by omega)
  unfold gP.f
  rw[w64 (by omega) (by omega)]
  by_cases h2:t - (m.f5.length:Int)<0
  · simp only[if_pos h2,Option.bind_some]
    exact Evp.yes (by decide) (Evp.pure _ (by omega))
  simp only[if_neg h2,Option.bind_some]
  refine Evp.bind (sJ (by omega) (by omega) w6 w6') fun u hu=>Evp.ite (fun _=>Evp.pure _ (by omega)) (fun h3=> ?_)
  have hu2:=hu (by omega)
  unfold gZ.f
  rw[w64 (by omega) (by omega)]
  by_cases h4:u - (m.f7.length:Int)<0
  · simp only[if_pos h4,Option.bind_some]
    exact Evp.yes (by decide) (Evp.pure _ (by omega))
  simp only[if_neg h4,Option.bind_some]
  exact Evp.pure _ fun _=>⟨by omega,by omega,by omega,hu2.2.1,by omega,hu2.2.2⟩
theorem qW {l:List lJ} {a:Int} (h0:0≤a) (h1:a≤1048576) (hl:l.length≤9223372036854775807) (hw: ∀y∈l,lH y):
    Evp (fun k=>dJ.f k l a) (fun t=>0≤t→t≤a∧l.length≤1048576∧∀m∈l,SzM m):=by
  unfold dJ.f
  rw[w64 (by omega) (by omega)]
  refine Evp.ite (fun _=>Evp.pure _ (by omega)) (fun h=> ?_)
  refine(lX (l:=l) (Q:=SzM) (g:=fun i s k=>dJ.l0 k l s (i:Int)) (fun s hs=> ?_) (fun i hi s hs0 hs1 ih=> ?_) _ (by omega) (by omega)).mono fun t ht h2=>⟨by have:=(ht h2).1;omega,by omega,(ht h2).2⟩
  ·exact Evp.step (f:=fun k=>_) (fun k=>by rw[dJ.l0]) (Evp.no (by omega) (Evp.pure _ rfl))
  · refine Evp.step (f:=fun k=>_) (fun k=>by rw[dJ.l0,vQ hi]) (Evp.yes (by omega) (Evp.yes (by omega) (Evp.bind (sK hs0 hs1 (hw _ (List.getElem_mem hi))) fun t ht=>Evp.ite (fun _=>Evp.pure _ (by omega)) (fun h3=> ?_))))
    obtain⟨h4,h5⟩:=ht (by omega)
    rw[eF hi (by omega)]
    exact(ih t (by omega) h4 h5).mono fun r hr hr0=>⟨by have:=(hr hr0).1;omega,nX hi h5 (hr hr0).2⟩
def cvU (x:S25):List Cls×List Mth:=(x.f0.map cvC,x.f1.map cvM)
theorem sM {m:lJ} (h:SzM m) (hw:lH m):SmallM (cvM m):=by
  obtain⟨_,_,⟨w2,w2'⟩,w3,_,_,⟨_,w6'⟩,_⟩:=hw
  refine⟨pG w3,h.1,fun t ht=>pG (w2' t ht),by show(m.f5.map cvX).length≤_;rw[List.length_map];exact h.2.1,by show(m.f6.map cvS).length≤_;rw[List.length_map];exact h.2.2.1,by show(m.f7.map cvK).length≤_;rw[List.length_map];exact h.2.2.2.1,fun j hj=> ?_⟩
  have hj' :j<m.f6.length:=by have:j<(m.f6.map cvS).length:=hj;rwa [List.length_map]at this
  have e:(cvM m).f6.getD j z57=cvS m.f6[j]:=by
    show(m.f6.map cvS).getD j _=_
    rw[getD_at (by rw[List.length_map];exact hj')];simp
  rw[e]
  have hs:=h.2.2.2.2 _ (List.getElem_mem hj')
  have hws:=w6' _ (List.getElem_mem hj')
  exact⟨hs.1,hs.2,fun t ht=>pG (hws.2.1.2 t ht),fun t ht=>pG (hws.2.2.2 t ht)⟩
theorem nz {x:S25} (h:gq (x.f0.map cvC)∧x.f1.length≤1048576∧∀m∈x.f1,SzM m):Evp (fun k=>dY.f k x.f0 x.f1) (fun r=>r=cvU x):=by
  unfold dY.f
  exact Evp.bind (vM h.1) fun a ha=>Evp.bind (qR h.2.1 h.2.2) fun b hb=>Evp.pure _ (by rw[ha,hb];rfl)
theorem sN {x:S25} (hw:oC x) (h:gq (x.f0.map cvC)∧x.f1.length≤1048576∧∀m∈x.f1,SzM m):SmallU (cvU x).1 (cvU x).2:=by
  obtain⟨_,⟨w1,w1'⟩⟩:=hw
  refine⟨h.1,by show(x.f1.map cvM).length≤_;rw[List.length_map];exact h.2.1,fun i hi=> ?_⟩
  have hi' :i<x.f1.length:=by have:i<(x.f1.map cvM).length:=hi;rwa [List.length_map]at this
  have e:mth (cvU x).2 i=cvM x.f1[i]:=by
    show(x.f1.map cvM).getD i _=_
    rw[getD_at (by rw[List.length_map];exact hi')];simp
  rw[e]
  exact sM (h.2.2 _ (List.getElem_mem hi')) (w1' _ (List.getElem_mem hi'))
abbrev qX:=S47
abbrev pJ:=S143
abbrev pK:=S146
abbrev lK:=S31
abbrev jH:=S91
abbrev Frm:=S70
def cvV (x:qX):lK:=⟨x.f0,x.f1⟩
def cvO (x:pJ):jH:=⟨x.f0,x.f1.map cvV⟩
def cvF (x:pK):Frm:=⟨x.f0,x.f1,x.f2.map cvV,x.f3.map cvV⟩
theorem wB {xs:List qX} {i:Nat} (h:i<xs.length):jD xs (i:Int)=xs[i]:=getD_at h _
theorem vT {xs:List pJ} {i:Nat} (h:i<xs.length):fB xs (i:Int)=xs[i]:=getD_at h _
theorem vU {xs:List pK} {i:Nat} (h:i<xs.length):dh xs (i:Int)=xs[i]:=getD_at h _
theorem rdV {xs:List lK} {i:Nat} (h:i<xs.length):di xs (i:Int)=xs[i]:=getD_at h _
theorem rdO {xs:List jH} {i:Nat} (h:i<xs.length):bz xs (i:Int)=xs[i]:=getD_at h _
theorem rdF {xs:List Frm} {i:Nat} (h:i<xs.length):aY xs (i:Int)=xs[i]:=getD_at h _
theorem nA {l:List qX} (hl:l.length≤1048576):Evp (fun k=>dw.f k l) (fun r=>r=l.map cvV):=by
  unfold dw.f
  refine Evp.yes (by omega) (Evp.yes (by omega) ?_)
  rw[Int.toNat_natCast]
  refine jw l cvV z31 (g:=fun i s k=>dw.l0 k l s (i:Int)) (fun s hs=> ?_) (fun i hi s hs ih=> ?_)
  ·exact Evp.step (f:=fun k=>_) (fun k=>by rw[dw.l0]) (Evp.no (by omega) (Evp.pure _ rfl))
  · refine Evp.step (f:=fun k=>_) (fun k=>by rw[dw.l0,wB hi,iq.f,Option.bind_some]) (Evp.yes (by omega) (Evp.yes (by omega) (Evp.yes (by omega) ?_)))
    rw[eF hi (by omega)]
    exact ih
def SzO (o:pJ):Prop:=o.f1.length≤1048576
def SzF (f:pK):Prop:=f.f2.length≤1048576∧f.f3.length≤1048576
theorem uW {l:List pJ} (hl:l.length≤1048576) (ho: ∀o∈l,SzO o):Evp (fun k=>dS.f k l) (fun r=>r=l.map cvO):=by
  unfold dS.f
  refine Evp.yes (by omega) (Evp.yes (by omega) ?_)
  rw[Int.toNat_natCast]
  refine jw l cvO z91 (g:=fun i s k=>dS.l0 k l s (i:Int)) (fun s hs=> ?_) (fun i hi s hs ih=> ?_)
  ·exact Evp.step (f:=fun k=>_) (fun k=>by rw[dS.l0]) (Evp.no (by omega) (Evp.pure _ rfl))
  · refine Evp.step (f:=fun k=>_) (fun k=>by rw[dS.l0,vT hi]) (Evp.yes (by omega) (Evp.yes (by omega) ?_))
    refine Evp.bind (P:=fun r=>r=(l[i].f0,l[i].f1.map cvV)) ?_ (fun b hb=>Evp.yes (by omega) ?_)
    · unfold jA.f
      exact Evp.bind (nA (ho _ (List.getElem_mem hi))) fun a ha=>Evp.pure _ (by rw[ha])
    · subst hb
      rw[eF hi (by omega)]
      exact ih
theorem sO {l:List pK} (hl:l.length≤1048576) (ho: ∀o∈l,SzF o):Evp (fun k=>dE.f k l) (fun r=>r=l.map cvF):=by
  unfold dE.f
  refine Evp.yes (by omega) (Evp.yes (by omega) ?_)
  rw[Int.toNat_natCast]
  refine jw l cvF z70 (g:=fun i s k=>dE.l0 k l s (i:Int)) (fun s hs=> ?_) (fun i hi s hs ih=> ?_)
  ·exact Evp.step (f:=fun k=>_) (fun k=>by rw[dE.l0]) (Evp.no (by omega) (Evp.pure _ rfl))
  · have hz:=ho _ (List.getElem_mem hi)
    refine Evp.step (f:=fun k=>_) (fun k=>by rw[dE.l0,vU hi]) (Evp.yes (by omega) (Evp.yes (by omega) ?_))
    refine Evp.bind (P:=fun r=>r=(l[i].f0,l[i].f1,l[i].f2.map cvV,l[i].f3.map cvV)) ?_ (fun b hb=>Evp.yes (by omega) ?_)
    · unfold jc.f
      exact Evp.bind (nA hz.1) fun a ha=>Evp.bind (nA hz.2) fun b hb=>Evp.pure _ (by rw[ha,hb])
    · subst hb
      rw[eF hi (by omega)]
      exact ih
theorem sP {a:Bool} {n:Int}:gF.f a n a n=some true:=by
  unfold gF.f
  rw[if_neg (by simp),if_pos rfl]
theorem nC {l:List lK} (hl:l.length≤1048576):Evp (fun k=>bK.f k l l) (fun r=>r=true):=by
  unfold bK.f
  refine Evp.yes rfl (kD (n:=l.length) (g:=fun i k=>bK.l0 k l l (i:Int)) ?_ (fun i hi ih=> ?_))
  ·exact Evp.step (f:=fun k=>_) (fun k=>by rw[bK.l0]) (Evp.no (by omega) (Evp.pure _ rfl))
  · refine Evp.step (f:=fun k=>_) (fun k=>by rw[bK.l0,sP,Option.bind_some]) (Evp.yes (by omega) (Evp.yes (by omega) (Evp.yes (by omega) (Evp.yes rfl ?_))))
    rw[eF hi (by omega)]
    exact ih
theorem uX {l:List jH} (hl:l.length≤1048576) (ho: ∀o∈l,o.f1.length≤1048576):Evp (fun k=>bT.f k l l) (fun r=>r=true):=by
  unfold bT.f
  refine Evp.yes rfl (kD (n:=l.length) (g:=fun i k=>bT.l0 k l l (i:Int)) ?_ (fun i hi ih=> ?_))
  ·exact Evp.step (f:=fun k=>_) (fun k=>by rw[bT.l0]) (Evp.no (by omega) (Evp.pure _ rfl))
  · refine Evp.step (f:=fun k=>_) (fun k=>by rw[bT.l0,rdO hi]) (Evp.yes (by omega) (Evp.yes (by omega) (Evp.yes (by omega) ?_)))
    refine Evp.bind (P:=fun r=>r=true) ?_ (fun a ha=>Evp.yes ha ?_)
    · unfold ji.f
      exact Evp.yes rfl (Evp.bind (nC (ho _ (List.getElem_mem hi))) fun a ha=>Evp.yes ha (Evp.pure _ rfl))
    · rw[eF hi (by omega)]
      exact ih
theorem sQ {l:List Frm} (hl:l.length≤1048576) (ho: ∀o∈l,o.f2.length≤1048576∧o.f3.length≤1048576):Evp (fun k=>bH.f k l l) (fun r=>r=true):=by
  unfold bH.f
  refine Evp.yes rfl (kD (n:=l.length) (g:=fun i k=>bH.l0 k l l (i:Int)) ?_ (fun i hi ih=> ?_))
  ·exact Evp.step (f:=fun k=>_) (fun k=>by rw[bH.l0]) (Evp.no (by omega) (Evp.pure _ rfl))
  · have hz:=ho _ (List.getElem_mem hi)
    refine Evp.step (f:=fun k=>_) (fun k=>by rw[bH.l0,rdF hi]) (Evp.yes (by omega) (Evp.yes (by omega) (Evp.yes (by omega) ?_)))
    refine Evp.bind (P:=fun r=>r=true) ?_ (fun a ha=>Evp.yes ha ?_)
    · unfold iL.f
      exact Evp.yes rfl (Evp.yes rfl (Evp.bind (nC hz.1) fun a ha=>Evp.yes ha (Evp.bind (nC hz.2) fun b hb=>Evp.yes hb (Evp.pure _ rfl))))
    · rw[eF hi (by omega)]
      exact ih
theorem nD {l:List qX} {a:Int} (h0:0≤a) (h1:a≤1048576) (hl:l.length≤9223372036854775807): ∃t,eG.f l a=some t∧(0≤t→(l.length:Int)+t=a):=by
  unfold eG.f
  rw[w64 (by omega) (by omega)]
  by_cases h:a - (l.length:Int)<0
  ·rw[if_pos h];exact⟨_,rfl,by omega⟩
  ·rw[if_neg h];exact⟨_,rfl,by omega⟩
theorem uY {l:List pJ} {a:Int} (h0:0≤a) (h1:a≤1048576) (hl:l.length≤9223372036854775807) (hw: ∀y∈l,o8 y):
    Evp (fun k=>dR.f k l a) (fun t=>0≤t→t≤a∧l.length≤1048576∧∀s∈l,SzO s):=by
  unfold dR.f
  rw[w64 (by omega) (by omega)]
  refine Evp.ite (fun _=>Evp.pure _ (by omega)) (fun h=> ?_)
  refine(lX (l:=l) (Q:=SzO) (g:=fun i s k=>dR.l0 k l s (i:Int)) (fun s hs=> ?_) (fun i hi s h0 h1 ih=> ?_) (a - (l.length:Int)) (by omega) (by omega)).mono fun t ht h0=>⟨by have:=ht h0;omega,by omega,(ht h0).2⟩
  ·exact Evp.step (f:=fun k=>_) (fun k=>by rw[dR.l0]) (Evp.no (by omega) (Evp.pure _ rfl))
  · obtain⟨t,ht,ht2⟩:=nD (l:=l[i].f1) h0 h1 (hw _ (List.getElem_mem hi)).2.1
    refine Evp.step (f:=fun k=>_) (fun k=>by rw[dR.l0,vT hi,jl.f,ht,Option.bind_some]) (Evp.yes (by omega) (Evp.yes (by omega) ?_))
    by_cases h3:t<0
    · simp only[if_pos h3,Option.bind_some]
      exact Evp.pure _ (by omega)
    · simp only[if_neg h3,Option.bind_some]
      rw[eF hi (by omega)]
      have h4:SzO l[i]:=by show l[i].f1.length≤1048576;omega
      refine(ih t (by omega) (by omega) h4).mono fun r hr h0=> ?_
      obtain⟨h5,h6⟩:=hr h0
      refine⟨by omega, ?_⟩
      rw[drop_at hi]
      intro o ho
      rcases List.mem_cons.1 ho with rfl|ho
      ·exact h4
      ·exact h6 o ho
theorem sS {l:List pK} {a:Int} (h0:0≤a) (h1:a≤1048576) (hl:l.length≤9223372036854775807) (hw: ∀y∈l,o9 y):
    Evp (fun k=>dM.f k l a) (fun t=>0≤t→t≤a∧l.length≤1048576∧∀s∈l,SzF s):=by
  unfold dM.f
  rw[w64 (by omega) (by omega)]
  refine Evp.ite (fun _=>Evp.pure _ (by omega)) (fun h=> ?_)
  refine(lX (l:=l) (Q:=SzF) (g:=fun i s k=>dM.l0 k l s (i:Int)) (fun s hs=> ?_) (fun i hi s h0 h1 ih=> ?_) (a - (l.length:Int)) (by omega) (by omega)).mono fun t ht h0=>⟨by have:=ht h0;omega,by omega,(ht h0).2⟩
  ·exact Evp.step (f:=fun k=>_) (fun k=>by rw[dM.l0]) (Evp.no (by omega) (Evp.pure _ rfl))
  · have hz:=hw _ (List.getElem_mem hi)
    obtain⟨t,ht,ht2⟩:=nD (l:=l[i].f2) h0 h1 hz.2.2.1.1
    refine Evp.step (f:=fun k=>_) (fun k=>by rw[dM.l0,vU hi,iO.f,ht,Option.bind_some]) (Evp.yes (by omega) (Evp.yes (by omega) ?_))
    by_cases h3:t<0
    · simp only[if_pos h3,Option.bind_some]
      exact Evp.pure _ (by omega)
    · simp only[if_neg h3]
      obtain⟨u,hu,hu2⟩:=nD (l:=l[i].f3) (a:=t) (by omega) (by omega) hz.2.2.2.1
      rw[hu,Option.bind_some]
      by_cases h7:u<0
      · simp only[if_pos h7,Option.bind_some]
        exact Evp.pure _ (by omega)
      · simp only[if_neg h7,Option.bind_some]
        rw[eF hi (by omega)]
        have h4:SzF l[i]:=⟨by omega,by omega⟩
        refine(ih u (by omega) (by omega) h4).mono fun r hr h0=> ?_
        obtain⟨h5,h6⟩:=hr h0
        refine⟨by omega, ?_⟩
        rw[drop_at hi]
        intro o ho
        rcases List.mem_cons.1 ho with rfl|ho
        ·exact h4
        ·exact h6 o ho
theorem uy {x:S25} (hw:oC x):Evp (fun k=>gQ.f k x.f0 x.f1 1048576) (fun t=>0≤t→t≤1048576∧gq (x.f0.map cvC)∧x.f1.length≤1048576∧∀m∈x.f1,SzM m):=by
  obtain⟨⟨w0,w0'⟩,⟨w1,w1'⟩⟩:=hw
  unfold gQ.f
  refine Evp.bind (vL w0 w0') fun t ht=>Evp.ite (fun _=>Evp.pure _ (by omega)) (fun h=> ?_)
  have ht2:=ht (by omega)
  refine Evp.bind (qW (by omega) ht2.1 w1 w1') fun u hu=>Evp.ite (fun _=>Evp.pure _ (by omega)) (fun h2=>Evp.pure _ fun h3=> ?_)
  have hu2:=hu h3
  exact⟨by omega,ht2.2,hu2.2.1,hu2.2.2⟩
structure SzMach (x:S49):Prop where
  o:x.f0.length≤1048576
  o2: ∀s∈x.f0,SzO s
  f:x.f1.length≤1048576
  f2: ∀s∈x.f1,SzF s
  s:x.f2.length≤1048576
theorem uZ {x:S49} {a:Int} (h0:0≤a) (h1:a≤1048576) (hw:qM x):Evp (fun k=>iy.f k x.f0 x.f1 x.f2 x.f3 x.f4 x.f5.f0 x.f5.f1 a) (fun t=>0≤t→SzMach x):=by
  obtain⟨⟨w0,w0'⟩,⟨w1,w1'⟩,⟨w2,_⟩,_⟩:=hw
  unfold iy.f
  refine Evp.bind (uY h0 h1 w0 w0') fun t ht=>Evp.ite (fun _=>Evp.pure _ (by omega)) (fun h=> ?_)
  have ht2:=ht (by omega)
  refine Evp.bind (sS (by omega) (by omega) w1 w1') fun u hu=>Evp.ite (fun _=>Evp.pure _ (by omega)) (fun h2=> ?_)
  have hu2:=hu (by omega)
  obtain⟨q,hq,hq2⟩:=kT (l:=x.f2) (a:=u) (by omega) (by omega) w2
  rw[hq]
  simp only[Option.bind_some]
  refine Evp.ite (fun _=>Evp.pure _ (by omega)) (fun h3=>Evp.pure _ fun h4=>⟨ht2.2.1,ht2.2.2,hu2.2.1,hu2.2.2,by omega⟩)
def kW (x:S49):List jH×List Frm×List Int×Int×Int×Bool×Int:=(x.f0.map cvO,x.f1.map cvF,x.f2,x.f3,x.f4,x.f5.f0,x.f5.f1)
theorem nE {x:S49} (h:SzMach x):Evp (fun k=>dO.f k x.f0 x.f1 x.f2 x.f3 x.f4 x.f5.f0 x.f5.f1) (fun r=>r=kW x):=by
  unfold dO.f iq.f
  exact Evp.bind (uW h.o h.o2) fun a ha=>Evp.bind (sO h.f h.f2) fun b hb=>Evp.bind (kU h.s) fun c hc=>Evp.pure _ (by rw[ha,hb,hc];rfl)
structure SmallMach (objs:List jH) (frs:List Frm) (said:List Int):Prop where
  o:objs.length≤1048576
  o2: ∀o∈objs,o.f1.length≤1048576
  f:frs.length≤1048576
  f2: ∀f∈frs,f.f2.length≤1048576∧f.f3.length≤1048576
  s:said.length≤1048576
theorem pM {x:S49} (h:SzMach x):SmallMach (kW x).1 (kW x).2.1 (kW x).2.2.1:=by
  refine⟨by simpa[kW] using h.o,fun o ho=> ?_,by simpa[kW] using h.f,fun o ho=> ?_,h.s⟩
  · obtain⟨y,hy,rfl⟩:=List.mem_map.1 (show o∈x.f0.map cvO from ho)
    simpa[cvO,SzO] using h.o2 y hy
  · obtain⟨y,hy,rfl⟩:=List.mem_map.1 (show o∈x.f1.map cvF from ho)
    simpa[cvF,SzF] using h.f2 y hy
theorem u6 {objs:List jH} {frs:List Frm} {said:List Int} {st en:Int} {rf:Bool} {n:Int} (h:SmallMach objs frs said):Evp (fun k=>fE.f k objs frs said st en rf n objs frs said st en rf n) (fun r=>r=true):=by
  unfold fE.f
  refine Evp.bind (uX h.o h.o2) fun a ha=>Evp.yes ha (Evp.bind (sQ h.f h.f2) fun b hb=>Evp.yes hb (Evp.bind (kV h.s) fun c hc=>Evp.yes hc (Evp.yes rfl (Evp.yes rfl ?_))))
  rw[sP]
  simp only[Option.bind_some]
  exact Evp.yes trivial (Evp.pure _ rfl)
end Go.Proofs.YteinbmkgenhocaaGreat.Kit
end
